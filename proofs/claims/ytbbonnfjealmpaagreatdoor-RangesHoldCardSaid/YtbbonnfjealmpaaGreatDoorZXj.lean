/- What was asked, counted in a map: how great the counts are. Plain law. No conditions. -/
import Derived.Test.YtbbonnfjealmpaaGreatDoorZXi
import Derived.Test.YtbbonnfjealmpaaGreatDoorZXc
import Derived.Test.YtbbonnfjealmpaaGreatDoorZXh
import Derived.Test.YtbbonnfjealmpaaGreatDoorZXd
import Derived.Test.YtbbonnfjealmpaaGreatDoorZXg
import Derived.Test.YtbbonnfjealmpaaGreatDoorZXe
import Derived.Test.YtbbonnfjealmpaaGreatDoorChecked
import Derived.Test.YtbbonnfjealmpaaGreatDoorZXb
import Derived.Test.YtbbonnfjealmpaaGreatDoorZXf
set_option linter.unusedVariables false
set_option linter.unusedSimpArgs false
set_option linter.unusedSectionVars false
namespace Go.Proofs.YtbbonnfjealmpaaGreatDoor
section
open Go.Proofs.Tryz
open Go.Proofs
theorem rO {s t:GS} {u v:Int} (h:V t u=V s v):vi t.ints u=vi s.ints v∧gb t.bools u=gb s.bools v∧vi t.arrs u=vi s.arrs v:=by
 unfold V at h;simp only[Prod.mk.injEq] at h;exact h
theorem PX.args {f:ab} {s:GS} {x y:aB} (hF:dT f y) (ho:x.op=y.op) (hd:x.dst=y.dst) (hn:x.num=y.num) (hl:x.args.length=y.args.length) (ha:∀k:Nat,k<y.args.length→V s ((x.args[k]?).getD 0)=V s ((y.args[k]?).getD 0)) (p:PX s x):PX s y:=by
 have e0:0<y.args.length→V s (dH x)=V s (dH y):=fun h=>ha 0 h;have e1:1<y.args.length→V s (fw x)=V s (fw y):=fun h=>ha 1 h;have A:0<y.args.length→aG s x=aG s y∧pG s x=pG s y∧rG s x=rG s y:=fun h=>rO (e0 h);have B:1<y.args.length→bG s x=bG s y∧qG s x=qG s y:=fun h=>⟨(rO (e1 h)).1,(rO (e1 h)).2.1⟩;have c:∀{k:Int},y.op=k→y.args.length=([0,1,2,2,2,2,2,2,2,2,1,2,1,2,3,1,0,1,2,1,1,2,2,2,1,2,2][k.toNat]?).getD 0:=fun e=>hF.cnt e
 constructor
 ·intro h1 h2;have hp:=p.ck (by omega) (by omega);rw[ho] at hp;have hl1:0<y.args.length:=by
   have h3:=hF.argc;obtain ⟨k,hk⟩:∃k:Nat,y.op=(k:Int):=⟨y.op.toNat,by omega⟩;rw[c hk];have:k=18∨k=19∨k=20∨k=21∨k=22∨k=23∨k=24:=by omega
   rcases this with rfl|rfl|rfl|rfl|rfl|rfl|rfl<;>decide
  obtain ⟨a1,a2,a3⟩:=A hl1;have a1:vi s.ints ((x.args[0]?).getD 0)=vi s.ints ((y.args[0]?).getD 0):=a1;have a3:vi s.arrs ((x.args[0]?).getD 0)=vi s.arrs ((y.args[0]?).getD 0):=a3;have b1:yZ x.args s.ints=yZ y.args s.ints:=by
   unfold yZ;rw[hl];split
   ·rename_i h;exact (B h).1
   rfl
  unfold fU at hp ⊢;rw[a1,a3,b1] at hp;exact hp
 ·intro e;rw[←hd,←hn];exact p.i0 (by rw[ho];exact e)
 ·intro e;rw[←hd,←e0 (by rw[c e];decide)];exact p.i1 (by rw[ho];exact e)
 ·intro e;rw[←hd,←(A (by rw[c e];decide)).1,←(B (by rw[c e];decide)).1];exact p.i2 (by rw[ho];exact e)
 ·intro e;rw[←hd,←(A (by rw[c e];decide)).1,←(B (by rw[c e];decide)).1];exact p.i3 (by rw[ho];exact e)
 ·intro e;rw[←hd,←(A (by rw[c e];decide)).1,←(B (by rw[c e];decide)).1];exact p.i5 (by rw[ho];exact e)
 ·intro e;rw[←hd,←(A (by rw[c e];decide)).1,←(B (by rw[c e];decide)).1];exact p.i6 (by rw[ho];exact e)
 ·intro e;rw[←hd,←(A (by rw[c e];decide)).1,←(B (by rw[c e];decide)).1];exact p.i7 (by rw[ho];exact e)
 ·intro e;rw[←hd,←(A (by rw[c e];decide)).1,←(B (by rw[c e];decide)).1];exact p.i8 (by rw[ho];exact e)
 ·intro e;rw[←hd,←(A (by rw[c e];decide)).1,←(B (by rw[c e];decide)).1];exact p.i9 (by rw[ho];exact e)
 ·intro e;rw[←hd,←(A (by rw[c e];decide)).2.1];exact p.i10 (by rw[ho];exact e)
 ·intro e;rw[←hd,←(A (by rw[c e];decide)).2.1,←(B (by rw[c e];decide)).2];exact p.i11 (by rw[ho];exact e)
 ·intro e;rw[←hd,←(A (by rw[c e];decide)).2.2];exact p.i12 (by rw[ho];exact e)
 ·intro e;rw[←hd,←(A (by rw[c e];decide)).1];exact p.i15 (by rw[ho];exact e)
 ·intro e;rw[←hd];exact p.i16 (by rw[ho];exact e)
 ·intro e;rw[←hd,←(A (by rw[c e];decide)).1,←(B (by rw[c e];decide)).1];exact p.i4 (by rw[ho];exact e)
 ·intro e;rw[←hd,←e0 (by rw[c e];decide)];exact p.i25 (by rw[ho];exact e)
 intro e;rw[←hd,←e0 (by rw[c e];decide)];exact p.i26 (by rw[ho];exact e)
section
variable {f g:ab} {rts:List Int} (hf:bq f) (hg:bq g) (hP:IQ f g rts)
include hf hg hP
omit hf hg in
theorem IQ.at {i k:Nat} {x:aB} (h:uF g i k x):kQ f i rts ((aQ g i).s.take k) x∧(i:Int)<f.q.length:=by
 obtain ⟨b,hb,hx⟩:=h;have hi:i<g.q.length:=(List.getElem?_eq_some_iff.1 hb).1;have e:aQ g (i:Int)=b:=dg hb;rw[hP.bl] at hi;rw[e];refine ⟨?_,by omega⟩;have:=(hP.blk i (by omega) (by omega)).frm k x (by rw[e];exact hx)
 rwa [e] at this
omit hf hg in
theorem IQ.ends (b:Int):aj g b=aj f b:=by
 by_cases hb:0≤b∧b<f.q.length
 ·have h:=hP.blk b hb.1 hb.2;have e1:aj g b=cS (aQ g b).t:=by
   unfold aj;rw[if_pos hb.1,dY hb.1 (by rw[hP.bl];exact hb.2)];rfl
  have e2:aj f b=cS (aQ f b).t:=by
   unfold aj;rw[if_pos hb.1,dY hb.1 hb.2];rfl
  rw[e1,e2];unfold cS;rw[h.kind,h.to0,h.to1]
 rw[fg hb,fg (by rw[hP.bl];exact hb)]
omit hf hg in
theorem IQ.endsE:aj g=aj f:=funext hP.ends
theorem IQ.back {u:Int} (h0:(f.v.length:Int)≤u) (h1:u<g.v.length):∃(i k:Nat) (x:aB),uF g i k x∧x.dst=u∧(x.op=25∨x.op=26)∧(0≤dH x∧dH x<u)∧dH x∈x.args∧cY f.v.length rts u=cY f.v.length rts (dH x):=by
 obtain ⟨i,k,x,hx,e⟩:=hP.mkd u h0 h1;obtain ⟨hF,hi⟩:=hP.at hx;refine ⟨i,k,x,hx,e,?_⟩
 generalize (aQ g i).s.take k=L at hF
 cases hF with
 |old hy hI=>
  exfalso
  rename_i y;have hF2:=(hf.run.s _ (cU (by omega) hi) y hy).1;have:y.dst<f.v.length:=by
   by_cases hd:0≤y.dst
   ·rcases hF2.dst with h|h
    ·omega
    exact (bz h.2.2).1
   omega
  rw[←e,hI.dst] at h0;omega
 |pi hd ha hb hrt hr h=>exact ⟨.inl rfl,by rw[←e];exact ha,.head _,by rw[←e];exact hrt⟩
 |len hd ha hrt=>exact ⟨.inr rfl,by rw[←e];exact ha,.head _,by rw[←e];exact hrt⟩
theorem lG {s:GS} (hI:k6 g s):∀(m:Nat) (u:Int),u<m→0≤u→u<g.v.length→Av g s.blk s.pc u→Av g s.blk s.pc (cY f.v.length rts u)∧V s (cY f.v.length rts u)=V s u
 |0,u,h,h0,_,_=>by omega
 |m+1,u,h,h0,h1,ha=>by
  by_cases hn:u<f.v.length
  ·rw[nj hn];exact ⟨ha,rfl⟩
  obtain ⟨i,k,x,hx,e,ho,hlt,hm,hrt⟩:=hP.back hf hg (by omega) h1;have hmk:=hg.made hx (by omega);rw[e] at hmk;have ha2:bI g ((i:Int),(k:Int)) s.blk s.pc:=by rw[←hmk];exact ha
  have hpx:=hI.px i k x hx ha2;have hV:V s u=V s (dH x):=by
   rw[←e];rcases ho with ho|ho
   ·exact hpx.i25 ho
   exact hpx.i26 ho
  have hav:Av g s.blk s.pc (dH x):=fV (p:=((i:Int),(k:Int))) hg.hE (hg.av hx _ hm) ha2 (by dsimp only;omega);obtain ⟨g1,g2⟩:=lG hI m (dH x) (by omega) hlt.1 (by omega) hav;rw[hrt];exact ⟨g1,by rw[g2,hV]⟩
theorem Lh {s:GS} (hI:k6 g s):Mc f s (fun v=>Av g s.blk s.pc v∧0≤v∧v<f.v.length):=fun v y hv hy=>by
 obtain ⟨j,k,hat,hd,hm⟩:=sM hy;obtain ⟨hF,hT⟩:=hf.inF hat;obtain ⟨b,hb,hyk⟩:=hat;have hj:j<f.q.length:=(List.getElem?_eq_some_iff.1 hb).1;have eb:aQ f (j:Int)=b:=dg hb;obtain ⟨x,hx,hI2⟩:=(hP.blk j (by omega) (by omega)).img y (by rw[eb];exact w5 hyk);obtain ⟨q,hq⟩:=List.getElem?_of_mem hx;have hatx:uF g j q x:=⟨aQ g j,(show g.q[(j:Int).toNat]?=_ from dY (by omega) (by rw[hP.bl];omega)),hq⟩;have hdx:x.dst=v:=by rw[hI2.dst];exact hd
 have hmx:=hg.made hatx (by omega);rw[hdx] at hmx;have ha:bI g ((j:Int),(q:Int)) s.blk s.pc:=by rw[←hmx];exact hv.1
 have hpx:=hI.px j q x hatx ha;have hlen:x.args.length=y.args.length:=by rw[←hI2.args,w2]
 have hroot:∀k:Nat,(hk:k<x.args.length)→(y.args[k]?).getD 0=cY f.v.length rts x.args[k]∧(x.args[k]?).getD 0=x.args[k]∧Av g s.blk s.pc x.args[k]∧0≤x.args[k]∧x.args[k]<g.v.length:=fun k hk=>by
  refine ⟨by rw[←hI2.args,w3,qt hk];rfl,by rw[qt hk];rfl,?_,?_⟩
  ·exact fV (p:=((j:Int),(q:Int))) hg.hE (hg.av hatx _ (qx hk)) ha (by dsimp only;omega)
  have:=hI2.bnd _ (qx hk);rw[←hP.len] at this;exact this
 refine ⟨⟨PX.args hF hI2.op hI2.dst hI2.num hlen (fun k hk=>?_) hpx,hF,hT,hd⟩,fun a ha2=>?_⟩
 ·obtain ⟨r1,r2,r3,r4,r5⟩:=hroot k (by omega);rw[r1,r2];exact (lG hf hg hP hI g.v.length _ r5 r4 r5 r3).2.symm
 obtain ⟨k,hk⟩:=List.getElem?_of_mem ha2;have hk1:=(List.getElem?_eq_some_iff.1 hk).1;obtain ⟨r1,r2,r3,r4,r5⟩:=hroot k (by omega);rw[hk] at r1;have r1:a=cY f.v.length rts x.args[k]:=r1;refine ⟨by rw[r1];exact (lG hf hg hP hI g.v.length _ r5 r4 r5 r3).1,?_⟩;exact (bz (hF.args a ha2)).symm
theorem Li {s:GS} (hI:k6 g s):∀r∈jT f s.blk,oa f s r:=by
 have hE:=hP.endsE;have hb:=hI.g.b0;have hb1:=hI.g.b1;have hrch:oV (aj g) s.blk:=(b9 hg.hE.grph.toEOk _).1 (hg.memO ⟨hb,hb1⟩);have hd:g9 (aj g) s.blk s.blk:=.refl hrch;unfold jT;split
 ·rename_i p hp;have hp2:bm (aj g) g.q.length s.blk=[p]:=by rw[hE,hP.bl];exact hp
  split
  ·rename_i hk;obtain ⟨h1,h2,h3⟩:=hg.one hrch hp2;obtain ⟨g1,_⟩:=hg.pred hp2;have hpr:0≤p∧p<g.q.length:=Classical.byContradiction fun hn=>by rw[fg hn] at g1;cases g1
   have hpf:p<f.q.length:=by rw[←hP.bl];exact hpr.2
   have hB:=hP.blk p hpr.1 hpf;have hkg:(aQ g p).t.kind=1:=by rw[hB.kind];exact hk.1
   obtain ⟨hav,h0⟩:=hg.brAv hrch hp2 hkg;have hG:=hg.hE.grph;have hbr:=hI.br s.blk p hd hp2 hkg (by rw[hB.to0,hB.to1];exact hk.2);have hat:Av g s.blk s.pc (aQ g p).t.var:=by
    rcases hav with h|⟨e,_⟩|⟨g0,g1,g2⟩
    ·exact .inl h
    ·refine .inr (.inr ⟨by omega,fun e2=>?_,?_⟩)
     ·rw[e] at e2;exact h3 e2
     rw[e];exact h2
    refine .inr (.inr ⟨g0,fun e2=>?_,g2.trans h2⟩);rw[e2] at g2;exact h3 (cQ hG h2 g2)
   obtain ⟨⟨v1,v2⟩,v3⟩:=hB.var (by omega);rw[←hP.len] at v2;obtain ⟨r1,r2⟩:=lG hf hg hP hI g.v.length _ v2 v1 v2 hat;rw[v3] at r1 r2;have htv:=(bz (gl (hf.run.t _ (cU hpr.1 hpf)) (by omega))).symm;refine II (Lh hf hg hP hI) ⟨r1,htv⟩ ?_;rw[(rO r2).2.1,hbr,hB.to0]
  exact fun r hr=>(by cases hr)
 exact fun r hr=>(by cases hr)
end
theorem uS {G:Int→Prop} {q:iS} (h:∀r∈q.out,G r.a∧G r.b) {a b n:Int} (hr:G a∧G b):∀r∈(fW q a b n).out,G r.a∧G r.b:=by
 unfold fW;split
 ·exact h
 intro r hm;rcases List.mem_append.1 hm with hm|hm
 ·exact h r hm
 rw[List.mem_singleton.1 hm];exact hr
section
variable {f:ab} (hR:bq f)
include hR
theorem rj {G Hq0:Int→Prop} (hG:∀v y,G v→eN f v=some y→∀a∈y.args,G a) (hH:∀v y,G v→eN f v=some y→y.op=7∨y.op=8∨y.op=9→∀a∈y.args,Hq0 a):∀(n:Nat) (q:iS) (c:Int) (is:Bool),G c→(∀r∈q.out,Hq0 r.a∧Hq0 r.b)→∀r∈(gY f n q c is).out,Hq0 r.a∧Hq0 r.b
 |0,q,_,_,_,h=>h
 |n+1,q,c,is,hc,h=>by
  unfold gY;split
  ·exact h
  split
  ·exact h
  rename_i x hx;obtain ⟨hF,_,_⟩:=hR.madeF hx;have a0:∀{k:Int},x.op=k→0<([0,1,2,2,2,2,2,2,2,2,1,2,1,2,3,1,0,1,2,1,1,2,2,2,1,2,2][k.toNat]?).getD 0→G (dH x):=fun e h=>hG c x hc hx _ (Bq (by rw[hF.cnt e];exact h));have a1:∀{k:Int},x.op=k→1<([0,1,2,2,2,2,2,2,2,2,1,2,1,2,3,1,0,1,2,1,1,2,2,2,1,2,2][k.toNat]?).getD 0→G (fw x):=fun e h=>hG c x hc hx _ (IH (by rw[hF.cnt e];exact h));have b0:(x.op=7∨x.op=8∨x.op=9)→Hq0 (dH x)∧Hq0 (fw x):=fun e=>by
   have hl:x.args.length=2:=by rcases e with e|e|e<;>exact hF.cnt e
   exact ⟨hH c x hc hx e _ (Bq (by omega)),hH c x hc hx e _ (IH (by omega))⟩
  split
  ·rename_i e;exact rj hG hH n ⟨_,_⟩ _ _ (a0 e (by decide)) h
  split
  ·rename_i e;exact rj hG hH n ⟨_,_⟩ _ _ (a0 e (by decide)) h
  split
  ·rename_i e;split
   ·exact rj hG hH n _ _ _ (a1 e (by decide)) (rj hG hH n ⟨_,_⟩ _ _ (a0 e (by decide)) h)
   exact h
  split
  ·rename_i e;split
   ·exact uS (q:=⟨q.seen++[(c,is)],q.out⟩) h (b0 (by omega))
   exact uS (q:=⟨q.seen++[(c,is)],q.out⟩) h (b0 (by omega)).symm
  split
  ·rename_i e;split
   ·exact uS (q:=⟨q.seen++[(c,is)],q.out⟩) h (b0 (by omega))
   exact uS (q:=⟨q.seen++[(c,is)],q.out⟩) h (b0 (by omega)).symm
  split
  ·rename_i e;split
   ·exact uS (q:=⟨q.seen++[(c,is)],q.out⟩) h (b0 (by omega))
   exact h
  exact h
theorem Md {i:Int} (hi:0≤i∧i<f.q.length):∀r∈jT f i,Av f i 0 r.a∧Av f i 0 r.b:=by
 have hG:=hR.hE.grph;have hrch:oV (aj f) i:=(b9 hG.toEOk _).1 (hR.memO hi);unfold jT;split
 ·rename_i p hp;split
  ·rename_i hk;obtain ⟨hav,h0⟩:=hR.brAv hrch hp hk.1;obtain ⟨_,h2,h3⟩:=hR.one hrch hp;obtain ⟨g1,_⟩:=hR.pred hp;have hpr:0≤p∧p<f.q.length:=Classical.byContradiction fun hn=>by rw[fg hn] at g1;cases g1
   have hcl:∀v y,Av f i 0 v→eN f v=some y→∀a∈y.args,Av f i 0 a:=fun v y hv hy a ha=>by
    obtain ⟨j,k,hat,hd,hm⟩:=sM hy;have hv:bI f (aE f v) i 0:=hv;rw[hm] at hv;exact fV (p:=((j:Int),(k:Int))) hR.hE (hR.av hat a ha) hv (by dsimp only;omega)
   refine rj hR (G:=fun v=>Av f i 0 v) (Hq0:=fun v=>Av f i 0 v) hcl (fun v y hv hy _=>hcl v y hv hy) _ _ _ _ ?_ fun r hr=>(by cases hr);rcases hav with h|⟨e,_⟩|⟨q0,q1,q2⟩
   ·exact .inl h
   ·refine .inr (.inr ⟨by omega,fun e2=>?_,?_⟩)
    ·rw[e] at e2;exact h3 e2
    rw[e];exact h2
   refine .inr (.inr ⟨q0,fun e2=>?_,q2.trans h2⟩);rw[e2] at q2;exact h3 (cQ hG h2 q2)
  exact fun r hr=>(by cases hr)
 exact fun r hr=>(by cases hr)
theorem OC (i:Int):∀r∈jT f i,aM f r.a=0∧aM f r.b=0:=by
 unfold jT;split
 ·split
  ·refine rj hR (G:=fun _=>True) (Hq0:=fun v=>aM f v=0) (fun _ _ _ _ _ _=>trivial) (fun v y _ hy e a ha=>?_) _ _ _ _ trivial fun r hr=>(by cases hr);obtain ⟨_,hT,_⟩:=hR.madeF hy;have ht:y.args.map (aM f)=[0,0]:=by
    rcases e with e|e|e
    ·exact df hT e (by decide) fi.2.2.2.2.1
    ·exact df hT e (by decide) fi.2.2.2.2.2.1
    exact df hT e (by decide) fi.2.2.2.2.2.2.1
   have:aM f a∈y.args.map (aM f):=List.mem_map.2 ⟨a,ha,rfl⟩;rw[ht] at this
   simpa using this
  exact fun r hr=>(by cases hr)
 exact fun r hr=>(by cases hr)
end
def oP (f:ab) (B:List aF) (i u:Int):Prop:=∃(j:Nat) (c:aF),(j:Int)≠i∧g9 (aj f) j i∧B[j]?=some c∧∃x∈c.s,x.dst=u
def gr (f:ab) (i:Int) (L:List aB) (u:Int):Prop:=(aE f u).1<0∨((aE f u).1=i∧((aE f u).2<0∨∃x∈L,x.dst=u))∨(0≤(aE f u).1∧(aE f u).1≠i∧g9 (aj f) (aE f u).1 i)
def gp (f:ab) (B:List aF) (i:Int) (L:List aB) (u:Int):Prop:=((f.v.length:Int)≤u∧((∃x∈L,x.dst=u)∨oP f B i u))∨(u<f.v.length∧gr f i L u)
theorem gr.mono {f:ab} {i:Int} {L Mq0:List aB} {u:Int} (h:gr f i L u) (hs:∀x∈L,x∈Mq0):gr f i Mq0 u:=by
 rcases h with h|⟨h,h2⟩|h
 ·exact .inl h
 ·exact .inr (.inl ⟨h,h2.imp id fun ⟨x,hx,e⟩=>⟨x,hs x hx,e⟩⟩)
 exact .inr (.inr h)
structure iY (f:ab) (B:List aF) (i:Int) (base:Nat) (p:gL) (done:List aB):Prop where
 len:p.1.now.length=f.v.length
 vl:f.v.length≤base∧base≤p.1.v.length
 nd:∀v:Int,0≤v→v<f.v.length→(f.v.length:Int)≤vi p.1.now v→(∃x∈p.2,x.dst=vi p.1.now v)∨oP f B i (vi p.1.now v)
 inj:∀(k k':Nat) (x x':aB),p.2[k]?=some x→p.2[k']?=some x'→x.dst=x'.dst→(f.v.length:Int)≤x.dst→k=k'
 new:∀x∈p.2,(f.v.length:Int)≤x.dst→(base:Int)≤x.dst∧x.dst<p.1.v.length
 old:(p.2.filter fun x:aB=>decide (x.dst<(f.v.length:Int))).map (·.dst)=done.map (·.dst)
 use:∀(k:Nat) (x:aB),p.2[k]?=some x→∀u∈x.args,gp f B i (p.2.take k) u
 cur:∀v:Int,0≤v→v<f.v.length→vi p.1.now v<f.v.length→vi p.1.now v=v
section
variable {f:ab} {B:List aF} {i:Int} {base:Nat} {p:gL} {done:List aB}
theorem iY.here (h:iY f B i base p done) {v:Int} (h0:0≤v) (h1:v<f.v.length) (ho:gr f i p.2 v):gp f B i p.2 (vi p.1.now v):=by
 by_cases hn:(f.v.length:Int)≤vi p.1.now v
 ·exact .inl ⟨hn,h.nd v h0 h1 hn⟩
 have e:=h.cur v h0 h1 (by omega);exact .inr ⟨by omega,by rw[e];exact ho⟩
theorem BD {L:List aB} {z:aB} (h:∀(k:Nat) (x:aB),L[k]?=some x→∀u∈x.args,gp f B i (L.take k) u) (hz:∀u∈z.args,gp f B i L u):∀(k:Nat) (x:aB),(L++[z])[k]?=some x→∀u∈x.args,gp f B i ((L++[z]).take k) u:=fun k x hx=>by
 by_cases hk:k<L.length
 ·rw[List.getElem?_append_left hk] at hx;rw[List.take_append_of_le_length (by omega)];exact h k x hx
 rw[List.getElem?_append_right (by omega)] at hx;have h0:k=L.length:=by
  have:=(List.getElem?_eq_some_iff.1 hx).1;simp at this;omega
 subst h0;rw[Nat.sub_self] at hx;cases hx;rw[List.take_left' rfl];exact hz
theorem BE {n:Int} {L:List aB} {z:aB} (h:∀(k k':Nat) (x x':aB),L[k]?=some x→L[k']?=some x'→x.dst=x'.dst→n≤x.dst→k=k') (hz:n≤z.dst→∀x∈L,x.dst≠z.dst):∀(k k':Nat) (x x':aB),(L++[z])[k]?=some x→(L++[z])[k']?=some x'→x.dst=x'.dst→n≤x.dst→k=k':=fun k k' x x' hx hx' e hn=>by
 have last:∀{q:Nat} {y:aB},¬q<L.length→(L++[z])[q]?=some y→q=L.length∧y=z:=fun {q y} hq hy=>by
  rw[List.getElem?_append_right (by omega)] at hy;have h0:q=L.length:=by
   have:=(List.getElem?_eq_some_iff.1 hy).1;simp at this;omega
  subst h0;rw[Nat.sub_self] at hy;cases hy;exact ⟨rfl,rfl⟩
 by_cases hk:k<L.length
 ·by_cases hk':k'<L.length
  ·rw[List.getElem?_append_left hk] at hx;rw[List.getElem?_append_left hk'] at hx';exact h k k' x x' hx hx' e hn
  obtain ⟨_,rfl⟩:=last hk' hx';rw[List.getElem?_append_left hk] at hx;exact absurd e (hz (by omega) x (w5 hx))
 obtain ⟨e1,rfl⟩:=last hk hx
 by_cases hk':k'<L.length
 ·rw[List.getElem?_append_left hk'] at hx';exact absurd e.symm (hz hn x' (w5 hx'))
 obtain ⟨e2,_⟩:=last hk' hx';omega
theorem iY.put (h:iY f B i base p done) {v:Int} (h0:0≤v) (h1:v<f.v.length) {x:aB} (hx:∀u∈x.args,gp f B i p.2 u):iY f B i base (fp f p v x) done:=by
 unfold fp;split
 ·exact h
 have hvl:=h.vl;refine ⟨?_,?_,fun u g0 g1 hn=>?_,BE h.inj fun hn y hy e=>?_,fun y hy hn=>?_,?_,BD h.use hx,fun u g0 g1 hn=>?_⟩
 ·show (p.1.now.set _ _).length=_;rw[List.length_set];exact h.len
 ·show _∧base≤(p.1.v++[_]).length;rw[qz];exact ⟨hvl.1,by omega⟩
 ·have hn:(f.v.length:Int)≤vi (p.1.now.set v.toNat p.1.v.length) u:=hn;show (∃x∈p.2++[_],x.dst=vi (p.1.now.set v.toNat p.1.v.length) u)∨oP f B i (vi (p.1.now.set v.toNat p.1.v.length) u)
  by_cases e:u=v
  ·subst e;rw[jE g0 (by rw[h.len];exact g1)];exact .inl ⟨_,List.mem_append_right _ (.head _),rfl⟩
  rw[my h0 g0 e] at hn ⊢;exact (h.nd u g0 g1 hn).imp (fun ⟨x,hx,e⟩=>⟨x,List.mem_append_left _ hx,e⟩) id
 ·have:=(h.new y hy (by rw[e];exact hn)).2;rw[e] at this;have this:(p.1.v.length:Int)<p.1.v.length:=this;omega
 ·show (base:Int)≤y.dst∧y.dst<((p.1.v++[_]).length:Nat);rw[qz];show (base:Int)≤y.dst∧y.dst<((p.1.v.length+1:Nat):Int);rcases List.mem_append.1 hy with hy|hy
  ·have:=h.new y hy hn;omega
  rw[List.mem_singleton.1 hy];show (base:Int)≤(p.1.v.length:Int)∧(p.1.v.length:Int)<_;omega
 ·show ((p.2++[_]).filter _).map _=_;rw[List.filter_append,w7,h.old];have:([(⟨x.op,p.1.v.length,x.args,x.num⟩:aB)].filter fun x:aB=>decide (x.dst<(f.v.length:Int)))=[]:=by
   rw[List.filter_cons,if_neg (by simp;omega)];rfl
  rw[this];exact w8 _
 have hn:vi (p.1.now.set v.toNat p.1.v.length) u<f.v.length:=hn;show vi (p.1.now.set v.toNat p.1.v.length) u=u
 by_cases e:u=v
 ·subst e;rw[jE g0 (by rw[h.len];exact g1)] at hn;omega
 rw[my h0 g0 e] at hn ⊢;exact h.cur u g0 g1 hn
theorem IR (f:ab) (p:gL) (v:Int) (x:aB):∀y∈p.2,y∈(fp f p v x).2:=fun y hy=>by
 unfold fp;split
 ·exact hy
 exact List.mem_append_left _ hy
theorem gp.mono {L Mq0:List aB} {u:Int} (h:gp f B i L u) (hs:∀x∈L,x∈Mq0):gp f B i Mq0 u:=by
 rcases h with ⟨h,h2⟩|⟨h,h2⟩
 ·exact .inl ⟨h,h2.imp (fun ⟨x,hx,e⟩=>⟨x,hs x hx,e⟩) id⟩
 exact .inr ⟨h,h2.mono hs⟩
theorem iY.rel (h:iY f B i base p done) {r:uI} (hn:(0≤r.a∧r.a<f.v.length)∧0≤r.b∧r.b<f.v.length) (ho:gr f i [] r.a∧gr f i [] r.b):iY f B i base (gZ f p r) done:=by
 have ha:=h.here hn.1.1 hn.1.2 (ho.1.mono fun x hx=>(by cases hx));have hb:=h.here hn.2.1 hn.2.2 (ho.2.mono fun x hx=>(by cases hx));unfold gZ;refine (h.put hn.1.1 hn.1.2 fun u hu=>?_).put hn.2.1 hn.2.2 fun u hu=>?_
 ·rcases List.mem_cons.1 hu with rfl|hu
  ·exact ha
  rw[List.mem_singleton.1 hu];exact hb
 refine gp.mono (L:=p.2) ?_ (IR f p _ _);rcases List.mem_cons.1 hu with rfl|hu
 ·exact hb
 rw[List.mem_singleton.1 hu];exact ha
theorem iY.rels:∀{l:List uI} {p:gL},iY f B i base p done→(∀r∈l,((0≤r.a∧r.a<f.v.length)∧0≤r.b∧r.b<f.v.length)∧gr f i [] r.a∧gr f i [] r.b)→iY f B i base (l.foldl (gZ f) p) done
 |[],_,h,_=>h
 |r::l,_,h,k=>by
  have:=iY.rels (l:=l) (h.rel (k r (.head _)).1 (k r (.head _)).2) fun q hq=>k q (.tail _ hq);exact this
theorem uT {k:Nat} {L:List aB} (ho:(L.filter fun x:aB=>decide (x.dst<(f.v.length:Int))).map (·.dst)=((aQ f i).s.take k).map (·.dst)) (hm:∀v q:Int,aE f v=(i,q)→0≤q→∃z,(aQ f i).s[q.toNat]?=some z∧z.dst=v) {a:Int} (ha:bI f (aE f a) i k):gr f i L a:=by
 rcases ha with h|⟨h,h2⟩|h
 ·exact .inl h
 ·refine .inr (.inl ⟨h,?_⟩)
  by_cases hq:(aE f a).2<0
  ·exact .inl hq
  right
  obtain ⟨z,hz,e⟩:=hm a (aE f a).2 (Prod.ext h rfl) (by omega);have hzm:z∈(aQ f i).s.take k:=by
   refine w5 (i:=(aE f a).2.toNat) ?_;rw[List.getElem?_take,if_pos (by omega)];exact hz
  have:a∈(L.filter fun x:aB=>decide (x.dst<(f.v.length:Int))).map (·.dst):=by
   rw[ho];exact List.mem_map.2 ⟨z,hzm,e⟩
  obtain ⟨x,hx,e2⟩:=List.mem_map.1 this;exact ⟨x,(List.mem_filter.1 hx).1,e2⟩
 exact .inr (.inr h)
theorem iY.ins (h:iY f B i base p done) {y:aB} (hd:y.dst<f.v.length) (ha:∀a∈y.args,(0≤a∧a<f.v.length)∧gr f i p.2 a) (h2:y.op=18→∃a b,y.args=[a,b]):iY f B i base (gC f p y) (done++[y]):=by
 have hnow:∀a∈y.args,gp f B i p.2 (vi p.1.now a):=fun a hm=>h.here (ha a hm).1.1 (ha a hm).1.2 (ha a hm).2;have h1:iY f B i base (p.1,p.2++[gM p.1 y]) (done++[y]):=by
  refine ⟨h.len,h.vl,fun u g0 g1 hn=>(h.nd u g0 g1 hn).imp (fun ⟨x,hx,e⟩=>⟨x,List.mem_append_left _ hx,e⟩) id,BE h.inj fun hn=>?_,fun x hx hn=>?_,?_,BD h.use fun u hu=>?_,h.cur⟩
  ·have hn:(f.v.length:Int)≤y.dst:=hn;omega
  ·rcases List.mem_append.1 hx with hx|hx
   ·exact h.new x hx hn
   rw[List.mem_singleton.1 hx] at hn;have hn:(f.v.length:Int)≤y.dst:=hn;omega
  ·show ((p.2++[gM p.1 y]).filter _).map _=_;rw[List.filter_append,w7,h.old,w7];have:([gM p.1 y].filter fun x:aB=>decide (x.dst<(f.v.length:Int)))=[gM p.1 y]:=by
    rw[List.filter_cons,if_pos (wa (show (gM p.1 y).dst<_ from hd))];rfl
   rw[this];rfl
  obtain ⟨a,hm,rfl⟩:=List.mem_map.1 hu;exact hnow a hm
 unfold gC;split
 ·rename_i hop;obtain ⟨a,b,hab⟩:=h2 hop;have e0:dH y=a:=by unfold dH;rw[hab];rfl
  have e1:fw y=b:=by unfold fw;rw[hab];rfl
  rw[e0,e1];have hb:=ha b (by rw[hab];simp);refine h1.put hb.1.1 hb.1.2 fun u hu=>gp.mono (L:=p.2) ?_ fun x hx=>List.mem_append_left _ hx;rcases List.mem_cons.1 hu with rfl|hu
  ·exact hnow b (by rw[hab];simp)
  rw[List.mem_singleton.1 hu];exact hnow a (by rw[hab];simp)
 exact h1
end
def Me (v:Int) (b:aF):Nat:=(ll v 0 b).length
theorem Nm (v:Int) (i:Int) (b:aF):(ll v i b).length=Me v b:=by simp[ll,Me]
theorem nk (f:ab) (v:Int):(aZ f v).length=(f.q.map (Me v)).sum:=by
 unfold aZ;rw[List.length_flatMap]
 congr 1
 have key:∀(l:List aF) (i:Nat),l.map (Me v)=(l.zipIdx i).map fun b=>Me v b.1:=fun l=>by
  induction l with
  |nil=>exact fun _=>rfl
  |cons b l ih=>intro i;rw[List.zipIdx_cons,List.map_cons,List.map_cons,ih (i+1)]
 rw[key f.q 0];exact List.map_congr_left fun b _=>Nm v _ _
def uU (f:ab) (B:List aF) (b u:Int):Prop:=∃(j:Nat) (c:aF),g9 (aj f) j b∧B[j]?=some c∧∃x∈c.s,x.dst=u
structure Mf (f:ab) (B:List aF) (i:Int) (c:aF):Prop where
 inj:∀(k k':Nat) (x x':aB),c.s[k]?=some x→c.s[k']?=some x'→x.dst=x'.dst→(f.v.length:Int)≤x.dst→k=k'
 old:(c.s.filter fun x:aB=>decide (x.dst<(f.v.length:Int))).map (·.dst)=(aQ f i).s.map (·.dst)
 use:∀(k:Nat) (x:aB),c.s[k]?=some x→∀u∈x.args,gp f B i (c.s.take k) u
 t:(aQ f i).t.kind≠0→gp f B i c.s c.t.var
structure Gm (f:ab) (W:vQ) (done:List Int):Prop where
 zero:∀(k:Nat) (c:aF),W.blks[k]?=some c→(k:Int) ∉ done→c.s=[]
 nd:∀b∈done,∀v:Int,0≤v→v<f.v.length→(f.v.length:Int)≤vi (fq W.ends b) v→uU f W.blks b (vi (fq W.ends b) v)
 cur:∀b∈done,∀v:Int,0≤v→v<f.v.length→vi (fq W.ends b) v<f.v.length→vi (fq W.ends b) v=v
 blk:∀b∈done,∃c,W.blks[b.toNat]?=some c∧Mf f W.blks b c
 new:∀(k:Nat) (c:aF),W.blks[k]?=some c→∀x∈c.s,(f.v.length:Int)≤x.dst→x.dst<W.v.length
 dis:∀(k k':Nat) (c c':aF),W.blks[k]?=some c→W.blks[k']?=some c'→∀x∈c.s,∀x'∈c'.s,x.dst=x'.dst→(f.v.length:Int)≤x.dst→k=k'
theorem Gm.first (f:ab):Gm f (yF f) []:=by
 have z:∀{k:Nat} {c:aF},(yF f).blks[k]?=some c→c.s=[]:=fun {k c} hc=>by
  have hc:(List.replicate _ Bu)[k]?=some c:=hc;rw[List.getElem?_replicate] at hc;split at hc
  ·cases hc;rfl
  cases hc
 exact ⟨fun k c hc _=>z hc,fun b hb=>(by cases hb),fun b hb=>(by cases hb),fun b hb=>(by cases hb),fun k c hc x hx=>(by rw[z hc] at hx;cases hx),fun k k' c c' hc _ x hx=>(by rw[z hc] at hx;cases hx)⟩
section
variable {f:ab} {B Cq0:List aF}
theorem oP.mono {i u:Int} (h:oP f B i u) (hs:∀(j:Nat) (c:aF),B[j]?=some c→c.s≠[]→Cq0[j]?=some c):oP f Cq0 i u:=by
 obtain ⟨j,c,h1,h2,h3,x,hx,e⟩:=h;exact ⟨j,c,h1,h2,hs j c h3 (fun e=>by rw[e] at hx;cases hx),x,hx,e⟩
theorem uU.mono {i u:Int} (h:uU f B i u) (hs:∀(j:Nat) (c:aF),B[j]?=some c→c.s≠[]→Cq0[j]?=some c):uU f Cq0 i u:=by
 obtain ⟨j,c,h2,h3,x,hx,e⟩:=h;exact ⟨j,c,h2,hs j c h3 (fun e=>by rw[e] at hx;cases hx),x,hx,e⟩
theorem gp.up {i u:Int} {L:List aB} (h:gp f B i L u) (hs:∀(j:Nat) (c:aF),B[j]?=some c→c.s≠[]→Cq0[j]?=some c):gp f Cq0 i L u:=by
 rcases h with ⟨h,h2⟩|h
 ·exact .inl ⟨h,h2.imp id fun k=>k.mono hs⟩
 exact .inr h
theorem Mf.up {i:Int} {c:aF} (h:Mf f B i c) (hs:∀(j:Nat) (c:aF),B[j]?=some c→c.s≠[]→Cq0[j]?=some c):Mf f Cq0 i c:=
 ⟨h.inj,h.old,fun k x hx u hu=>(h.use k x hx u hu).up hs,fun hk=>(h.t hk).up hs⟩
end
section
variable {f:ab} (hR:bq f)
include hR
theorem bq.made_in {i:Int}:∀v q:Int,aE f v=(i,q)→0≤q→0≤i→∃z,(aQ f i).s[q.toNat]?=some z∧z.dst=v:=fun v q hm hq hi=>by
 have h1:aE f v∈aZ f v:=iA (by rw[hm];exact hi);rw[hm] at h1;obtain ⟨j,b,hb,h2⟩:=de.1 h1;rcases d8.1 h2 with ⟨p,_,_,e⟩|⟨k,y,hy,hd,e⟩
 ·simp only[Prod.mk.injEq] at e;omega
 simp only[Prod.mk.injEq] at e;rw[e.1,e.2,dg hb];exact ⟨y,hy,hd⟩
theorem iY.inss {B:List aF} {i:Int} {base:Nat} (hi:0≤i∧i<f.q.length):∀(l:List aB) (k:Nat) {p:gL},(aQ f i).s.drop k=l→iY f B i base p ((aQ f i).s.take k)→iY f B i base (l.foldl (gC f) p) (aQ f i).s
 |[],k,p,hl,h=>by
  have:(aQ f i).s.take k=(aQ f i).s:=List.take_of_length_le (List.drop_eq_nil_iff.1 hl)
  rwa [this] at h
 |y::l,k,p,hl,h=>by
  have hk:(aQ f i).s[k]?=some y:=by
   have:((aQ f i).s.drop k)[0]?=some y:=by rw[hl];rfl
   rwa [List.getElem?_drop,Nat.add_zero] at this
  have hkl:=(List.getElem?_eq_some_iff.1 hk).1;have hat:uF f i.toNat k y:=⟨aQ f i,dY hi.1 hi.2,hk⟩;obtain ⟨hF,_⟩:=hR.inF hat;have hti:((i.toNat:Nat):Int)=i:=we hi.1;have hd:y.dst<f.v.length:=by
   rcases hF.dst with h|h
   ·omega
   exact (bz h.2.2).1
  have hstep:=h.ins hd (fun a ha=>⟨(bz (hF.args a ha)).symm,uT h.old (fun v q hm hq=>hR.made_in v q hm hq hi.1) (by have:=hR.av hat a ha;rw[hti] at this;exact this)⟩) fun e=>by
   have hl2:y.args.length=2:=hF.cnt e
   match h:y.args,hl2 with
   |[a,c],_=>exact ⟨a,c,rfl⟩
  have htk:(aQ f i).s.take (k+1)=(aQ f i).s.take k++[y]:=by rw[List.take_add_one,hk];rfl
  rw[←htk] at hstep;refine iY.inss hi l (k+1) ?_ hstep;rw[←List.drop_drop,hl];rfl
theorem iY.blk {W:vQ} {done:List Int} (hv:md f W done) (hs:Gm f W done) {b:Int} (h0:0≤b) (h1:b<f.q.length) (hn:0≤nearD f b→nearD f b∈done):iY f W.blks b W.v.length (dU f (dP f W b) b) (aQ f b).s:=by
 have hG:=hR.hE.grph;have hnow:(dP f W b).now=if 0≤nearD f b then fq W.ends (nearD f b) else ba f.v.length:=rfl
 have hint:∀v:Int,0≤v→v<f.v.length→vi (ba f.v.length) v=v:=fun v g0 g1=>by
  unfold vi ba;rw[w3,List.getElem?_range (by omega)];show ((v.toNat:Nat):Int)=v;omega
 have hbeg:iY f W.blks b W.v.length (dP f W b,[]) []:=by
  refine ⟨?_,⟨by have:=hv.vok.len;omega,Nat.le_refl _⟩,fun v g0 g1 hu=>?_,fun k k' x x' hx=>(by cases hx),fun x hx=>(by cases hx),U,fun k x hx=>(by cases hx),fun v g0 g1 hu=>?_⟩
  ·show (dP f W b).now.length=_;rw[hnow];split
   ·rename_i k;exact (hv.ends _ (hn k)).len
   exact cA _
  ·right
   have hu:(f.v.length:Int)≤vi (dP f W b).now v:=hu;show oP f W.blks b (vi (dP f W b).now v);rw[hnow] at hu ⊢
   by_cases k:0≤nearD f b
   ·rw[if_pos k] at hu ⊢;obtain ⟨j,c,h2,h3,h4⟩:=hs.nd _ (hn k) v g0 g1 hu;have hb0:b≠0:=fun e=>by
     rw[e,hR.nearD ⟨Int.le_refl _,by have:=hR.hE.pos;omega⟩,if_pos rfl] at k;omega
    have hnb:=hR.nearD ⟨h0,h1⟩;rw[if_neg hb0] at hnb;have hnm:=(hG.near_mem (hR.memO ⟨h0,h1⟩) hb0).1;have hst:=(hR.near_dom ⟨h0,h1⟩ hb0).2 (.refl ((b9 hG.toEOk _).1 hnm));rw[←hnb] at hst;refine ⟨j,c,fun e=>?_,h2.trans hst.1,h3,h4⟩;rw[e] at h2;exact hst.2 (cQ hG hst.1 h2)
   rw[if_neg k,hint v g0 g1] at hu;omega
  have hu:vi (dP f W b).now v<f.v.length:=hu;show vi (dP f W b).now v=v;rw[hnow] at hu ⊢
  by_cases k:0≤nearD f b
  ·rw[if_pos k] at hu ⊢;exact hs.cur _ (hn k) v g0 g1 hu
  rw[if_neg k];exact hint v g0 g1
 have old0:∀{a:Int},Av f b 0 a→gr f b [] a:=fun h=>by
  rcases h with h|⟨h,h2⟩|h
  ·exact .inl h
  ·exact .inr (.inl ⟨h,.inl h2⟩)
  exact .inr (.inr h)
 have hrel:=hbeg.rels (l:=jT f b) fun r hr=>⟨OB hR b r hr,old0 (Md hR ⟨h0,h1⟩ r hr).1,old0 (Md hR ⟨h0,h1⟩ r hr).2⟩;exact iY.inss hR ⟨h0,h1⟩ _ 0 (List.drop_zero ..) (by rw[List.take_zero];exact hrel)
theorem Gm.step {W:vQ} {done:List Int} (hv:md f W done) (hs:Gm f W done) (hd:∀u∈done,0≤u) {b:Int} (h0:0≤b) (h1:b<f.q.length) (hn:0≤nearD f b→nearD f b∈done) (hnd:b ∉ done):Gm f (k8 f W b) (done++[b]):=by
 have hb:=iY.blk hR hv hs h0 h1 hn;have hG:=hR.hE.grph;have hm:=cU h0 h1
 generalize hp:dU f (dP f W b) b=p at hb
 have hW:k8 f W b=⟨p.1.v,p.1.rts,p.1.k,W.ends.set b.toNat p.1.now,W.blks.set b.toNat ⟨(aQ f b).name,[],p.2,f6 p.1 (aQ f b).t⟩⟩:=by unfold k8;rw[hp]
 have hbt:((b.toNat:Nat):Int)=b:=we h0;have hlt:b.toNat<W.blks.length:=by rw[hv.bl];omega
 have keep:∀(j:Nat) (c:aF),W.blks[j]?=some c→c.s≠[]→(W.blks.set b.toNat ⟨(aQ f b).name,[],p.2,f6 p.1 (aQ f b).t⟩)[j]?=some c:=fun j c hc hne=>by
  have:j≠b.toNat:=fun e=>hne (hs.zero j c hc (by rw[e,hbt];exact hnd));rw[List.getElem?_set_ne (by omega)];exact hc
 have get:∀{j:Nat} {c:aF},(W.blks.set b.toNat ⟨(aQ f b).name,[],p.2,f6 p.1 (aQ f b).t⟩)[j]?=some c→(j=b.toNat∧c=⟨(aQ f b).name,[],p.2,f6 p.1 (aQ f b).t⟩)∨(j≠b.toNat∧W.blks[j]?=some c):=fun {j c} hc=>by
  by_cases e:j=b.toNat
  ·rw[e,List.getElem?_set_self hlt] at hc;exact .inl ⟨e,(Option.some.inj hc).symm⟩
  rw[List.getElem?_set_ne (by omega)] at hc;exact .inr ⟨e,hc⟩
 have hset:(W.blks.set b.toNat (⟨(aQ f b).name,[],p.2,f6 p.1 (aQ f b).t⟩:aF))[b.toNat]?=some ⟨(aQ f b).name,[],p.2,f6 p.1 (aQ f b).t⟩:=List.getElem?_set_self hlt;have hrow:∀u:Int,0≤u→fq (W.ends.set b.toNat p.1.now) u=if u=b then p.1.now else fq W.ends u:=fun u hu=>Bx h0 (by rw[hv.el];exact h1) hu
 have hrb:oV (aj f) b:=(b9 hG.toEOk b).1 (hR.memO ⟨h0,h1⟩);rw[hW];have hdn:∀u∈done++[b],0≤u∧(u≠b→u∈done):=fun u hu=>by
  rcases List.mem_append.1 hu with k|k
  ·exact ⟨hd u k,fun _=>k⟩
  rw[List.mem_singleton.1 k];exact ⟨h0,fun e=>absurd rfl e⟩
 refine ⟨fun k c hc hk=>?_,fun u hu v g0 g1 hle=>?_,fun u hu v g0 g1 hle=>?_,fun u hu=>?_,fun k c hc x hx hle=>?_,fun k k' c c' hc hc' x hx x' hx' e hle=>?_⟩
 ·rcases get hc with ⟨e,_⟩|⟨_,hc⟩
  ·exact absurd (List.mem_append_right _ (by rw[e,hbt];exact .head _)) hk
  exact hs.zero k c hc fun h=>hk (List.mem_append_left _ h)
 ·have hle:(f.v.length:Int)≤vi (fq (W.ends.set b.toNat p.1.now) u) v:=hle;show uU f (W.blks.set _ _) u (vi (fq (W.ends.set b.toNat p.1.now) u) v);rw[hrow u (hdn u hu).1] at hle ⊢
  by_cases e:u=b
  ·subst e;rw[if_pos rfl] at hle ⊢;rcases hb.nd v g0 g1 hle with ⟨x,hx,e⟩|⟨j,c,_,h2,h3,h4⟩
   ·exact ⟨u.toNat,_,by rw[hbt];exact .refl hrb,hset,x,hx,e⟩
   obtain ⟨x,hx,e⟩:=h4;exact ⟨j,c,h2,keep j c h3 (fun e=>by rw[e] at hx;cases hx),x,hx,e⟩
  rw[if_neg e] at hle ⊢;exact (hs.nd u ((hdn u hu).2 e) v g0 g1 hle).mono keep
 ·have hle:vi (fq (W.ends.set b.toNat p.1.now) u) v<f.v.length:=hle;show vi (fq (W.ends.set b.toNat p.1.now) u) v=v;rw[hrow u (hdn u hu).1] at hle ⊢
  by_cases e:u=b
  ·rw[if_pos e] at hle ⊢;exact hb.cur v g0 g1 hle
  rw[if_neg e] at hle ⊢;exact hs.cur u ((hdn u hu).2 e) v g0 g1 hle
 ·show ∃c,(W.blks.set _ _)[u.toNat]?=some c∧Mf f (W.blks.set _ _) u c
  by_cases e:u=b
  ·subst e;refine ⟨_,hset,hb.inj,hb.old,fun k x hx w hw=>(hb.use k x hx w hw).up keep,fun hk=>gp.up ?_ keep⟩;have htv:=bz (gl (hR.run.t _ hm) hk);have e:(f6 p.1 (aQ f u).t).var=vi p.1.now (aQ f u).t.var:=by unfold f6;rw[if_neg hk]
   show gp f W.blks u p.2 (f6 p.1 (aQ f u).t).var;rw[e];refine hb.here htv.2 htv.1 ?_;have hat:=(hR.hs.2.2.2 u.toNat (by omega)).2.2;have hbe:f.q[u.toNat]'(by omega)=aQ f u:=by
    have:=dY h0 h1;exact (List.getElem?_eq_some_iff.1 this).2
   rw[hbe,hbt] at hat;exact uT (k:=(aQ f u).s.length) (by rw[qy];exact hb.old) (fun v q hm hq=>hR.made_in v q hm hq h0) (hat.resolve_left hk)
  obtain ⟨c,hc,hk⟩:=hs.blk u ((hdn u hu).2 e);have:=(hdn u hu).1;exact ⟨c,by rw[List.getElem?_set_ne (by omega)];exact hc,hk.up keep⟩
 ·have hvl:=hb.vl.2;show x.dst<p.1.v.length;rcases get hc with ⟨_,rfl⟩|⟨_,hc⟩
  ·exact (hb.new x hx hle).2
  have:=hs.new k c hc x hx hle;omega
 rcases get hc with ⟨e1,rfl⟩|⟨_,hc⟩
 ·rcases get hc' with ⟨e2,rfl⟩|⟨_,hc'⟩
  ·rw[e1,e2]
  have h2:=(hb.new x hx hle).1;have h3:=hs.new k' c' hc' x' hx' (by omega);omega
 rcases get hc' with ⟨e2,rfl⟩|⟨_,hc'⟩
 ·have h2:=(hb.new x' hx' (by omega)).1;have h3:=hs.new k c hc x hx hle;omega
 exact hs.dis k k' c c' hc hc' x hx x' hx' e hle
theorem Gm.all:∀(l:List Int) {W:vQ} {done:List Int},md f W done→Gm f W done→(∀u∈done,0≤u)→gS f done l→(done++l).Nodup→Gm f (l.foldl (k8 f) W) (done++l)
 |[],_,_,_,h,_,_,_=>by rw[w8];exact h
 |b::l,W,done,hv,h,hd,hn,hnd=>by
  have hb:b ∉ done:=fun k=>(List.nodup_append.1 hnd).2.2 b k b (.head _) rfl;have:=Gm.all l (hv.step hR.inf hd hn.1.1 hn.1.2 hn.2.1 hb) (h.step hR hv hd hn.1.1 hn.1.2 hn.2.1 hb) (fun u hu=>by rcases List.mem_append.1 hu with k|k;exact hd u k;rw[List.mem_singleton.1 k];exact hn.1.1) hn.2.2 (by rw[qv];exact hnd)
  rwa [qv] at this
theorem pN:Gm f (cg f) (iD f f.q.length 0):=by
 have:=Gm.all hR _ (md.first f) (Gm.first f) (fun _ h=>by cases h) hR.ordB (by rw[List.nil_append];exact kn hR _ 0 ⟨Int.le_refl _,by have:=hR.hE.pos;omega⟩)
 rwa [List.nil_append] at this
end
theorem EO:∀(l:List Nat),(∀(k:Nat) (x:Nat),l[k]?=some x→x≤1)→(∀(k k' x x':Nat),l[k]?=some x→l[k']?=some x'→0<x→0<x'→k=k')→l.sum≤1
 |[],_,_=>by decide
 |h::l,h1,h2=>by
  have i1:∀(k:Nat) (x:Nat),l[k]?=some x→x≤1:=fun k x hx=>h1 (k+1) x (by rw[List.getElem?_cons_succ];exact hx);have i2:∀(k k' x x':Nat),l[k]?=some x→l[k']?=some x'→0<x→0<x'→k=k':=fun k k' x x' hx hx' g g'=>by
   have:=h2 (k+1) (k'+1) x x' (by rw[List.getElem?_cons_succ];exact hx) (by rw[List.getElem?_cons_succ];exact hx') g g';omega
  have ih:=EO l i1 i2;have hh:=h1 0 h rfl;rw[List.sum_cons]
  by_cases e:h=0
  ·omega
  have hz:∀x∈l,x=0:=fun x hx=>by
   obtain ⟨k,hk⟩:=List.getElem?_of_mem hx;refine Classical.byContradiction fun hne=>?_;have:=h2 0 (k+1) h x rfl (by rw[List.getElem?_cons_succ];exact hk) (by omega) (by omega);omega
  have hs:l.sum=0:=by
   clear ih i1 i2 h1 h2;induction l with
   |nil=>rfl
   |cons a l ih=>rw[List.sum_cons,hz a (.head _),ih fun x hx=>hz x (.tail _ hx)]
  omega
theorem IU {l:List aB} {v:Int} (h:∀(k k':Nat) (x x':aB),l[k]?=some x→l[k']?=some x'→x.dst=v→x'.dst=v→k=k'):(l.filter fun x:aB=>decide (x.dst=v)).length≤1:=by
 induction l with
 |nil=>exact qw _
 |cons x l ih=>
  have ih:=ih fun k k' y y' hy hy' e e'=>by
   have:=h (k+1) (k'+1) y y' (by rw[List.getElem?_cons_succ];exact hy) (by rw[List.getElem?_cons_succ];exact hy') e e';omega
  rw[List.filter_cons]
  by_cases e:x.dst=v
  ·rw[if_pos (wa e)];have:l.filter (fun x:aB=>decide (x.dst=v))=[]:=List.filter_eq_nil_iff.2 fun y hy e2=>by
    obtain ⟨k,hk⟩:=List.getElem?_of_mem hy;have:=h 0 (k+1) x y rfl (by rw[List.getElem?_cons_succ];exact hk) e (wg e2);omega
   rw[this];exact Nat.le_refl 1
  rw[if_neg (by simpa using e)];exact ih
theorem uV (v:Int):∀(l:List aB) (i:Nat),((l.zipIdx i).filter fun x=>decide (x.1.dst=v)).length=(l.filter fun x:aB=>decide (x.dst=v)).length
 |[],_=>rfl
 |x::l,i=>by
  rw[List.zipIdx_cons,List.filter_cons,List.filter_cons]
  by_cases e:x.dst=v
  ·rw[if_pos (wa e),if_pos (wa e),List.length_cons,List.length_cons,uV v l (i+1)]
  rw[if_neg (by simpa using e),if_neg (by simpa using e),uV v l (i+1)]
theorem Dq (v:Int) (b:aF):Me v b=(b.p.filter fun p=>decide (p.dst=v)).length+(b.s.filter fun x:aB=>decide (x.dst=v)).length:=by
 unfold Me ll;rw[qz,w2,w2,uV]
theorem pO (v:Int):∀l:List aB,(l.filter fun x:aB=>decide (x.dst=v)).length=((l.map (·.dst)).filter fun d=>decide (d=v)).length
 |[]=>rfl
 |x::l=>by
  rw[List.filter_cons,List.map_cons,List.filter_cons]
  by_cases e:x.dst=v
  ·rw[if_pos (wa e),if_pos (wa e),List.length_cons,List.length_cons,pO v l]
  rw[if_neg (by simpa using e),if_neg (by simpa using e),pO v l]
theorem IV {n v:Int} (h:v<n) (l:List aB):(l.filter fun x:aB=>decide (x.dst=v))=(l.filter fun x:aB=>decide (x.dst<n)).filter fun x:aB=>decide (x.dst=v):=by
 rw[List.filter_filter];refine List.filter_congr fun x _=>?_
 by_cases e:x.dst=v
 ·rw[wa e,wa (show x.dst<n by omega)];rfl
 rw[wb e];rfl
section
variable {f:ab} (hR:bq f)
include hR
theorem ef {i:Int} (h0:0≤i) (h1:i<f.q.length):∃c,(cg f).blks[i.toNat]?=some c∧(bh f).q[i.toNat]?=some { c with p:=(aQ f i).p.map (ga (cg f).ends) }∧Mf f (cg f).blks i c∧ob f (cg f).rts i c:=by
 obtain ⟨c,hc,hk⟩:=(pN hR).blk i (hR.ordAll ⟨h0,h1⟩);obtain ⟨c',hc',hk'⟩:=(me hR).blks i (hR.ordAll ⟨h0,h1⟩);rw[hc] at hc';cases hc';exact ⟨c,hc,by rw[pM hR,dY h0 h1,hc]<;>rfl,hk,hk'⟩
theorem cX:(bh f).q.length=f.q.length:=(fH hR).bl
theorem BF {v:Int} (hv:v<f.v.length):(aZ (bh f) v).length=(aZ f v).length:=by
 rw[nk,nk]
 congr 1
 apply List.ext_getElem?;intro k;rw[w3,w3]
 by_cases hk:k<f.q.length
 ·obtain ⟨c,_,hg,hs,_⟩:=ef hR (i:=(k:Int)) (by omega) (by omega);rw[Int.toNat_natCast] at hg;have hb:f.q[k]?=some (aQ f k):=dY (b:=(k:Int)) (by omega) (by omega);rw[hg,hb,Option.map_some,Option.map_some,Dq,Dq]
  congr 2
  ·show (((aQ f k).p.map (ga (cg f).ends)).filter _).length=_;rw[List.filter_map,w2]<;>rfl
  show (c.s.filter _).length=_;rw[IV hv,pO,hs.old,←pO]
 rw[List.getElem?_eq_none (by rw[cX hR];omega),List.getElem?_eq_none (by omega)]<;>rfl
theorem IW {v:Int} (hv:(f.v.length:Int)≤v):(aZ (bh f) v).length≤1:=by
 have hW:=pN hR;rw[nk];have hget:∀(k x:Nat),((bh f).q.map (Me v))[k]?=some x→∃c,(cg f).blks[k]?=some c∧Mf f (cg f).blks k c∧x=(c.s.filter fun x:aB=>decide (x.dst=v)).length:=fun k x hx=>by
  rw[w3] at hx;obtain ⟨b,hb,rfl⟩:=Option.map_eq_some_iff.1 hx;have hk:k<f.q.length:=by rw[←cX hR];exact (List.getElem?_eq_some_iff.1 hb).1
  obtain ⟨c,hc,hg,hs,_⟩:=ef hR (i:=(k:Int)) (by omega) (by omega);rw[Int.toNat_natCast] at hg hc;rw[hg] at hb;cases hb;refine ⟨c,hc,hs,?_⟩;rw[Dq];have:((aQ f k).p.map (ga (cg f).ends)).filter (fun p=>decide (p.dst=v))=[]:=List.filter_eq_nil_iff.2 fun p hp e=>by
   obtain ⟨q,hq,rfl⟩:=List.mem_map.1 hp;have h1:=(hR.run.p _ (cU (by omega) (by omega)) q hq).1;have h2:=bz h1;have e:q.dst=v:=wg e;omega
  show (((aQ f k).p.map (ga (cg f).ends)).filter _).length+_=_;rw[this];exact Nat.zero_add _
 refine EO _ (fun k x hx=>?_) fun k k' x x' hx hx' g g'=>?_
 ·obtain ⟨c,_,hs,rfl⟩:=hget k x hx;exact IU fun q q' y y' hy hy' e e'=>hs.inj q q' y y' hy hy' (by rw[e,e']) (by omega)
 obtain ⟨c,hc,_,rfl⟩:=hget k x hx;obtain ⟨c',hc',_,rfl⟩:=hget k' x' hx';obtain ⟨y,hy⟩:=List.exists_mem_of_length_pos g;obtain ⟨y',hy'⟩:=List.exists_mem_of_length_pos g';have m:=List.mem_filter.1 hy;have m':=List.mem_filter.1 hy';have e:=wg m.2;have e':=wg m'.2;exact hW.dis k k' c c' hc hc' y m.1 y' m'.1 (by rw[e,e']) (by omega)
theorem xc:mV (bh f):=fun v hv=>by
 have hO:=hR.hs.2.2.1;have hpl:f.z.length≤f.v.length:=by
  have h1:=hR.hS.1;unfold nP at h1;simp only[Bool.or_eq_false_iff,decide_eq_false_iff_not] at h1;omega
 by_cases h:v<f.v.length
 ·have h1:=hO v h;have h2:=BF hR (v:=(v:Int)) (by omega);refine ⟨by omega,fun hne=>h1.2 fun e=>hne ?_⟩;rw[e] at h2;exact w6 h2
 exact ⟨IW hR (by omega),fun _=>by show f.z.length≤v;omega⟩
theorem yG:aj (bh f)=aj f:=(fH hR).endsE
theorem BG:cK (bh f):=by
 refine ⟨by rw[cX hR];exact hR.hE.pos,fun b hb c hc=>?_⟩;obtain ⟨k,hk⟩:=List.getElem?_of_mem hb;have hkl:=(List.getElem?_eq_some_iff.1 hk).1;have h1:aj (bh f) (k:Int)=cS b.t:=by
  rw[lU hkl];rw[(List.getElem?_eq_some_iff.1 hk).2]
 rw[←h1,yG hR] at hc;have:=hR.hE.grph.rng (k:Int) (by omega) (by rw[cX hR] at hkl;omega) c hc
 rwa [cX hR]
theorem rl:Ni (bh f):=by
 have hvl:f.v.length≤(bh f).v.length:=by have:=(fH hR).len;omega
 refine EJ (xc hR) (fun b hb x hx=>?_) fun b hb p hp=>?_
 ·obtain ⟨k,hk⟩:=List.getElem?_of_mem hb;have hkl:=(List.getElem?_eq_some_iff.1 hk).1;rw[cX hR] at hkl;obtain ⟨c,hc,hg,hs,_⟩:=ef hR (i:=(k:Int)) (by omega) (by omega);rw[Int.toNat_natCast] at hg hc;rw[hg] at hk;cases hk;have hx:x∈c.s:=hx
  by_cases h:(f.v.length:Int)≤x.dst
  ·exact (pN hR).new k c hc x hx h
  omega
 obtain ⟨k,hk⟩:=List.getElem?_of_mem hb;have hkl:=(List.getElem?_eq_some_iff.1 hk).1;rw[cX hR] at hkl;obtain ⟨c,hc,hg,hs,_⟩:=ef hR (i:=(k:Int)) (by omega) (by omega);rw[Int.toNat_natCast] at hg;rw[hg] at hk;cases hk;obtain ⟨q,hq,rfl⟩:=List.mem_map.1 (show p∈(aQ f k).p.map (ga (cg f).ends) from hp);have h2:=bz (hR.run.p _ (cU (by omega) (by omega)) q hq).1;show 0≤q.dst∧q.dst<_;omega
theorem lc {i k:Nat} {c:aF} {x:aB} (hc:(cg f).blks[i]?=some c) (hi:i<f.q.length) (hx:c.s[k]?=some x) (h0:0≤x.dst):aE (bh f) x.dst=((i:Int),(k:Int)):=by
 obtain ⟨c',hc',hg,_,_⟩:=ef hR (i:=(i:Int)) (by omega) (by omega);rw[Int.toNat_natCast] at hg hc';rw[hc] at hc';cases hc';exact (rl hR).inst i k _ x hg hx h0
theorem pP {i:Nat} (hi:i<f.q.length) {p:dh} (hp:p∈(aQ f (i:Int)).p):aE (bh f) p.dst=((i:Int),-1):=by
 obtain ⟨c',hc',hg,_,_⟩:=ef hR (i:=(i:Int)) (by omega) (by omega);rw[Int.toNat_natCast] at hg;have:ga (cg f).ends p∈(aQ f (i:Int)).p.map (ga (cg f).ends):=List.mem_map.2 ⟨p,hp,rfl⟩;exact (rl hR).phi i _ (ga (cg f).ends p) hg this
theorem oQ {i k:Nat} (hi:i<f.q.length) {c:aF} (hc:(cg f).blks[i]?=some c) {u:Int} (hu:0≤u) (h:gp f (cg f).blks i (c.s.take k) u):bI (bh f) (aE (bh f) u) i k:=by
 have hW:=pN hR;have blen:=(me hR).bl;have inHere:(∃x∈c.s.take k,x.dst=u)→bI (bh f) (aE (bh f) u) i k:=fun ⟨x,hx,e⟩=>by
  obtain ⟨q,hq⟩:=List.getElem?_of_mem hx;rw[List.getElem?_take] at hq;split at hq
  ·have:=lc hR hc hi hq (by omega);rw[e] at this;rw[this];exact .inr (.inl ⟨rfl,by dsimp only;omega⟩)
  cases hq
 have upper:∀{j:Nat} {q:Int},(j:Int)≠(i:Int)→g9 (aj f) j i→aE (bh f) u=((j:Int),q)→bI (bh f) (aE (bh f) u) i k:=fun hne hd hm=>by
  rw[hm];exact .inr (.inr ⟨by dsimp only;omega,hne,by rw[yG hR];exact hd⟩)
 rcases h with ⟨hn,h|⟨j,c',hne,hd,hc',x,hx,e⟩⟩|⟨hn,h⟩
 ·exact inHere h
 ·obtain ⟨q,hq⟩:=List.getElem?_of_mem hx;have hj:j<f.q.length:=by rw[←blen];exact (List.getElem?_eq_some_iff.1 hc').1
  have:=lc hR hc' hj hq (by omega);rw[e] at this;exact upper hne hd this
 rcases h with h|⟨h,h2⟩|⟨h0,hne,hd⟩
 ·
  refine .inl ?_;have h1:aZ f u=[]:=Classical.byContradiction fun hne=>by
   obtain ⟨m,hm⟩:=List.exists_mem_of_ne_nil _ hne;have hl:(aZ f u).length≤1:=by
    have:=(hR.hs.2.2.1 u.toNat (by omega)).1
    rwa [we hu] at this
   rw[lz hl hm] at h;obtain ⟨j,b,hb,h5⟩:=de.1 hm;rcases d8.1 h5 with ⟨p,_,_,e⟩|⟨k,x,_,_,e⟩
   ·rw[e] at h;dsimp only at h;omega
   rw[e] at h;dsimp only at h;omega
  have h2:=BF hR hn;rw[h1] at h2;have h3:=w6 h2;unfold aE;rw[h3];exact (by decide:(-1:Int)<0)
 ·rcases h2 with h2|h2
  ·have hb:f.q[i]?=some (aQ f (i:Int)):=dY (b:=(i:Int)) (by omega) (by omega);have h3:aE f u∈aZ f u:=iA (by omega);obtain ⟨j,b,hbj,h5⟩:=de.1 h3;rcases d8.1 h5 with ⟨p,hp,hd,e⟩|⟨q,x,_,_,e⟩
   ·rw[e] at h;have hji:j=i:=by dsimp only at h;omega
    subst hji;rw[hb] at hbj;cases hbj;have:=pP hR hi hp;rw[hd] at this;rw[this];exact .inr (.inl ⟨rfl,by dsimp only;omega⟩)
   rw[e] at h2;dsimp only at h2;omega
  exact inHere h2
 have h3:aE f u∈aZ f u:=iA h0;obtain ⟨j,b,hbj,h5⟩:=de.1 h3;have hj:j<f.q.length:=(List.getElem?_eq_some_iff.1 hbj).1;have hbb:b=aQ f (j:Int):=(dg hbj).symm;rcases d8.1 h5 with ⟨p,hp,hdst,e⟩|⟨q,y,hy,hdst,e⟩
 ·rw[e] at hne hd;rw[hbb] at hp;have:=pP hR hj hp;rw[hdst] at this;exact upper hne hd this
 rw[e] at hne hd;obtain ⟨c',hc',_,_,hk⟩:=ef hR (i:=(j:Int)) (by omega) (by omega);rw[Int.toNat_natCast] at hc';obtain ⟨x,hx,hI⟩:=hk.img y (by rw[←hbb];exact w5 hy);obtain ⟨q',hq'⟩:=List.getElem?_of_mem hx;have hxd:x.dst=u:=by rw[hI.dst];exact hdst
 have:=lc hR hc' hj hq' (by omega);rw[hxd] at this;exact upper hne hd this
end
theorem xd {α:Type} {F:Int × Int→α}:∀{as_ bs:List Int} {q:α × Int},q∈((as_.zip bs).map F).zip bs→∃z∈as_.zip bs,q=(F z,z.2)
 |[],_,_,h=>by cases h
 |_::_,[],_,h=>by cases h
 |a::as_,b::bs,q,h=>by
  rw[List.zip_cons_cons,List.map_cons,List.zip_cons_cons] at h;rcases List.mem_cons.1 h with rfl|h
  ·exact ⟨(a,b),.head _,rfl⟩
  obtain ⟨z,hz,e⟩:=xd h;exact ⟨z,.tail _ hz,e⟩
section
variable {f:ab} (hR:bq f)
include hR
theorem EP {i:Int} {c:aF} (hk:ob f (cg f).rts i c) {k:Nat} {x:aB} (hx:c.s[k]?=some x):∀u∈x.args,0≤u∧u<(f.v.length+(cg f).rts.length:Nat):=by
 have old:∀{q:Nat} {y:aB},c.s[q]?=some y→y.op≠25→y.op≠26→∀u∈y.args,0≤u∧u<(f.v.length+(cg f).rts.length:Nat):=fun {q y} hy h1 h2=>by
  have:=hk.frm q y hy
  generalize c.s.take q=Mq0 at this
  cases this with
  |old _ hI=>exact hI.bnd
  |pi=>exact absurd rfl h1
  |len=>exact absurd rfl h2
 have hF:=hk.frm k x hx
 generalize hL:c.s.take k=L at hF
 cases hF with
 |old _ hI=>exact hI.bnd
 |pi hd ha hb _ _ _=>
  intro u hu;rcases List.mem_cons.1 hu with rfl|hu
  ·exact ⟨ha.1,by omega⟩
  rw[List.mem_singleton.1 hu];exact ⟨hb.1,by omega⟩
 |@len l d a b e m hd ha _=>
  intro u hu;rcases List.mem_cons.1 hu with rfl|hu
  ·exact ⟨ha.1,by omega⟩
  rw[List.mem_singleton.1 hu];have hkl:=(List.getElem?_eq_some_iff.1 hx).1;have h2:=congrArg List.length hL;rw[w9,qz] at h2;simp at h2;have hc:c.s[l.length]?=some ⟨18,e,[b,a],m⟩:=by
   have h3:(c.s.take k)[l.length]?=some ⟨18,e,[b,a],m⟩:=by rw[hL,List.getElem?_append_right (Nat.le_refl _),Nat.sub_self];rfl
   rw[List.getElem?_take] at h3;split at h3
   ·exact h3
   cases h3
  exact old hc (show (18:Int)≠25 by decide) (show (18:Int)≠26 by decide) b (.head _)
theorem IX {b:Int} (h0:0≤b) (h1:b<f.q.length) {c:aF} (hc:(cg f).blks[b.toNat]?=some c) (hs:Mf f (cg f).blks b c) {v:Int} (g0:0≤v) (g1:v<f.v.length) (ha:bI f (aE f v) b (eM f b)):gp f (cg f).blks b c.s (vi (fq (cg f).ends b) v):=by
 have hW:=pN hR;have hm:=hR.ordAll ⟨h0,h1⟩;have hla:eM f b=(aQ f b).s.length:=by
  unfold eM;rw[dY h0 h1];rfl
 by_cases hn:(f.v.length:Int)≤vi (fq (cg f).ends b) v
 ·obtain ⟨j,c',h2,h3,h4⟩:=hW.nd b hm v g0 g1 hn;refine .inl ⟨hn,?_⟩
  by_cases e:(j:Int)=b
  ·left
   have:j=b.toNat:=by omega
   rw[this,hc] at h3;cases h3;exact h4
  exact .inr ⟨j,c',e,h2,h3,h4⟩
 have e:=hW.cur b hm v g0 g1 (by omega);refine .inr ⟨by omega,?_⟩;rw[e];rw[hla] at ha;exact uT (k:=(aQ f b).s.length) (by rw[qy];exact hs.old) (fun v q hm hq=>hR.made_in v q hm hq h0) ha
theorem Dr {b:Int} (h0:0≤b) (h1:b<f.q.length) {c:aF} (hg:(bh f).q[b.toNat]?=some { c with p:=(aQ f b).p.map (ga (cg f).ends) }):eM (bh f) b=c.s.length:=by
 unfold eM;rw[hg];rfl
theorem Gn:D9 (bh f):=by
 refine ⟨fun i hi p hp=>?_,fun i hi=>?_,xc hR,fun i hi=>?_⟩
 ·have hif:i<f.q.length:=by rw[←cX hR];exact hi
  obtain ⟨c,_,hg,_,_⟩:=ef hR (i:=(i:Int)) (by omega) (by omega);rw[Int.toNat_natCast] at hg;have e:=(List.getElem?_eq_some_iff.1 hg).2;rw[e] at hp;obtain ⟨q,hq,rfl⟩:=List.mem_map.1 (show p∈(aQ f (i:Int)).p.map (ga (cg f).ends) from hp);have hb:f.q[i]=aQ f (i:Int):=(dg (qt hif)).symm;rw[yG hR,cX hR];exact hR.hs.1 i hif q (by rw[hb];exact hq)
 ·rw[yG hR];exact hR.hs.2.1 i (by rw[←cX hR];exact hi)
 have hif:i<f.q.length:=by rw[←cX hR];exact hi
 obtain ⟨c,hc,hg,hs,hk⟩:=ef hR (i:=(i:Int)) (by omega) (by omega);rw[Int.toNat_natCast] at hg hc;have e:=(List.getElem?_eq_some_iff.1 hg).2;rw[e];have hb:f.q[i]=aQ f (i:Int):=(dg (qt hif)).symm;refine ⟨fun p hp q hq=>?_,fun k hkl v hv=>?_,?_⟩
 ·obtain ⟨p0,hp0,rfl⟩:=List.mem_map.1 (show p∈(aQ f (i:Int)).p.map (ga (cg f).ends) from hp);obtain ⟨z,hz,rfl⟩:=xd (show q∈((p0.args.zip p0.w).map fun q=>vi (fq (cg f).ends q.2) q.1).zip p0.w from hq);have hsh:=hR.run.p _ (cU (by omega) (by omega)) p0 hp0;have hzm:=List.of_mem_zip hz;have hva:=bz (List.all_eq_true.1 hsh.2.2.2.1 _ hzm.1);have hfr:0≤z.2∧z.2<f.q.length:=by
   have h7:=List.all_eq_true.1 hsh.2.2.2.2 _ hzm.2;unfold eQ at h7;simp only[wc,wi] at h7;exact h7
  obtain ⟨d,hd,hgd,hsd,hkd⟩:=ef hR hfr.1 hfr.2;have hah:=(hR.hs.2.2.2 i hif).1 p0 (by rw[hb];exact hp0) (z.1,z.2) hz;have hend:=IX hR hfr.1 hfr.2 hd hsd hva.2 hva.1 hah;have hzt:((z.2.toNat:Nat):Int)=z.2:=we hfr.1;have hnow:=((me hR).ends z.2 (hR.ordAll hfr)).rt z.1 hva.2 hva.1;show bI (bh f) (aE (bh f) (vi (fq (cg f).ends z.2) z.1)) z.2 (eM (bh f) z.2);rw[Dr hR hfr.1 hfr.2 hgd];have:=oQ hR (i:=z.2.toNat) (k:=d.s.length) (by omega) hd (u:=vi (fq (cg f).ends z.2) z.1) hnow.1.1 (by rw[qy,hzt];exact hend);rw[hzt] at this;exact this
 ·have hkl:k<c.s.length:=hkl;have hx:c.s[k]?=some c.s[k]:=qt hkl;have hv:v∈c.s[k].args:=hv;exact oQ hR hif hc (EP hR hk hx v hv).1 (hs.use k _ hx v hv)
 by_cases h0:(aQ f (i:Int)).t.kind=0
 ·exact .inl (hk.kind.trans h0)
 right
 have:=oQ hR (k:=c.s.length) hif hc (u:=c.t.var) (hk.var h0).1.1 (by rw[qy];exact hs.t h0);exact this
end
def Gp (l:List UInt8):Nat:=l.foldl (fun a d=>a*10+(d.toNat - 48)) 0
theorem IY (l:List UInt8) (d:UInt8):Gp (l++[d])=Gp l*10+(d.toNat - 48):=by unfold Gp;rw[List.foldl_append];rfl
theorem xe {k:Nat} (h:k<10):(UInt8.ofNat (48+k)).toNat - 48=k:=by
 rw[UInt8.toNat_ofNat'];omega
theorem uW:∀(n k:Nat),k≤n→Gp (xa n k)=k
 |0,k,h=>by
  obtain rfl:k=0:=by omega
  rfl
 |n+1,k,h=>by
  unfold xa;split
  ·rename_i h;show 0*10+_=k;rw[xe h];omega
  rename_i h;rw[IY,uW n (k / 10) (by omega),xe (by omega)];omega
theorem xf (k:Nat):Gp (Dp k)=k:=uW k k (Nat.le_refl _)
theorem uX {a b:Nat} (h:kC a=kC b):a=b:=by
 have h1:(120::Dp a).toArray=(120::Dp b).toArray:=congrArg ByteArray.data h;have h2:=congrArg Array.toList h1;have h3:(120:UInt8)::Dp a=120::Dp b:=by simpa using h2
 have h4:=congrArg Gp (List.cons.inj h3).2
 rwa [xf,xf] at h4
theorem mf (f:ab):∀(n k:Nat),(k≤pK f n k∧pK f n k≤k+n)∧(∀j,k≤j→j<pK f n k→gB f j=true)∧(gB f (pK f n k)=false∨pK f n k=k+n)
 |0,k=>⟨⟨Nat.le_refl _,Nat.le_refl _⟩,fun j h1 h2=>by unfold pK at h2;omega,.inr rfl⟩
 |n+1,k=>by
  unfold pK
  by_cases h:gB f k=true
  ·rw[if_pos h];obtain ⟨⟨h1,h2⟩,h3,h4⟩:=mf f n (k+1);refine ⟨⟨by omega,by omega⟩,fun j g1 g2=>?_,h4.imp id fun e=>by omega⟩
   by_cases e:j=k
   ·rw[e];exact h
   exact h3 j (by omega) g2
  rw[if_neg h];exact ⟨⟨Nat.le_refl _,by omega⟩,fun j g1 g2=>by omega,.inl (Bool.eq_false_iff.2 h)⟩
theorem uY (f:ab) (k:Nat):k≤f9 f k∧f9 f k≤k+f.v.length+1:=(mf f _ k).1
theorem rP (f:ab) (k:Nat):∀j,k≤j→j<f9 f k→gB f j=true:=(mf f _ k).2.1
theorem uZ (f:ab) (k:Nat):gB f (f9 f k)=false:=by
 obtain ⟨_,h3,h4⟩:=mf f (f.v.length+1) k;rcases h4 with h|h
 ·exact h
 exfalso
 rw[h] at h3;have hn:((List.range (f.v.length+1)).map fun j=>kC (k+j)).Nodup:=by
  unfold List.Nodup;rw[List.pairwise_map];exact List.nodup_range.imp fun hne e=>hne (by have:=uX e;omega)
 have:=List.Nodup.length_le_of_subset hn (l₂:=f.v.map (·.name)) fun x hx=>by
  obtain ⟨j,hj,rfl⟩:=List.mem_map.1 hx;have hj:=List.mem_range.1 hj;have:=h3 (k+j) (by omega) (by omega);unfold gB at this;obtain ⟨v,hv,e⟩:=List.any_eq_true.1 this;exact List.mem_map.2 ⟨v,hv,wg e⟩
 simp at this;omega
def NV (f:ab) (vars:List lg) (k:Nat):Prop:=f.v.length≤vars.length∧k≤(vars.length - f.v.length)*(f.v.length+2)
theorem NV.put {f:ab} {S:sr} (h:NV f S.v S.k) (v:Int):NV f (kO f S v).v (kO f S v).k:=by
 obtain ⟨h1,h2⟩:=h;have h3:=(uY f S.k).2;refine ⟨?_,?_⟩
 ·show _≤(S.v++[_]).length;rw[qz];omega
 show f9 f S.k+1≤((S.v++[_]).length - _)*_;rw[qz];show _≤(S.v.length+1 - f.v.length)*_;rw[show S.v.length+1 - f.v.length=(S.v.length - f.v.length)+1 by omega,Nat.add_mul,Nat.one_mul];omega
structure oR (f:ab) (b:Nat) (p:gL) (m q:Nat):Prop where
 k:NV f p.1.v p.1.k
 v:b≤p.1.v.length∧p.1.v.length≤b+m
 ins:p.2.length≤q
theorem oR.put {f:ab} {b m q:Nat} {p:gL} (h:oR f b p m q) (v:Int) (x:aB):oR f b (fp f p v x) (m+1) (q+1):=by
 unfold fp;split
 ·exact ⟨h.k,⟨h.v.1,by have:=h.v.2;omega⟩,by have:=h.ins;omega⟩
 refine ⟨h.k.put v,?_,?_⟩
 ·show b≤(p.1.v++[_]).length∧(p.1.v++[_]).length≤_;rw[qz];have:=h.v;show b≤p.1.v.length+1∧p.1.v.length+1≤_;omega
 show (p.2++[_]).length≤_;rw[qz];have:=h.ins;show p.2.length+1≤_;omega
theorem oR.rel {f:ab} {b m q:Nat} {p:gL} (h:oR f b p m q) (r:uI):oR f b (gZ f p r) (m+2) (q+2):=(h.put _ _).put _ _
theorem oR.ins1 {f:ab} {b m q:Nat} {p:gL} (h:oR f b p m q) (x:aB):oR f b (gC f p x) (m+1) (q+2):=by
 have h1:oR f b (p.1,p.2++[gM p.1 x]) m (q+1):=⟨h.k,h.v,by rw[qz];have:=h.ins;show p.2.length+1≤_;omega⟩;unfold gC;split
 ·exact h1.put _ _
 exact ⟨h1.k,⟨h1.v.1,by have:=h1.v.2;omega⟩,by have:=h1.ins;omega⟩
theorem oR.rels {f:ab} {b:Nat}:∀(l:List uI) {m q:Nat} {p:gL},oR f b p m q→oR f b (l.foldl (gZ f) p) (m+2*l.length) (q+2*l.length)
 |[],_,_,_,h=>h
 |r::l,m,q,p,h=>by
  have:=oR.rels l (h.rel r);rw[List.length_cons]
  rwa [show m+2*(l.length+1)=m+2+2*l.length by omega,show q+2*(l.length+1)=q+2+2*l.length by omega]
theorem oR.inss {f:ab} {b:Nat}:∀(l:List aB) {m q:Nat} {p:gL},oR f b p m q→oR f b (l.foldl (gC f) p) (m+l.length) (q+2*l.length)
 |[],_,_,_,h=>h
 |x::l,m,q,p,h=>by
  have:=oR.inss l (h.ins1 x);rw[List.length_cons]
  rwa [show m+(l.length+1)=m+1+l.length by omega,show q+2*(l.length+1)=q+2+2*l.length by omega]
theorem oR.blk {f:ab} {S:sr} (h:NV f S.v S.k) (b:Int):oR f S.v.length (dU f S b) (2*(jT f b).length+(aQ f b).s.length) (2*(jT f b).length+2*(aQ f b).s.length):=by
 have h0:oR f S.v.length (S,[]) 0 0:=⟨h,⟨Nat.le_refl _,Nat.le_refl _⟩,Nat.le_refl _⟩;have:=oR.inss (aQ f b).s (oR.rels (jT f b) h0);rw[Nat.zero_add] at this;exact this
def BH (f:ab) (vars:List lg) (k:Nat):Prop:=∃js:List Nat,vars=f.v++js.map (fun j=>(⟨kC j,0⟩:lg))∧js.Pairwise (·<·)∧(∀j∈js,j<k∧gB f j=false)∧∀m,m<k→m∈js∨gB f m=true
theorem BH.put {f:ab} {S:sr} (h:BH f S.v S.k) (v:Int):BH f (kO f S v).v (kO f S v).k:=by
 obtain ⟨js,h1,h2,h3,h4⟩:=h;have hn:=(uY f S.k).1;refine ⟨js++[f9 f S.k],?_,?_,fun j hj=>?_,fun m hm=>?_⟩
 ·show S.v++_=_;rw[h1,w7,qv];rfl
 ·rw[List.pairwise_append];refine ⟨h2,by simp,fun a ha b hb=>?_⟩;rw[List.mem_singleton.1 hb];have:=(h3 a ha).1;omega
 ·show j<f9 f S.k+1∧_;rcases List.mem_append.1 hj with hj|hj
  ·have:=h3 j hj;exact ⟨by omega,this.2⟩
  rw[List.mem_singleton.1 hj];exact ⟨by omega,uZ f S.k⟩
 have hm:m<f9 f S.k+1:=hm
 by_cases e:m<S.k
 ·exact (h4 m e).imp (fun h=>List.mem_append_left _ h) id
 by_cases e2:m=f9 f S.k
 ·exact .inl (List.mem_append_right _ (by rw[e2];exact .head _))
 exact .inr (rP f S.k m (by omega) (by omega))
section
variable {f:ab} {P:List lg→Nat→Prop} (hput:∀(S:sr) (v:Int),P S.v S.k→P (kO f S v).v (kO f S v).k)
include hput
theorem yH {p:gL} (h:P p.1.v p.1.k) (v:Int) (x:aB):P (fp f p v x).1.v (fp f p v x).1.k:=by
 unfold fp;split
 ·exact h
 exact hput p.1 v h
theorem EQ:∀(l:List uI) {p:gL},P p.1.v p.1.k→P (l.foldl (gZ f) p).1.v (l.foldl (gZ f) p).1.k
 |[],_,h=>h
 |r::l,p,h=>EQ l (p:=gZ f p r) (yH hput (yH hput h _ _) _ _)
theorem ER:∀(l:List aB) {p:gL},P p.1.v p.1.k→P (l.foldl (gC f) p).1.v (l.foldl (gC f) p).1.k
 |[],_,h=>h
 |x::l,p,h=>ER l (p:=gC f p x) (by
  unfold gC;split
  ·exact yH hput (p:=(p.1,p.2++[gM p.1 x])) h _ _
  exact h)
theorem IZ:∀(l:List Int) {W:vQ},P W.v W.k→P (l.foldl (k8 f) W).v (l.foldl (k8 f) W).k
 |[],_,h=>h
 |b::l,W,h=>IZ l (W:=k8 f W b) (by
  show P (dU f (dP f W b) b).1.v (dU f (dP f W b) b).1.k;unfold dU;exact ER hput _ (EQ hput _ (p:=(dP f W b,[])) h))
end
theorem ko (f:ab):BH f (bh f).v (cg f).k:=by
 have h0:BH f (yF f).v (yF f).k:=⟨[],(w8 _).symm,List.Pairwise.nil,fun j hj=>(by cases hj),fun m hm=>absurd hm (Nat.not_lt_zero m)⟩;exact IZ (P:=BH f) (fun S v h=>h.put v) _ h0
theorem BH.le {f:ab} {vars:List lg} {k:Nat} (h:BH f vars k):k≤vars.length:=by
 obtain ⟨js,h1,_,_,h4⟩:=h;have hn:((List.range k).map kC).Nodup:=by
  unfold List.Nodup;rw[List.pairwise_map];exact List.nodup_range.imp fun hne e=>hne (uX e)
 have:=List.Nodup.length_le_of_subset hn (l₂:=f.v.map (·.name)++js.map kC) fun x hx=>by
  obtain ⟨m,hm,rfl⟩:=List.mem_map.1 hx;rcases h4 m (List.mem_range.1 hm) with h|h
  ·exact List.mem_append_right _ (List.mem_map.2 ⟨m,h,rfl⟩)
  obtain ⟨v,hv,e⟩:=List.any_eq_true.1 h;exact List.mem_append_left _ (List.mem_map.2 ⟨v,hv,wg e⟩)
 rw[h1];simp at this ⊢;omega
theorem Gq:(List.range 513).all (fun i=>mY (kC i))=true:=by decide +kernel
theorem I1 {i:Nat} (h:i≤512):mY (kC i)=true:=List.all_eq_true.1 Gq i (List.mem_range.2 (by omega))
theorem Lj {g:ab} {d a b n:Int} (hd:bn g d=true):mE g ⟨25,d,[a,b],n⟩=false:=by
 have h0:=(bz hd).2;have k1:(cF 25).2.1.size=2:=by decide
 have k2:decide ((cF 25).2.2=⟨#[]⟩)=false:=by decide
 have k3:decide ((cF 25).1=⟨#[112,105]⟩)=true:=by decide
 unfold mE kH;rw[hd];simp only[k1,k2,k3];have:decide (d=-1)=false:=wb (by omega);rw[this];simp
theorem Lk {g:ab} {d a b:Int} (hd:bn g d=true):mE g ⟨26,d,[a,b],0⟩=false:=by
 have h0:=(bz hd).2;have k1:(cF 26).2.1.size=2:=by decide
 have k2:decide ((cF 26).2.2=⟨#[]⟩)=false:=by decide
 unfold mE;rw[hd];simp only[k1,k2];have:decide (d=-1)=false:=wb (by omega);rw[this];simp
section
variable {f:ab} (hR:bq f)
include hR
theorem Ds {u:Int} (h0:(f.v.length:Int)≤u) (h1:u<(bh f).v.length):aM f (cY f.v.length (cg f).rts u)=0:=by
 have hP:=fH hR;obtain ⟨i,k,x,hx,e⟩:=hP.mkd u h0 h1;obtain ⟨hF,hi⟩:=hP.at hx;obtain ⟨b,hb,hxk⟩:=hx;have eb:aQ (bh f) (i:Int)=b:=dg hb;rw[eb] at hF
 generalize hL:b.s.take k=L at hF
 cases hF with
 |old hy hI=>
  exfalso
  rename_i y;have hF2:=(hR.run.s _ (cU (by omega) hi) y hy).1;have:y.dst<f.v.length:=by
   rcases hF2.dst with h|h
   ·omega
   exact (bz h.2.2).1
  rw[←e,hI.dst] at h0;omega
 |pi hd ha hb2 hrt hr h=>
  have hk:=OC hR _ _ hr;have e:_=u:=e;rw[←e,hrt];rcases h with ⟨h1,_,_⟩|⟨h1,_,_⟩
  ·rw[h1];exact hk.1
  rw[h1];exact hk.2
 |@len l d a b2 e2 m hd ha hrt=>
  have e:d=u:=e;rw[←e,hrt];have h2:=congrArg List.length hL;have hkl:=(List.getElem?_eq_some_iff.1 hxk).1;rw[w9,qz] at h2;simp at h2;have hc:b.s[l.length]?=some ⟨18,e2,[b2,a],m⟩:=by
   have h3:(b.s.take k)[l.length]?=some ⟨18,e2,[b2,a],m⟩:=by rw[hL,List.getElem?_append_right (Nat.le_refl _),Nat.sub_self];rfl
   rw[List.getElem?_take] at h3;split at h3
   ·exact h3
   cases h3
  have hFc:=(hP.at (i:=i) (k:=l.length) ⟨b,hb,hc⟩).1
  generalize (aQ (bh f) (i:Int)).s.take l.length=Mq0 at hFc
  cases hFc with
  |old hy hI=>
   rename_i y;have hym:=cU (f:=f) (b:=(i:Int)) (by omega) hi;have hT:=hR.hT _ hym;unfold gX at hT;simp only[wc] at hT;have hTy:=List.all_eq_true.1 hT.1.2 y hy;have hop:y.op=18:=hI.op.symm;have ht:y.args.map (aM f)=[2,0]:=df hTy hop (by decide) (by decide);have hargs:[cY f.v.length (cg f).rts b2,cY f.v.length (cg f).rts a]=y.args:=hI.args;rw[←hargs] at ht;simp at ht;exact ht.2
omit hR in
theorem u4 {u:Int} (h0:(f.v.length:Int)≤u) (h1:u<(bh f).v.length):aM (bh f) u=0:=by
 obtain ⟨js,e,_⟩:=ko f;have hl:(f.v++js.map (fun j=>(⟨kC j,0⟩:lg))).length=(bh f).v.length:=by rw[e]
 rw[qz,w2] at hl;unfold aM;rw[e,List.getElem?_append_right (by omega),w3,qt (by omega)];rfl
theorem nM {u:Int} (h0:0≤u) (h1:u<(bh f).v.length):aM (bh f) u=aM f (cY f.v.length (cg f).rts u):=by
 by_cases h:u<f.v.length
 ·rw[nj h];exact (show aM (bh f) u=aM f u by
   obtain ⟨l,hl⟩:=(fH hR).v;unfold aM;rw[hl,List.getElem?_append_left (by omega)])
 rw[u4 (by omega) h1,Ds hR (by omega) h1]
end
theorem jL {x:Int} {a b:aO} (h1:dD x a) (h2:dD x b):dD x (bR a b):=by
 unfold dD at *;unfold bR et dM dx fD
 (repeat' split)<;>(try dsimp only at *)<;>omega
theorem I2 {x:Int} {a b:aO} (h:dD x a):dD x (bU a b):=by
 unfold dD at *;unfold bU et dM dx fD
 (repeat' split)<;>(try dsimp only at *)<;>omega
theorem I3 {x:Int} {a b:aO} (h:dD x b):dD x (bU a b):=by
 unfold dD at *;unfold bU et dM dx fD
 (repeat' split)<;>(try dsimp only at *)<;>omega
theorem Dt {x:Int} {a b:aO} (h:dD x a) (hs:cJ a b):dD x b:=by
 unfold dD cJ at *;omega
theorem u5 {no yes t:Bool} (h0:t=false→no=true) (h1:t=true→yes=true):dD (if t=true then 1 else 0) (ol no yes):=by
 unfold dD ol;cases t
 ·rw[h0 rfl];cases yes<;>simp
 rw[h1 rfl];cases no<;>simp
theorem Nn {k:Nat} (hk:k≤2) {a b:aO} {x y:Int} {chk:Bool} (ha:bw a) (hb:bw b) (hx:dD x a) (hy:dD y b) (hc:chk=true→dF k x y):dD (IntKind.i64.wrap (iH k x y)) (o9 k a b chk):=by
 unfold o9
 by_cases h:chk=true∨kE k a b
 ·rw[if_pos h];have hf:dF k x y:=by
   rcases h with h|h
   ·exact hc h
   exact (ta (a:=(x,x)) (b:=(y,y)) (Int.le_refl _) (Int.le_refl _) ⟨hx.1,hx.2⟩ ⟨hy.1,hy.2⟩ h).1
  have hw:=gj hf;have:=DZ hk ha hb hx hy;rw[hw];have e:o8 (iH k x y)=iH k x y:=by
   unfold dF aY at hf;unfold o8 gf gW
   (repeat' split)<;>omega
  rwa [e] at this
 rw[if_neg h];have:=sL (iH k x y);unfold aY at this;unfold dD lQ gf gW;exact this
theorem Np {a b:aO} {x y:Int} (ha:bw a) (hb:bw b) (hx:dD x a) (hy:dD y b) (h0:y≠0):dD (vN x y) (fN a b):=by
 unfold vN
 by_cases hno:a.1=gf∧b.1≤-1∧-1≤b.2
 ·unfold fN;rw[if_pos hno];have:=sL (x.tdiv y);unfold aY at this;unfold dD gf gW;exact this
 have h:=Hd hx hy h0 hno;have:=CA ha hb hx hy hno h0;rw[show IntKind.i64.wrap (x.tdiv y)=x.tdiv y by unfold aY at this;rw[lS];omega];exact h
theorem Nq {a b:Int} (ha:aY a) (hb:b≠0):qY a b=a.tmod b:=by
 unfold aY at ha;unfold qY
 by_cases h1:b=-1
 ·rw[if_pos h1,h1,Int.tmod_neg,Int.tmod_one]
 rw[if_neg h1];have e1:(a.tdiv b).natAbs=a.natAbs / b.natAbs:=Int.natAbs_tdiv ..;have e2:(a.tdiv b*b).natAbs=a.natAbs / b.natAbs*b.natAbs:=by rw[Int.natAbs_mul,e1]
 have e3:=Nat.div_mul_le_self a.natAbs b.natAbs;have e4:a.tmod b=a - a.tdiv b*b:=by rw[Int.tmod_def,Int.mul_comm]
 have hq:aY (a.tdiv b):=by
  unfold aY
  by_cases h2:b=1
  ·rw[h2,Int.tdiv_one];exact ha
  have:a.natAbs / b.natAbs≤a.natAbs / 2:=Nat.div_le_div_left (by omega) (by omega);omega
 have e5:IntKind.i64.wrap (a.tdiv b)=a.tdiv b:=by unfold aY at hq;rw[lS];omega
 have e7:(a.tmod b).natAbs=a.natAbs % b.natAbs:=Int.natAbs_tmod ..;have e8:a.natAbs % b.natAbs≤a.natAbs:=Nat.mod_le ..;have e9:a.natAbs % b.natAbs<b.natAbs:=Nat.mod_lt _ (by omega);rw[e5];rw[e4] at e7 ⊢
 generalize a.tdiv b*b=p at *
 rw[show IntKind.i64.wrap p=p by rw[lS];omega];rw[lS];omega
theorem Nr {a b:aO} {x y:Int} (hx64:aY x) (hx:dD x a) (hy:dD y b) (h0:y≠0):dD (qY x y) (tb a b):=by
 rw[Nq hx64 h0];have e7:(x.tmod y).natAbs=x.natAbs % y.natAbs:=Int.natAbs_tmod ..;have e8:x.natAbs % y.natAbs≤x.natAbs:=Nat.mod_le ..;have e9:x.natAbs % y.natAbs<y.natAbs:=Nat.mod_lt _ (by omega);have s1:0≤x→0≤x.tmod y:=fun h=>Int.tmod_nonneg y h;have s2:x≤0→x.tmod y≤0:=fun h=>by
  have:=Int.tmod_nonneg y (show 0≤-x by omega);rw[Int.neg_tmod] at this;omega
 generalize x.tmod y=t at *
 unfold dD at *;unfold tb Fd dx dM;rw[if_neg (by omega)];dsimp only
 (repeat' split)<;>omega
theorem OD {a b:aO} {x y:Int} (hx:dD x a) (hy:dD y b):dD (if decide (x=y)=true then 1 else 0) (NL a b):=by
 unfold NL;refine u5 (fun h=>?_) fun h=>?_
 ·have h:=wh h;rw[Bool.not_eq_true',Bool.and_eq_false_iff]
  by_cases e:a.1=a.2
  ·right
   refine wb fun e2=>h ?_;unfold dD at *;rw[←e2] at hy;omega
  exact .inl (wb e)
 have h:=wg h;rw[Bool.not_eq_true'];subst h;have:=jL hx hy;unfold dD at this;exact wb (by omega)
theorem OE {a b:aO} {x y:Int} (hx:dD x a) (hy:dD y b):dD (if decide (x<y)=true then 1 else 0) (N1 a b):=by
 unfold dD at hx hy;exact u5 (fun h=>wa (by have:=wh h;omega)) fun h=>wa (by have:=wg h;omega)
theorem OG {a b:aO} {x y:Int} (hx:dD x a) (hy:dD y b):dD (if decide (x≤y)=true then 1 else 0) (N2 a b):=by
 unfold dD at hx hy;exact u5 (fun h=>wa (by have:=wh h;omega)) fun h=>wa (by have:=wg h;omega)
theorem Ns {a:aO} {p:Bool} (h:dD (if p=true then 1 else 0) a) (ha:0≤a.1∧a.2≤1):dD (if (!p)=true then 1 else 0) (Fe a):=by
 unfold dD at h;refine u5 (fun e=>wa ?_) fun e=>wa ?_
 ·cases p
  ·cases e
  simp at h;omega
 cases p
 ·simp at h;omega
 cases e
theorem Nt {a b:aO} {p q:Bool} (h:dD (if p=true then 1 else 0) a) (g:dD (if q=true then 1 else 0) b) (ha:0≤a.1∧a.2≤1) (hb:0≤b.1∧b.2≤1):dD (if (p&&q)=true then 1 else 0) (Ff a b):=by
 unfold dD at h g;refine u5 (fun e=>?_) fun e=>?_
 ·rw[Bool.or_eq_true,wi,wi];cases p
  ·left;simp at h;omega
  cases q
  ·right;simp at g;omega
  cases e
 rw[wc,wi,wi];cases p
 ·cases e
 cases q
 ·cases e
 simp at h g;omega
structure Ll (num x y:Int):Prop where
 lt:num=0→x<y
 le:num=1→x≤y
 eq:num=2→x=y
 ge:num=3→y≤x
 gt:num=4→y<x
theorem I4 {num:Int} {a b:aO} {x y:Int} (hx64:aY x) (hy64:aY y) (hx:dD x a) (hy:dD y b) (h:Ll num x y):dD x (qB num a b):=by
 unfold aY at hx64 hy64;unfold dD at hy;unfold qB;split
 ·rename_i e;have:=h.lt e;rw[if_neg (by unfold gf;omega)];exact jL hx ⟨by unfold gf;dsimp only;omega,by dsimp only;omega⟩
 split
 ·rename_i e;have:=h.le e;exact jL hx ⟨by unfold gf;dsimp only;omega,by dsimp only;omega⟩
 split
 ·rename_i e;have:=h.eq e;exact jL hx ⟨by omega,by omega⟩
 split
 ·rename_i e;have:=h.ge e;exact jL hx ⟨by dsimp only;omega,by unfold gW;dsimp only;omega⟩
 split
 ·rename_i e;have:=h.gt e;rw[if_neg (by unfold gW;omega)];exact jL hx ⟨by dsimp only;omega,by unfold gW;dsimp only;omega⟩
 exact hx
def dV (g:ab) (s:GS) (v:Int):Int:=if aM g v=0 then vi s.ints v else if aM g v=2 then (if vi s.arrs v<0 then 0 else ((dw s (vi s.arrs v)).length:Int)) else if gb s.bools v=true then 1 else 0
section
variable {g:ab} {s:GS} {l:List aO}
theorem yI {v:Int} (h:aM g v=0):dV g s v=vi s.ints v:=if_pos h
theorem yJ {v:Int} (h:aM g v=1):dV g s v=if gb s.bools v=true then 1 else 0:=by unfold dV;rw[if_neg (by omega),if_neg (by omega)]
theorem I5 {v:Int} (h:aM g v=2):dV g s v=if vi s.arrs v<0 then 0 else ((dw s (vi s.arrs v)).length:Int):=by unfold dV;rw[if_neg (by omega),if_pos h]
theorem yK (hs:bE g s) (h64:k5 s) {v:Int} (hv:v<g.v.length∧0≤v) (ht:0≤aM g v∧aM g v≤2):dD (dV g s v) (fK (aM g v)):=by
 have h3:aM g v=0∨aM g v=1∨aM g v=2:=by omega
 rcases h3 with h|h|h
 ·rw[yI h,h];have:=n6 (v:=v) hs.i64;unfold aY at this;exact this
 ·rw[yJ h,h];split<;>exact ⟨by decide,by decide⟩
 rw[I5 h,h];have:=Nj h hs h64 hv;rw[PF h] at this;exact this
theorem Mg (hs:bE g s) (h64:k5 s) {v:Int} (hv:v<g.v.length∧0≤v) (ht:0≤aM g v∧aM g v≤2) (h:dD (dV g s v) (lv l v)):dD (dV g s v) (mu g l v):=jL h (yK hs h64 hv ht)
theorem ld:aW 4=[0,0]∧aW 13=[2,0]∧aW 25=[0,0]∧aW 26=[0,2]:=by decide
theorem kp:dq 4=0∧dq 7=1∧dq 8=1∧dq 9=1∧dq 10=1∧dq 11=1∧dq 13=0∧dq 25=0∧dq 26=0:=by decide
theorem jM:bF 4=true∧bF 7=true∧bF 8=true∧bF 9=true∧bF 10=true∧bF 11=true∧bF 13=true∧bF 25=true∧bF 26=true:=by decide
theorem OH {x:aB} (hs:∀v∈x.args,dD (dV g s v) (mu g l v)):(0<x.args.length→dD (dV g s (dH x)) (ra (dy g l x) 0))∧(1<x.args.length→dD (dV g s (fw x)) (ra (dy g l x) 1)):=by
 constructor
 ·intro h;rw[kZ];unfold dH;rw[qt h];exact hs _ (qx h)
 intro h;rw[kZ];unfold fw;rw[qt h];exact hs _ (qx h)
theorem Mh {x:aB} (hok:∀u:Int,0≤u→bw (lv l u)) (h0:∀v∈x.args,0≤v) (i:Nat):bw (ra (dy g l x) i):=by
 rw[kZ];split
 ·rename_i v h;exact qP hok (h0 v (w5 h))
 exact ⟨⟨by decide,by decide⟩,by decide,by decide⟩
set_option maxHeartbeats 4000000 in
theorem Lm {x:aB} {chk:Bool} (hs:bE g s) (h64:k5 s) (hF:dT g x) (hT:fl g x=true) (hP:PX s x) (hd0:0≤x.dst) (hty:∀v:Int,v<g.v.length∧0≤v→0≤aM g v∧aM g v≤2) (hok:∀u:Int,0≤u→bw (lv l u)) (hl:∀v∈x.args,dD (dV g s v) (lv l v))
  (hc:chk=true→∀k:Nat,k≤2→x.op=2+(k:Int)→dF k (aG s x) (bG s x)) (hpi:x.op=25→Ll x.num (aG s x) (bG s x)) (hlen:x.op=26→0≤aG s x∧aG s x<dV g s (fw x)) :
  dD (dV g s x.dst) (if (dy g l x).any nR=true then fD else nW x.op x.num (dy g l x) chk):=by
 have hv:∀v∈x.args,dD (dV g s v) (mu g l v):=fun v hm=>Mg hs h64 (bz (hF.args v hm)) (hty v (bz (hF.args v hm))) (hl v hm);have hemp:¬(dy g l x).any nR=true:=fun h=>by
  obtain ⟨r,hr,he⟩:=List.any_eq_true.1 h;obtain ⟨v,hm,rfl⟩:=List.mem_map.1 hr;have:=hv v hm;have he:=wg he;unfold dD at this;omega
 rw[if_neg hemp];obtain ⟨r0,r1⟩:=OH hv;have o0:=Mh (g:=g) (x:=x) hok (fun v hm=>(bz (hF.args v hm)).2) 0;have o1:=Mh (g:=g) (x:=x) hok (fun v hm=>(bz (hF.args v hm)).2) 1;have dst:=bz (f:=g) (v:=x.dst);have two:∀{k a b:Int},x.op=k→¬k=1→aW k=[a,b]→(aM g (dH x)=a∧aM g (fw x)=b)∧0<x.args.length∧1<x.args.length:=fun e h1 ht=>by
  have:=df hT e h1 ht;obtain ⟨h2,y,z,h3⟩:=uK this;exact ⟨h2,by rw[h3];simp,by rw[h3];simp⟩
 have one:∀{k a:Int},x.op=k→¬k=1→aW k=[a]→aM g (dH x)=a∧0<x.args.length:=fun e h1 ht=>by
  have:=df hT e h1 ht;obtain ⟨h2,y,h3⟩:=Oy this;exact ⟨h2,by rw[h3];simp⟩
 have a64:aY (aG s x):=n6 hs.i64;have b64:aY (bG s x):=n6 hs.i64;have dty:∀{k t:Int},x.op=k→¬k=1→bF k=true→dq k=t→aM g x.dst=t:=fun e h1 hm ht=>ID hT e h1 hm ht;have any:aM g x.dst=0→dD (dV g s x.dst) lQ:=fun h=>by
  rw[yI h];have:=n6 (v:=x.dst) hs.i64;unfold aY at this;exact this
 have aV:aM g (dH x)=0→dV g s (dH x)=aG s x:=fun h=>yI h;have bV:aM g (fw x)=0→dV g s (fw x)=bG s x:=fun h=>yI h;have sum:∀k:Nat,k≤2→x.op=2+(k:Int)→aW (2+(k:Int))=[0,0]→bF (2+(k:Int))=true→dq (2+(k:Int))=0→vi s.ints x.dst=IntKind.i64.wrap (iH k (aG s x) (bG s x))→dD (dV g s x.dst) (o9 k (ra (dy g l x) 0) (ra (dy g l x) 1) chk):=fun k hk e ht hm hz hval=>by
  obtain ⟨⟨k0,k1⟩,l0,l1⟩:=two e (by omega) ht;rw[yI (dty e (by omega) hm hz),hval];have q0:=r0 l0;have q1:=r1 l1;rw[aV k0] at q0;rw[bV k1] at q1;exact Nn hk o0 o1 q0 q1 fun h=>hc h k hk e
 have hop:=hF.op;have hm:bF x.op=true:=by
  rcases hF.dst with h|h
  ·omega
  exact h.1
 obtain ⟨j,hj⟩:∃j:Nat,x.op=(j:Int):=⟨x.op.toNat,by omega⟩;have hmj:=Dm j (by omega);rw[←hj,hm] at hmj;have hjl:j<27:=by omega
 have cases27:j=0∨j=1∨j=2∨j=3∨j=4∨j=5∨j=6∨j=7∨j=8∨j=9∨j=10∨j=11∨j=12∨j=13∨j=15∨j=16∨j=25∨j=26∨(j=14∨17≤j∧j≤24):=by omega
 have hV:V s x.dst=V s (dH x)→aM g x.dst=aM g (dH x)→dV g s x.dst=dV g s (dH x):=fun h hk=>by
  obtain ⟨v1,v2,v3⟩:=rO h;unfold dV;rw[hk,v1,v2,v3]
 unfold nW;rcases cases27 with rfl|rfl|rfl|rfl|rfl|rfl|rfl|rfl|rfl|rfl|rfl|rfl|rfl|rfl|rfl|rfl|rfl|rfl|hbad
 ·have e:x.op=0:=hj;simp only[e,if_true];rw[yI (dty e (by decide) kN.1 ni.1),hP.i0 e];exact ⟨Int.le_refl _,Int.le_refl _⟩
 ·have e:x.op=1:=hj;have hl1:0<x.args.length:=by rw[hF.cnt e];decide
  have hk:aM g x.dst=aM g (dH x):=by
   unfold fl at hT;rw[if_pos e] at hT;rw[wg hT];unfold dH;cases x.args<;>rfl
  simp only[e];rw[hV (hP.i1 e) hk];exact r0 hl1
 ·have e:x.op=2:=hj;simp only[e];exact sum 0 (by decide) e fi.1 kN.2.1 ni.2.1 (hP.i2 e)
 ·have e:x.op=3:=hj;simp only[e];exact sum 1 (by decide) e fi.2.1 kN.2.2.1 ni.2.2.1 (hP.i3 e)
 ·have e:x.op=4:=hj;simp only[e];exact sum 2 (by decide) e ld.1 jM.1 kp.1 (hP.i4 e)
 ·have e:x.op=5:=hj;obtain ⟨⟨k0,k1⟩,l0,l1⟩:=two e (by decide) fi.2.2.1;obtain ⟨hb,hval⟩:=hP.i5 e;simp only[e];rw[yI (dty e (by decide) kN.2.2.2.1 ni.2.2.2.1),hval];exact Np o0 o1 (aV k0▸r0 l0) (bV k1▸r1 l1) hb
 ·have e:x.op=6:=hj;obtain ⟨⟨k0,k1⟩,l0,l1⟩:=two e (by decide) fi.2.2.2.1;obtain ⟨hb,hval⟩:=hP.i6 e;simp only[e];rw[yI (dty e (by decide) kN.2.2.2.2.1 ni.2.2.2.2.1),hval];exact Nr a64 (aV k0▸r0 l0) (bV k1▸r1 l1) hb
 ·have e:x.op=7:=hj;obtain ⟨⟨k0,k1⟩,l0,l1⟩:=two e (by decide) fi.2.2.2.2.1;simp only[e];rw[yJ (dty e (by decide) jM.2.1 kp.2.1),hP.i7 e];exact OD (aV k0▸r0 l0) (bV k1▸r1 l1)
 ·have e:x.op=8:=hj;obtain ⟨⟨k0,k1⟩,l0,l1⟩:=two e (by decide) fi.2.2.2.2.2.1;simp only[e];rw[yJ (dty e (by decide) jM.2.2.1 kp.2.2.1),hP.i8 e];exact OE (aV k0▸r0 l0) (bV k1▸r1 l1)
 ·have e:x.op=9:=hj;obtain ⟨⟨k0,k1⟩,l0,l1⟩:=two e (by decide) fi.2.2.2.2.2.2.1;simp only[e];rw[yJ (dty e (by decide) jM.2.2.2.1 kp.2.2.2.1),hP.i9 e];exact OG (aV k0▸r0 l0) (bV k1▸r1 l1)
 ·have e:x.op=10:=hj;obtain ⟨k0,l0⟩:=one e (by decide) fi.2.2.2.2.2.2.2.1;have q0:=r0 l0;rw[yJ k0] at q0;simp only[e];rw[yJ (dty e (by decide) jM.2.2.2.2.1 kp.2.2.2.2.1),hP.i10 e];refine Ns q0 ?_;have hm0:dH x∈x.args:=Bq l0;rw[kZ,show x.args[0]?=some (dH x) by unfold dH;rw[qt l0];rfl];refine ui (f:=g) k0 ?_;have:=hv _ hm0;unfold dD at this;omega
 ·have e:x.op=11:=hj;obtain ⟨⟨k0,k1⟩,l0,l1⟩:=two e (by decide) fi.2.2.2.2.2.2.2.2.1;have q0:=r0 l0;have q1:=r1 l1;rw[yJ k0] at q0;rw[yJ k1] at q1;simp only[e];rw[yJ (dty e (by decide) jM.2.2.2.2.2.1 kp.2.2.2.2.2.1),hP.i11 e];refine Nt q0 q1 ?_ ?_
  ·rw[kZ,show x.args[0]?=some (dH x) by unfold dH;rw[qt l0];rfl];refine ui (f:=g) k0 ?_;have:=hv _ (Bq l0);unfold dD at this;omega
  rw[kZ,show x.args[1]?=some (fw x) by unfold fw;rw[qt l1];rfl];refine ui (f:=g) k1 ?_;have:=hv _ (IH l1);unfold dD at this;omega
 ·have e:x.op=12:=hj;obtain ⟨k0,l0⟩:=one e (by decide) fi.2.2.2.2.2.2.2.2.2.1;obtain ⟨h1,h2⟩:=hP.i12 e;have q0:=r0 l0;rw[I5 k0] at q0;simp only[e];rw[yI (dty e (by decide) kN.2.2.2.2.2.1 ni.2.2.2.2.2.1),h2];unfold rG at h1 ⊢;rw[if_neg (by omega)] at q0;exact q0
 ·have e:x.op=13:=hj;simp only[e];exact any (dty e (by decide) jM.2.2.2.2.2.2.1 kp.2.2.2.2.2.2.1)
 ·have e:x.op=15:=hj;obtain ⟨k0,l0⟩:=one e (by decide) fi.2.2.2.2.2.2.2.2.2.2.1;have kd:=dty e (by decide) kN.2.2.2.2.2.2.1 ni.2.2.2.2.2.2.1;obtain ⟨h1,h2⟩:=hP.i15 e;have q0:=r0 l0;rw[aV k0] at q0;have ht:=yK hs h64 (hF.d e rfl) (hty _ (hF.d e rfl));rw[kd] at ht;have hval:dV g s x.dst=aG s x:=by rw[I5 kd,if_neg (by omega),h2]
  rw[hval] at ht ⊢;simp only[e];exact jL q0 ht
 ·have e:x.op=16:=hj;have kd:=dty e (by decide) kN.2.2.2.2.2.2.2 ni.2.2.2.2.2.2.2;simp only[e];rw[I5 kd,hP.i16 e,if_pos (by decide)];exact ⟨Int.le_refl _,Int.le_refl _⟩
 ·have e:x.op=25:=hj;obtain ⟨⟨k0,k1⟩,l0,l1⟩:=two e (by decide) ld.2.2.1;have kd:=dty e (by decide) jM.2.2.2.2.2.2.2.1 kp.2.2.2.2.2.2.2.1;have hval:=hV (hP.i25 e) (by rw[kd,k0]);simp only[e];rw[hval,aV k0];exact I4 a64 b64 (aV k0▸r0 l0) (bV k1▸r1 l1) (hpi e)
 ·have e:x.op=26:=hj;obtain ⟨⟨k0,k1⟩,l0,l1⟩:=two e (by decide) ld.2.2.2;have kd:=dty e (by decide) jM.2.2.2.2.2.2.2.2 kp.2.2.2.2.2.2.2.2;have hval:=hV (hP.i26 e) (by rw[kd,k0]);obtain ⟨h1,h2⟩:=hlen e;have q1:=r1 l1;have t1:=yK hs h64 (hF.a1 l1) (hty _ (hF.a1 l1));rw[k1] at t1;simp only[e];rw[hval,aV k0];have hb0:dD (aG s x) (0,gW):=⟨h1,a64.2⟩;refine I4 (num:=0) a64 (y:=dV g s (fw x)) ?_ (jL (aV k0▸r0 l0) hb0) q1 ⟨fun _=>h2,fun h=>(by cases h),fun h=>(by cases h),fun h=>(by cases h),fun h=>(by cases h)⟩;have t1:(0:Int)≤dV g s (fw x)∧dV g s (fw x)≤64:=t1;unfold aY;omega
 exfalso
 have:j=14∨j=17∨j=18∨j=19∨j=20∨j=21∨j=22∨j=23∨j=24:=by omega
 rcases this with rfl|rfl|rfl|rfl|rfl|rfl|rfl|rfl|rfl<;>cases hmj
end
section
variable {f:ab} (hR:bq f)
include hR
theorem jU {u:Int} (h:0≤u∧u<(f.v.length+(cg f).rts.length:Nat)):bn (bh f) u=true:=by
 have:=(fH hR).len;unfold bn;simp only[wc,wi];omega
theorem BI {u:Int} (h:bn f u=true):bn (bh f) u=true:=jU hR (by have:=bz h;omega)
theorem xg {b:Int}:eQ (bh f) b=eQ f b:=by unfold eQ;rw[cX hR]
theorem BJ:(bh f).q.map (·.name)=f.q.map (·.name):=by
 apply List.ext_getElem?;intro k;rw[w3,w3]
 by_cases hk:k<f.q.length
 ·obtain ⟨c,_,hg,_,hk2⟩:=ef hR (i:=(k:Int)) (by omega) (by omega);rw[Int.toNat_natCast] at hg;have hb:f.q[k]?=some (aQ f k):=dY (b:=(k:Int)) (by omega) (by omega);rw[hg,hb];exact congrArg some hk2.name
 rw[List.getElem?_eq_none (by rw[cX hR];omega),List.getElem?_eq_none (by omega)]
theorem Gr (hv:(bh f).v.length≤512):∀i (h:i<(bh f).v.length),Fy (bh f) i (bh f).v[i]:=fun i h=>by
 have hle:=(ko f).le;obtain ⟨js,e,h2,h3,_⟩:=ko f;have hget:(bh f).v[i]?=(f.v++js.map (fun j=>(⟨kC j,0⟩:lg)))[i]?:=by rw[e]
 rw[qt h] at hget
 by_cases hi:i<f.v.length
 ·rw[List.getElem?_append_left hi,qt hi] at hget;have hget:=Option.some.inj hget;rw[hget];obtain ⟨g1,g2,g3,g4⟩:=hR.hS.2.2.1 i hi;refine ⟨g1,g2,g3,fun s hs=>g4 s ?_⟩;rw[e,List.take_append_of_le_length (by omega)] at hs;exact hs
 rw[List.getElem?_append_right (by omega),w3] at hget;obtain ⟨j,hj,hje⟩:=Option.map_eq_some_iff.1 hget.symm;have hjm:=w5 hj;have hjk:=h3 j hjm;rw[←hje];refine ⟨I1 (by omega),Int.le_refl _,by show (0:Int)≤2;decide,fun s hs=>?_⟩;show s≠kC j;rw[e,List.take_append,w7] at hs;rcases List.mem_append.1 hs with hs|hs
 ·obtain ⟨v,hvm,rfl⟩:=List.mem_map.1 hs;intro e2;have:gB f j=true:=List.any_eq_true.2 ⟨v,List.mem_of_mem_take hvm,wa e2⟩;rw[this] at hjk;cases hjk.2
 obtain ⟨w,hw,rfl⟩:=List.mem_map.1 hs;obtain ⟨q,hq⟩:=List.getElem?_of_mem hw;rw[List.getElem?_take] at hq;split at hq
 ·rename_i hqi;rw[w3] at hq;obtain ⟨j2,hj2,rfl⟩:=Option.map_eq_some_iff.1 hq;intro e2;have e3:j2=j:=uX e2;obtain ⟨q1,q2⟩:=List.getElem?_eq_some_iff.1 hj2;obtain ⟨p1,p2⟩:=List.getElem?_eq_some_iff.1 hj;have:=List.pairwise_iff_getElem.1 h2 q (i - f.v.length) q1 p1 hqi;omega
 cases hq
theorem Gs {i:Int} (h0:0≤i) (h1:i<f.q.length) {c:aF} (hk:ob f (cg f).rts i c) {k:Nat} {x:aB} (hx:c.s[k]?=some x):pp (bh f) x∧fl (bh f) x=true:=by
 have hP:=fH hR;have hargs:=EP hR hk hx;have hall:x.args.all (bn (bh f))=true:=List.all_eq_true.2 fun u hu=>jU hR (hargs u hu);have hroot:∀u∈x.args,aM (bh f) u=aM f (cY f.v.length (cg f).rts u):=fun u hu=>nM hR (hargs u hu).1 (by rw[hP.len];exact (hargs u hu).2);have old:∀{q:Nat} {y:aB},c.s[q]?=some y→y.op≠25→y.op≠26→∃z∈(aQ f i).s,Bv f.v.length (cg f).rts z y:=fun {q y} hy h1 h2=>by
  have:=hk.frm q y hy
  generalize c.s.take q=Mq0 at this
  cases this with
  |old hz hI=>exact ⟨_,hz,hI⟩
  |pi=>exact absurd rfl h1
  |len=>exact absurd rfl h2
 have hbm:=cU h0 h1;have hTb:=hR.hT _ hbm;unfold gX at hTb;simp only[wc] at hTb;have hF:=hk.frm k x hx
 generalize hL:c.s.take k=L at hF
 cases hF with
 |old hy hI=>
  rename_i y;obtain ⟨p1,p2,p3,p4⟩:=(hR.hS.2.2.2.2.2 _ hbm).2.1 y hy;have hTy:=List.all_eq_true.1 hTb.1.2 y hy;have hlen:x.args.length=y.args.length:=by rw[←hI.args,w2]
  have hkinds:x.args.map (aM (bh f))=y.args.map (aM f):=by
   rw[←hI.args,List.map_map];exact List.map_congr_left hroot
  have hdk:0≤y.dst→y.dst<f.v.length→aM (bh f) y.dst=aM f y.dst:=fun g0 g1=>by
   obtain ⟨l,hl⟩:=hP.v;unfold aM;rw[hl,List.getElem?_append_left (by omega)]
  refine ⟨⟨by rw[hI.op];exact p1,by rw[hI.op];exact p2,?_,hall⟩,?_⟩
  ·unfold mE kH at p3 ⊢;rw[hI.op,hI.dst,hI.num,hlen];simp only[Bool.or_eq_false_iff,Bool.not_eq_false',Bool.and_eq_false_iff] at p3 ⊢;refine ⟨p3.1,p3.2.1,p3.2.2.1.imp id fun h=>BI hR h,p3.2.2.2⟩
  have hF2:=(hR.run.s _ hbm y hy).1;unfold fl at hTy ⊢;rw[hI.op,hI.dst]
  by_cases e1:y.op=1
  ·rw[if_pos e1] at hTy ⊢;have hd:=bz (f:=f) (v:=y.dst);have hyd:=hF2.d e1 rfl;rw[hdk hyd.2 hyd.1];have hl1:y.args.length=1:=hF2.cnt e1
   match hxa:x.args,hya:y.args,hkinds,hl1 with
   |[a],[b],hk3,_=>
    simp only[List.map_cons,List.map_nil,List.cons.injEq,and_true] at hk3;rw[hya] at hTy;show decide (aM f y.dst=aM (bh f) a)=true;rw[hk3];exact hTy
   |[],[b],hk3,_=>cases hk3
   |a::b::r,[d],hk3,_=>simp at hk3
  rw[if_neg e1] at hTy ⊢;rw[wc] at hTy ⊢;rw[hkinds];refine ⟨hTy.1,?_⟩;have h2:=hTy.2;rw[Bool.or_eq_true] at h2 ⊢
  by_cases hm:bF y.op=true
  ·refine h2.imp id fun h=>?_;rcases hF2.dst with g|g
   ·rw[g.1] at hm;cases hm
   have:=bz g.2.2;rw[hdk this.2 this.1];exact h
  exact .inl (by rw[Bool.not_eq_true'] ;exact Bool.eq_false_iff.2 hm)
 |@pi l d a b n r hd ha hb hrt hr h=>
  have hk:=OC hR i r hr;have ka:=hroot a (.head _);have kb:=hroot b (.tail _ (.head _));have k0:aM f (cY f.v.length (cg f).rts a)=0∧aM f (cY f.v.length (cg f).rts b)=0:=by
   rcases h with ⟨h1,h2,_⟩|⟨h1,h2,_⟩
   ·rw[h1,h2];exact hk
   rw[h1,h2];exact ⟨hk.2,hk.1⟩
  refine ⟨⟨by show (0:Int)≤25;decide,by show (25:Int)≤26;decide,Lj (jU hR ⟨by omega,hd.2⟩),hall⟩,?_⟩;have hkd:aM (bh f) d=0:=u4 hd.1 (by rw[hP.len];exact hd.2);show (if (25:Int)=1 then _ else decide ([aM (bh f) a,aM (bh f) b]=aW 25)&&(!bF 25||decide (aM (bh f) d=dq 25)))=true;rw[if_neg (by decide),ka,kb,k0.1,k0.2,hkd,ld.2.2.1,kp.2.2.2.2.2.2.2.1];simp
 |@len l d a b e m hd ha hrt=>
  have hkl:=(List.getElem?_eq_some_iff.1 hx).1;have h2:=congrArg List.length hL;rw[w9,qz] at h2;simp at h2;have hc:c.s[l.length]?=some ⟨18,e,[b,a],m⟩:=by
   have h3:(c.s.take k)[l.length]?=some ⟨18,e,[b,a],m⟩:=by rw[hL,List.getElem?_append_right (Nat.le_refl _),Nat.sub_self];rfl
   rw[List.getElem?_take] at h3;split at h3
   ·exact h3
   cases h3
  obtain ⟨z,hz,hI⟩:=old hc (show (18:Int)≠25 by decide) (show (18:Int)≠26 by decide);have hTz:=List.all_eq_true.1 hTb.1.2 z hz;have ht:z.args.map (aM f)=[2,0]:=df (k:=18) hTz hI.op.symm (by decide) (by decide);have hargs2:[cY f.v.length (cg f).rts b,cY f.v.length (cg f).rts a]=z.args:=hI.args;rw[←hargs2] at ht;simp at ht;have ka:=hroot a (.head _);have kb:=hroot b (.tail _ (.head _));refine ⟨⟨by show (0:Int)≤26;decide,by show (26:Int)≤26;decide,Lk (jU hR ⟨by omega,hd.2⟩),hall⟩,?_⟩;have hkd:aM (bh f) d=0:=u4 hd.1 (by rw[hP.len];exact hd.2);show (if (26:Int)=1 then _ else decide ([aM (bh f) a,aM (bh f) b]=aW 26)&&(!bF 26||decide (aM (bh f) d=dq 26)))=true;rw[if_neg (by decide),ka,kb,ht.1,ht.2,hkd,ld.2.2.2,kp.2.2.2.2.2.2.2.2];simp
theorem I6 {u:Int} (h0:0≤u) (h1:u<f.v.length):aM (bh f) u=aM f u:=by
 have:=(fH hR).len;rw[nM hR h0 (by omega),nj h1]
theorem I7 {i:Int} (h0:0≤i) (h1:i<f.q.length) {p:dh} (hp:p∈(aQ f i).p):tB (bh f) (ga (cg f).ends p)∧o5 (bh f) (ga (cg f).ends p)=true:=by
 have hbm:=cU h0 h1;obtain ⟨p1,p2,p3,p4,p5⟩:=hR.run.p _ hbm p hp;have hT:=hR.hT _ hbm;unfold gX at hT;simp only[wc] at hT;have hTp:=List.all_eq_true.1 hT.1.1 p hp;have hl:(ga (cg f).ends p).args.length=p.args.length:=by
  show ((p.args.zip p.w).map _).length=_;rw[w2,List.length_zip,p2,Nat.min_self]
 have hd:=bz p1;have harg:∀u∈(ga (cg f).ends p).args,bn (bh f) u=true∧aM (bh f) u=aM f p.dst:=fun u hu=>by
  obtain ⟨z,hz,rfl⟩:=List.mem_map.1 (show u∈(p.args.zip p.w).map fun q=>vi (fq (cg f).ends q.2) q.1 from hu);have hzm:=List.of_mem_zip hz;have hva:=bz (List.all_eq_true.1 p4 _ hzm.1);have hfr:0≤z.2∧z.2<f.q.length:=by
   have h7:=List.all_eq_true.1 p5 _ hzm.2;unfold eQ at h7;simp only[wc,wi] at h7;exact h7
  have hnow:=((me hR).ends z.2 (hR.ordAll hfr)).rt z.1 hva.2 hva.1;have hlt:vi (fq (cg f).ends z.2) z.1<(bh f).v.length:=hnow.1.2;refine ⟨jU hR ⟨hnow.1.1,by rw[←(fH hR).len];exact hlt⟩,?_⟩;rw[nM hR hnow.1.1 hlt,hnow.2];unfold o5 at hTp;rw[Bool.not_eq_true',List.any_eq_false] at hTp;have:=hTp z.1 hzm.1
  simpa using this
 refine ⟨⟨BI hR p1,hl.trans p2,by rw[hl];exact p3,List.all_eq_true.2 fun u hu=>(harg u hu).1,List.all_eq_true.2 fun b hb=>by rw[xg hR];exact List.all_eq_true.1 p5 b hb⟩,?_⟩;unfold o5;rw[Bool.not_eq_true',List.any_eq_false];intro u hu;have e:(ga (cg f).ends p).dst=p.dst:=rfl;rw[(harg u hu).2,e,I6 hR hd.2 hd.1];simp
theorem Gt {i:Int} (h0:0≤i) (h1:i<f.q.length) {c:aF} (hk:ob f (cg f).rts i c):bP (bh f) c.t=true∧eK (bh f) c.t=true:=by
 have hbm:=cU h0 h1;have h2:=(hR.hS.2.2.2.2.2 _ hbm).2.2;have hT:=hR.hT _ hbm;unfold gX at hT;simp only[wc] at hT;have h3:=hT.2;have hkd:=hk.kind;have ht0:=hk.to0;have ht1:=hk.to1;unfold bP eK at *;rw[hkd,ht0,ht1];simp only[xg hR]
 by_cases e0:(aQ f i).t.kind=0
 ·rw[if_pos e0] at h2 h3 ⊢;rw[if_pos e0,hk.var0 e0];exact ⟨h2,h3⟩
 rw[if_neg e0] at h2 h3 ⊢;rw[if_neg e0];obtain ⟨hv,hr⟩:=hk.var e0;have hhv:bn (bh f) c.t.var=true:=jU hR hv;have hkv:aM (bh f) c.t.var=aM f (aQ f i).t.var:=by
  rw[nM hR hv.1 (by rw[(fH hR).len];exact hv.2),hr]
 rw[hhv,hkv];refine ⟨?_,h3⟩;split at h2
 ·rename_i e1;rw[if_pos e1];simp only[wc] at h2 ⊢;exact ⟨⟨trivial,h2.1.2⟩,h2.2⟩
 rename_i e1;rw[if_neg e1];split at h2
 ·rename_i e2;rw[if_pos e2];simp only[wc] at h2 ⊢;exact ⟨trivial,h2.2⟩
 cases h2
theorem rm {b:aF} (hb:b∈(bh f).q):CK (bh f) b∧gX (bh f) b=true:=by
 obtain ⟨k,hk⟩:=List.getElem?_of_mem hb;have hkl:=(List.getElem?_eq_some_iff.1 hk).1;rw[cX hR] at hkl;obtain ⟨c,hc,hg,_,hok⟩:=ef hR (i:=(k:Int)) (by omega) (by omega);rw[Int.toNat_natCast,hk] at hg;cases hg;have hphi:∀p∈(aQ f (k:Int)).p.map (ga (cg f).ends),tB (bh f) p∧o5 (bh f) p=true:=fun p hp=>by
  obtain ⟨q,hq,rfl⟩:=List.mem_map.1 hp;exact I7 hR (by omega) (by omega) hq
 have hins:∀x∈c.s,pp (bh f) x∧fl (bh f) x=true:=fun x hx=>by
  obtain ⟨q,hq⟩:=List.getElem?_of_mem hx;exact Gs hR (by omega) (by omega) hok hq
 have htm:=Gt hR (by omega) (by omega) hok;refine ⟨⟨fun p hp=>(hphi p hp).1,fun x hx=>(hins x hx).1,htm.1⟩,?_⟩;unfold gX;rw[wc,wc];exact ⟨⟨List.all_eq_true.2 fun p hp=>(hphi p hp).2,List.all_eq_true.2 fun x hx=>(hins x hx).2⟩,htm.2⟩
theorem nl (hv:(bh f).v.length≤512) (hn:eu (bh f).q≤1024):bN (bh f):=by
 obtain ⟨s1,s2,s3,s4,s5,s6⟩:=hR.hS;have hle:=(fH hR).len;have hbn:=BJ hR;refine ⟨?_,s2,Gr hR hv,fun i h=>?_,hn,fun b hb=>(rm hR hb).1⟩
 ·unfold nP at s1 ⊢;simp only[Bool.or_eq_false_iff,decide_eq_false_iff_not] at s1 ⊢;have hpar:(bh f).z=f.z:=rfl;rw[cX hR,hpar];omega
 have hi:i<f.q.length:=by rw[←cX hR];exact h
 obtain ⟨g1,g2⟩:=s4 i hi;have e:((bh f).q.map (·.name))[i]?=(f.q.map (·.name))[i]?:=by rw[hbn]
 rw[w3,w3,qt h,qt hi] at e;have e:(bh f).q[i].name=f.q[i].name:=Option.some.inj e;refine ⟨by rw[e];exact g1,fun s hs=>?_⟩;rw[e];refine g2 s ?_;rw[List.map_take,hbn,←List.map_take] at hs;exact hs
theorem Du (hv:(bh f).v.length≤512) (hn:eu (bh f).q≤1024):bv (bh f)=true:=by
 unfold bv;rw[wc,ij];exact ⟨wa (nl hR hv hn),List.all_eq_true.2 fun b hb=>(rm hR hb).2⟩
end
end
section
open Go.Proofs.Tryz
open Go.Proofs Go.Lib
theorem u6 {f:ab} (h:bN f) (h64:∀b∈f.q,∀x∈b.s,aY x.num):qZ f:=by
 have h1:=h.1;unfold nP at h1;simp only[Bool.or_eq_false_iff,decide_eq_false_iff_not] at h1;obtain ⟨_,_,_,_,_,h6⟩:=h;exact ⟨by omega,fun b hb=>(h6 b hb).1,fun b hb x hx=>⟨fG ((h6 b hb).2.1 x hx),h64 b hb x hx⟩,fun b hb=>(h6 b hb).2.2⟩
theorem nm {f:ab} (h:bN f):f.z.length≤f.v.length:=by
 have h1:=h.1;unfold nP at h1;simp only[Bool.or_eq_false_iff,decide_eq_false_iff_not] at h1;omega
theorem u7 {f:ab} (h:bN f) (j:Nat):0≤nJ f j∧nJ f j≤2:=by
 obtain ⟨_,_,h3,_⟩:=h;unfold nJ
 by_cases hj:j<f.v.length
 ·rw[qt hj];exact ⟨(h3 j hj).2.1,(h3 j hj).2.2.1⟩
 rw[List.getElem?_eq_none (by omega)];exact ⟨by decide,by decide⟩
end
section
open Go.Proofs.Tryz
open Go.Proofs
section
variable (f:ab)
theorem yL (p:gL) (v:Int) (x:aB):(fp f p v x).2.length+p.1.v.length=p.2.length+(fp f p v x).1.v.length:=by
 unfold fp;split
 ·rfl
 show (p.2++[_]).length+_=_+(p.1.v++[_]).length;rw[qz,qz];show p.2.length+1+_=_+(_+1);omega
theorem BK:∀(l:List uI) (p:gL),(l.foldl (gZ f) p).2.length+p.1.v.length=p.2.length+(l.foldl (gZ f) p).1.v.length
 |[],_=>rfl
 |r::l,p=>by
  have h1:=BK l (gZ f p r);have h2:=yL f p r.a ⟨25,0,[vi p.1.now r.a,vi p.1.now r.b],r.n⟩;have h3:=yL f (fp f p r.a ⟨25,0,[vi p.1.now r.a,vi p.1.now r.b],r.n⟩) r.b ⟨25,0,[vi p.1.now r.b,vi p.1.now r.a],lF r.n⟩;have h4:gZ f p r=fp f (fp f p r.a ⟨25,0,[vi p.1.now r.a,vi p.1.now r.b],r.n⟩) r.b ⟨25,0,[vi p.1.now r.b,vi p.1.now r.a],lF r.n⟩:=rfl;rw[←h4] at h3;rw[List.foldl_cons];omega
theorem BL:∀(l:List aB) (p:gL),(l.foldl (gC f) p).2.length+p.1.v.length=p.2.length+l.length+(l.foldl (gC f) p).1.v.length
 |[],_=>rfl
 |x::l,p=>by
  have h1:=BL l (gC f p x);have h2:(gC f p x).2.length+p.1.v.length=p.2.length+1+(gC f p x).1.v.length:=by
   unfold gC;split
   ·have:=yL f (p.1,p.2++[gM p.1 x]) (fw x) ⟨26,0,[vi p.1.now (fw x),vi p.1.now (dH x)],0⟩;have h5:((p.2++[gM p.1 x]).length:Nat)=p.2.length+1:=qz;have h6:((p.1,p.2++[gM p.1 x]):gL).2.length=p.2.length+1:=h5;have h7:((p.1,p.2++[gM p.1 x]):gL).1.v.length=p.1.v.length:=rfl;omega
   show (p.2++[_]).length+_=_;rw[qz];rfl
  rw[List.foldl_cons,List.length_cons];omega
theorem Ln (S:sr) (b:Int):(dU f S b).2.length+S.v.length=(aQ f b).s.length+(dU f S b).1.v.length:=by
 have h1:=BK f (jT f b) (S,[]);have h2:=BL f (aQ f b).s ((jT f b).foldl (gZ f) (S,[]));have h3:((S,[]):gL).2.length=0:=rfl;have h4:((S,[]):gL).1.v.length=S.v.length:=rfl;unfold dU;omega
def ss (W:vQ):Prop:=f.v.length≤W.v.length∧∀(k:Nat) (c:aF),W.blks[k]?=some c→c.s.length+f.v.length≤W.v.length+(aQ f k).s.length
theorem ss.first:ss f (yF f):=⟨Nat.le_refl _,fun k c hc=>by
 have hc:(List.replicate f.q.length Bu)[k]?=some c:=hc;rw[List.getElem?_replicate] at hc;split at hc
 ·cases hc;show 0+f.v.length≤f.v.length+_;omega
 cases hc⟩
theorem ss.step {W:vQ} (h:ss f W) {b:Int} (h0:0≤b):ss f (k8 f W b):=by
 obtain ⟨h1,h2⟩:=h;have hl:=Ln f (dP f W b) b;obtain ⟨⟨vs,hvs⟩,_⟩:=xb f (dP f W b) b;have hvl:=congrArg List.length hvs;rw[qz] at hvl;have e:(dP f W b).v.length=W.v.length:=rfl;have e2:(k8 f W b).v=(dU f (dP f W b) b).1.v:=rfl;refine ⟨by rw[e2];omega,fun k c hc=>?_⟩;rw[e2];have hc:(W.blks.set b.toNat ⟨(aQ f b).name,[],(dU f (dP f W b) b).2,f6 (dU f (dP f W b) b).1 (aQ f b).t⟩)[k]?=some c:=hc;rw[List.getElem?_set] at hc;split at hc
 ·rename_i hk;split at hc
  ·cases hc;have:(k:Int)=b:=by omega
   rw[this];show (dU f (dP f W b) b).2.length+_≤_;omega
  cases hc
 have:=h2 k c hc;omega
theorem ss.all:∀(l:List Int) {W:vQ},ss f W→(∀b∈l,0≤b)→ss f (l.foldl (k8 f) W)
 |[],_,h,_=>h
 |b::l,_,h,hn=>ss.all l (h.step f (hn b (.head _))) fun u hu=>hn u (.tail _ hu)
end
theorem BM:(List.range 513).all (fun i=>decide ((kC i).size≤1000))=true:=by decide +kernel
section
variable {f:ab} (hR:bq f)
include hR
theorem BN:ss f (cg f):=ss.all f _ (ss.first f) fun b hb=>(gU hR _ 0 ⟨Int.le_refl _,by have:=hR.hE.pos;omega⟩ b hb).2.1
theorem Dv (hf:small f) (hi:∀b∈f.q,b.s.length≤400) (hv:(bh f).v.length≤512):small (bh f):=by
 obtain ⟨s1,s2,s3,s4,s5⟩:=hf;have hle:=(ko f).le;obtain ⟨js,e,_,g3,_⟩:=ko f;refine ⟨by omega,s2,by rw[cX hR];exact s3,fun v hm=>?_,fun b hb=>?_⟩
 ·rw[e] at hm;rcases List.mem_append.1 hm with hm|hm
  ·exact s4 v hm
  obtain ⟨j,hj,rfl⟩:=List.mem_map.1 hm;have:=(g3 j hj).1;exact wg (List.all_eq_true.1 BM j (List.mem_range.2 (by omega)))
 obtain ⟨k,hk⟩:=List.getElem?_of_mem hb;have hkl:=(List.getElem?_eq_some_iff.1 hk).1;rw[cX hR] at hkl;obtain ⟨c,hc,hg,_,hok⟩:=ef hR (i:=(k:Int)) (by omega) (by omega);rw[Int.toNat_natCast] at hg hc;rw[hk] at hg;cases hg;have hbm:aQ f (k:Int)∈f.q:=cU (by omega) (by omega);obtain ⟨b1,b2,b3,b4,b5⟩:=s5 _ hbm;have hcl:=(BN hR).2 k c hc;have hvl:(cg f).v.length≤512:=hv;have hil:=hi _ hbm;have hcn:=hok.name;refine ⟨by show c.name.size≤1000;rw[hcn];exact b1,by show (List.map _ _).length≤1000;rw[w2];exact b2,by show c.s.length≤1000;omega,fun p hp=>?_,fun x hx=>?_⟩
 ·obtain ⟨q,hq,rfl⟩:=List.mem_map.1 (show p∈(aQ f (k:Int)).p.map (ga (cg f).ends) from hp);have:=b4 q hq;refine ⟨?_,this.2⟩;show ((q.args.zip q.w).map _).length≤1000;rw[w2,List.length_zip];omega
 have hx:x∈c.s:=hx;obtain ⟨q,hq⟩:=List.getElem?_of_mem hx;have hF:=hok.frm q x hq
 generalize c.s.take q=L at hF
 cases hF with
 |old hy hI=>
  rename_i y;have:=b5 y hy;have h2:=congrArg List.length hI.args;rw[w2] at h2;omega
 |pi=>show 2≤1000;decide
 |len=>show 2≤1000;decide
theorem BO:∀b∈(bh f).q,∀x∈b.s,aY x.num:=fun b hb x hx=>by
 obtain ⟨k,hk⟩:=List.getElem?_of_mem hb;have hkl:=(List.getElem?_eq_some_iff.1 hk).1;rw[cX hR] at hkl;obtain ⟨c,hc,hg,_,hok⟩:=ef hR (i:=(k:Int)) (by omega) (by omega);rw[Int.toNat_natCast,hk] at hg;cases hg;have hx:x∈c.s:=hx;obtain ⟨q,hq⟩:=List.getElem?_of_mem hx;have hF:=hok.frm q x hq
 generalize c.s.take q=L at hF
 cases hF with
 |old hy hI=>rw[hI.num];exact (hR.run.s _ (cU (by omega) (by omega)) _ hy).2
 |@pi l d a b n r hd ha hb hrt hr h=>
  have hN:=(Nl hR (k:Int) r hr).2;show aY n;rcases h with ⟨_,_,h⟩|⟨_,_,h⟩
  ·rw[h];exact ⟨by omega,by omega⟩
  rw[h];unfold lF;split
  ·exact ⟨by decide,by decide⟩
  split
  ·exact ⟨by decide,by decide⟩
  exact ⟨by decide,by decide⟩
 |len=>exact (show aY (0:Int) from ⟨by decide,by decide⟩)
theorem xh (hv:(bh f).v.length≤512) (hn:eu (bh f).q≤1024):bq (bh f) where
 hT:=fun b hb=>(rm hR hb).2
 hS:=nl hR hv hn
 hE:=BG hR
 hs:=Gn hR
 hO:=rl hR
 run:=u6 (nl hR hv hn) (BO hR)
end
end
section
open Go.Proofs.Tryz
open Go.Proofs Go.Lib Go.Shelf Go.RowKit
theorem xi:∀(n k:Nat),k≤n→xa n k=decDigits k
 |0,k,h=>by
  have:k=0:=by omega
  subst this;rw[decDigits,dif_pos (by omega)];rfl
 |n+1,k,h=>by
  unfold xa;split
  ·rename_i c;rw[decDigits,dif_pos c]
  rename_i c;rw[decDigits.eq_1 k,dif_neg c,xi n (k / 10) (by omega)]
theorem I8 (k:Nat):Dp k=decDigits k:=xi k k (Nat.le_refl _)
theorem I9 (k:Nat):kC k=qH (120::decDigits k):=by rw[←I8];rfl
def vR (y:Nat) (acc:List UInt8):List UInt8:=if y=0∧acc≠[] then acc else decDigits y++acc
theorem Gu {y:Nat} {acc:List UInt8} (h:0<y∨acc=[]):vR (y / 10) (UInt8.ofNat (48+y % 10)::acc)=vR y acc:=by
 have e:vR (y / 10) (UInt8.ofNat (48+y % 10)::acc)=LZ (y / 10) (UInt8.ofNat (48+y % 10)::acc):=by
  unfold vR LZ
  by_cases h0:y / 10=0
  ·rw[if_pos ⟨h0,by simp⟩,if_pos h0]
  rw[if_neg (fun k=>h0 k.1),if_neg h0]
 rw[e]
 by_cases h0:0<y
 ·rw[Af acc h0];unfold LZ vR;rw[if_neg (by omega),if_neg (fun k=>by omega)]
 have hy:y=0:=by omega
 have ha:acc=[]:=h.resolve_left h0;subst hy ha;rw[Fx 0];unfold vR;rw[if_neg (fun k=>k.2 rfl),w8]
theorem Ja (f:ab) {k j:Nat} (h0:k≤j) (h1:j≤f9 f k) (h:gB f j=false):j=f9 f k:=by
 by_cases e:j<f9 f k
 ·rw[rP f k j h0 e] at h;cases h
 omega
theorem Jb (f:ab) {k j:Nat} (h1:j≤f9 f k) (h:gB f j=true):j<f9 f k:=by
 by_cases e:j=f9 f k
 ·rw[e,uZ] at h;cases h
 omega
def vS (f:ab) (b k:Int):Bool:=!decide (k=b)&&(domF f b k&&decide (nearD f k=b))
def vT (f:ab) (n:Nat) (b:Int) (k:Nat):List Int:=b::(((ba f.q.length).take k).filter (vS f b)).flatMap (iD f n)
theorem Gw {f:ab} {n:Nat} {b:Int} {k:Nat} (hk:k<f.q.length):vT f n b (k+1)=vT f n b k++if vS f b k=true then iD f n k else[]:=by
 have hg:(ba f.q.length)[k]?=some (k:Int):=by unfold ba;rw[w3,List.getElem?_range hk];rfl
 unfold vT;rw[List.take_add_one,hg,List.filter_append,List.flatMap_append];show b::(_++_)=_;rw[←List.cons_append]
 congr 1
 show List.flatMap _ (List.filter _ [(k:Int)])=_;rw[List.filter_cons];split
 ·rw[List.filter_nil,List.flatMap_cons,List.flatMap_nil,w8]
 rfl
theorem BP (f:ab) (n:Nat) (b:Int):vT f n b f.q.length=iD f (n+1) b:=by
 unfold vT;rw[List.take_of_length_le (by unfold ba;simp)];rfl
theorem Jc {f:ab} (hR:bq f) {n:Nat} {b:Int} (hb:0≤b∧b<f.q.length) (k:Nat):(vT f n b k).length≤f.q.length:=by
 have h:=uQ hR (n+1) hb;rw[←BP] at h;refine Nat.le_trans ?_ h;unfold vT;rw[List.length_cons,List.length_cons];refine Nat.succ_le_succ ?_;have e:=List.take_append_drop k (ba f.q.length);have e2:(((ba f.q.length).take f.q.length).filter (vS f b)).flatMap (iD f n)=(((ba f.q.length).take k).filter (vS f b)).flatMap (iD f n)++(((ba f.q.length).drop k).filter (vS f b)).flatMap (iD f n):=by
  rw[←List.flatMap_append,←List.filter_append,e,List.take_of_length_le (by unfold ba;simp)]
 rw[e2,qz];omega
theorem Lo {f:ab} (hR:bq f) {b c:Int} (hc:(0≤c∧c<f.q.length)∧vS f b c=true):gi (cM (aj f) f.q.length) c=gi (cM (aj f) f.q.length) b+1:=by
 have h1:=gT.1 (show c∈Bz f b from List.mem_filter.2 ⟨dR.2 hc.1,hc.2⟩);have hc0:c≠0:=fun e0=>h1.2.1 (by
  have:=(hR.domF _ _).1 h1.2.2.1;exact (cQ hR.hE.grph (e0▸.root this.rch) this))
 have hlev:=hR.hE.grph.lev_near (hR.memO h1.1) hc0;have hn:=h1.2.2.2;rw[hR.nearD h1.1,if_neg hc0] at hn;rw[hn] at hlev;exact hlev
end
section
open Go.Proofs.Tryz
open Go.Proofs
def dL (g:ab) (s:GS):List Int:=match (aQ g s.blk).s[s.pc]? with
 |some x=>if 0≤x.dst then[x.dst] else[]
 |none=>if (aQ g s.blk).t.kind=2 then[] else (aQ g (gn g s)).p.map (·.dst)
structure iE (g:ab) (l:List aO):Prop where
 ok:∀u:Int,0≤u→bw (lv l u)
 rule:∀v:Int,0≤v→v<g.v.length→0≤(aE g v).1→cJ (ly g (pB g) l v) (lv l v)
 first:∀v:Int,0≤v→v<g.v.length→(aE g v).1<0→cJ (iX g v) (lv l v)
def oS (g:ab):Prop:=∀s,k6 g s→∀(i k:Nat) (x:aB),uF g i k x→s.blk=(i:Int)→bI g ((i:Int),(k:Int)) s.blk s.pc→(x.op=25→Ll x.num (aG s x) (bG s x))∧(x.op=26→0≤aG s x∧aG s x<dV g s (fw x))
theorem pQ {g:ab} {s t:GS} (hs:bE g s) {v:Int} (hv:v<g.v.length∧0≤v) (h:V t v=V s v) (hr:∀a:Int,0≤a→a<s.y.length→(dw t a).length=(dw s a).length):dV g t v=dV g s v:=by
 obtain ⟨v1,v2,v3⟩:=mI h;unfold dV;rw[v1,v2,v3]
 by_cases h0:vi s.arrs v<0
 ·rw[if_pos h0,if_pos h0]
 rw[if_neg h0,if_neg h0,hr _ (by omega) (jJ hs hv).2]
theorem Lp {s:GS} {d:Int} {A:Act} (h0:s.ended=false) (h:(Dn s d A).ended=true):(∀v,V (Dn s d A) v=V s v)∧(Dn s d A).y=s.y:=by
 cases A with
 |stop e=>exact ⟨fun _=>rfl,rfl⟩
 |_=>exact absurd (h0.symm.trans h) (by decide)
theorem Gx {g:ab} {s:GS} (h0:s.ended=false) (h:(bx g s).ended=true):(∀v,V (bx g s) v=V s v)∧(bx g s).y=s.y:=by
 cases hx:(aQ g s.blk).s[s.pc]? with
 |some x=>
  have hst:bx g s=bc { s with pc:=s.pc+1,st:=s.st+1 } x:=by unfold bx;rw[hx]
  rw[hst] at h ⊢;unfold bc at h ⊢;split at h
  ·rename_i hc;rw[if_pos hc];split at h
   ·exact absurd (h0.symm.trans h) (by decide)
   rename_i hp;rw[if_neg hp];exact ⟨fun _=>rfl,rfl⟩
  rename_i hc;rw[if_neg hc,rg];rw[rg] at h;exact Lp (s:={ s with pc:=s.pc+1,st:=s.st+1 }) h0 h
 |none=>
  unfold bx at h ⊢;rw[hx] at h ⊢;dsimp only at h ⊢;split at h
  ·rename_i hk;rw[if_pos hk];exact ⟨fun _=>rfl,rfl⟩
  rename_i hk;rw[if_neg hk];unfold fC at h ⊢;split at h
  ·exfalso
   have:=(jK { s with st:=s.st+1 } (aQ g (gn g s)).p { s with st:=s.st+1 }).2;have h:(((aQ g (gn g s)).p.foldl (assign { s with st:=s.st+1 }) { s with st:=s.st+1 }).ended)=true:=h;rw[this] at h;exact absurd (h0.symm.trans h) (by decide)
  rename_i ha;rw[if_neg ha];exact ⟨fun _=>rfl,rfl⟩
theorem Dw {s t:GS} {p:dh} {n:Nat} (h:t.ints.length=n∧t.bools.length=n∧t.arrs.length=n):(assign s t p).ints.length=n∧(assign s t p).bools.length=n∧(assign s t p).arrs.length=n:=by
 unfold assign stA stB stI;simp[h.1,h.2.1,h.2.2]
theorem u9 {s:GS} {v a:Int} {n:Nat} (h0:0≤v) (h1:v<n):∀(l:List dh) (t:GS),(t.ints.length=n∧t.bools.length=n∧t.arrs.length=n)→(∀q∈l,0≤q.dst∧(q.dst=v→dz q s.blk=a))→(V t v=V s a∨∃q∈l,q.dst=v)→V (l.foldl (assign s) t) v=V s a
 |[],t,_,_,h=>by
  rcases h with h|⟨q,hq,_⟩
  ·exact h
  cases hq
 |p::l,t,hl,hq,h=>by
  rw[List.foldl_cons];refine u9 h0 h1 l _ (Dw hl) (fun q hm=>hq q (.tail _ hm)) ?_
  by_cases e:p.dst=v
  ·left
   have:=IA (s:=s) (t:=t) (p:=p) (by omega) (by omega) hl;rw[e] at this;rw[this,(hq p (.head _)).2 e]
  rcases h with h|⟨q,hm,hd⟩
  ·left
   rw[oO,yD (hq p (.head _)).1 h0 fun e2=>e e2.symm];exact h
  rcases List.mem_cons.1 hm with rfl|hm
  ·exact absurd hd e
  exact .inr ⟨q,hm,hd⟩
section
variable {g:ab} {l:List aO} (hR:bq g)
include hR
theorem bq.ty {v:Int} (hv:v<g.v.length∧0≤v):0≤aM g v∧aM g v≤2:=by
 have:=hR.hS.2.2.1 v.toNat (by omega);unfold aM;rw[qt (by omega)];exact ⟨this.2.1,this.2.2.1⟩
theorem bq.of_maker {i k:Nat} {x:aB} (h:uF g i k x) {v:Int} (hm:aE g v=((i:Int),(k:Int))):x.dst=v:=by
 have h1:aE g v∈aZ g v:=iA (by rw[hm];dsimp only;omega);rw[hm] at h1;obtain ⟨j,b,hb,h2⟩:=de.1 h1;rcases d8.1 h2 with ⟨p,_,_,e⟩|⟨q,y,hy,hd,e⟩
 ·simp only[Prod.mk.injEq] at e;omega
 simp only[Prod.mk.injEq] at e;have e1:j=i:=by omega
 have e2:q=k:=by omega
 subst e1 e2;have:=uF.one h ⟨b,hb,hy⟩;rw[this];exact hd
theorem bq.of_phi {i:Nat} {k:Int} (hk:k<0) {b:aF} (hb:g.q[i]?=some b) {v:Int} (hm:aE g v=((i:Int),k)):∃p∈b.p,p.dst=v:=by
 have h1:aE g v∈aZ g v:=iA (by rw[hm];dsimp only;omega);rw[hm] at h1;obtain ⟨j,c,hc,h2⟩:=de.1 h1;rcases d8.1 h2 with ⟨p,hp,hd,e⟩|⟨q,y,hy,hd,e⟩
 ·simp only[Prod.mk.injEq] at e;have e1:j=i:=by omega
  subst e1;rw[hb] at hc;cases hc;exact ⟨p,hp,hd⟩
 simp only[Prod.mk.injEq] at e;omega
theorem Jd {s:GS} (hI:k6 g s) {i k:Nat} {x:aB} (hat:uF g i k x) (hb:s.blk=(i:Int)) (ha:bI g ((i:Int),(k:Int)) s.blk s.pc) (h0:0≤x.dst) (hc:pB g x.dst=true):∀q:Nat,q≤2→x.op=2+(q:Int)→dF q (aG s x) (bG s x):=fun q hq he=>by
 have hmk:=hR.made hat h0;obtain ⟨hF,hT⟩:=hR.inF hat;obtain ⟨b,hbk,hx⟩:=hat;unfold pB at hc;have hin:l6 g (aE g x.dst)=some x:=by
  rw[hmk];unfold l6;rw[if_pos ⟨by dsimp only;omega,by dsimp only;omega⟩];dsimp only;rw[show (i:Int).toNat=i from rfl,hbk];exact hx
 rw[hin,hmk] at hc;have hc:vG g x (i:Int) (k:Int)=true:=hc;unfold vG at hc;rw[wc] at hc;obtain ⟨i',k',b',z,h1,h2,h3,h4,h5⟩:=A8.1 hc.2;have h5:=(iu hR.hE _ _ _).1 h5;have hz:bI g ((i':Int),(k':Int)) s.blk s.pc:=fV (p:=((i:Int),(k:Int))) hR.hE h5 ha (by dsimp only;omega);have hp:=(hI.px i' k' z ⟨b',h1,h2⟩ hz).ck (by omega) (by omega);have ht:x.args.map (aM g)=[0,0]:=by
  have h3:q=0∨q=1∨q=2:=by omega
  rcases h3 with rfl|rfl|rfl
  ·exact df hT he (by decide) fi.1
  ·exact df hT he (by decide) fi.2.1
  exact df hT he (by decide) ld.1
 obtain ⟨_,y,w,hyw⟩:=uK ht;rw[h3,h4,hyw,show x.op+19=21+(q:Int) by omega] at hp;have:=IE hq hp;unfold aG bG dH fw;rw[hyw];exact this
theorem MInv.inst (hS:iE g l) (hPi:oS g) {s:GS} {made:Int→Prop} (hI:k6 g s) (hA:∀v:Int,0≤v→v<g.v.length→Av g s.blk s.pc v→made v) (hM:∀v:Int,0≤v→v<g.v.length→made v→dD (dV g s v) (lv l v)) (he:s.ended=false) {x:aB} (hx:(aQ g s.blk).s[s.pc]?=some x) (he':(bx g s).ended=false) :
  (∀v:Int,0≤v→v<g.v.length→Av g (bx g s).blk (bx g s).pc v→made v∨v∈dL g s)∧∀v:Int,0≤v→v<g.v.length→made v∨v∈dL g s→dD (dV g (bx g s) v) (lv l v):=by
 have hJ:=hI.step hR he he';obtain ⟨i,hi⟩:∃i:Nat,s.blk=(i:Int):=⟨s.blk.toNat,by have:=hI.g.b0;omega⟩;have hil:i<g.q.length:=by have:=hI.g.b1;omega
 have hb:=qt hil;have hat:uF g i s.pc x:=⟨_,hb,by rw[hi,dg hb] at hx;exact hx⟩;obtain ⟨hF,hT⟩:=hR.inF hat;have hst:bx g s=bc { s with pc:=s.pc+1,st:=s.st+1 } x:=by unfold bx;rw[hx]
 obtain ⟨p1,p2⟩:=EL { s with pc:=s.pc+1,st:=s.st+1 } x;have hblk:(bx g s).blk=(i:Int):=by rw[hst,p1];exact hi
 have hpc:(bx g s).pc=s.pc+1:=by rw[hst,p2]
 have hmk:dL g s=if 0≤x.dst then[x.dst] else[]:=by unfold dL;rw[hx]
 have hV:∀v:Int,0≤v→v≠x.dst→V (bx g s) v=V s v:=fun v h0 h1=>by rw[hst,uM hF h0 h1];rfl
 have hrow:∀a:Int,0≤a→a<s.y.length→(dw (bx g s) a).length=(dw s a).length:=fun a h0 h1=>by
  rw[hst];exact (wZ (s:={ s with pc:=s.pc+1,st:=s.st+1 }) x h0 h1).2
 have hat2:bI g ((i:Int),(s.pc:Int)) (bx g s).blk (bx g s).pc:=.inr (.inl ⟨hblk.symm,by rw[hpc];dsimp only;omega⟩);rw[hmk];refine ⟨fun v h0 h1 ha=>?_,fun v h0 h1 hm=>?_⟩
 ·unfold Av at ha;rw[hblk,hpc] at ha;rcases uG.1 (show bI g (aE g v) (i:Int) ((s.pc:Int)+1) from ha) with h|⟨e1,e2⟩
  ·exact .inl (hA v h0 h1 (by unfold Av;rw[hi];exact h))
  have hd:=hR.of_maker hat (v:=v) (Prod.ext e1 e2)
  right
  rw[if_pos (by omega),hd];exact .head _
 by_cases e:v=x.dst
 ·have hd0:0≤x.dst:=by omega
  have hmx:=hR.made hat hd0;have hin:=Lm (l:=l) (chk:=pB g x.dst) hJ.g hJ.r64 hF hT (hJ.px i s.pc x hat hat2) hd0 (fun v hv=>hR.ty hv) hS.ok (fun u hu=>?_) (fun hc=>Jd hR hJ hat hblk hat2 hd0 hc) (fun h=>(hPi _ hJ i s.pc x hat hblk hat2).1 h) (fun h=>(hPi _ hJ i s.pc x hat hblk hat2).2 h)
  ·rw[e];refine Dt ?_ (hS.rule _ hd0 (by omega) (by rw[hmx];dsimp only;omega));obtain ⟨b,hbb,hxx⟩:=hat;rw[nI hbb hxx hmx];exact hin
  have hu2:=bz (hF.args u hu);have hav:=hR.av hat u hu;have hne:u≠x.dst:=fun e=>by
   unfold Av at hav;rw[e,hmx] at hav;rcases hav with h|⟨_,h⟩|⟨_,h,_⟩
   ·dsimp only at h;omega
   ·dsimp only at h;omega
   exact h rfl
  rw[pQ hI.g hu2 (hV u hu2.2 hne) hrow];exact hM u hu2.2 hu2.1 (hA u hu2.2 hu2.1 (by rw[hi];exact hav))
 have hm:made v:=by
  rcases hm with h|h
  ·exact h
  exfalso
  split at h
  ·exact e (List.mem_singleton.1 h)
  cases h
 rw[pQ hI.g ⟨h1,h0⟩ (hV v h0 e) hrow];exact hM v h0 h1 hm
omit hR in
theorem rQ {f:ab} {l:List aO} {x:Int}:∀(az:List Int) (r:aO),(dD x r∨∃a∈az,dD x (mu f l a))→dD x (az.foldl (fun acc v=>bU acc (mu f l v)) r)
 |[],r,h=>by
  rcases h with h|⟨a,ha,_⟩
  ·exact h
  cases ha
 |a::az,r,h=>by
  rw[List.foldl_cons];refine rQ az _ ?_;rcases h with h|⟨b,hb,h⟩
  ·exact .inl (I2 h)
  rcases List.mem_cons.1 hb with rfl|hb
  ·exact .inl (I3 h)
  exact .inr ⟨b,hb,h⟩
omit hR in
theorem Dx {p:dh} {b:Int} (h:0≤dz p b):(dz p b,b)∈p.args.zip p.w:=by
 unfold dz at h ⊢;cases e:(p.w.zip p.args).find? fun q=>decide (q.1=b) with
 |none=>rw[e] at h;exact absurd h (by decide)
 |some z=>
  have h1:=List.mem_of_find?_eq_some e;have h2:z.1=b:=wg (List.find?_some (p:=fun q:Int × Int=>decide (q.1=b)) e);show (z.2,b)∈_;rw[←h2];have swap:∀{xs ys:List Int} {z:Int × Int},z∈ys.zip xs→(z.2,z.1)∈xs.zip ys:=fun {xs}=>by
   induction xs with
   |nil=>intro ys z h;cases ys<;>cases h
   |cons a xs ih=>
    intro ys z h;cases ys with
    |nil=>cases h
    |cons b ys=>
     rw[List.zip_cons_cons] at h ⊢;rcases List.mem_cons.1 h with rfl|h
     ·exact .head _
     exact .tail _ (ih h)
  exact swap h1
set_option maxHeartbeats 1600000 in
theorem MInv.t (hS:iE g l) {s:GS} {made:Int→Prop} (hI:k6 g s) (hA:∀v:Int,0≤v→v<g.v.length→Av g s.blk s.pc v→made v) (hM:∀v:Int,0≤v→v<g.v.length→made v→dD (dV g s v) (lv l v)) (he:s.ended=false) (hx:(aQ g s.blk).s[s.pc]?=none) (he':(bx g s).ended=false) :
  (∀v:Int,0≤v→v<g.v.length→Av g (bx g s).blk (bx g s).pc v→made v∨v∈dL g s)∧∀v:Int,0≤v→v<g.v.length→made v∨v∈dL g s→dD (dV g (bx g s) v) (lv l v):=by
 obtain ⟨i,hi⟩:∃i:Nat,s.blk=(i:Int):=⟨s.blk.toNat,by have:=hI.g.b0;omega⟩;have hil:i<g.q.length:=by have:=hI.g.b1;omega
 have hb:=qt hil;have hpc:(s.pc:Int)=eM g s.blk:=by
  have h1:=hI.g.pc;have h2:=List.getElem?_eq_none_iff.1 hx;rw[hi,lE hb];rw[hi,dg hb] at h1 h2;omega
 have hk:¬(aQ g s.blk).t.kind=2:=fun h=>by
  unfold bx at he';rw[hx] at he';dsimp only at he';rw[if_pos h] at he';cases he'
 have hmk:dL g s=(aQ g (gn g s)).p.map (·.dst):=by unfold dL;rw[hx];dsimp only;rw[if_neg hk]
 have hst:bx g s=fC g { s with st:=s.st+1 } (gn g s):=by
  unfold bx;rw[hx];dsimp only;rw[if_neg hk]
 obtain ⟨s0,hs0⟩:∃s0:GS,{ s with st:=s.st+1 }=s0:=⟨_,rfl⟩;have e0:s0.ended=false∧s0.blk=s.blk∧s0.y=s.y∧(∀v,V s0 v=V s v)∧s0.ints.length=g.v.length∧s0.bools.length=g.v.length∧s0.arrs.length=g.v.length:=by rw[←hs0];exact ⟨he,rfl,rfl,fun _=>rfl,hI.g.li,hI.g.lb,hI.g.la⟩
 have htm:=hR.run.t _ (cU hI.g.b0 hI.g.b1);have hends:aj g s.blk=cS (aQ g s.blk).t:=by rw[hi,lU hil,dg hb]
 obtain ⟨t0',t1'⟩:=yB htm hk;obtain ⟨c,hcn⟩:∃c,gn g s=c:=⟨_,rfl⟩;have hce:c∈aj g s.blk:=by
  rw[hends,←hcn];exact (Br _ _ fun h0=>(t1' h0).1).1
 have hcr:0≤c∧c<g.q.length:=by
  have:=ma hR.run hI.g hk;rw[hcn] at this;exact this
 obtain ⟨to,rfl⟩:∃to:Nat,c=(to:Int):=⟨c.toNat,by omega⟩;have htl:to<g.q.length:=by omega
 have hcb:=qt htl;rw[hcn,hs0] at hst;rw[hcn,dg hcb] at hmk;unfold fC at hst;rw[dg hcb] at hst
 by_cases hall:(g.q[to]'htl).p.all (fun p=>decide (0≤dz p s0.blk))=true
 case neg=>rw[hst,if_neg hall] at he';cases he'
 rw[if_pos hall] at hst;have hph:∀p∈(g.q[to]'htl).p,(p.dst<g.v.length∧0≤p.dst)∧aE g p.dst=((to:Int),-1):=fun p hp=>by
  have:=hR.run.p _ (qx htl) p hp;exact ⟨bz this.1,hR.hO.phi to _ p hcb hp⟩
 have hV:∀v:Int,0≤v→¬aE g v=((to:Int),-1)→V (bx g s) v=V s v:=fun v h0 h1=>by
  rw[hst];show V ((g.q[to]'htl).p.foldl (assign s0) s0) v=_;rw[k7 h0 _ _ fun p hp=>⟨(hph p hp).1.2,fun e=>h1 (by rw[←e];exact (hph p hp).2)⟩];exact e0.2.2.2.1 v
 have har:(bx g s).y=s.y:=by rw[hst];exact (jK s0 _ _).1.trans e0.2.2.1
 have hrow:∀a:Int,0≤a→a<s.y.length→(dw (bx g s) a).length=(dw s a).length:=fun a _ _=>by unfold dw;rw[har]
 have hirch:oV (aj g) s.blk:=by rw[hi];exact hR.hs.2.1 i hil
 have hblk:(bx g s).blk=(to:Int)∧(bx g s).pc=0:=by rw[hst];exact ⟨rfl,rfl⟩
 rw[hmk];refine ⟨fun v h0 h1 ha=>?_,fun v h0 h1 hm=>?_⟩
 ·unfold Av at ha;rw[hblk.1,hblk.2] at ha;have ha:bI g (aE g v) (to:Int) 0:=ha
  by_cases hto:(aE g v).1=(to:Int)∧(aE g v).2<0
  ·right
   obtain ⟨p,hp,hd⟩:=hR.of_phi hto.2 hcb (v:=v) (Prod.ext hto.1 rfl);exact List.mem_map.2 ⟨p,hp,hd⟩
  left
  refine hA v h0 h1 ?_;unfold Av;rw[hpc];refine uH hirch hce (k:=0) (by omega) ha (fun e=>?_) (fun e=>?_)
  ·
   by_cases h2:0≤(aE g v).2
   ·by_cases h3:0≤(aE g v).1
    ·have h4:=iA h3;obtain ⟨j,b,hbj,h5⟩:=de.1 h4;rcases d8.1 h5 with ⟨p,_,_,e5⟩|⟨q,y,hy,_,e5⟩
     ·rw[e5] at h2;dsimp only at h2;omega
     rw[e5] at e ⊢;dsimp only at e ⊢;rw[←e,lE hbj];have:=(List.getElem?_eq_some_iff.1 hy).1;omega
    have:=hI.g.b0;omega
   have h6:0≤eM g s.blk:=by rw[←hpc];omega
   omega
  have:¬(aE g v).2<0:=fun h=>hto ⟨e,h⟩;omega
 by_cases hmt:aE g v=((to:Int),-1)
 ·obtain ⟨p,hp,hd⟩:=hR.of_phi (k:=-1) (by decide) hcb hmt;have hlen:(aZ g v).length≤1:=by
   have:=(hR.hs.2.2.1 v.toNat (by omega)).1
   rwa [we h0] at this
  have hone:=EB hlen hcb hp hd;have hpa:0≤dz p s.blk:=by
   have:=List.all_eq_true.1 hall p hp;rw[e0.2.1] at this;exact wg this
  have hVv:V (bx g s) v=V s (dz p s.blk):=by
   rw[hst];show V ((g.q[to]'htl).p.foldl (assign s0) s0) v=_;rw[u9 (s:=s0) (a:=dz p s.blk) (n:=g.v.length) h0 (by omega) _ s0 e0.2.2.2.2 (fun q hq=>⟨(hph q hq).1.2,fun e=>?_⟩) (.inr ⟨p,hp,hd⟩),e0.2.2.2.1];have:q∈(g.q[to]'htl).p.filter fun q=>decide (q.dst=v):=List.mem_filter.2 ⟨hq,wa e⟩;rw[hone] at this;rw[List.mem_singleton.1 this,e0.2.1]
  have hpm:=re hpa;have hsh:=hR.run.p _ (qx htl) p hp;have hva:=bz (List.all_eq_true.1 hsh.2.2.2.1 _ hpm);have hkd:aM g (dz p s.blk)=aM g v:=by
   have hB:=hR.hT _ (qx htl);unfold gX at hB;simp only[wc] at hB;have h2:=List.all_eq_true.1 hB.1.1 p hp;unfold o5 at h2;rw[Bool.not_eq_true',List.any_eq_false] at h2;have:=h2 _ hpm;rw[hd] at this;exact Classical.byContradiction fun h=>this (by rw[wb h];rfl)
  have hav:Av g s.blk s.pc (dz p s.blk):=by
   unfold Av;rw[hpc];exact (hR.hs.2.2.2 to htl).1 p hp (dz p s.blk,s.blk) (Dx hpa)
  have hin:=Mg (l:=l) hI.g hI.r64 hva (hR.ty hva) (hM _ hva.2 hva.1 (hA _ hva.2 hva.1 hav));have hval:dV g (bx g s) v=dV g s (dz p s.blk):=by
   obtain ⟨v1,v2,v3⟩:=rO hVv;unfold dV;rw[v1,v2,v3,hkd];unfold dw;rw[har]
  rw[hval];refine Dt ?_ (hS.rule v h0 h1 (by rw[hmt];dsimp only;omega));rw[pC hlen hcb hp hd hmt];exact rQ _ _ (.inr ⟨_,hpm,hin⟩)
 have hm:made v:=by
  rcases hm with h|h
  ·exact h
  obtain ⟨p,hp,e⟩:=List.mem_map.1 h;exact absurd (by rw[←e];exact (hph p hp).2) hmt
 rw[pQ hI.g ⟨h1,h0⟩ (hV v h0 hmt) hrow];exact hM v h0 h1 hm
structure Dy (g:ab) (l:List aO) (s:GS) (made:Int→Prop):Prop where
 gi:bE g s
 go:s.ended=false→k6 g s∧∀v:Int,0≤v→v<g.v.length→Av g s.blk s.pc v→made v
 rng:∀v:Int,0≤v→v<g.v.length→made v→dD (dV g s v) (lv l v)
theorem Dy.step (hS:iE g l) (hPi:oS g) {s:GS} {made:Int→Prop} (h:Dy g l s made) (he:s.ended=false):Dy g l (bx g s) fun v=>made v∨((bx g s).ended=false∧v∈dL g s):=by
 obtain ⟨hI,hA⟩:=h.go he;have hg:=h.gi.step hR.run;cases he':(bx g s).ended with
 |true=>
  obtain ⟨e1,e2⟩:=Gx he he';refine ⟨hg,fun k=>(by rw[he'] at k;cases k),fun v h0 h1 hm=>?_⟩;have hm:made v:=by
   rcases hm with h|h
   ·exact h
   cases h.1
  rw[pQ h.gi ⟨h1,h0⟩ (e1 v) fun a _ _=>by unfold dw;rw[e2]];exact h.rng v h0 h1 hm
 |false=>
  have key:(∀v:Int,0≤v→v<g.v.length→Av g (bx g s).blk (bx g s).pc v→made v∨v∈dL g s)∧∀v:Int,0≤v→v<g.v.length→made v∨v∈dL g s→dD (dV g (bx g s) v) (lv l v):=by
   cases hx:(aQ g s.blk).s[s.pc]? with
   |some x=>exact MInv.inst hR hS hPi hI hA h.rng he hx he'
   |none=>exact MInv.t hR hS hI hA h.rng he hx he'
  exact ⟨hg,fun _=>⟨hI.step hR he he',fun v h0 h1 ha=>(key.1 v h0 h1 ha).imp id fun k=>⟨rfl,k⟩⟩,fun v h0 h1 hm=>key.2 v h0 h1 (hm.imp id (·.2))⟩
theorem Je (hS:iE g l) {i:vM} (hp:g.z.length≤g.v.length) (hI:k6 g (lB g i)) {v:Int} (h0:0≤v) (h1:v<g.v.length) (hm:(aE g v).1<0) (hi:i.args.length=g.z.length):dD (dV g (lB g i) v) (lv l v):=by
 refine Dt ?_ (hS.first v h0 h1 hm);unfold iX
 by_cases h:v<g.z.length
 ·rw[if_pos h];exact yK hI.g hI.r64 ⟨h1,h0⟩ (hR.ty ⟨h1,h0⟩)
 rw[if_neg h];have e1:vi (lB g i).ints v=0:=by unfold vi lB;dsimp only;rw[nK (by omega) (by omega)];rfl
 have e2:vi (lB g i).arrs v=-1:=by unfold vi lB;dsimp only;rw[nK (by omega) (by omega)];rfl
 have e3:gb (lB g i).bools v=false:=by unfold gb lB;dsimp only;rw[nK (by omega) (by omega)];rfl
 unfold dV;rw[e1,e2,e3];split
 ·exact ⟨Int.le_refl _,Int.le_refl _⟩
 split
 ·exact ⟨Int.le_refl _,Int.le_refl _⟩
 exact ⟨Int.le_refl _,Int.le_refl _⟩
theorem Dy.beg (hS:iE g l) {i:vM} (hp:g.z.length≤g.v.length) (ht:∀j,0≤nJ g j∧nJ g j≤2) (hi:eH g i=0) (h64:yC i):Dy g l (lB g i) fun v=>(aE g v).1<0:=by
 have hI:=k6.beg hR hp ht hi h64;have hal:i.args.length=g.z.length:=Classical.byContradiction fun h=>by unfold eH at hi;rw[if_pos h] at hi;cases hi
 refine ⟨hI.g,fun _=>⟨hI,fun v h0 h1 ha=>?_⟩,fun v h0 h1 hm=>Je hR hS hp hI h0 h1 hm hal⟩;have hG:=hR.hE.grph;have ha:bI g (aE g v) 0 0:=ha;rcases ha with h|⟨e,h⟩|⟨_,h,h3⟩
 ·exact h
 ·
  exfalso
  have hz:0<g.q.length:=hR.hE.pos;have hcb:=qt hz;obtain ⟨p,hp,hd⟩:=hR.of_phi (i:=0) h hcb (v:=v) (Prod.ext e rfl);have hsh:=hR.run.p _ (qx hz) p hp;have hj:=hR.hs.1 0 hz p hp;have hl:0<p.w.length:=by have:=hsh.2.1;have:=hsh.2.2.1;omega
  have hm:=hj.mem_iff.1 (qx hl);exact hR.noStart ((j6 hG.toEOk hG.out).1 hm)
 exact absurd (cQ hG h3 (.root h3.rch)) h
end
section
variable {f g:ab} {rts:List Int} (hf:bq f) (hg:bq g) (hP:IQ f g rts)
include hf hg hP
omit hf hg in
theorem IQ.kind {v:Int} (h0:0≤v) (h1:v<f.v.length):aM g v=aM f v:=by
 obtain ⟨l,hl⟩:=hP.v;unfold aM;rw[hl,List.getElem?_append_left (by omega)]
theorem IQ.kind0:∀(m:Nat) (u:Int),u<m→0≤u→u<g.v.length→aM g u=0→(0≤cY f.v.length rts u∧cY f.v.length rts u<f.v.length)∧aM f (cY f.v.length rts u)=0
 |0,u,h,h0,_,_=>by omega
 |m+1,u,h,h0,h1,hk=>by
  by_cases hn:u<f.v.length
  ·rw[nj hn];exact ⟨⟨h0,hn⟩,by rw[←hP.kind h0 hn];exact hk⟩
  obtain ⟨i,k,x,hx,e,ho,hlt,hm,hrt⟩:=hP.back hf hg (by omega) h1;rw[hrt];obtain ⟨_,hT⟩:=hg.inF hx;refine IQ.kind0 m (dH x) (by omega) hlt.1 (by omega) ?_;rcases ho with ho|ho
  ·exact (uK (df hT ho (by decide) ld.2.2.1)).1.1
  exact (uK (df hT ho (by decide) ld.2.2.2)).1.1
theorem Lq (hpl:∀b∈f.q,∀y∈b.s,y.op<25):oS g:=fun s hI i k x hat hb ha=>by
 obtain ⟨hFm,hi⟩:=hP.at hat;obtain ⟨hF,hT⟩:=hg.inF hat;have hav:∀u∈x.args,Av g s.blk s.pc u:=fun u hu=>fV (p:=((i:Int),(k:Int))) hg.hE (hg.av hat u hu) ha (by dsimp only;omega);have hrg:∀u∈x.args,u<g.v.length∧0≤u:=fun u hu=>bz (hF.args u hu)
 generalize hL:(aQ g i).s.take k=L at hFm
 cases hFm with
 |old hy hIm=>
  rename_i y;have:=hpl _ (cU (by omega) hi) y hy;have:=hIm.op;exact ⟨fun e=>by omega,fun e=>by omega⟩
 |pi hd hla hlb hrt hr h=>
  rename_i d a b n r;refine ⟨fun _=>?_,fun e=>(by cases e)⟩;have hka:=df (k:=25) (x:=⟨25,d,[a,b],n⟩) hT rfl (by decide) ld.2.2.1;simp only[List.map_cons,List.map_nil,List.cons.injEq,and_true] at hka;have ra:=hrg a (.head _);have rb:=hrg b (.tail _ (.head _));obtain ⟨a0,a1⟩:=hP.kind0 hf hg g.v.length a ra.1 ra.2 ra.1 hka.1;obtain ⟨b0,b1⟩:=hP.kind0 hf hg g.v.length b rb.1 rb.2 rb.1 hka.2;have va:=(rO (lG hf hg hP hI g.v.length a ra.1 ra.2 ra.1 (hav a (.head _))).2).1;have vb:=(rO (lG hf hg hP hI g.v.length b rb.1 rb.2 rb.1 (hav b (.tail _ (.head _)))).2).1;have hrel:=Li hf hg hP hI r (by rw[hb];exact hr);show Ll n (vi s.ints a) (vi s.ints b);rw[←va,←vb];rcases h with ⟨h1,h2,h3⟩|⟨h1,h2,h3⟩
  ·rw[h1] at a0 a1 ⊢;rw[h2] at b0 b1 ⊢;rw[←J7 (s:=s) a1,←J7 (s:=s) b1,h3];have hno:r.n=0∨r.n=1∨r.n=2:=by
    have:=(Nl hf i r hr).2;omega
   exact ⟨hrel.lt,hrel.le,hrel.eq,fun e=>by omega,fun e=>by omega⟩
  rw[h1] at a0 a1 ⊢;rw[h2] at b0 b1 ⊢;rw[←J7 (s:=s) a1,←J7 (s:=s) b1,h3];have hno:r.n=0∨r.n=1∨r.n=2:=by
   have:=(Nl hf i r hr).2;omega
  unfold lF;rcases hno with e|e|e
  ·rw[if_pos e];exact ⟨fun k=>(by cases k),fun k=>(by cases k),fun k=>(by cases k),fun k=>(by cases k),fun _=>hrel.lt e⟩
  ·rw[if_neg (by omega),if_pos e];exact ⟨fun k=>(by cases k),fun k=>(by cases k),fun k=>(by cases k),fun _=>hrel.le e,fun k=>(by cases k)⟩
  rw[if_neg (by omega),if_neg (by omega)];exact ⟨fun k=>(by cases k),fun k=>(by cases k),fun _=>(hrel.eq e).symm,fun k=>(by cases k),fun k=>(by cases k)⟩
 |len hd hla hrt=>
  rename_i l d a b e m;refine ⟨fun k=>(by cases k),fun _=>?_⟩;have hka:=df (k:=26) (x:=⟨26,d,[a,b],0⟩) hT rfl (by decide) ld.2.2.2;simp only[List.map_cons,List.map_nil,List.cons.injEq,and_true] at hka;obtain ⟨bk,hbk,hxk⟩:=hat;have eb:aQ g (i:Int)=bk:=dg hbk;rw[eb] at hL;have hkl:k=l.length+1:=by
   have h1:=(List.getElem?_eq_some_iff.1 hxk).1;have h2:=congrArg List.length hL;rw[w9,qz] at h2;simp at h2;omega
  have hc:bk.s[l.length]?=some ⟨18,e,[b,a],m⟩:=by
   have h2:(bk.s.take k)[l.length]?=some ⟨18,e,[b,a],m⟩:=by rw[hL,List.getElem?_append_right (Nat.le_refl _),Nat.sub_self];rfl
   rw[List.getElem?_take] at h2;split at h2
   ·exact h2
   cases h2
  have hca:bI g ((i:Int),(l.length:Int)) s.blk s.pc:=by
   have h1:bI g ((i:Int),(l.length:Int)) (i:Int) (k:Int):=.inr (.inl ⟨rfl,by dsimp only;omega⟩);exact fV (p:=((i:Int),(k:Int))) hg.hE h1 ha (by dsimp only;omega)
  have hp:=(hI.px i l.length _ ⟨bk,hbk,hc⟩ hca).ck (Int.le_refl 18) (show (18:Int)≤24 by decide);have hp:dK s (vi s.arrs b) (vi s.ints a)=true:=by
   unfold fU yZ at hp
   simpa using hp
  obtain ⟨q1,q2,q3,q4⟩:=lD.1 hp;show 0≤vi s.ints a∧vi s.ints a<dV g s b;rw[I5 hka.2,if_neg (by omega)];exact ⟨q3,q4⟩
end
theorem Dz {g:ab} (hpl:∀b∈g.q,∀y∈b.s,y.op<25):oS g:=fun s _ i k x hat _ _=>by
 obtain ⟨b,hb,hx⟩:=hat;have:=hpl b (w5 hb) x (w5 hx);exact ⟨fun e=>by omega,fun e=>by omega⟩
def BQ (g:ab) (l:List aO) (s:GS) (m:List Bool) (v:Nat):Bool:=gb m v&&(decide (dV g s v<(lv l v).1)||decide ((lv l v).2<dV g s v))
def vd (e:Bool) (m:List Bool) (v:Int):List Bool:=m.set v.toNat (!e||gb m v)
def mz (m:List Bool) (e:Bool) (vs:List Int):List Bool:=vs.foldl (vd e) m
def pR (g:ab) (l:List aO):Nat→GS→List Bool→Bool
 |0,_,_=>true
 |n+1,s,m=>if (List.range g.v.length).any (BQ g l s m)=true then false else if s.ended=true then true else pR g l n (bx g s) (mz m (bx g s).ended (dL g s))
def mA (g:ab):List Bool:=(List.range g.v.length).map fun v:Nat=>decide ((aE g (v:Int)).1<0)
def rR (g:ab) (i:vM) (n:Nat) (l:List aO):Bool:=decide (l.length=g.v.length)&&pR g l n (lB g i) (mA g)
theorem ES {e:Bool} {v:Int} (h0:0≤v):∀{vs:List Int} {m:List Bool},(∀u∈vs,0≤u)→gb (mz m e vs) v=true→gb m v=true∨(e=false∧v∈vs)
 |[],_,_,h=>.inl h
 |u::vs,m,hv,h=>by
  rcases ES (vs:=vs) h0 (fun w hw=>hv w (.tail _ hw)) (show gb (mz (vd e m u) e vs) v=true from h) with k|k
  ·unfold vd gb at k;rw[List.getElem?_set] at k;have hu:=hv u (.head _)
   by_cases hx:u.toNat=v.toNat
   ·have huv:u=v:=by omega
    rw[if_pos hx] at k;split at k
    ·cases e with
     |true=>left;rw[huv] at k;exact k
     |false=>exact .inr ⟨rfl,by rw[huv];exact .head _⟩
    cases k
   rw[if_neg hx] at k;exact .inl k
  exact .inr ⟨k.1,.tail _ k.2⟩
section
variable {g:ab} (hR:bq g) {l:List aO}
include hR
theorem Jf (s:GS):∀v∈dL g s,0≤v:=fun v hv=>by
 unfold dL at hv;split at hv
 ·split at hv
  ·rename_i h;rw[List.mem_singleton.1 hv];exact h
  cases hv
 split at hv
 ·cases hv
 obtain ⟨p,hp,rfl⟩:=List.mem_map.1 hv;unfold aQ at hp;cases hb:g.q[(gn g s).toNat]? with
 |none=>rw[hb] at hp;cases hp
 |some b=>
  rw[hb] at hp;exact (bz (hR.run.p b (w5 hb) p hp).1).2
theorem Jg (hS:iE g l) (hPi:oS g):∀(n:Nat) {s:GS} {m:List Bool} {made:Int→Prop},Dy g l s made→(∀v:Int,0≤v→gb m v=true→made v)→pR g l n s m=true
 |0,_,_,_,_,_=>rfl
 |n+1,s,m,made,h,hm=>by
  unfold pR;have h1:(List.range g.v.length).any (BQ g l s m)=false:=List.any_eq_false.2 fun v hv=>by
   have hv:=List.mem_range.1 hv;unfold BQ;cases hg:gb m v with
   |false=>simp
   |true=>
    have:=h.rng v (by omega) (by omega) (hm v (by omega) hg);have h2:=this.1;have h3:=this.2;rw[wb (by omega),wb (by omega)];simp
  rw[if_neg (by rw[h1];decide)];split
  ·rfl
  rename_i he;have he:s.ended=false:=by simpa using he
  refine Jg hS hPi n (h.step hR hS hPi he) fun v h0 hg=>?_;exact (ES h0 (Jf hR s) hg).imp (hm v h0) id
theorem Jh (hS:iE g l) (hPi:oS g) {i:vM} (hp:g.z.length≤g.v.length) (ht:∀j,0≤nJ g j∧nJ g j≤2) (hi:eH g i=0) (h64:yC i) (hl:l.length=g.v.length) (n:Nat):rR g i n l=true:=by
 unfold rR;rw[wa hl,Bool.true_and];refine Jg hR hS hPi n (Dy.beg hR hS hp ht hi h64) fun v h0 hg=>?_;unfold gb mA at hg;rw[w3] at hg;cases hr:(List.range g.v.length)[v.toNat]? with
 |none=>rw[hr] at hg;cases hg
 |some k=>
  rw[hr] at hg;obtain ⟨h1,h2⟩:=List.getElem?_eq_some_iff.1 hr;rw[List.getElem_range] at h2;have:(k:Int)=v:=by omega
  have hg:decide ((aE g (k:Int)).1<0)=true:=hg;rw[←this];exact wg hg
end
theorem BR {f g:ab} {rts:List Int} (hP:IQ f g rts) {i:vM} (hp:f.z.length≤f.v.length) (h:eH f i=0):eH g i=0:=by
 have hb:∀q∈i.args.zipIdx,i.args.length=f.z.length→gA g i q=gA f i q:=fun q hq hl=>by
  obtain ⟨l,hv⟩:=hP.v;have hq2:q.2<f.v.length:=by
   have:=(List.mem_zipIdx hq).2.1;omega
  have e:nJ g q.2=nJ f q.2:=by
   unfold nJ;rw[hv,List.getElem?_append_left hq2]
  unfold gA;simp only[e]
 unfold eH at h ⊢;rw[hP.par];split at h
 ·cases h
 rename_i hl;have hl:i.args.length=f.z.length:=by simpa using hl
 have e:i.args.zipIdx.any (gA g i)=i.args.zipIdx.any (gA f i):=by
  rw[w4,List.any_eq_true,List.any_eq_true];exact ⟨fun ⟨q,hq,k⟩=>⟨q,hq,by rw[←hb q hq hl];exact k⟩,fun ⟨q,hq,k⟩=>⟨q,hq,by rw[hb q hq hl];exact k⟩⟩
 rw[if_neg (by omega),e];exact h
end
section
open Go.Proofs.Tryz
open Go.Proofs Go.Lib Go.Shelf Go.RowKit
structure pS (f:ab) (W:vQ) (m:Nat):Prop where
 k:NV f W.v W.k
 v:W.v.length≤f.v.length+m*(4*f.v.length+400)
theorem pS.first (f:ab):pS f (yF f) 0:=⟨⟨Nat.le_refl _,qw _⟩,Nat.le_add_right _ _⟩
theorem pS.step {f:ab} {W:vQ} {m:Nat} (h:pS f W m) {b:Int} (ha:(jT f b).length≤2*f.v.length) (hi:(aQ f b).s.length≤400):pS f (k8 f W b) (m+1):=by
 have hc:=oR.blk (f:=f) (S:=dP f W b) h.k b;have e:(dP f W b).v.length=W.v.length:=rfl;have h1:=hc.v.2;have h2:=h.v;refine ⟨hc.k,?_⟩;show (dU f (dP f W b) b).1.v.length≤_;rw[Nat.add_mul,Nat.one_mul];omega
theorem pS.all {f:ab}:∀(l:List Int) {W:vQ} {m:Nat},pS f W m→(∀b∈l,(jT f b).length≤2*f.v.length∧(aQ f b).s.length≤400)→pS f (l.foldl (k8 f) W) (m+l.length)
 |[],_,_,h,_=>h
 |b::l,W,m,h,k=>by
  have:=pS.all l (h.step (k b (.head _)).1 (k b (.head _)).2) fun u hu=>k u (.tail _ hu);rw[List.length_cons,show m+(l.length+1)=m+1+l.length by omega];exact this
theorem pS.few {f:ab} {W:vQ} {m:Nat} (h:pS f W m) (hv:f.v.length≤100) (hm:m≤40):W.v.length≤32100∧W.k≤3264000:=by
 obtain ⟨⟨k1,k2⟩,h2⟩:=h;have h3:m*(4*f.v.length+400)≤40*800:=Nat.mul_le_mul hm (by omega);have h4:(W.v.length - f.v.length)*(f.v.length+2)≤32000*102:=Nat.mul_le_mul (by omega) (by omega);omega
theorem BS (x:Nat) (h:x<1000000000000):IntKind.u8.wrap (48+(x:Int).tmod 10)=((48+x % 10:Nat):Int):=by
 have h1:(x:Int).tmod 10=((x % 10:Nat):Int):=by rw[Int.tmod_eq_emod_of_nonneg (by omega)];rfl
 rw[h1];unfold IntKind.wrap;simp[IntKind.bits,IntKind.signed];omega
theorem ve (x:Nat) (h:x<1000000000000):strOfNums [IntKind.u8.wrap (48+(x:Int).tmod 10)]=qH [UInt8.ofNat (48+x % 10)]:=by
 rw[BS x h];rfl
theorem Pw {x:Nat} (h:x<1000000000000):IntKind.i64.wrap ((x:Int).tdiv 10)=((x / 10:Nat):Int):=by
 rw[show (x:Int).tdiv 10=((x / 10:Nat):Int) by rw[Int.tdiv_eq_ediv_of_nonneg (by omega)];rfl];unfold IntKind.wrap;simp[IntKind.bits,IntKind.signed];omega
theorem Ji (x:Nat):mB (48+(x:Int).tmod 10):=by
 have h1:(x:Int).tmod 10=((x % 10:Nat):Int):=by rw[Int.tmod_eq_emod_of_nonneg (by omega)];rfl
 rw[h1];unfold mB;omega
def pT (f:ab):Bool:=decide (f.v.length≤512)&&(decide (f.q.length≤64)&&decide (eu f.q≤1024))
theorem kq {f:ab}:pT f=true↔f.v.length≤512∧f.q.length≤64∧eu f.q≤1024:=by
 unfold pT;simp only[wc,wi]
def Jj (g:ab) (s:GS) (v:Int):Int:=if aM g v=0 then vi s.ints v else if aM g v=2 then (if 0≤vi s.arrs v∧vi s.arrs v<s.y.length then ((dw s (vi s.arrs v)).length:Int) else 0) else if gb s.bools v=true then 1 else 0
theorem Lt {g:ab} {s:GS} (h:bE g s) {v:Int} (hv:v<g.v.length∧0≤v):Jj g s v=dV g s v:=by
 have ha:=jJ h hv;unfold Jj dV;split
 ·rfl
 split
 ·by_cases c:vi s.arrs v<0
  ·rw[if_neg (by omega),if_pos c]
  rw[if_pos ⟨by omega,ha.2⟩,if_neg c]
 rfl
section
variable {f:ab} (hR:bq f)
include hR
end
theorem Lu:dp prog 164 5 1 1 [.int .u8 0]:=⟨_,underlying164,sizeOf5,zeroValue5,by decide,by decide,by kernel_rfl⟩
variable {E:World}
set_option maxRecDepth 20000
theorem Jk {l:List UInt8}:qH l=⟨#[]⟩↔l=[]:=by
 unfold qH
 constructor
 ·intro h;have:=congrArg ByteArray.data h
  simpa using this
 intro h;rw[h]
theorem Jl {y:Nat} {acc:List UInt8} {d:UInt8} (h:0<y∨acc=[]):2*(y / 10)+(if d::acc=[] then 1 else 0)<2*y+(if acc=[] then 1 else 0):=by
 rw[if_neg (by simp)];rcases h with h|h
 ·split<;>omega
 rw[if_pos h];omega
theorem BT (f:ab) (hv:f.v.length≤1000) (k:Nat) (hk:k≤100000000):aS prog E 51 [.agg (bH f),.i k] (.tup [.str (kC (f9 f k)),.i ((f9 f k:Nat)+1)]):=by
 have hle:=uY f k;refine zm func51 U (by decide) U<|Z<|zx (cs:=_) U U U<|X (q9 (v:=.str _) U)<|ap U<|Y<|zd<|zu (γ:=Nat) [2] (fun j=>[(1,.i j)]) (fun j=>[]) (fun j=>k≤j∧j≤f9 f k) (fun j=>f9 f k+1 - j) k aN aJ (⟨Nat.le_refl _,hle.1⟩) ?_;rintro j ⟨hj0,hj1⟩;refine za<|zd<|Z<|X (q9 (v:=.str _) U)<|Y<|za<|Z<|C U<|ap U<|Y<|zd<|zu (γ:=Nat × List UInt8) [1,2] (fun g=>[(7,.i g.1),(6,.str (qH g.2))]) (fun g=>[]) (fun g=>vR g.1 g.2=decDigits j∧g.1<1000000000000) (fun g=>2*g.1+(if g.2=[] then 1 else 0)) (j,[]) cV aJ (⟨by unfold vR;simp,by dsimp only;omega⟩) ?_;rintro ⟨y,acc⟩ ⟨hy,hlt⟩;try dsimp only at *
 refine za<|za<|y3 (γ:=Bool) [1,2,6,7] (fun u=>[(19,.bool u)]) (fun u=>[]) (fun u=>u=decide (0<y∨acc=[])) ?_ (fun _ _ h=>h) ?_
 ·have hsn:=Jk (l:=acc);refine bZ<|C U<|bg U U<|aw U<|zo (s:=16) U (fun c1=>?_) (fun c1=>?_)
  ·refine H U U c1<|H U U c1<|aA U c1 U<|Y ?_;exact ⟨_,(by repeat (first|with_reducible exact yc _ _|refine fa.up rfl ?_|exact f7)),aN,aJ,by simp_all⟩
  refine M U U c1<|X (yn (v:=.str _) U)<|M U U c1<|X (q6 U U)<|ay U c1 U<|Y ?_;exact ⟨_,(by repeat (first|with_reducible exact yc _ _|refine fa.up rfl ?_|exact f7)),aN,aJ,by simp_all⟩
 rintro u hu;refine zq U (fun cu=>?_) (fun cu=>?_)
 ·have hc:0<y∨acc=[]:=by rw[hu] at cu;exact wg cu
  have hal:acc.length≤40:=by
   have h1:=congrArg List.length hy;have h2:=Ag j (by omega);unfold vR at h1;split at h1
   ·omega
   rw[qz] at h1;omega
  refine zc<|za<|zd<|bZ<|C U<|X (Gv.rem U U (by decide))<|X (Gv.add U U (Ji _))<|X (Gv.conv X0 underlying5 U)<|zw (rows:=[[_]]) Lu U U U U U<|X (Gv.convBytes (ns:=[_]) underlying164 underlying5 Zy U)<|X (yn (v:=.str _) U)<|X (Gv.addT U U (by rw[ve y hlt,qI,qI];simp;omega))<|X (q9 (v:=.str _) U)<|Y<|bZ<|C U<|X (Gv.quo U U (by decide))<|ap U<|Y ?_;exact ⟨(y / 10,UInt8.ofNat (48+y % 10)::acc),cV,⟨congrArg (AV.int .i64) (Pw hlt),congrArg AV.str (by rw[ve y hlt,Ae];rfl),trivial⟩,aJ,⟨by dsimp only;rw[Gu hc];exact hy,by dsimp only;omega⟩,by exact Jl hc⟩
 have hc:¬(0<y∨acc=[]):=by rw[hu] at cu;exact wh cu
 have hs:acc=decDigits j:=by
  unfold vR at hy;rw[if_pos ⟨by omega,fun k=>hc (.inr k)⟩] at hy;exact hy
 have hal:=Ag j (by omega);rw[←hs] at hal;refine zt<|Z<|X (yn (v:=.str _) U)<|X (Gv.addT U U (by rw[qI];show 1+_≤_;omega))<|X (q9 (v:=.str _) U)<|Y ?_;have hxn:(⟨#[120]⟩:ByteArray)++qH acc=kC j:=by rw[I9,←hs];exact Ae [120] acc
 refine Z<|ah U<|Y<|za<|Z<|ao jf U Zs U U<|aK Y4 U<|am Z7 U<|C U<|Y<|zd<|zu (γ:=Nat × Bool) [1,2,6,33,34] (fun g=>[(35,.i g.1),(8,.bool g.2)]) (fun g=>[]) (fun g=>g.1≤f.v.length∧g.2=(f.v.take g.1).any (fun v=>decide (v.name=kC j))) (fun g=>f.v.length - g.1) (0,false) cV aJ (⟨qw _,U⟩) ?_;rintro ⟨m,th⟩ ⟨hm,hth⟩;try dsimp only at *
 refine Z<|aq U U<|Y<|za<|zh U (fun cm=>?_) (fun cm=>?_)
 ·have hm2:m<f.v.length:=by simp at cm;omega
  obtain ⟨v,hvv⟩:∃v,f.v[m]=v:=⟨_,rfl⟩;have hget:f.v[m]?=some v:=by rw[qt hm2,hvv]
  have hsu:(f.v.take (m+1)).any (fun v=>decide (v.name=kC j))=(th||decide (v.name=kC j)):=by rw[List.take_add_one,hget,List.any_append,←hth];simp
  refine zc<|za<|zd<|Z<|X (bD m Z7 Yc U U U hget)<|ae isAgg48 Yc U U<|zp (cs:=[.e,.i 0]) Xf U U<|fun i10=>zi Yc U U U U U U .head U<|Y<|bZ<|aw U<|aw U<|zo (s:=40) U (fun ct=>?_) (fun ct=>?_)
  ·have ct:th=true:=by simpa using ct
   refine H U U ct<|H U U ct<|H U U ct<|H U U ct<|aA U ct U<|ah U<|Y<|bQ U U ?_;exact ⟨(m+1,true),lf,cV,⟨_,(.drop (.refl _)),rfl⟩,⟨hm2,by rw[hsu,ct];rfl⟩,by dsimp only;omega⟩
  have ct:th=false:=by simpa using ct
  refine M U U ct<|X (ze Zr U Y7 (by decide) U U)<|M U U ct<|X (zj (c:=.str _) Ym U ⟨_,.head⟩ U)<|M U U ct<|X (yn (v:=.str _) U)<|M U U ct<|X (q6 U U)<|ay U ct U<|ah U<|Y<|bQ U U ?_;exact ⟨(m+1,decide (v.name=kC j)),lf,⟨rfl,(congrArg AV.bool (by rw[hxn])),trivial⟩,⟨_,(.drop (.refl _)),rfl⟩,⟨hm2,by rw[hsu,ct];rfl⟩,by dsimp only;omega⟩
 obtain rfl:m=f.v.length:=by simp at cm;omega
 rw[qy] at hth;have hth:th=gB f j:=hth;refine zt<|Z<|aw U<|aL U<|Y<|zq U (fun cn=>?_) (fun cn=>?_)
 ·have hn:gB f j=false:=by rw[←hth];simpa using cn
  have e:=Ja f hj0 hj1 hn;refine Z<|X (yn (v:=.str _) U)<|C U<|X (ky U U)<|X (q9 (v:=.str _) U)<|ap U<|Y<|zf<|ql (x:=.str _) (y:=.int _ _) U U ?_;rw[hxn,e]
 have hn:gB f j=true:=by rw[←hth];simpa using cn
 have hl:=Jb f hj1 hn;refine zc<|bZ<|C U<|X (ky U U)<|ap U<|Y ?_;exact ⟨j+1,aN,aN,aJ,⟨by omega,by omega⟩,by omega⟩
end
section
open Go.Proofs.Tryz
open Go.Proofs
theorem ax.storeGN {E:World} {P:Program} {ops:Array Oper} {K:aU→OL→Prop} {env:aU} {O O':OL} {rest:List Oper} {ty:Nat} {pos:String} {af:Array Edge} {x y:Operand} {t:TypeId} {i off k:Nat} {T:TypeId} {v:AV} {cs new:List AV} (hs:∀w,(sizeOf t).run P w=.ok 1 w) (hx:bd env x=.po i off) (hy:bd env y=v) (hv:v.sto=true) (hl:v.cs=[v]) (hl1:v.cell=true)
  (hO:gc O i (.u k T cs) (.u k T new) O') (hb:off<cs.length) (hnew:cs.set off v=new) (kk:ax P E ops K rest env O'):ax P E ops K (Oper.mk none (.store t x y) ty pos af none::rest) env O:=by
 subst hnew;exact ax.storeG1 hs hx hy hv hl hl1 hO hb kk
section
variable {I J:G} {L:List (Nat × Obj)} {O O':OL} {i k m:Nat} {T:TypeId}
end
theorem Jm {α:Type} [Inhabited α] (c:fu α):∀(l:List α) (t:Nat),t<l.length*c.k→(c.vs l)[t]?=some (c.val l[t / c.k]!)[t % c.k]!
 |[],t,h=>by simp at h
 |x::l,t,h=>by
  have e:c.vs (x::l)=c.val x++c.vs l:=by unfold fu.vs;rw[List.flatMap_cons]
  rw[e]
  by_cases ht:t<c.k
  ·rw[List.getElem?_append_left (by rw[c.len];exact ht),Nat.div_eq_of_lt ht,Nat.mod_eq_of_lt ht,List.getElem!_cons_zero,qt (by rw[c.len];exact ht),getElem!_pos (c.val x) t (by rw[c.len];exact ht)]
  obtain ⟨s,rfl⟩:∃s,t=s+c.k:=⟨t - c.k,by omega⟩;rw[List.getElem?_append_right (by rw[c.len];omega),c.len,Nat.add_sub_cancel,Nat.add_div_right _ c.pos,Nat.add_mod_right,List.getElem!_cons_succ];exact Jm c l s (by rw[List.length_cons,Nat.add_mul,Nat.one_mul] at h;omega)
theorem BU (zl:List Value) (m:Nat) (h0:0<zl.length) (h1:∀u∈zl,u.oneCell'=true):madeCells zl.toArray (m*zl.length)=(List.replicate m zl).flatten.toArray:=by
 let c:fu Unit:=⟨zl.length,fun _=>zl,h0,fun _=>rfl,fun _=>h1⟩
 have e:(List.replicate m zl).flatten=c.vs (List.replicate m ()):=by
  show _=(List.replicate m ()).flatMap fun _=>zl;rw[List.flatMap,List.map_replicate]
 rw[e];apply Array.ext_getElem?;intro t;have e3:(c.vs (List.replicate m ())).toArray[t]?=(c.vs (List.replicate m ()))[t]?:=List.getElem?_toArray;rw[e3]
 by_cases ht:t<m*zl.length
 ·rw[Jm c _ t (by rw[List.length_replicate];exact ht)];unfold madeCells;rw[Array.getElem?_map,Array.getElem?_range,if_pos ht];show some (zl.toArray[t % zl.toArray.size]!)=some (zl[t % zl.length]!);simp
 rw[Array.getElem?_eq_none (by rw[size_madeCells];omega),List.getElem?_eq_none (by rw[c.vs_len,List.length_replicate];show m*zl.length≤t;omega)]
section
variable {E:World} {P:Program} {ops:Array Oper} {K:aU→OL→Prop} {env:aU} {O:OL} {rest:List Oper} {d ty:Nat} {pos:String} {af:Array Edge} {x y:Operand} {t e:TypeId}
theorem ax.makeZ {i:TypeInfo} {zv:Value} {m:Nat} {k1 k2:IntKind} {l l':Int} (zl:List Value) (ht:P.underlying t=some (.slice e)) (hi:P.info? e=some i) (hz:i.zero=some zv) (hzc:zv.cells=zl.toArray) (hk:i.size=zl.length) (h0:0<zl.length) (h1:∀u∈zl,u.oneCell'=true) (hx:bd env x=.int k1 l) (hy:bd env y=.int k2 l')
  (hl:l=(m:Int)) (hl':l'=(m:Int)) (hb:(i.bytes:Int)*(m:Int)≤281474976710656) (hm:m≤281474976710656) (kk:∀j,ax P E ops K rest (bB env d (.j j m)) ((j,.u zl.length e (List.replicate m (zl.map lit)).flatten)::O)) :
  ax P E ops K (Oper.mk (some d) (.makeSlice t x y) ty pos af none::rest) env O:=fun I F ρ w g1 g2=>by
 obtain ⟨L,hL,hS⟩:=g2.2;obtain ⟨j,hj⟩:=g2.name;have hx:=gV g1 hx;have hy:=gV g1 hy;refine bL.step U ?_;unfold mJ;subst hl hl';have hrun:=run_make (P:=P) w t e i zv ht hi hz k1 k2 m m (by omega) (by omega) hb (by omega);rw[hzc,hk,Int.toNat_natCast,BU zl m h0 h1] at hrun;have hrun:(execOp (Go.Proofs.YtbbonnfjealmpaaGreatDoor.ev ρ) (Oper.mk (some d) (.makeSlice t x y) ty pos af none)).run P w=.ok (.value (.slice (some ⟨w.heap.size,0,none⟩) m m)) (w.alloc (.cells (List.replicate m zl).flatten.toArray e)):=by
  simp[execOp,hx,hy,hrun]
 rw[hrun];obtain ⟨J,e1,hle,e2,htop⟩:=hj (some w.heap.size,m);have hrep:RepL J (List.replicate m (zl.map lit)).flatten (List.replicate m zl).flatten:=by
  have:=fj J (List.replicate m zl).flatten
  rwa [List.map_flatten,List.map_replicate] at this
 have hS':=hS.alloc (.cells (List.replicate m zl).flatten.toArray e);refine bL.mono (fun _ _=>dB.up hle) _ _ _ (kk j J F _ _ ((g1.mono hle).upd d ⟨_,m,e2,rfl⟩) ⟨htop,_,⟨[(w.heap.size,.cells (List.replicate m zl).flatten.toArray e (0,0))],L,rfl,⟨some w.heap.size,m,m,_,e2,hrep,(fun u hu=>by
  obtain ⟨r,hr,hu⟩:=List.mem_flatten.1 hu;rw[List.eq_of_mem_replicate hr] at hu;exact h1 u hu),fI.made (by simp[Nat.mul_comm])⟩,hL.mono hle⟩,by rw[e1];exact hS'⟩)
end
theorem BV {α:Type} {k:Nat}:∀{rows:List (List α)} {j:Nat} {r:List α},(∀x∈rows,x.length=k)→j<rows.length→r.length=k→rows.flatten.take (j*k)++r++rows.flatten.drop (j*k+k)=(rows.set j r).flatten
 |[],j,r,_,h,_=>by simp at h
 |x::rows,0,r,hk,_,hr=>by
  have:=hk x (.head _);rw[List.set_cons_zero,List.flatten_cons,List.flatten_cons];rw[Nat.zero_mul,List.take_zero,List.nil_append,Nat.zero_add,←this,List.drop_left]
 |x::rows,j+1,r,hk,h,hr=>by
  have hx:=hk x (.head _);have ih:=BV (rows:=rows) (j:=j) (r:=r) (fun y hy=>hk y (.tail _ hy)) (by simpa using h) hr;rw[List.set_cons_succ,List.flatten_cons,List.flatten_cons,←ih,Nat.add_mul,Nat.one_mul];have e1:(x++rows.flatten).take (j*k+k)=x++rows.flatten.take (j*k):=by
   rw[List.take_append,List.take_of_length_le (by omega),hx,Nat.add_sub_cancel]
  have e2:(x++rows.flatten).drop (j*k+k+k)=rows.flatten.drop (j*k+k):=by
   rw[List.drop_append,List.drop_eq_nil_of_le (by omega),hx,List.nil_append];congr 1;omega
  rw[e1,e2];simp only[qv]
end
section
open Go.Proofs.Tryz
open Go.Proofs Go.Lib Go.Shelf Go.RowKit
variable {E:World}
set_option maxRecDepth 20000
theorem Lw {α:Type} {l:List α} {i:Nat} {a:α} (h:l[i]?=some a):l.drop i=a::l.drop (i+1):=by
 obtain ⟨h1,h2⟩:=List.getElem?_eq_some_iff.1 h;rw[←h2];exact List.drop_eq_getElem_cons h1
structure Nu (n:Nat) (l:List Ot):Prop where
 le:n≤2000
 fac:∀q∈l,Nc n q∧(-EH≤q.c∧q.c≤EH)
 len:l.length≤10000
theorem xj {α:Type} {k:Nat}:∀{rows:List (List α)} {j i:Nat} {r:List α} {v:α},(∀x∈rows,x.length=k)→rows[j]?=some r→i<k→rows.flatten.set (j*k+i) v=(rows.set j (r.set i v)).flatten
 |x::rows,0,i,r,v,hk,h,hi=>by
  cases h;rw[List.flatten_cons,Nat.zero_mul,Nat.zero_add,List.set_append_left _ _ (by rw[hk x (.head _)];exact hi)];rfl
 |x::rows,j+1,i,r,v,hk,h,hi=>by
  have h1:=hk x (.head _);rw[List.flatten_cons,List.set_append_right _ _ (by rw[h1,Nat.succ_mul];omega),h1,show (j+1)*k+i - k=j*k+i by rw[Nat.succ_mul];omega,xj (fun y hy=>hk y (.tail _ hy)) h hi];rfl
end
section
open Go.Proofs.Tryz
open Go.Proofs
theorem fa.up {env e:aU} {d:Nat} {v:AV}:∀{f:List Nat},f.all (fun t=>!Nat.beq t d)=true→fa env e f→fa env (bB e d v) f
 |[],_,_=>trivial
 |t::f,h,⟨h1,h2⟩=>by
  rw[List.all_cons,wc] at h;refine ⟨?_,fa.up h.2 h2⟩;unfold bB;have h3:Nat.beq t d=false:=by simpa using h.1
  rw[h3];exact h1
end
section
open Go.Proofs.Tryz
open Go.Proofs Go.Lib Go.Shelf Go.RowKit
variable {E:World}
set_option maxRecDepth 20000
section
variable {f0 f1 f2 t m pr ps:AV} {n:Nat} {l:List Ot} {q v:Int} (hl:Nu n l) (hv:Ou n v) (hq:Ou n q)
include hl hv hq
end
theorem kR {x:aB} (h:0<x.args.length):x.args[0]?=some (dH x):=by unfold dH;rw[qt h];rfl
theorem nN {x:aB} (h:1<x.args.length):x.args[1]?=some (fw x):=by unfold fw;rw[qt h];rfl
section
variable {f:ab} {K:KS} {t pr:AV} (hv:f.v.length≤1000) (hK:KB f K)
include hv hK
end
section
variable {f:ab} {K:KS} {t pr:AV} (hv:f.v.length≤1000) (hK:KB f K)
include hv hK
end
end
section
open Go.Proofs.Tryz
end
section
open Go.Proofs.Tryz
open Go.Proofs Go.Lib Go.Shelf Go.RowKit
variable {E:World}
set_option maxRecDepth 20000
theorem BW (op:Int) (h:0≤op∧op≤26):aS prog E 94 [.i op] (.i (if 18≤op∧op≤24 then op - 17 else 0)):=by
 refine zm func94 U (by decide) U<|Z<|ap U<|Y<|za<|Z<|C U<|aq U U<|aw U<|zo (s:=5) U (fun c1=>?_) (fun c1=>?_)
 ·have h1:op<18:=by simpa using c1
  refine H U U c1<|H U U c1<|aA U c1 U<|Y<|ym U U<|Z<|ap U<|Y<|zf ?_
  repeat (first|refine ad ?_|refine aa ?_)
  refine gu U ?_;rw[if_neg (by omega)]
 have h1:¬op<18:=by simpa using c1
 refine M U U c1<|C U<|M U U c1<|bg U U<|ay U c1 U<|Y<|zq U (fun c2=>?_) (fun c2=>?_)
 ·have h2:24<op:=by simpa using c2
  refine Z<|ap U<|Y<|zf ?_
  repeat (first|refine ad ?_|refine aa ?_)
  refine gu U ?_;rw[if_neg (by omega)]
 have h2:¬24<op:=by simpa using c2
 refine zc<|Z<|C U<|X (Gv.sub U U (by unfold mB;omega))<|ap U<|Y<|zf ?_
 repeat (first|refine ad ?_|refine aa ?_)
 refine gu U ?_;rw[if_pos (by omega)]
theorem vf {f:ab} {v:Int} (h:0≤(aE f v).1∧0≤(aE f v).2):∃(i:Nat) (b:aF) (q:Nat) (x:aB),f.q[i]?=some b∧b.s[q]?=some x∧(aE f v).1=i∧(aE f v).2=q∧eN f v=some x:=by
 obtain ⟨i,b,h1,h2,h3⟩:=iR h.1;obtain ⟨q,x,h4,h5,h6⟩:∃(q:Nat) (x:aB),b.s[q]?=some x∧x.dst=v∧(aE f v).2=q:=by
  rcases h3 with ⟨_,_,_,h4⟩|h3
  ·omega
  exact h3
 exact ⟨i,b,q,x,h1,h4,h2,h6,by unfold eN;rw[if_pos h,h2,h6,Int.toNat_natCast,Int.toNat_natCast,h1];exact h4⟩
theorem BX {f:ab} {v:Int} {y:aB} (hm:eN f v=some y):y.dst=v:=by
 have hy:0≤(aE f v).1∧0≤(aE f v).2:=by
  refine Classical.byContradiction fun h=>?_;unfold eN at hm;rw[if_neg h] at hm;cases hm
 obtain ⟨i,b,h1,h2,h3⟩:=iR hy.1;rcases h3 with ⟨_,_,_,h4⟩|⟨q,x,h4,h5,h6⟩
 ·omega
 have hx:eN f v=some x:=by unfold eN;rw[if_pos hy,h2,h6,Int.toNat_natCast,Int.toNat_natCast,h1];exact h4
 rw[hx] at hm;cases hm;exact h5
theorem rS (f:ab) (hf:small f) (v:Nat) (hm:eN f v=none):aS prog E 50 [.agg (bH f),.i v] (.agg [.i 0,.i (-1),.n,.i 0]):=by
 have hM:=l5 (E:=E) f hf v;have hno:¬(0≤(aE f (v:Int)).1∧0≤(aE f (v:Int)).2):=fun h=>by
  obtain ⟨_,_,_,_,_,_,_,_,h5⟩:=vf h;rw[h5] at hm;cases hm
 refine zm func50 U (by decide) U<|Z<|zx (cs:=_) U U U<|zp (cs:=[.i 0,.i 0,.n,.i 0]) Zo U U<|fun i4=>Y<|Z<|ae Z2 jk U U<|C U<|zb (hM) U<|X (v8 U)<|X (nU U U)<|X (nU U U)<|ap U<|ap U<|Y<|za<|za<|y3 (γ:=Bool) [2,4,5,6] (fun u=>[(18,.bool u)]) (fun u=>[(i4,.cells 51 [.i 0,.i 0,.n,.i 0])]) (fun u=>u=true) ?_ (fun _ _ h=>h) ?_
 ·refine bZ<|C U<|aq U U<|aw U<|zo (s:=15) U (fun c1=>?_) (fun c1=>?_)
  ·refine H U U c1<|H U U c1<|aA U c1 U<|Y ?_;exact ⟨_,f7,aN,aJ,by simp_all<;>omega⟩
  refine M U U c1<|C U<|M U U c1<|aq U U<|ay U c1 U<|Y ?_;exact ⟨_,f7,aN,aJ,by simp_all<;>omega⟩
 rintro u hu;subst hu;refine ym U U<|Z<|X (y5 (cps:=[(1,[_])]) (rs:=[.i 0,_,.n,.i 0]) Dk U U U)<|zi Z9 U U U U U U .head U<|Y<|zf<|yi U ⟨_,.head⟩ Yg Z9 U ?_
 rfl
theorem rT (f:ab) (hf:small f) (v:Nat) {x:aB} (hm:eN f v=some x):aS prog E 50 [.agg (bH f),.i v] (.agg (bu x)):=by
 have hM:=l5 (E:=E) f hf v;have hy:0≤(aE f (v:Int)).1∧0≤(aE f (v:Int)).2:=by
  refine Classical.byContradiction fun h=>?_;unfold eN at hm;rw[if_neg h] at hm;cases hm
 obtain ⟨i,b,q,x',h1,h2,h3,h4,h5⟩:=vf hy;obtain rfl:x'=x:=by rw[h5] at hm;exact Option.some.inj hm
 refine zm func50 U (by decide) U<|Z<|zx (cs:=_) U U U<|zp (cs:=[.i 0,.i 0,.n,.i 0]) Zo U U<|fun i4=>Y<|Z<|ae Z2 jk U U<|C U<|zb (hM) U<|X (v8 U)<|X (nU U U)<|X (nU U U)<|ap U<|ap U<|Y<|za<|za<|y3 (γ:=Bool) [2,4,5,6] (fun u=>[(18,.bool u)]) (fun u=>[(i4,.cells 51 [.i 0,.i 0,.n,.i 0])]) (fun u=>u=false) ?_ (fun _ _ h=>h) ?_
 ·refine bZ<|C U<|aq U U<|aw U<|zo (s:=15) U (fun c2=>?_) (fun c2=>?_)
  ·refine H U U c2<|H U U c2<|aA U c2 U<|Y ?_;exact ⟨_,f7,aN,aJ,by simp_all<;>omega⟩
  refine M U U c2<|C U<|M U U c2<|aq U U<|ay U c2 U<|Y ?_;exact ⟨_,f7,aN,aJ,by simp_all<;>omega⟩
 rintro u hu;subst hu;refine yl U U<|zc<|Z<|ao jf U Zd U U<|aK Zf U<|C U<|X (bD i jr Z1 U U h3 h1)<|ao ji U Zw U U<|aK Y3 U<|C U<|X (bD q Z4 Z9 U U h4 h2)<|ae Yg Z9 U U<|zi Z9 U U U U U U .head U<|Y<|zf<|yi U ⟨_,.head⟩ Yg Z9 U ?_
 rfl
section
variable {f:ab} {K:KS} {P:List aB} (hv:f.v.length≤1000) (hK:KB f K)
include hv hK
end
end
section
open Go.Proofs.Tryz
def Lx (Xq:OL):bC:=.heapG (fun I L=>∃L',cO I Xq L'∧L.Perm L') fun I J L h hp=>by obtain ⟨L',h1,h2⟩:=hp;exact ⟨L',h1.mono h,h2⟩
section
variable {E:World} {env:aU} {O O1 O':OL} {m i:Nat} {o:bC} {Xq X':OL}
theorem aR.bagNew:aR E env O env ((0,Lx [])::O):=fun I F ρ w h1 ⟨ht,L,hL,hS⟩=>⟨I,.refl _,h1,ht,L,⟨[],L,rfl,⟨[],rfl,.refl _⟩,hL⟩,hS⟩
theorem aR.bagOut (hX:Xq.Perm ((i,o)::X')) (hO:gc O m (Lx Xq) (Lx X') O'):aR E env O env ((i,o)::O'):=fun I F ρ w h1 ⟨ht,L,hL,hS⟩=>by
 obtain ⟨A,B,hp,⟨L',hA,hpA⟩,hback⟩:=hO.rep hL;obtain ⟨L2,h2,h3⟩:=hA.perm hX;obtain ⟨Cq0,Dq0,rfl,h4,h5⟩:=h2;obtain ⟨L3,h6,h7⟩:=hback (G.le.refl I) (A':=Dq0) ⟨Dq0,h5,.refl _⟩;refine ⟨I,.refl _,h1,ht,Cq0++L3,⟨Cq0,L3,U,h4,h6⟩,hS.perm (List.Perm.append_right F ?_)⟩;refine (h7.append_left Cq0).trans ?_;rw[←qv];exact (((hpA.trans h3).append_right B).symm).trans hp.symm
theorem aR.bagIn (hP:dI O i o O1) (hX:((i,o)::Xq).Perm X') (hO:gc O1 m (Lx Xq) (Lx X') O'):aR E env O env O':=fun I F ρ w h1 ⟨ht,L,hL,hS⟩=>by
 obtain ⟨A,B,hp,hA,hB⟩:=hP.rep hL;obtain ⟨A2,B2,hp2,⟨L',h3,h4⟩,hback⟩:=hO.rep hB;obtain ⟨L4,h5,h6⟩:=(show cO I ((i,o)::Xq) (A++L') from ⟨A,L',rfl,hA,h3⟩).perm hX;obtain ⟨L5,h7,h8⟩:=hback (G.le.refl I) (A':=A++A2) ⟨L4,h5,(h4.append_left A).trans h6⟩;refine ⟨I,.refl _,h1,ht,L5,h7,hS.perm (List.Perm.append_right F ?_)⟩;refine h8.trans ?_;rw[qv];exact ((hp2.append_left A).symm).trans hp.symm
end
theorem yM {α β γ:Type} (g:α→β→γ):∀(xs:List α) (ys:List β) (j:Nat) {a:α} {b:β},xs[j]?=some a→ys[j]?=some b→∃Xq,(List.zipWith g xs ys).Perm (g a b::Xq)∧∀a' b',(g a' b'::Xq).Perm (List.zipWith g (xs.set j a') (ys.set j b'))
 |[],_,j,_,_,h,_=>by simp at h
 |_::_,[],j,_,_,_,h=>by simp at h
 |x::xs,y::ys,0,a,b,h1,h2=>by
  simp at h1 h2;subst h1 h2;exact ⟨List.zipWith g xs ys,.refl _,fun _ _=>.refl _⟩
 |x::xs,y::ys,j+1,a,b,h1,h2=>by
  obtain ⟨Xq,h3,h4⟩:=yM g xs ys j (by simpa using h1) (by simpa using h2);refine ⟨g x y::Xq,(h3.cons _).trans (.swap _ _ _),fun a' b'=>?_⟩;exact (List.Perm.swap _ _ _).trans ((h4 a' b').cons _)
theorem Ly {I J:G} {id k:Nat} {T:TypeId} {rows:List (List AV)} {L:List (Nat × Obj)} (hk:∀r∈rows,r.length=k) (hk0:0<k) (h:sR I (id,.u k T rows.flatten) L) (hle:I.le J) (hJ:∀x∈L,J.k x.1=some x.2) {v:Value} (hv:bW I (.j id rows.length) v):bW J (.fro k rows) v:=by
 obtain ⟨b,c,n,vs,e1,hvs,hvc,hown⟩:=h;simp only at e1;have hflat:=zG hk;have hnm:n=rows.length:=by
  have h5:=hown.1;have h6:=hvs.length;have:n*k=rows.length*k:=by omega
  exact Nat.eq_of_mul_eq_mul_right hk0 this
 obtain ⟨b2,c2,e2,rfl⟩:=hv;rw[e1] at e2;simp only[Option.some.injEq,Prod.mk.injEq] at e2;obtain ⟨rfl,rfl⟩:=e2;obtain ⟨h5,h6,h7⟩:=hown;rcases h7 with ⟨ea,rfl,rfl⟩|⟨b',junk,ea,rfl,hj⟩
 ·have h0:rows=[]:=w6 (by omega);subst h0;exact ⟨adr b,0,0,rfl,rfl,Nat.le_refl _,fun _=>rfl,trivial⟩
 cases b with
 |none=>simp[adr] at ea
 |some b=>
  simp[adr] at ea;subst ea;have hb:=hJ _ (.head _);simp only at hb;refine ⟨adr (some b),rows.length,c,U,U,by omega,fun h=>by simp[adr] at h,RepR.of_flat hb rows vs 0 hk (RepL.mono hle _ _ hvs) fun i u hu=>?_⟩;rw[Nat.zero_mul,Nat.zero_add,List.getElem?_toArray,List.getElem?_append_left (List.getElem?_eq_some_iff.1 hu).1];exact hu
section
variable {E:World} {env:aU} {O O1 O':OL} {m i k:Nat} {T:TypeId} {cs cs':List AV} {Xq:OL}
end
section
variable {E:World} {P:Program} {n:Nat} {env:aU} {O O' O'':OL}
theorem gc.sameG {I J:G} {j off k2:Nat} {T:TypeId} {cs new:List AV} {x y:AV} (hle:I.le J) (hp:gc O j (.u k2 T cs) (.u k2 T new) O') (hc:cs[off]?=some x) (hnew:cs.set off y=new) (hxy:∀v,bW I x v→bW J y v)
  {L:List (Nat × Obj)} (hL:cO I O L):∃L',cO J O' L'∧L.Perm L':=by
 subst hnew;obtain ⟨A,B,hp1,⟨b,c,n,vs,e1,hvs,hvc,hown⟩,hback⟩:=hp.rep hL;obtain ⟨L',h1,h2⟩:=hback hle (A':=A) ⟨b,c,n,vs,hle.h _ _ e1,hvs.same hle hc hxy,hvc,hown⟩;exact ⟨L',h1,hp1.trans h2.symm⟩
theorem Gy {j off k k2:Nat} {T T':TypeId} {cs:List AV} {new:Nat→List AV} {c:Code} {Q:Exit→aU→OL→Prop} {f:Nat→OL} (hP:∀i,gc O j (.u k2 T' cs) (.u k2 T' (new i)) (f i)) (hnew:∀i,cs.set off (.j i 0)=new i) (hc:cs[off]?=some .n)
  (h:∀i,bY P E n c Q env ((i,.u k T [])::f i)):bY P E n c Q env O:=fun I F ρ w h1 h2=>by
 obtain ⟨i,hi⟩:=h2.name;obtain ⟨J,e1,hle,e2,htop⟩:=hi (none,0);obtain ⟨_,L,hL,hS⟩:=h2;obtain ⟨L',h3,h4⟩:=gc.sameG hle (hP i) hc (hnew i) (fun v hv=>⟨none,0,e2,hv⟩) hL;exact (h i J F ρ w (h1.mono hle) ⟨htop,_,⟨[],L',rfl,⟨none,0,0,[],e2,rfl,by simp,fI.nil k T⟩,h3⟩,by rw[e1];exact hS.perm (h4.symm.append_right F)⟩).mono fun _ _ _=>nS.up hle
theorem Jn {I:G} {F:List (Nat × Obj)} {E w:World} {i k m:Nat} {T:TypeId} {rows:List (List AV)} (hO:dI O i (.u k T rows.flatten) O') (hk:∀r∈rows,r.length=k) (hk0:0<k) (hm:rows.length=m) (h:iT I O F E w) :
  ∃J B,I.le J∧cO I O' B∧(∃top,∀i,top≤i→J.h i=none)∧SL J.k (B++F) E w∧∀v,bW I (.j i m) v→bW J (.fro k rows) v:=by
 obtain ⟨ht,L,hL,hS⟩:=h;obtain ⟨A,B,hp,hA,hB⟩:=hO.rep hL;have hS2:SL I.k (A++(B++F)) E w:=hS.perm (by rw[←qv];exact (hp.append_right F).symm);obtain ⟨J,j1,j2,j3⟩:=SL.freezeAllN hS2;have hle:I.le ⟨J,I.h⟩:=⟨j1,fun _ _ h=>h⟩;subst hm;exact ⟨⟨J,I.h⟩,B,hle,hB,ht,j2,fun v hv=>Ly hk hk0 hA hle j3 hv⟩
theorem aR.knowG {j off i k k2 m:Nat} {T T':TypeId} {cs new:List AV} {rows:List (List AV)} (hO:dI O i (.u k T rows.flatten) O') (hP:gc O' j (.u k2 T' cs) (.u k2 T' new) O'') (hc:cs[off]?=some (.j i m)) (hnew:cs.set off (.fro k rows)=new)
  (hk:∀r∈rows,r.length=k) (hk0:0<k) (hm:rows.length=m):aR E env O env O'':=fun I F ρ w h1 h2=>by
 obtain ⟨J,B,hle,hB,htop,hS,h4⟩:=Jn hO hk hk0 hm h2;obtain ⟨L',h5,h6⟩:=gc.sameG hle hP hc hnew h4 hB;exact ⟨J,hle,h1.mono hle,htop,L',h5,hS.perm (h6.symm.append_right F)⟩
end
section
variable {E:World} {env:aU} {O O':OL}
theorem aR.impO {i k:Nat} {T:TypeId} {cs new:List AV} (hP:gc O i (.u k T cs) (.u k T new) O') (h:oN cs new):aR E env O env O':=fun I F ρ w h1 ⟨ht,L,hL,hS⟩=>by
 obtain ⟨A,B,hp1,⟨b,c,n,vs,e1,hvs,hvc,hown⟩,hback⟩:=hP.rep hL;obtain ⟨L',h3,h4⟩:=hback (.refl I) (A':=A) ⟨b,c,n,vs,e1,h I vs hvs,hvc,hown⟩;exact ⟨I,.refl I,h1,ht,L',h3,hS.perm ((hp1.trans h4.symm).symm.append_right F)⟩
end
theorem aS.impT {E:World} {P:Program} {f:FuncId} {ars:List AV} {x y:AV} (h:aS P E f ars x) (hi:yY x y):aS P E f ars y:=fun I F w vs h1 h2=>
 (h I F w vs h1 h2).mono fun _ _ ⟨J,z,O',a,b,c,d⟩=>⟨J,y,O',a,hi J _ (d▸b),c,rfl⟩
theorem oN.rep {xs ys:List AV} (h:oN xs ys):∀n:Nat,oN (List.replicate n xs).flatten (List.replicate n ys).flatten
 |0=>.nil
 |n+1=>fun I vs hv=>by
  rw[List.replicate_succ,List.flatten_cons] at hv ⊢;have h1:=RepL.take hv xs.length;have h2:=RepL.drop hv xs.length;rw[List.take_left' rfl] at h1;rw[List.drop_left' rfl] at h2;have:=RepL.append (h I _ h1) (oN.rep h n I _ h2);rw[List.take_append_drop] at this;exact this
theorem Jo {α:Type} {P R:List α} {n:Nat} (h:P.length=n) (j:Nat):(P++R).drop (n+j)=R.drop j:=by
 subst h;rw[List.drop_append,List.drop_eq_nil_of_le (by omega),List.nil_append,Nat.add_sub_cancel_left]
theorem Jp {α:Type} {P R:List α} {n:Nat} (h:P.length=n) (j:Nat) (v:α):(P++R).set (n+j) v=P++R.set j v:=by
 subst h;rw[List.set_append_right _ _ (by omega),Nat.add_sub_cancel_left]
theorem OI {α:Type} {P R:List α} {n:Nat} (h:P.length=n) (j:Nat):(P++R)[n+j]?=R[j]?:=by
 subst h;rw[List.getElem?_append_right (by omega),Nat.add_sub_cancel_left]
end
section
open Go.Proofs.Tryz
open Go.Proofs Go.Lib Go.Shelf Go.RowKit
theorem Nv:dp prog 22 48 1 2 [.e,.i 0]:=⟨_,Z7,Yc,Xf,by decide,by decide,by kernel_rfl⟩
theorem Jq:dp prog 52 51 1 4 [.i 0,.i 0,.n,.i 0]:=⟨_,Z4,Z9,Zo,by decide,by decide,by kernel_rfl⟩
variable {E:World}
set_option maxRecDepth 20000
def Jr (f:ab) (v:Int):Int:=match eN f v with|none=>0|some x=>x.op
def BZ (f:ab) (v:Int):Int:=match eN f v with|none=>-1|some x=>x.dst
theorem DA (f:ab) (hf:small f) (v:Nat):∃rows n,aS prog E 50 [.agg (bH f),.i v] (.agg [.i (Jr f v),.i (BZ f v),.fro 1 rows,.i n]):=by
 unfold Jr BZ;cases hm:eN f v with
 |none=>exact ⟨[],0,aS.impT (rS f hf v hm) (yY.agg (.cons (.refl _) (.cons (.refl _) (.cons (yY.nil 1) (.cons (.refl _) .nil)))))⟩
 |some x=>exact ⟨_,_,rT f hf v hm⟩
theorem Js (f:ab) (v:Nat):yE f v=(decide (0≤BZ f v)&&decide (Jr f v=0)):=by
 unfold yE Jr BZ;cases hm:eN f (v:Int) with
 |none=>rfl
 |some x=>
  have:=BX hm;rw[wa (p:=0≤x.dst) (by rw[this];omega)];rfl
def OJ (f:ab) (jv N jb n jn m k:Nat):List AV:=[.fro 2 (f.v.map bO),.fro 1 (f.z.map b7),.fro 7 (f.q.map bK),.j jv N,.fro 1 (f.z.map b7),.j jb n,.j jn m,.i k]
def B3 (f:ab) (iw jv jb n jn jl:Nat) (p:gL):OL:=[(iw,.cells 73 (OJ f jv p.1.v.length jb n jn p.1.now.length p.1.k)),(jv,.u 2 48 (p.1.v.map bO).flatten),(jn,.u 1 3 (cI p.1.now)),(jl,.u 4 51 (p.2.map bu).flatten)]
def OK (f:ab) (jb n iw jn:Nat) (p q:gL) (jv jl:Nat) (v:Int) (x:aB) (E:World):Prop:=
 aX prog E 26 [.po iw 0,.j jl p.2.length,.i v,.agg (bu x)] (B3 f iw jv jb n jn jl p) (fun y O=>∃g:Nat × Nat,y=.j g.2 q.2.length∧O=B3 f iw g.1 jb n jn g.2 q∧True)
theorem DB (f:ab) (hf:small f) (jb n iw jn:Nat) (p:gL) (jv jl:Nat) (v:Nat) (hv:v<p.1.now.length) (x:aB) (hk:p.1.k≤100000000) (hV:p.1.v.length≤1000000) (hl:p.2.length≤1000000):OK f jb n iw jn p (fp f p v x) jv jl v x E:=by
 obtain ⟨A,a,hM⟩:=DA (E:=E) f hf v;have hN:=BT (E:=E) f hf.1 p.1.k hk;have hcs:=Js f v;refine aX.exact (γ:=Nat × Nat) (x:=fun g=>.j g.2 (fp f p v x).2.length) (Mq0:=fun g=>B3 f iw g.1 jb n jn g.2 (fp f p v x)) (p:=fun _=>True) ?_;unfold fp;rw[hcs];unfold B3 OJ;refine zm func26 U (by decide) U<|Z<|qi (cs:=_) U U U U<|fun i7=>X (kT U)<|Y<|Z<|bf U<|aC U<|X (ze Zk U jk (by decide) U U)<|X (qh (l:=[_,_,_]) Z2 jk U ⟨_,.t1⟩ U U)<|C U<|zb (hM) U<|zp (cs:=[.i 0,.i 0,.n,.i 0]) Zo U U<|fun i9=>zi Z9 U U U U U U .head U<|y9 (zz (t:=9) U .head)<|Y<|za<|za<|y3 (γ:=Bool) [0,1,2,7] (fun u=>[(24,.bool u)]) (fun u=>[(i7,.cells 51 (bu x)),(iw,.cells 73 (OJ f jv p.1.v.length jb n jn p.1.now.length p.1.k)),(jv,.u 2 48 (p.1.v.map bO).flatten),(jn,.u 1 3 (cI p.1.now)),(jl,.u 4 51 (p.2.map bu).flatten)]) (fun u=>u=(decide (0≤BZ f v)&&decide (Jr f v=0))) ?_ (fun _ _ h=>h) ?_
 ·refine bZ<|ao jd U j9 U U<|aD jg U<|X (q7 U U)<|aw U<|zo (s:=20) U (fun c1=>?_) (fun c1=>?_)
  ·refine M U U c1<|ao jd U Zu U U<|M U U c1<|aD Y2 U<|M U U c1<|au U U<|aA U c1 U<|Y ?_;exact ⟨_,(by repeat (first|with_reducible exact yc _ _|refine fa.up rfl ?_|exact f7)),aN,aJ,by simp_all<;>omega⟩
  refine H U U c1<|H U U c1<|H U U c1<|ay U c1 U<|Y ?_;exact ⟨_,(by repeat (first|with_reducible exact yc _ _|refine fa.up rfl ?_|exact f7)),aN,aJ,by simp_all<;>omega⟩
 rintro u hu;subst hu;refine zq U (fun cu=>?_) (fun cu=>?_)
 ·rw[if_pos cu];refine yd (qe .head)<|Z<|bX U<|X (eO U)<|Y<|zf<|yz (x:=.j _ _) U ?_;exact ⟨(jv,jl),rfl,⟨_,.refl _,rfl⟩,trivial⟩
 rw[if_neg (by rw[cu];decide)]
 refine zc<|Z<|X (q9 (v:=.str _) U)<|Y<|za<|zn (fun j=>Nat.beq j 16) (by kernel_rfl) U (zk (.l (.r (.rest _))))<|D 0 U (dZ U)<|D 1 U (dZ U)<|D 2 U (zr U)<|D 3 U (ze Zk U jk (by decide) U U)<|D 4 U (qh (l:=[_,_,_]) Z2 jk U ⟨_,.head⟩ U U)<|D 5 U (dZ U)<|D 6 U (zr U)<|D 7 U (ze Zk U j9 (by decide) U U)<|D 8 U (zj (c:=.int _ _) jg U ⟨_,.head⟩ U)<|bp 9 U<|zb (hN) U<|Y<|D 10 U (v8 U)<|D 11 U (Gv.extract (v:=.str _) U U)<|D 12 U (nU U U)<|D 13 U (q9 (v:=.str _) U)<|yo (i:=14) U (by kernel_rfl) (by kernel_rfl) (by kernel_rfl) (by kernel_rfl) (zr U)<|D 15 U (ze Zk U j9 (by decide) U U)<|y4<|yg (i:=16) U (by kernel_rfl) (by kernel_rfl)<|yh (l:=[_]) (new:=[_,_,_,_,_,_,_,_]) j9 U U U U U U .head U U<|Y<|y8 (by kernel_rfl)<|Z<|bf U<|aC U<|X (ze Zk U jk (by decide) U U)<|X (ze jf U Zs (by decide) U U)<|X (zj (c:=.j _ _) Y4 U ⟨_,.head⟩ U)<|X (qm Z7 U)<|X (ze jd U j9 (by decide) U U)<|yh (l:=[_]) (new:=[_,_,_,_]) j9 U U U U U U .t1 U U<|Y<|za<|zn (fun j=>Nat.beq j 8) (by kernel_rfl) U (zk (.r (.r (.rest _)))) ?_
 refine D 0 U (dZ U)<|D 1 U (zr U)<|D 2 U (ze Zk U jh (by decide) U U)<|D 3 U (zj (c:=.j _ _) jy U ⟨_,.head⟩ U)<|D 4 U (dC U)<|D 5 U (ze jd U j9 (by decide) U U)<|D 6 U (zj (c:=.int _ _) jg U ⟨_,.t1⟩ U)<|bp 7 U<|X (y7 (j:=v) j7 j9 U U U ⟨_,.t1⟩ (aH _) hv)<|Y<|y4<|yg (i:=8) U (by kernel_rfl) (by kernel_rfl)<|yw (j:=v) j9 U U .t3 hv<|Y<|y8 (by kernel_rfl)<|Z<|bf U<|bf U<|aC U<|X (ze Zk U jk (by decide) U U)<|X (ze jf U Zs (by decide) U U)<|X (zj (c:=.j _ _) Y4 U ⟨_,.head⟩ U)<|X (yn (v:=.str _) U)<|X (y5 (cps:=[(0,[_])]) (rs:=[_,.i 0]) M7 U U U)<|zw (rows:=[[_,_]]) Nv U U U U U<|yb (k:=2) Z7 type48 U U U U U (fun _=>.t2) (er (k:=2) (fun _=>U) _) (by decide) U (by show (_+1)*24≤_;omega) (by show _+1≤_;omega)<|fun i65=>aC U<|X (ze Zk U jk (by decide) U U)<|X (ze jf U Zs (by decide) U U)<|yh (l:=[_]) (new:=[_,_,_,_,_,_,_,_]) Zs U U U U U U .head U U<|Y<|Z<|bX U<|X (qb Yg Z9 U ⟨_,.t1⟩ U)<|zw (rows:=[[_,_,_,_]]) Jq U U U U U<|yb (k:=4) Z4 type51 U U U U U (fun _=>.t4) (er (k:=4) (fun _=>U) _) (by decide) U (by show (_+1)*48≤_;omega) (by show _+1≤_;omega)<|fun i72=>X (eO U)<|Y<|yd (qe .t1) ?_
 refine gd .t3<|gd .t3<|gd .t3<|gd .t3<|zf<|yz (x:=.j _ _) U ?_;exact ⟨(i65,i72),by dsimp only[kO];rw[qz];rfl,⟨_,.refl _,by dsimp only[kO];rw[qz,List.length_set,←ft (enc:=bO) rfl,←ft (enc:=bu) rfl];rfl⟩,trivial⟩
theorem Jt (f:ab) (hf:small f) (jb n iw jn:Nat) (p:gL) (jv jl:Nat) (v:Int) (h0:0≤v) (hv:v<p.1.now.length) (x:aB) (hk:p.1.k≤100000000) (hV:p.1.v.length≤1000000) (hl:p.2.length≤1000000):aX prog E 26 [.po iw 0,.j jl p.2.length,.i v,.agg (bu x)] (B3 f iw jv jb n jn jl p) (fun y O=>∃g:Nat × Nat,y=.j g.2 (fp f p v x).2.length∧O=B3 f iw g.1 jb n jn g.2 (fp f p v x)∧True):=by
 obtain ⟨k,rfl⟩:=Int.eq_ofNat_of_zero_le h0;exact DB f hf jb n iw jn p jv jl k (by omega) x hk hV hl
end
section
open Go.Proofs.Tryz
section
variable {κ:Type} [DecidableEq κ] (c:IK κ)
variable {c}
section
variable {E:World} {P:Program} {ops:Array Oper} {K:aU→OL→Prop} {env:aU} {O O':OL} {rest:List Oper} {n:Nat}
variable {d ty:Nat} {pos:String} {af:Array Edge} {x y z:Operand} {t u e T kt:TypeId} {b:Nat}
end
end
section
variable {f:ab} (hR:bq f)
include hR
theorem bq.rk0 {v:Int} {y:aB} (h:eN f v=some y) (hl:0<y.args.length):EM f (dH y)<EM f v:=hR.rk_arg h _ (Bq hl)
theorem bq.rk1 {v:Int} {y:aB} (h:eN f v=some y) (hl:1<y.args.length):EM f (fw y)<EM f v:=hR.rk_arg h _ (IH hl)
end
abbrev Gz:=Int × Bool
structure OM (f:ab) (es:List (Gz × Int)) (q:iS):Prop where
 get:∀k,(OA es k).isSome=q.seen.contains k
 pos:∀e∈es,1≤e.2
 nod:q.seen.Nodup
 rng:∀k∈q.seen,bn f k.1=true
 out:q.out.length≤q.seen.length
section
variable {f:ab} {es:List (Gz × Int)} {q:iS}
theorem OM.len (h:OM f es q):q.seen.length≤2*f.v.length:=by
 have hsub:∀k∈q.seen,k∈(ba f.v.length).flatMap fun i=>[(i,true),(i,false)]:=fun k hk=>by
  have hr:0≤k.1∧k.1<f.v.length:=by simpa [bn] using h.rng k hk
  refine List.mem_flatMap.2 ⟨k.1,dR.2 hr,?_⟩;obtain ⟨a,b⟩:=k;cases b<;>simp
 have h1:=List.Nodup.length_le_of_subset h.nod hsub;have h2:∀l:List Int,(l.flatMap fun i=>[(i,true),(i,false)]).length=2*l.length:=fun l=>by
  induction l with
  |nil=>rfl
  |cons a l ih=>
   rw[List.flatMap_cons,qz,ih,List.length_cons];show 2+2*l.length=2*(l.length+1);omega
 have h2:=h2 (ba f.v.length);rw[cA] at h2;omega
end
structure np (f:ab) (q:iS):Prop where
 nod:q.seen.Nodup
 rng:∀k∈q.seen,bn f k.1=true
 out:q.out.length≤q.seen.length
theorem np.len {f:ab} {q:iS} (h:np f q):q.out.length≤2*f.v.length:=by
 have hsub:∀k∈q.seen,k∈(ba f.v.length).flatMap fun i=>[(i,true),(i,false)]:=fun k hk=>by
  have hr:0≤k.1∧k.1<f.v.length:=by simpa [bn] using h.rng k hk
  refine List.mem_flatMap.2 ⟨k.1,dR.2 hr,?_⟩;obtain ⟨a,b⟩:=k;cases b<;>simp
 have h1:=List.Nodup.length_le_of_subset h.nod hsub;have h2:∀l:List Int,(l.flatMap fun i=>[(i,true),(i,false)]).length=2*l.length:=fun l=>by
  induction l with
  |nil=>rfl
  |cons a l ih=>
   rw[List.flatMap_cons,qz,ih,List.length_cons];show 2+2*l.length=2*(l.length+1);omega
 have h2:=h2 (ba f.v.length);rw[cA] at h2;have:=h.out;omega
theorem np.push {f:ab} {q:iS} (h:np f q) {k:Gz} (hk:q.seen.contains k=false) (hr:bn f k.1=true):np f ⟨q.seen++[k],q.out⟩∧∀a b n,np f (fW ⟨q.seen++[k],q.out⟩ a b n):=by
 have hn:(q.seen++[k]).Nodup:=by
  rw[List.nodup_append];refine ⟨h.nod,by simp,fun a ha b hb e=>?_⟩;simp at hb;subst hb e;rw[List.contains_iff_mem.2 ha] at hk;cases hk
 have hg:∀k'∈q.seen++[k],bn f k'.1=true:=fun k' hk'=>by
  rcases List.mem_append.1 hk' with hk'|hk'
  ·exact h.rng k' hk'
  rw[List.mem_singleton.1 hk'];exact hr
 have ho:=h.out;have h1:np f ⟨q.seen++[k],q.out⟩:=⟨hn,hg,by show q.out.length≤(q.seen++[k]).length;simp;omega⟩;refine ⟨h1,fun a b n=>?_⟩;unfold fW;split
 ·exact h1
 exact ⟨hn,hg,by show (q.out++_).length≤(q.seen++[k]).length;simp;omega⟩
theorem oc {f:ab} (hR:bq f):∀(n:Nat) (q:iS) (c:Int) (is:Bool),np f q→bn f c=true→np f (gY f n q c is)
 |0,q,_,_,h,_=>h
 |n+1,q,c,is,h,hc=>by
  unfold gY;split
  ·exact h
  rename_i hk;have hk:q.seen.contains (c,is)=false:=by simpa using hk
  obtain ⟨h1,h2⟩:=h.push hk hc;split
  ·exact h1
  rename_i x hx;obtain ⟨hF,_,_⟩:=hR.madeF hx;have a0:∀{k:Int},x.op=k→0<([0,1,2,2,2,2,2,2,2,2,1,2,1,2,3,1,0,1,2,1,1,2,2,2,1,2,2][k.toNat]?).getD 0→bn f (dH x)=true:=fun e h=>by
   have:=hF.a0 (by rw[hF.cnt e];exact h);unfold bn;simpa using ⟨this.2,this.1⟩
  have a1:∀{k:Int},x.op=k→1<([0,1,2,2,2,2,2,2,2,2,1,2,1,2,3,1,0,1,2,1,1,2,2,2,1,2,2][k.toNat]?).getD 0→bn f (fw x)=true:=fun e h=>by
   have:=hF.a1 (by rw[hF.cnt e];exact h);unfold bn;simpa using ⟨this.2,this.1⟩
  split
  ·rename_i e;exact oc hR n _ _ _ h1 (a0 e (by decide))
  split
  ·rename_i e;exact oc hR n _ _ _ h1 (a0 e (by decide))
  split
  ·rename_i e;split
   ·exact oc hR n _ _ _ (oc hR n _ _ _ h1 (a0 e (by decide))) (a1 e (by decide))
   exact h1
  split
  ·split
   ·exact h2 _ _ _
   exact h2 _ _ _
  split
  ·split
   ·exact h2 _ _ _
   exact h2 _ _ _
  split
  ·split
   ·exact h2 _ _ _
   exact h1
  exact h1
theorem GA {f:ab} (hR:bq f) {c:Int} (is:Bool) (hc:bn f c=true):(rh f c is).length≤2*f.v.length:=(oc hR 100000 ⟨[],[]⟩ c is ⟨List.nodup_nil,fun k hk=>(by cases hk),Nat.le_refl _⟩ hc).len
theorem ET {f:ab} (hR:bq f) (i:Int):(jT f i).length≤2*f.v.length:=by
 unfold jT;split
 ·rename_i p hp;split
  ·rename_i hc;obtain ⟨hp1,_⟩:=hR.pred hp;have hpr:0≤p∧p<f.q.length:=Classical.byContradiction fun hn=>by rw[fg hn] at hp1;cases hp1
   have hvk:bn f (aQ f p).t.var=true:=by
    have h1:=(hR.run.t _ (cU hpr.1 hpr.2));unfold bP at h1;rw[if_neg (by omega),if_pos hc.1] at h1;simp only[wc] at h1;exact h1.1.1
   exact GA hR _ hvk
  exact qw _
 exact qw _
set_option linter.defProp false
def yk:=@fa.up
end
end Go.Proofs.YtbbonnfjealmpaaGreatDoor
