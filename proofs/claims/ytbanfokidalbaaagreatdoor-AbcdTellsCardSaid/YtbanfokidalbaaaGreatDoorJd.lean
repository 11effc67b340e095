/- A slice of slices of one's own, taken row after row: those ahead are given up. No conditions. -/
import Derived.Test.YtbanfokidalbaaaGreatDoorJc
import Derived.Laws.BytesArg
import Derived.ProofKit
import Derived.OpenShut
import Derived.Deep.Matrix
import Derived.Lib.LaidU8
import Derived.Lib.LaidTab
import Derived.MapKept
import Derived.WideMake
import Derived.Laws.Cover4
import Derived.WideLaws
import Derived.Lib.AppendZeros
import Derived.Lib.Builder
import Derived.Lib.AppendStr
import Derived.Lib.UnsafeStr
import Derived.Laws.Externs
import Derived.Sort.Grow
set_option linter.unusedVariables false
set_option linter.unusedSimpArgs false
set_option linter.unusedSectionVars false
namespace Go.Proofs.YtbanfokidalbaaaGreatDoor
section
structure FrS (E:Int→List Int) (a shut:Int) (n:Nat) (out:List Bool):Prop where
 len:out.length=n
 sound:∀b:Nat,out[b]?=some true→iq E a shut b
def zO (a:Int) (out:List Bool) (shut x:Int):Prop:=x≠shut∧(x=a∨gb out x=true)
instance (a:Int) (out:List Bool) (shut x:Int):Decidable (zO a out shut x):=by unfold zO;infer_instance
def Df (E:Int→List Int) (a shut:Int) (out:List Bool) (k:Nat):Prop:=∀x:Nat,x<k→zO a out shut x→∀y:Nat,(y:Int)∈E x→(y:Int)≠shut→gb out y=true
def LK (E:Int→List Int) (a shut:Int) (out:List Bool) (x j:Nat):Prop:=zO a out shut x→∀y:Nat,y<j→(y:Int)∈E x→(y:Int)≠shut→gb out y=true
def mr (out:List Bool):Nat:=(out.filter fun b=>!b).length
theorem zP (out:List Bool) (k:Nat):gb out (k:Int)=(out[k]?).getD false:=rfl
theorem ko {out:List Bool} {k:Nat} (h:k<out.length):out[k]?=some (gb out k):=by
 rw[zP,qq h];rfl
theorem FrS.begin (E:Int→List Int) (a shut:Int) (n:Nat):FrS E a shut n (List.replicate n false):=⟨by simp,fun b h=>by
 rw[List.getElem?_replicate] at h;split at h<;>simp at h⟩
theorem FrS.set {E:Int→List Int} {a shut:Int} {n:Nat} {out:List Bool} (h:FrS E a shut n out) {x y:Nat} (hx:zO a out shut x) (ha:a≠shut∨(x:Int)≠a) (he:(y:Int)∈E x) (hy:(y:Int)≠shut):FrS E a shut n (out.set y true):=by
 refine ⟨by rw[List.length_set];exact h.len,fun b hb=>?_⟩
 by_cases e:b=y
 ·subst e
  refine iq.step (x:=x) ?_ he hy
  rcases hx.2 with e|hg
  ·left
   refine ⟨e,?_⟩
   rw[←e];exact hx.1
  ·right
   by_cases hlt:x<out.length
   ·exact h.sound x (by rw[ko hlt,hg])
   ·rw[zP,List.getElem?_eq_none (by omega)] at hg;simp at hg
 ·rw[List.getElem?_set_ne (fun e2=>e e2.symm)] at hb;exact h.sound b hb
theorem zQ {out:List Bool} {y:Nat} (hy:y<out.length) (h:gb out y=false):mr (out.set y true)+1=mr out:=ke out y (by rw[ko hy,h])
structure LL (E:Int→List Int) (a shut:Int) (n:Nat) (o0 out:List Bool) (again:Bool):Prop extends FrS E a shut n out where
 less:mr out≤mr o0
 more:again=true→mr out<mr o0
 same:again=false→out=o0
theorem LL.hit {E:Int→List Int} {a shut:Int} {n:Nat} {o0 out:List Bool} {again:Bool} (h:LL E a shut n o0 out again) {x y:Nat} (hx:zO a out shut x) (he:(y:Int)∈E x) (hy:(y:Int)≠shut) (hlt:y<n) (hf:gb out y=false):LL E a shut n o0 (out.set y true) true:=by
 have h1:=zQ (out:=out) (y:=y) (by rw[h.len];exact hlt) hf
 have h2:=h.less
 exact { h.toFrS.set hx (by
      by_cases e:(x:Int)=a
      ·left;rw[←e];exact hx.1
      ·exact .inr e) he hy with
     less:=by omega
     more:=fun _=>by omega
     same:=fun e=>by cases e }
theorem FrS.all {E:Int→List Int} {a shut:Int} {n:Nat} {out:List Bool} (hE:f8 E n) (ha:a=a∧0≤a∧a<n) (h:FrS E a shut n out) (hc:Df E a shut out n) (b:Nat) (hb:b<n):gb out b=true↔iq E a shut b:=by
 constructor
 ·intro hg;exact h.sound b (by rw[ko (by rw[h.len];exact hb),hg])
 ·intro hf
  have:=iq.closed (out:=fun x:Int=>0≤x∧x<n∧gb out x=true) (fun x y h1 h2 h3 h4=>by
   have hxr:0≤x∧x<n:=by
    rcases h2 with e|h2
    ·rw[e];exact ha.2
    ·exact ⟨h2.1,h2.2.1⟩
   have hy:=hE.rng x hxr.1 hxr.2 y h3
   have e1:((x.toNat:Nat):Int)=x:=wa hxr.1
   have e2:((y.toNat:Nat):Int)=y:=wa hy.1
   refine ⟨hy.1,hy.2,?_⟩
   have:=hc x.toNat (by omega) ⟨by rw[e1];exact h1,by
    rw[e1]
    rcases h2 with e|h2
    ·exact .inl e
    ·exact .inr h2.2.2⟩ y.toNat (by rw[e1,e2];exact h3) (by rw[e2];exact h4)
   rwa [e2] at this) hf
  exact this.2.2
open Classical in
noncomputable def lb (E:Int→List Int) (n:Nat) (a shut:Int):List Bool:=(d5 n).map fun b=>decide (iq E a shut b)
open Classical in
theorem FrS.eq {E:Int→List Int} {a shut:Int} {n:Nat} {out:List Bool} (hE:f8 E n) (ha:0≤a∧a<n) (h:FrS E a shut n out) (hc:Df E a shut out n):out=lb E n a shut:=by
 refine List.ext_getElem (by rw[h.len];unfold lb;rw[qx,fq]) fun k h1 h2=>?_
 have hk:k<n:=by rw[h.len] at h1;exact h1
 have:=h.all hE ⟨rfl,ha⟩ hc k hk
 have e1:out[k]=gb out k:=by have:=ko h1;rw[qq h1] at this;simpa using this
 have e2:(lb E n a shut)[k]=decide (iq E a shut k):=by
  have h3:(lb E n a shut)[k]?=some (decide (iq E a shut k)):=by unfold lb;rw[qy,mf hk];rfl
  rw[qq h2] at h3
  simpa using h3
 rw[e1,e2]
 by_cases hf:iq E a shut k
 ·rw[w7 hf];exact this.2 hf
 ·rw[w8 hf];exact Bool.eq_false_iff.2 fun e=>hf (this.1 e)
open Classical in
noncomputable def em (E:Int→List Int) (n:Nat) (shut:Int):List Bool:=(d5 n).map fun b=>decide (jL E (fun x=>x≠shut) 0 b)
open Classical in
theorem Dg {E:Int→List Int} {n k:Nat} {a shut:Int} (hk:k<n):(lb E n a shut)[k]?=some (decide (iq E a shut k)):=by unfold lb;rw[qy,mf hk];rfl
open Classical in
theorem kp {E:Int→List Int} {n k:Nat} {shut:Int} (hk:k<n):(em E n shut)[k]?=some (decide (jL E (fun x=>x≠shut) 0 k)):=by unfold em;rw[qy,mf hk];rfl
theorem lJ (E:Int→List Int) (n:Nat) (a shut:Int):(lb E n a shut).length=n:=by unfold lb;rw[qx,fq]
theorem mu (E:Int→List Int) (n:Nat) (shut:Int):(em E n shut).length=n:=by unfold em;rw[qx,fq]
open Classical in
theorem Dh {E:Int→List Int} {n:Nat} (shut:Int):(lb E n 0 shut).set 0 (decide (shut≠0))=em E n shut:=by
 refine List.ext_getElem? fun k=>?_
 by_cases hk:k<n
 ·rw[kp hk]
  have hiff:=E2 (E:=E) (shut:=shut) (b:=(k:Int))
  by_cases e:k=0
  ·subst e
   rw[List.getElem?_set_self (by rw[lJ];exact hk)]
   refine congrArg some (Bool.eq_iff_iff.2 ?_)
   rw[decide_eq_true_iff,decide_eq_true_iff,←hiff]
   constructor
   ·intro h;exact .inl ⟨rfl,h⟩
   ·rintro (⟨_,h⟩|⟨h,_⟩)
    ·exact h
    ·exact absurd rfl h
  ·rw[List.getElem?_set_ne (fun e2=>e e2.symm),Dg hk]
   refine congrArg some (Bool.eq_iff_iff.2 ?_)
   rw[decide_eq_true_iff,decide_eq_true_iff,←hiff]
   constructor
   ·intro h;exact .inr ⟨by omega,h⟩
   ·rintro (⟨h,_⟩|⟨_,h⟩)
    ·omega
    ·exact h
 ·rw[List.getElem?_eq_none (by rw[List.length_set,lJ];omega),List.getElem?_eq_none (by rw[mu];omega)]
end
section
def kU (v:Nat) (ev:List (Int × oT)):Nat:=(ev.filter fun e=>decide (e.1=(v:Int))).length
theorem lK (v:Nat) (ev:List (Int × oT)) (d:Int) (x:oT):kU v (ev++[(d,x)])=kU v ev+if d=(v:Int) then 1 else 0:=by
 unfold kU;rw[List.filter_append,qw]
 by_cases h:d=(v:Int)<;>simp[h]
theorem vQ (f:ad) (v:Nat):(bm f v).length=kU v (dy f f.blocks.length):=by rw[←m5,qx];rfl
theorem Bm (v:Nat) (ev:List (Int × oT)):kU v ev≤ev.length:=List.length_filter_le _ _
theorem qF {f:ad}:∀{n k:Nat},k≤n→n≤f.blocks.length→dy f k <+: dy f n
 |0,k,h,_=>by rw[show k=0 by omega];exact List.prefix_refl _
 |n+1,k,h,hn=>by
  by_cases e:k=n+1
  ·rw[e];exact List.prefix_refl _
  ·rw[gc (by omega)]
   exact (qF (by omega) (by omega)).trans (List.prefix_append _ _)
theorem Fc (i:Nat) (ps:List cS) (j:Nat):dE i (ps.take j) <+: dE i ps:=by
 unfold dE
 obtain ⟨r,hr⟩:=List.take_prefix j ps
 exact ⟨r.map fun p=>(p.dst,((i:Int),-1)),by rw[←List.map_append,hr]⟩
theorem vR (i:Nat) (xs:List aN):∀(m j:Nat),j≤m→m≤xs.length→gB i (xs.take j) <+: gB i (xs.take m)
 |0,j,h,_=>by rw[show j=0 by omega];exact List.prefix_refl _
 |m+1,j,h,hm=>by
  by_cases e:j=m+1
  ·rw[e];exact List.prefix_refl _
  ·rw[jQ i (by omega)]
   exact (vR i xs m j (by omega) (by omega)).trans (List.prefix_append _ _)
theorem HZ {f:ad} {k j:Nat} {b:bc} (hk:k<f.blocks.length) (hb:f.blocks[k]=b) (hj:j<b.phis.length):(dy f k++dE k (b.phis.take j))++[(b.phis[j].dst,((k:Int),(-1:Int)))] <+: dy f f.blocks.length:=by
 refine List.IsPrefix.trans ?_ (qF (show k+1≤f.blocks.length by omega) (Nat.le_refl _))
 rw[gc hk,hb,qs,←lI k hj,p9]
 exact (List.prefix_append_right_inj _).2 ((Fc k b.phis (j+1)).trans (List.prefix_append _ _))
theorem Fd {f:ad} {k j:Nat} {b:bc} (hk:k<f.blocks.length) (hb:f.blocks[k]=b) (hj:j<b.insts.length) (h0:0≤b.insts[j].dst):(dy f k++dE k b.phis++gB k (b.insts.take j))++[(b.insts[j].dst,((k:Int),(j:Int)))] <+: dy f f.blocks.length:=by
 refine List.IsPrefix.trans ?_ (qF (show k+1≤f.blocks.length by omega) (Nat.le_refl _))
 have h:=jQ k hj
 rw[if_pos h0] at h
 rw[gc hk,hb,qs,←h,p9,qs]
 have h2:=vR k b.insts b.insts.length (j+1) (by omega) (Nat.le_refl _)
 rw[qv] at h2
 exact (List.prefix_append_right_inj _).2 ((List.prefix_append_right_inj _).2 h2)
theorem tr {f:ad} {v:Nat} {pre:List (Int × oT)} {x:oT} (hp:pre++[((v:Int),x)] <+: dy f f.blocks.length) (h0:kU v pre=0):aB f v=x:=by
 obtain ⟨r,hr⟩:=hp
 have h1:pre.filter (fun e=>decide (e.1=(v:Int)))=[]:=List.eq_nil_of_length_eq_zero h0
 unfold aB
 rw[←m5,←hr,List.filter_append,List.filter_append,h1]
 simp
theorem zR {f:ad} {v:Nat} (h0:kU v (dy f f.blocks.length)=0):aB f v=(-1,0):=by
 unfold aB
 rw[←m5,List.eq_nil_of_length_eq_zero h0]
 rfl
noncomputable section
def ep (f:ad) (m:oT) (b at_:Int):Bool:=by
 classical exact if m.1<0 then true else if m.1=b then decide (m.2<at_) else !decide (jL (ao f) (fun x=>x≠m.1) 0 b)
def Lm (f:ad) (p:cS):Bool:=(p.args.zip p.from_).all fun q=>ep f (aB f q.1) q.2 (jO f q.2)
def Ln (f:ad) (i:Nat) (x:aN × Nat):Bool:=x.1.args.all fun v=>ep f (aB f v) i x.2
def Lo (f:ad) (i:Nat) (b:bc):Bool:=decide (b.term.kind=0)||ep f (aB f b.term.var) i b.insts.length
def oU (f:ad) (i:Nat) (b:bc):Bool:=by
 classical exact decide (sZ (ao f) (i:Int))&&(b.phis.all (Lm f)&&(b.insts.zipIdx.all (Ln f i)&&Lo f i b))
def Lp (f:ad) (i:Nat):Bool:=((f.blocks[i]?).map (oU f i)).getD true
def kL (f:ad):Bool:=db f&&(l4 f&&(List.range f.blocks.length).all (Lp f))
end
theorem nS {f:ad} {i:Nat} {b:bc} (h:f.blocks[i]?=some b):Lp f i=oU f i b:=by unfold Lp;rw[h];rfl
theorem nT {f:ad} (hE:bF f) (m:oT) {b:Int} (at_:Int) (hb:sZ (ao f) b):ep f m b at_=dH f m b at_:=by
 rw[qz,iv hE]
 unfold ep ir
 by_cases h0:m.1<0
 ·rw[if_pos h0];simp[h0]
 ·rw[if_neg h0]
  by_cases h1:m.1=b
  ·rw[if_pos h1];simp[h1];omega
  ·rw[if_neg h1]
   simp only[Bool.not_eq_true',decide_eq_false_iff_not]
   constructor
   ·intro h;exact .inr (.inr ⟨by omega,h1,hb,h⟩)
   ·rintro (h|h|h)
    ·exact absurd h h0
    ·exact absurd h.1 h1
    ·exact h.2.2.2
theorem Fe {f:ad} (hE:bF f) (hfr:∀b∈f.blocks,∀p∈b.phis,∀c∈p.from_,0≤c∧c<f.blocks.length):kL f=bG f:=by
 unfold kL bG
 by_cases hA:E4 f
 ·have hall:(ga (ao f) f.blocks.length).contains false=false:=(mo hE).2 hA
  rw[hall]
  have hrch:∀c:Int,0≤c→c<f.blocks.length→sZ (ao f) c:=fun c h0 h1=>by
   have:=hA c.toNat (by omega)
   rwa [show ((c.toNat:Nat):Int)=c by omega] at this
  have:(List.range f.blocks.length).all (Lp f)=zN f:=by
   unfold zN
   rw[qz,List.all_eq_true,List.all_eq_true]
   refine forall_congr' fun i=>?_
   constructor
   all_goals
    intro h hi
    have hi2:=List.mem_range.1 hi
    have h:=h hi
    have hget:f.blocks[i]?=some f.blocks[i]:=qq hi2
    have hmem:=qu hi2
    have e1:f.blocks[i].phis.all (Lm f)=f.blocks[i].phis.all (Kg f):=by
     rw[qz,List.all_eq_true,List.all_eq_true]
     refine forall_congr' fun p=>forall_congr' fun hp=>?_
     unfold Lm Kg
     rw[List.all_eq_true,List.all_eq_true]
     refine forall_congr' fun q=>forall_congr' fun hq=>?_
     have hc:=hfr _ hmem p hp q.2 (List.of_mem_zip hq).2
     rw[nT hE _ _ (hrch q.2 hc.1 hc.2)]
    have e2:f.blocks[i].insts.zipIdx.all (Ln f i)=f.blocks[i].insts.zipIdx.all (E8 f i):=by
     rw[qz,List.all_eq_true,List.all_eq_true]
     refine forall_congr' fun x=>forall_congr' fun _=>?_
     unfold Ln E8
     rw[List.all_eq_true,List.all_eq_true]
     refine forall_congr' fun v=>forall_congr' fun _=>?_
     rw[nT hE _ _ (hA i hi2)]
    have e3:Lo f i f.blocks[i]=Lk f i f.blocks[i]:=by unfold Lo Lk;rw[nT hE _ _ (hA i hi2)]
    have e:oU f i f.blocks[i]=sG f i f.blocks[i]:=by
     unfold oU sG;rw[e1,e2,e3];simp[hA i hi2,Bool.and_assoc]
    first
     |(rw[nS hget,e] at h;rw[qE hget];exact h)
     |(rw[qE hget,←e] at h;rw[nS hget];exact h)
  rw[this]
  simp
 ·have h1:(ga (ao f) f.blocks.length).contains false=true:=by
   cases h:(ga (ao f) f.blocks.length).contains false with
   |true=>rfl
   |false=>exact absurd ((mo hE).1 h) hA
  have h2:(List.range f.blocks.length).all (Lp f)=false:=by
   rw[Bool.eq_false_iff]
   intro h
   apply hA
   intro i hi
   have:=List.all_eq_true.1 h i (List.mem_range.2 hi)
   rw[nS (qq hi)] at this
   unfold oU at this
   simp only[w9,wc] at this
   exact this.1
  rw[h1,h2]
  simp
end
section
abbrev be:=Int × Int
def mO:Int:=-9223372036854775808
def lc:Int:=9223372036854775807
def aP (x:Int):Prop:=-9223372036854775808≤x∧x≤9223372036854775807
instance (x:Int):Decidable (aP x):=by unfold aP;infer_instance
def cY (r:be):Prop:=aP r.1∧aP r.2
def Bn:be:=(1,0)
def ld (lo hi:Int):be:=if hi<lo then Bn else (lo,hi)
def m7 (a b:Int):Int:=if b<a then b else a
def m8 (a b:Int):Int:=if a<b then b else a
def fc (a b:be):be:=if a.2<a.1 then ld b.1 b.2 else if b.2<b.1 then a else (m7 a.1 b.1,m8 a.2 b.2)
def fA (a b:be):be:=ld (m8 a.1 b.1) (m7 a.2 b.2)
def de (t:Int):be:=if t=0 then (mO,lc) else if t=1 then (0,1) else if t=2 then (0,64) else Bn
theorem Ff {lo hi:Int} (h1:aP lo) (h2:aP hi):cY (ld lo hi):=by
 unfold ld;split
 ·exact ⟨by decide,by decide⟩
 ·exact ⟨h1,h2⟩
theorem H0 {a b:Int} (h1:aP a) (h2:aP b):aP (m7 a b):=by unfold m7;split<;>assumption
theorem H3 {a b:Int} (h1:aP a) (h2:aP b):aP (m8 a b):=by unfold m8;split<;>assumption
theorem Fg {a b:be} (h1:cY a) (h2:cY b):cY (fA a b):=Ff (H3 h1.1 h2.1) (H0 h1.2 h2.2)
theorem Fh (t:Int):cY (de t):=by
 unfold de;split
 ·exact ⟨by decide,by decide⟩
 ·split
  ·exact ⟨by decide,by decide⟩
  ·split
   ·exact ⟨by decide,by decide⟩
   ·exact ⟨by decide,by decide⟩
def tv (k:Nat) (x y:Int):Int:=if k=0 then x+y else if k=1 then x - y else x*y
def dk (k:Nat) (x y:Int):Prop:=aP (tv k x y)
instance (k:Nat) (x y:Int):Decidable (dk k x y):=by unfold dk;infer_instance
def kM (k:Nat) (x y:Int):Int:=if (if k=2 then decide (x<0) != decide (y<0) else decide (x<0)) then mO else lc
def ux (k:Nat) (x y:Int):Int:=if dk k x y then tv k x y else kM k x y
def Bo (n:Int):be:=(n,n)
def JD (k:Nat) (a b:be):be:=fc (fc (fc (fc Bn (Bo (ux k a.1 b.1))) (Bo (ux k a.1 b.2))) (Bo (ux k a.2 b.1))) (Bo (ux k a.2 b.2))
def jA (k:Nat) (a b:be):Prop:=dk k a.1 b.1∧dk k a.1 b.2∧dk k a.2 b.1∧dk k a.2 b.2
instance (k:Nat) (a b:be):Decidable (jA k a b):=by unfold jA;infer_instance
def vS (a b:Int):be:=if b<a then (b,a) else (a,b)
def Fi (a b:be):be:=(if b.1<a.1 then b.1 else a.1,if a.2<b.2 then b.2 else a.2)
def JE (k:Nat) (a b:be):be:=Fi (vS (ux k a.1 b.1) (ux k a.1 b.2)) (vS (ux k a.2 b.1) (ux k a.2 b.2))
theorem zS (p:Int):fc Bn (Bo p)=(p,p):=by
 unfold fc Bo Bn ld
 rw[if_pos (by decide)]
 rw[if_neg (by dsimp only;omega)]
theorem nU {lo hi:Int} (h:lo≤hi) (q:Int):fc (lo,hi) (Bo q)=(m7 lo q,m8 hi q)∧m7 lo q≤m8 hi q:=by
 unfold fc Bo
 rw[if_neg (by dsimp only;omega),if_neg (by dsimp only;omega)]
 refine ⟨Z,?_⟩
 unfold m7 m8;split<;>split<;>omega
theorem LM (p q r s:Int):fc (fc (fc (fc Bn (Bo p)) (Bo q)) (Bo r)) (Bo s)=Fi (vS p q) (vS r s):=by
 obtain ⟨e2,h2⟩:=nU (Int.le_refl p) q
 obtain ⟨e3,h3⟩:=nU h2 r
 obtain ⟨e4,_⟩:=nU h3 s
 rw[zS,e2,e3,e4]
 unfold vS Fi m7 m8
 rw[Prod.ext_iff]
 by_cases c1:q<p<;>by_cases c2:s<r<;>simp only[c1,c2,if_true,if_false]<;>constructor<;>(repeat' split)<;>omega
theorem H4 (k:Nat) (a b:be):JD k a b=JE k a b:=LM _ _ _ _
theorem H5 {x y:Nat} (hy:0<y) (l:Nat):x≤l / y↔x*y≤l:=Nat.le_div_iff_mul_le hy
theorem sJ (a b:Int) (l:Nat):a.natAbs≤l / b.natAbs↔(b=0∧a=0)∨(b≠0∧(a*b).natAbs≤l):=by
 by_cases hb:b=0
 ·subst hb;simp
 ·rw[H5 (by omega),Int.natAbs_mul];simp[hb]
theorem Fj {a b:Int} (ha:a≠0) (hb:b≠0):(0<a*b↔((a<0)↔(b<0)))∧a*b≠0:=by
 refine ⟨?_,Int.mul_ne_zero ha hb⟩
 rcases Int.lt_or_gt_of_ne ha with h1|h1<;>rcases Int.lt_or_gt_of_ne hb with h2|h2
 ·have:=Int.mul_pos_of_neg_of_neg h1 h2;simp[this,h1,h2]
 ·have:=Int.mul_neg_of_neg_of_pos h1 h2
  constructor
  ·intro h;omega
  ·intro h;have:=h.1 h1;omega
 ·have:=Int.mul_neg_of_pos_of_neg h1 h2
  constructor
  ·intro h;omega
  ·intro h;have:=h.2 h2;omega
 ·have:=Int.mul_pos h1 h2
  constructor
  ·intro _;constructor<;>intro h<;>omega
  ·intro _;exact this
theorem Kh (a b:Int) (ha:a≠0) (hb:b≠0):(a.natAbs≤(if decide (a<0)=decide (b<0) then 9223372036854775807 else 9223372036854775808) / b.natAbs)↔dk 2 a b:=by
 have hs:=Fj ha hb
 rw[sJ]
 unfold dk aP
 have e:tv 2 a b=a*b:=rfl
 rw[e]
 simp only[hb,false_and,false_or,ne_eq,not_false_eq_true,true_and]
 by_cases h:decide (a<0)=decide (b<0)
 ·rw[if_pos h]
  have:(a<0)↔(b<0):=by simpa using h
  have h1:=hs.1.2 this
  omega
 ·rw[if_neg h]
  have:¬((a<0)↔(b<0)):=by simpa using h
  have h1:¬0<a*b:=fun h2=>this (hs.1.1 h2)
  omega
end
section
def uy (r s:be):Prop:=r.2<r.1∨(s.1≤r.1∧r.2≤s.2)
end
section
end
section
end
section
def uz:be:=(mO,lc)
def ra (rs:List be) (i:Nat):be:=(rs[i]?).getD (0,0)
end
section
def lv (l:List be) (v:Int):be:=(l[v.toNat]?).getD Bn
def nrm (r:be):Prop:=r.2<r.1→r=Bn
theorem MW {a b:be}:uy a (fc a b):=by
 unfold fc uy
 by_cases c:a.2<a.1
 ·exact .inl c
 ·rw[if_neg c]
  right
  by_cases c2:b.2<b.1
  ·rw[if_pos c2];exact ⟨Int.le_refl _,Int.le_refl _⟩
  ·rw[if_neg c2];dsimp only;unfold m7 m8;constructor<;>split<;>omega
theorem MX {a b:be}:uy b (fc a b):=by
 unfold fc uy
 by_cases c2:b.2<b.1
 ·exact .inl c2
 ·right
  by_cases c:a.2<a.1
  ·rw[if_pos c];unfold ld;rw[if_neg c2];exact ⟨Int.le_refl _,Int.le_refl _⟩
  ·rw[if_neg c,if_neg c2];dsimp only;unfold m7 m8;constructor<;>split<;>omega
structure LN (n:Nat) (rule:List be→Int→be) (vs:List Int):Prop where
 mono:∀l l' v,l.length=n→l'.length=n→(∀u:Int,0≤u→uy (lv l u) (lv l' u))→(∀u:Int,0≤u→cY (lv l u))→(∀u:Int,0≤u→cY (lv l' u))→v∈vs→uy (rule l v) (rule l' v)
 ok:∀l v,l.length=n→(∀u:Int,0≤u→cY (lv l u))→v∈vs→cY (rule l v)
 rng:∀v∈vs,0≤v∧v<n
theorem Fk {a b:be}:uy (fA a b) a∧uy (fA a b) b:=by
 unfold fA ld uy
 split
 ·exact ⟨.inl (by decide),.inl (by decide)⟩
 ·constructor<;>right<;>dsimp only<;>unfold m7 m8<;>constructor<;>split<;>omega
end
section
section
variable {n:Nat} {rule:List be→Int→be} {widn:Nat→Int→Option be} {vs:List Int} (hR:LN n rule vs) (hw:∀i v t,widn i v=some t→cY t)
include hR hw
end
end
section
theorem Ki:cY Bn:=⟨by decide,by decide⟩
def oV (f:ad) (v:Int):Int:=((f.vars[v.toNat]?).map (·.ty)).getD 0
def dW (f:ad) (l:List be) (v:Int):be:=fA (lv l v) (de (oV f v))
def jS (f:ad) (l:List be) (x:aN):List be:=x.args.map (dW f l)
theorem gf {f:ad} {l:List be} (h:∀u:Int,0≤u→cY (lv l u)) {v:Int} (hv:0≤v):cY (dW f l v):=Fg (h v hv) (Fh _)
theorem Fl {f:ad} {l:List be} {x:aN} (i:Nat):ra (jS f l x) i=match x.args[i]? with|some v=>dW f l v|none=>(0,0):=by
 unfold ra jS
 rw[qy]
 cases x.args[i]?<;>rfl
end
section
theorem qG (E:Int→List Int) {n b:Nat} (hb:b<n) (s:Int):(em E n s)[b]?=some (gb (em E n s) b):=ko (by rw[mu];exact hb)
theorem qH {E:Int→List Int} {n b:Nat} (hb:b<n) (s:Int):gb (em E n s) b=true↔jL E (fun x=>x≠s) 0 b:=by
 rw[zP,kp hb];simp
theorem vT {E:Int→List Int} {n:Nat} (hE:f8 E n) {b:Int}:jL E (fun x=>x≠-1) 0 b↔sZ E b:=by
 constructor
 ·exact fun h=>h.mono fun _ _=>trivial
 ·intro h
  have h2:∀c,sZ E c→(0:Int)≤c:=fun c hc=>(dq hE.toEOk ((fx hE.toEOk c).2 hc)).1
  have:=jL.self h
  exact this.mono fun x hx=>by have:=h2 x hx.2;omega
theorem Fm {E:Int→List Int} {n a b:Nat} (hE:f8 E n) (ha:a<n) (hb:b<n) (hra:gb (em E n (-1)) a=true) :
  (gb (em E n (-1)) b&&(decide ((a:Int)=(b:Int))||!gb (em E n a) b))=iR E n a b:=by
 rw[qz,hE.domB_iff]
 simp only[w9,Bool.or_eq_true,Bool.not_eq_true',wc]
 rw[qH hb,vT hE,←Bool.not_eq_true,qH hb]
 unfold sx
 constructor
 ·rintro ⟨h1,h2⟩
  refine ⟨h1,?_⟩
  rcases h2 with h2|h2
  ·rw[h2];exact fun hw=>hw.end_ rfl
  ·exact h2
 ·rintro ⟨h1,h2⟩
  exact ⟨h1,.inr h2⟩
theorem Fo {E:Int→List Int} {n a b:Nat} (hE:f8 E n) (ha:a<n) (hra:gb (em E n (-1)) a=false):iR E n a b=false:=by
 rw[←Bool.not_eq_true,hE.domB_iff]
 intro h
 have:=h.rch
 rw[←vT hE,←qH ha,hra] at this
 cases this
def kN (f:ad) (a k:Nat):List Bool:=(List.range f.blocks.length).map fun b=>decide (b<k)&&iR (ao f) f.blocks.length a b
def oW (f:ad) (a:Nat):List Bool:=(List.range f.blocks.length).map fun (b:Nat)=>iR (ao f) f.blocks.length a b
def mv (f:ad):List (List Bool):=(List.range f.blocks.length).map (oW f)
theorem ia (f:ad) (a k:Nat):(kN f a k).length=f.blocks.length:=by simp[kN]
theorem qI (f:ad) (a:Nat):List.replicate f.blocks.length false=kN f a 0:=by
 unfold kN
 apply List.ext_getElem
 ·simp
 ·intro i h1 h2;simp
theorem mw {f:ad} {a k:Nat}:(kN f a k).set k (iR (ao f) f.blocks.length a k)=kN f a (k+1):=by
 apply List.ext_getElem?
 intro i
 rw[List.getElem?_set]
 unfold kN
 by_cases hi:i<f.blocks.length
 ·by_cases e:k=i
  ·subst e
   rw[if_pos rfl,if_pos (by simpa using hi),qy,List.getElem?_range hi];simp
  ·rw[if_neg e,qy,qy,List.getElem?_range hi]
   simp only[Option.map_some]
   congr 2
   exact decide_eq_decide.2 (by omega)
 ·by_cases e:k=i
  ·subst e
   rw[if_pos rfl,if_neg (by simpa using hi),qy,List.getElem?_eq_none (by simpa using hi)];rfl
  ·rw[if_neg e,qy,qy,List.getElem?_eq_none (by simpa using hi)];rfl
theorem Di (f:ad) (a:Nat):kN f a f.blocks.length=oW f a:=by
 unfold kN oW
 apply List.map_congr_left
 intro b hb
 rw[w7 (List.mem_range.1 hb),Bool.true_and]
theorem Fp {f:ad} {a:Nat} (hE:f8 (ao f) f.blocks.length) (ha:a<f.blocks.length) (hra:gb (em (ao f) f.blocks.length (-1)) a=false):kN f a 0=oW f a:=by
 unfold kN oW
 apply List.map_congr_left
 intro b hb
 rw[Fo hE ha hra];rfl
theorem Fq (f:ad) (a:Nat):(oW f a).length=f.blocks.length:=by simp[oW]
theorem jT (f:ad):(mv f).length=f.blocks.length:=by simp[mv]
theorem m9 {f:ad} {a:Nat} (h:a<f.blocks.length):(mv f)[a]?=some (oW f a):=by unfold mv;rw[qy,List.getElem?_range h];rfl
theorem qJ {f:ad} {a b:Nat} (h:b<f.blocks.length):(oW f a)[b]?=some (iR (ao f) f.blocks.length a b):=by unfold oW;rw[qy,List.getElem?_range h];rfl
theorem Dj {f:ad} {k:Nat} (h:k<f.blocks.length):(mv f).take (k+1)=(mv f).take k++[oW f k]:=by
 rw[qr (by rw[jT];exact h)]
 have:=m9 h
 rw[qq (by rw[jT];exact h)] at this
 rw[Option.some.inj this]
def qK (f:ad) (op:Int) (args:List Int) (i:Nat) (block at_:Int) (q:aN × Nat):Bool:=decide (q.1.op=op)&&decide (q.1.args=args)&&dH f ((i:Int),(q.2:Int)) block at_
def Fr (f:ad) (op:Int) (args:List Int) (block at_:Int) (i:Nat):Bool:=((f.blocks[i]?).map fun b=>b.insts.zipIdx.any (qK f op args i block at_)).getD false
def Na (f:ad) (op:Int) (args:List Int) (block at_:Int):Bool:=(List.range f.blocks.length).any (Fr f op args block at_)
def tw (op:Int):Bool:=decide (op=2∨op=3∨op=4)
def kq (f:ad) (x:aN) (block at_:Int):Bool:=tw x.op&&Na f (x.op+19) x.args block at_
theorem pu {f:ad} {op:Int} {args:List Int} {block at_:Int} {i:Nat} {b:bc} (h:f.blocks[i]?=some b):Fr f op args block at_ i=b.insts.zipIdx.any (qK f op args i block at_):=by unfold Fr;rw[h];rfl
theorem lg {p:Nat→Bool} {k:Nat} (h:(List.range k).any p=false) (hk:p k=false):(List.range (k+1)).any p=false:=by rw[List.range_succ,List.any_append,h];simp[hk]
theorem l6 {p:Nat→Bool} {k n:Nat} (hk:k<n) (h:p k=true):(List.range n).any p=true:=List.any_eq_true.2 ⟨k,List.mem_range.2 hk,h⟩
theorem qL {α:Type} {p:α→Bool} {l:List α} {k:Nat} (h:k<l.length) (h1:(l.take k).any p=false) (h2:p l[k]=false):(l.take (k+1)).any p=false:=by
 rw[qr h,List.any_append,h1];simp[h2]
theorem Bp {α:Type} {p:α→Bool} {l:List α} {k:Nat} (h:k<l.length) (h2:p l[k]=true):l.any p=true:=List.any_eq_true.2 ⟨_,qu h,h2⟩
theorem ib {v i:Int} {b:bc} {m:oT}:m∈m3 v i b↔(∃p∈b.phis,p.dst=v∧m=(i,-1))∨∃(k:Nat) (x:aN),b.insts[k]?=some x∧x.dst=v∧m=(i,(k:Int)):=by
 unfold m3
 rw[List.mem_append]
 constructor
 ·rintro (h|h)
  ·obtain ⟨p,hp,e⟩:=List.mem_map.1 h
   obtain ⟨h1,h2⟩:=List.mem_filter.1 hp
   exact .inl ⟨p,h1,by simpa using h2,e.symm⟩
  ·obtain ⟨q,hq,e⟩:=List.mem_map.1 h
   obtain ⟨h1,h2⟩:=List.mem_filter.1 hq
   obtain ⟨x,k⟩:=q
   have:=List.mem_zipIdx_iff_getElem?.1 h1
   exact .inr ⟨k,x,this,by simpa using h2,e.symm⟩
 ·rintro (⟨p,h1,h2,rfl⟩|⟨k,x,h1,h2,rfl⟩)
  ·exact .inl (List.mem_map.2 ⟨p,List.mem_filter.2 ⟨h1,by simpa using h2⟩,rfl⟩)
  ·exact .inr (List.mem_map.2 ⟨(x,k),List.mem_filter.2 ⟨List.mem_zipIdx_iff_getElem?.2 h1,by simpa using h2⟩,rfl⟩)
theorem fB {f:ad} {v:Int} {m:oT}:m∈bm f v↔∃(i:Nat) (b:bc),f.blocks[i]?=some b∧m∈m3 v i b:=by
 unfold bm
 rw[List.mem_flatMap]
 constructor
 ·rintro ⟨⟨b,i⟩,h1,h2⟩;exact ⟨i,b,List.mem_zipIdx_iff_getElem?.1 h1,h2⟩
 ·rintro ⟨i,b,h1,h2⟩;exact ⟨(b,i),List.mem_zipIdx_iff_getElem?.2 h1,h2⟩
theorem Dk {f:ad} {v:Int} (h:0≤(aB f v).1):aB f v∈bm f v:=by
 unfold aB at h ⊢
 cases hm:bm f v with
 |nil=>rw[hm] at h;simp at h
 |cons x l=>simp
theorem na {f:ad} {v:Int} {m:oT} (hl:(bm f v).length≤1) (h:m∈bm f v):aB f v=m:=by
 unfold aB
 cases hm:bm f v with
 |nil=>rw[hm] at h;cases h
 |cons x l=>
  rw[hm] at h hl
  cases l with
  |nil=>simp at h;simp[h]
  |cons y l=>simp at hl
theorem fC {f:ad} {v:Int} (h:0≤(aB f v).1):∃(i:Nat) (b:bc),f.blocks[i]?=some b∧((∃p∈b.phis,p.dst=v∧aB f v=((i:Int),-1))∨∃(k:Nat) (x:aN),b.insts[k]?=some x∧x.dst=v∧aB f v=((i:Int),(k:Int))):=by
 obtain ⟨i,b,h1,h2⟩:=fB.1 (Dk h)
 exact ⟨i,b,h1,ib.1 h2⟩
end
section
theorem tx {α β:Type} {g:α→List β}:∀{l:List α} {i:Nat} {x:α},l[i]?=some x→(g x).length≤(l.flatMap g).length
 |y::l,0,x,h=>by simp at h;subst h;rw[List.flatMap_cons,qw];omega
 |y::l,i+1,x,h=>by
  have:=tx (g:=g) (l:=l) (i:=i) (x:=x) (by simpa using h)
  rw[List.flatMap_cons,qw];omega
theorem Dl {f:ad} {v:Int} (hl:(bm f v).length≤1) {i:Nat} {b:bc} (h:f.blocks[i]?=some b):(m3 v i b).length≤1:=by
 have h2:f.blocks.zipIdx[i]?=some (b,i):=by rw[List.getElem?_zipIdx,h];simp
 exact Nat.le_trans (tx (g:=fun b:bc × Nat=>m3 v (b.2:Int) b.1) h2) hl
theorem H6 {f:ad} {v:Int} (hl:(bm f v).length≤1) {i:Nat} {b:bc} (h:f.blocks[i]?=some b) {p:cS} (hp:p∈b.phis) (hd:p.dst=v):b.phis.filter (fun q=>decide (q.dst=v))=[p]:=by
 have h1:=Dl hl h
 unfold m3 at h1
 rw[qw,qx] at h1
 have h2:p∈b.phis.filter (fun q=>decide (q.dst=v)):=List.mem_filter.2 ⟨hp,by simpa using hd⟩
 cases hf:b.phis.filter (fun q=>decide (q.dst=v)) with
 |nil=>rw[hf] at h2;cases h2
 |cons x l=>
  rw[hf] at h1 h2
  have:l=[]:=List.eq_nil_of_length_eq_zero (by simp only[List.length_cons] at h1;omega)
  subst this
  simp at h2;rw[h2]
theorem Fs {f:ad} {v:Int} (hl:(bm f v).length≤1) {i:Nat} {b:bc} (h:f.blocks[i]?=some b) {p:cS} (hp:p∈b.phis) (hd:p.dst=v):(b.phis.find? fun q=>decide (q.dst=v))=some p:=by
 rw[←List.head?_filter,H6 hl h hp hd];rfl
def Kj (b:bc):List (Int × Bool):=b.phis.map fun p=>(p.dst,true)
def Kk (xs:List aN):List (Int × Bool):=(xs.filter fun x=>decide (0≤x.dst)).map fun x=>(x.dst,false)
def Bq (f:ad):List (Int × Bool):=f.blocks.flatMap fun b=>Kj b++Kk b.insts
theorem nV {f:ad} {v:Int} {p:Bool}:(v,p)∈Bq f↔∃b∈f.blocks,(p=true∧∃q∈b.phis,q.dst=v)∨(p=false∧0≤v∧∃x∈b.insts,x.dst=v):=by
 unfold Bq
 rw[List.mem_flatMap]
 constructor
 ·rintro ⟨b,hb,h⟩
  refine ⟨b,hb,?_⟩
  rcases List.mem_append.1 h with h|h
  ·obtain ⟨q,hq,e⟩:=List.mem_map.1 h
   simp only[Prod.mk.injEq] at e
   exact .inl ⟨e.2.symm,q,hq,e.1⟩
  ·obtain ⟨x,hx,e⟩:=List.mem_map.1 h
   obtain ⟨h1,h2⟩:=List.mem_filter.1 hx
   simp only[Prod.mk.injEq] at e
   exact .inr ⟨e.2.symm,by rw[←e.1];simpa using h2,x,h1,e.1⟩
 ·rintro ⟨b,hb,h⟩
  refine ⟨b,hb,?_⟩
  rcases h with ⟨rfl,q,hq,rfl⟩|⟨rfl,h0,x,hx,rfl⟩
  ·exact List.mem_append_left _ (List.mem_map.2 ⟨q,hq,rfl⟩)
  ·exact List.mem_append_right _ (List.mem_map.2 ⟨x,List.mem_filter.2 ⟨hx,by simpa using h0⟩,rfl⟩)
end
section
def JF (q:Int):Prop:=21≤q∧q≤23
instance (q:Int):Decidable (JF q):=by unfold JF;infer_instance
end
section
section
variable {E:World} {P:Program} {env:aS} {O:OL} {d ty:Nat} {pos:String} {af:Array Edge} {x y:Operand} {t u e:TypeId}
theorem Gv.quo {k:IntKind} {a b:Int} (hx:bb env x=.int k a) (hy:bb env y=.int k b) (hb:b≠0):Gv P env O (Oper.mk (some d) (.binOp .quo t x y u) ty pos af none) (.int k (k.wrap (a.tdiv b))):=qm fun I ρ h=>⟨_,rfl,fun w=>by
 rw[cH (fY h hx) (fY h hy) (by decide) (by decide)];simp[binOp,Op.intDiv,hb]⟩
theorem Gv.neg {k:IntKind} {a:Int} (hx:bb env x=.int k a):Gv P env O (Oper.mk (some d) (.unOp .neg t x) ty pos af none) (.int k (k.wrap (0 - a))):=qm fun I ρ h=>⟨_,rfl,fun w=>by
 simp[execOp,fY h hx,Op.unary,Op.intArith]⟩
theorem Gv.conv {k k':IntKind} {a:Int} {ds:TypeDesc} {src dst:TypeId} (hs:P.underlying src=some ds) (hd:P.underlying dst=some (.int k')) (hx:bb env x=.int k a):Gv P env O (Oper.mk (some d) (.convert src dst x) ty pos af none) (.int k' (k'.wrap a)):=qm fun I ρ h=>⟨_,rfl,fun w=>by
 simp only[execOp,fY h hx]
 cases ds<;>simp[convert,run_underlying hs,run_underlying hd,Conv.intToInt]⟩
end
end
section
section
variable {E:World} {P:Program} {n:Nat} {l:List Oper} {W:Nat→Bool} {Q:aS→OL→Prop} {fuel:Nat} {listed:Array Bool} {env:aS} {O Os Om:OL}
theorem bK.two {i j:Nat} {o o':Oper} (hi:l[i]?=some o) (hj:l[j]?=some o') (hr:Region.ready .any l.toArray listed=[i,j])
  (h:az P E l.toArray (fun env' Om'=>bK P E l W Q fuel (listed.setIfInBounds i true) env' Os Om') [o] env Om)
  (h':az P E l.toArray (fun env' Om'=>bK P E l W Q fuel (listed.setIfInBounds j true) env' Os Om') [o'] env Om):bK P E l W Q (fuel+1) listed env Os Om:=fun I F ρ w Ls h1 hLs h2=>by
 have key:∀k ok,az P E l.toArray (fun env' Om'=>bK P E l W Q fuel (listed.setIfInBounds k true) env' Os Om') [ok] env Om →
   bP P l.toArray (fun ρ' w'=>(e9 I.k [] E w'∧(eW W (listed.setIfInBounds k true)∨e9 I.k Ls E w'))∧cL P l.toArray (e9 I.k [] E) (e9 I.k Ls E) W (fX I F E Q) fuel (listed.setIfInBounds k true) ρ' w') [ok] ρ w:=fun k ok h=>
  q3 (fun ρ' w' ⟨J,env',Om',a,b,c,d⟩=>by
   have hst:e9 I.k Ls E w':=by
    obtain ⟨J',L',h3,h4,h5⟩:=c.here
    exact ⟨J',L',a.k.trans h3,h4,h5⟩
   refine ⟨⟨hst.less,.inr hst⟩,cL.mono ?_ ?_ (fun _ _=>qp a) _ _ _ _ (d J F ρ' w' Ls b (hLs.mono a) c)⟩
   ·rintro w ⟨J',L',h3,h4⟩;exact ⟨J',L',a.k.trans h3,h4⟩
   ·rintro w ⟨J',L',h3,h4⟩;exact ⟨J',L',a.k.trans h3,h4⟩) _ _ _ (h I (Ls++F) ρ w h1 h2)
 refine ⟨fun h0=>(by rw[hr] at h0;cases h0),fun k hk o2 ho2=>?_⟩
 rw[hr] at hk
 simp only[List.mem_cons,List.not_mem_nil,or_false] at hk
 rw[List.getElem?_toArray] at ho2
 rcases hk with rfl|rfl
 ·rw[hi] at ho2;cases ho2;exact key _ _ h
 ·rw[hj] at ho2;cases ho2;exact key _ _ h'
end
end
section
section
variable {E:World} {P:Program} {n:Nat} {l:List Oper} {W:Nat→Bool} {Q:aS→OL→Prop} {fuel:Nat} {listed:Array Bool} {env:aS} {O Os Om:OL}
theorem bK.three {i j m:Nat} {o o' o'':Oper} (hi:l[i]?=some o) (hj:l[j]?=some o') (hm:l[m]?=some o'') (hr:Region.ready .any l.toArray listed=[i,j,m])
  (h:az P E l.toArray (fun env' Om'=>bK P E l W Q fuel (listed.setIfInBounds i true) env' Os Om') [o] env Om)
  (h':az P E l.toArray (fun env' Om'=>bK P E l W Q fuel (listed.setIfInBounds j true) env' Os Om') [o'] env Om)
  (h'':az P E l.toArray (fun env' Om'=>bK P E l W Q fuel (listed.setIfInBounds m true) env' Os Om') [o''] env Om):bK P E l W Q (fuel+1) listed env Os Om:=fun I F ρ w Ls h1 hLs h2=>by
 have key:∀k ok,az P E l.toArray (fun env' Om'=>bK P E l W Q fuel (listed.setIfInBounds k true) env' Os Om') [ok] env Om →
   bP P l.toArray (fun ρ' w'=>(e9 I.k [] E w'∧(eW W (listed.setIfInBounds k true)∨e9 I.k Ls E w'))∧cL P l.toArray (e9 I.k [] E) (e9 I.k Ls E) W (fX I F E Q) fuel (listed.setIfInBounds k true) ρ' w') [ok] ρ w:=fun k ok h=>
  q3 (fun ρ' w' ⟨J,env',Om',a,b,c,d⟩=>by
   have hst:e9 I.k Ls E w':=by
    obtain ⟨J',L',h3,h4,h5⟩:=c.here
    exact ⟨J',L',a.k.trans h3,h4,h5⟩
   refine ⟨⟨hst.less,.inr hst⟩,cL.mono ?_ ?_ (fun _ _=>qp a) _ _ _ _ (d J F ρ' w' Ls b (hLs.mono a) c)⟩
   ·rintro w ⟨J',L',h3,h4⟩;exact ⟨J',L',a.k.trans h3,h4⟩
   ·rintro w ⟨J',L',h3,h4⟩;exact ⟨J',L',a.k.trans h3,h4⟩) _ _ _ (h I (Ls++F) ρ w h1 h2)
 refine ⟨fun h0=>(by rw[hr] at h0;cases h0),fun k hk o2 ho2=>?_⟩
 rw[hr] at hk
 simp only[List.mem_cons,List.not_mem_nil,or_false] at hk
 rw[List.getElem?_toArray] at ho2
 rcases hk with rfl|rfl|rfl
 ·rw[hi] at ho2;cases ho2;exact key _ _ h
 ·rw[hj] at ho2;cases ho2;exact key _ _ h'
 ·rw[hm] at ho2;cases ho2;exact key _ _ h''
end
theorem ba.know {E:World} {P:Program} {f:FuncId} {as0:List AV} {O:OL} {R R':AV→OL→Prop} (h:ba P E f as0 O R) (hr:∀I F w v x O',R x O'→bI I x v→g9 I O' F E w→∃J y O'',I.le J∧bI J y v∧g9 J O'' F E w∧R' y O''):ba P E f as0 O R':=fun I F w vs h1 h2=>
 (h I F w vs h1 h2).mono fun v w' ⟨J,x,O',a,b,c,d⟩=>by
  obtain ⟨K,y,O'',e1,e2,e3,e4⟩:=hr J F w' v x O' d b c
  exact ⟨K,y,O'',a.trans e1,e2,e3,e4⟩
end
section
theorem dw.perm {O O':OL} {i:Nat} {o:bQ} (h:dw O i o O'):O.Perm ((i,o)::O'):=by
 induction h with
 |head=>exact .refl _
 |tail _ ih=>exact (ih.cons _).trans (.swap _ _ _)
section
variable {E:World} {P:Program} {f:FuncId} {as0:List AV} {O:OL}
theorem ba.exact {γ:Type} {x:γ→AV} {M:γ→OL} {p:γ→Prop} (h:ba P E f as0 O (fun y O'=>∃g,y=x g∧Left O' (M g)∧p g)):ba P E f as0 O (fun y O'=>∃g,y=x g∧O'=M g∧p g):=
 h.know fun I F w v y O' ⟨g,e,hl,hp⟩ h1 h2=>⟨I,y,M g,.refl _,h1,hl.sla h2,g,e,rfl,hp⟩
end
end
section
open Go.ChangeShapes Go.WideShapes Go.ChangeAt Go.RowKit Go.Deep
def full (W:World):aT:=fun b=>W.heap[b]?
theorem H7 (W:World):SL (full W) [] W W:=⟨rfl,rfl,rfl,fun _ _ h=>h,by simp,by simp,by simp,fun _ _ h=>h,(fun _ _ h h2=>by rw[show W.heap[_]?=some _ from h] at h2;cases h2),by simp⟩
def I0 (W:World):G:=⟨full W,fun _=>none⟩
theorem qM {W:World} {p:Addr} {v:Value} (h:W.cell? p=some v):p=⟨p.block,p.off,none⟩∧Bg (full W) p.block p.off v:=by
 unfold World.cell? at h
 split at h
 ·rename_i c t f hb
  split at h
  ·cases h
  ·rename_i hs
   have:p.spot=none:=by simpa using hs
   obtain ⟨b,o,s⟩:=p
   simp only at this
   subst this
   exact ⟨rfl,⟨c,t,f,hb,h⟩⟩
 ·cases h
def jM (P:Program) (W:World) (T:TypeId) {α:Type} (enc:α→List AV) (ok:α→Prop):Prop:=
 ∀{H:Type} (e:TypeId × Value→H) (held:Bool) (fuel:Nat) (cs:List Value) (x:DataW H × List MemPlace),DataW.trod e P W 0 (fun _=>true) held fuel T cs=some x→∃a,ok a∧RepL (I0 W) (enc a) cs
section
variable {P:Program} {W:World} {T e:TypeId}
theorem jM.int {k:IntKind} (hu:P.underlying T=some (.int k)):jM P W T (fun x:Int=>[.int k x]) (fun x=>(Lit.int k x).wf=true):=fun _ _ _ _ _ h=>by
 obtain ⟨n,rfl,_,hw⟩:=DataW.trod_int hu h
 exact ⟨n,hw,_,_,rfl,rfl,rfl⟩
theorem jM.str (hu:P.underlying T=some .string):jM P W T (fun x:ByteArray=>[.str x]) (fun x=>x.size≤maxLen):=fun _ _ _ _ _ h=>by
 obtain ⟨n,rfl,_,hw⟩:=DataW.trod_string hu h
 exact ⟨n,hw,_,_,rfl,rfl,rfl⟩
theorem jM.slice {α:Type} {enc:α→List AV} {ok:α→Prop} {k:Nat} (ht:P.underlying T=some (.slice e)) (he:jM P W e enc ok) (hk:P.cellsOf e=k) (hk0:0<k) :
  jM P W T (fun xs:List α=>[.fro k (xs.map enc)]) (fun xs=>(∀x∈xs,ok x)∧xs.length≤maxLen):=fun en held fuel cs x h=>by
 rcases open_slice ht h with ⟨rfl,_⟩|⟨a,len,cap,m,n,D,Pl,rfl,_,hl,hc,hm,_,hr⟩
 ·exact ⟨[],⟨by simp,qt _⟩,_,_,rfl,⟨none,0,0,rfl,rfl,Nat.le_refl _,fun _=>rfl,trivial⟩,rfl⟩
 ·simp only[if_true] at hm
  have each:∀i,i<len→∃y:α,ok y∧∃vs:List Value,vs.length=k∧RepL (I0 W) (enc y) vs∧∀j (u:Value),vs[j]?=some u→W.cell? (a.add (i*k+j))=some u:=by
   intro i hi
   obtain ⟨cs,h1,h2⟩:=hr i (by omega)
   rw[hk] at h1
   obtain ⟨_,hcl,hat⟩:=World.cells?_some h1
   obtain ⟨y,hy,hrep⟩:=he en held n cs _ h2
   refine ⟨y,hy,cs,hcl,hrep,fun j u hu=>?_⟩
   have hj:j<k:=by have:=(List.getElem?_eq_some_iff.1 hu).1;omega
   have:=hat j hj
   rw[Go.Deep.add_add] at this
   rw[this,hu]
  by_cases h0:len=0
  ·subst h0
   exact ⟨[],⟨by simp,qt _⟩,_,_,rfl,⟨some a,0,cap,rfl,rfl,qt _,fun h=>by (cases h),trivial⟩,rfl⟩
  ·obtain ⟨y0,_⟩:=each 0 (by omega)
   have:Inhabited α:=⟨y0⟩
   obtain ⟨Y,hY⟩:=choose_lt each
   have ha:a=⟨a.block,a.off,none⟩:=by
    obtain ⟨_,vs,hvl,_,hat⟩:=hY 0 (by omega)
    have:=hat 0 _ (qq (show 0<vs.length by omega))
    rw[Nat.zero_mul] at this
    exact (qM (by simpa [Addr.add] using this)).1
   refine ⟨(List.range len).map Y,⟨?_,by simp;omega⟩,_,_,Z,⟨some a,len,cap,Z,by simp,hl,fun h=>by (cases h),RepR.intro fun j r hj=>?_⟩,Z⟩
   ·intro x hx
    obtain ⟨i,hi,rfl⟩:=List.mem_map.1 hx
    exact (hY i (by simpa using hi)).1
   ·rw[qy,qy] at hj
    have hjl:j<len:=by
     rcases Nat.lt_or_ge j len with h|h
     ·exact h
     ·rw[List.getElem?_eq_none (by simpa using h)] at hj;cases hj
    rw[List.getElem?_range hjl] at hj
    simp only[Option.map_some,Option.some.injEq] at hj
    subst hj
    obtain ⟨_,vs,hvl,hrep,hat⟩:=hY j hjl
    refine ⟨a.block,a.off,vs,by rw[←ha],hvl,hrep,fun i u hu=>?_⟩
    have:=hat i u hu
    rw[ha,bE] at this
    have:=(qM this).2
    rw[Nat.zero_add,Nat.add_assoc];exact this
theorem RepL.fld {I:G} {cs:List Value} {e es:List AV} {o k:Nat} (h1:RepL I e ((cs.drop o).take k)) (h2:RepL I es (cs.drop (o+k))):RepL I (e++es) (cs.drop o):=by
 have:=h1.append h2
 rwa [←List.drop_drop,List.take_append_drop] at this
theorem RepL.fin {I:G} {cs:List Value} {o:Nat} (h:cs.length=o):RepL I [] (cs.drop o):=List.drop_eq_nil_of_le (by omega)
theorem jM.at {α:Type} {enc:α→List AV} {ok:α→Prop} {f:Field} {H:Type} {en:TypeId × Value→H} {held:Bool} {n o k i:Nat} {cs:List Value} {xs:List (DataW H × List MemPlace)}
  (h1:DataW.trod en P W 0 (fun _=>true) held n f.type ((cs.drop f.offset).take (P.cellsOf f.type))=xs[i]?) (hd:jM P W f.type enc ok) (h2:i<xs.length) (ho:f.offset=o) (hk:P.cellsOf f.type=k) :
  ∃a,ok a∧RepL (I0 W) (enc a) ((cs.drop o).take k):=by
 rw[qq h2,ho,hk] at h1
 exact hd en held n _ _ h1
theorem jM.pair {α:Type} {enc:α→List AV} {ok:α→Prop} {k:Nat} (ht:P.underlying T=some (.array 2 e)) (he:jM P W e enc ok) (hk:P.cellsOf e=k) (hT:P.cellsOf T=k+k) :
  jM P W T (fun x:α × α=>enc x.1++enc x.2) (fun x=>ok x.1∧ok x.2):=fun en held fuel cs x h=>by
 obtain ⟨xs,m,_,_,hl,hxl,hf⟩:=DataW.trod_array ht h
 have h0:=hf 0 (by omega)
 have h1:=hf 1 (by omega)
 rw[qq (by omega),hk] at h0 h1
 rw[Nat.zero_mul] at h0
 rw[Nat.one_mul] at h1
 obtain ⟨a,ha,ra⟩:=he en held m _ _ h0
 obtain ⟨b,hb,rb⟩:=he en held m _ _ h1
 refine ⟨(a,b),⟨ha,hb⟩,?_⟩
 have hcl:cs.length=k+k:=by rw[hl,hT]
 have h2:(cs.drop k).take k=cs.drop k:=List.take_of_length_le (by rw[List.length_drop];omega)
 rw[h2] at rb
 have:=ra.append rb
 rw[List.drop_zero,List.take_append_drop] at this
 exact this
end
theorem lh {P:Program} {W:World} {name:String} {k:IntKind} {zs:List Int} {g:Nat} {t e:TypeId} {n:Nat}
  (hg:P.globalNamed name=some g) (hty:(P.globals[g]?).map (·.type)=some t) (ht:P.underlying t=some (.array n e)) (he:P.underlying e=some (.int k)) (hce:P.cellsOf e=1) (hct:P.cellsOf t=n)
  (h:Lib.VarReads P W name (Lib.tabData k zs)):Lib.TabIs P W name k zs:=by
 obtain ⟨g',t',cs,fuel,p,hg',ht',hvar,hd⟩:=h
 obtain rfl:=Option.some.inj (hg.symm.trans hg')
 obtain rfl:=Option.some.inj (hty.symm.trans ht')
 unfold Lib.TabIs
 rw[hvar,←Lib.cells_of_tab ht he hce hct hd]
theorem aJ.call {P:Program} {W:World} {f:FuncId} {us:List AV} {vs:List Value} {r:AV} (h:aJ P W f us r) (hr:RepL (I0 W) us vs) (hp:r.plain=true):Calls P f vs.toArray W fun e w'=>∃v,e=.returned v∧bI (I0 W) r v∧Below W.heap.size W w':=by
 have:=(h (I0 W) [] W vs hr ⟨⟨0,fun _ _=>rfl⟩,[],rfl,H7 W⟩).2
 refine this.mono fun e w' ⟨v,he,J,x,O',hle,hx,hS,hxr⟩=>⟨v,he,?_,?_⟩
 ·subst hxr;exact AV.plain_rep hp hx
 ·obtain ⟨_,L,_,hSL⟩:=hS
  exact hSL.belowE
end
section
section
variable {E:World} {P:Program} {n:Nat} {env:aS} {O O' O'':OL} {i k m:Nat} {T:TypeId} {rows rows':List (List AV)}
end
section
variable {E:World} {P:Program} {f:FuncId} {us bs:List AV} {r:AV}
end
section
variable {E:World} {P:Program} {n:Nat} {ops:Array Oper} {K:aS→OL→Prop} {env:aS} {O O':OL} {rest:List Oper}
variable {d ty:Nat} {pos:String} {af:Array Edge} {t e:TypeId} {x y:Operand} {L:List (Nat × Obj)}
end
end
section
section
variable {E:World} {P:Program} {n:Nat} {ops:Array Oper} {K:aS→OL→Prop} {env:aS} {O O':OL} {rest:List Oper}
variable {d ty:Nat} {pos:String} {af:Array Edge} {t e:TypeId} {x y:Operand}
theorem RepR.drop {I:G} {k n c j:Nat} {a:Option Addr} {rows:List (List AV)} (hn:n=rows.length) (hnc:n≤c) (hr:RepR I k a 0 rows):RepR I k (if c=j then a else a.map (·.add (j*k))) 0 (rows.drop j):=
 RepR.intro fun j' r hj=>by
  rw[List.getElem?_drop] at hj
  have hlt:=(List.getElem?_eq_some_iff.1 hj).1
  obtain ⟨b,off,vs,rfl,h4,h5,h6⟩:=hr.get hj
  rw[if_neg (by omega)]
  refine ⟨b,off+j*k,vs,by simp[Addr.add],h4,h5,fun i u hu=>?_⟩
  have:=h6 i u hu
  rw[Nat.zero_add,Nat.add_mul] at this
  rw[Nat.zero_add]
  rwa [←Nat.add_assoc] at this
theorem Gv.cutLo {k j:Nat} {a:Int} {rows:List (List AV)} (ht:P.underlying t=some (.slice e)) (hs:∀w,(sizeOf e).run P w=.ok k w) (hx:bb env x=.fro k rows) (hy:bb env y=.int .i64 a) (hi:a=(j:Int)) (hj:j≤rows.length) :
  Gv P env O (Oper.mk (some d) (.slice t x (some y) none none) ty pos af none) (.fro k (rows.drop j)):=qm fun I ρ h=>by
 have h2:=h.ev x
 rw[hx] at h2
 obtain ⟨p,n,c,ex,hn,hnc,hnil,hr⟩:=h2
 have h3:=fY h hy
 subst hi
 refine ⟨.slice (if c=j then p else p.map (·.add (j*k))) (n - j) (c - j),⟨_,_,_,Z,by rw[List.length_drop,hn],by omega,fun hp=>?_,hr.drop hn hnc⟩,fun w=>?_⟩
 ·split at hp
  ·omega
  ·cases p with
   |none=>have:=hnil rfl;omega
   |some q=>cases hp
 ·have hjn:j≤n:=by omega
  simp[execOp,Instr.sliceAt,Instr.slice,Instr.sliceBounds,Instr.sliceBound,asIntOf,Sem.run_bind,run_underlying ht,hs,ex,h3,hjn]
theorem Gv.cutLoM {α:Type} {enc:α→List AV} {xs:List α} {k j:Nat} {a:Int} (ht:P.underlying t=some (.slice e)) (hs:∀w,(sizeOf e).run P w=.ok k w) (hx:bb env x=.fro k (xs.map enc)) (hy:bb env y=.int .i64 a) (hi:a=(j:Int)) (hj:j≤xs.length) :
  Gv P env O (Oper.mk (some d) (.slice t x (some y) none none) ty pos af none) (.fro k ((xs.drop j).map enc)):=by
 have:=Gv.cutLo (d:=d) (ty:=ty) (pos:=pos) (af:=af) (O:=O) ht hs hx hy hi (by rwa [qx])
 rwa [←List.map_drop] at this
end
end
section
def kV (s:ByteArray):List (ByteArray × Int)→Option Int
 |[]=>none
 |(k,v)::es=>if s=k then some v else kV s es
def oX (s:ByteArray) (v:Int):List (ByteArray × Int)→List (ByteArray × Int)
 |[]=>[(s,v)]
 |(k,u)::es=>if s=k then (k,v)::es else (k,u)::oX s v es
def oC (p:ByteArray × Int):Value × Value:=(.string p.1,.int .i64 p.2)
def Nb (b:Nat) (es:List (ByteArray × Int)) (L:List (Nat × Obj)):Prop:=∃(arr:Array MapEntry) (clock:Nat),L=[(b,.map arr clock)]∧arr.toList.map (fun e=>(e.key,e.val))=es.map oC
def Dm (b:Nat) (es:List (ByteArray × Int)):bQ:=.heap (Nb b es)
def nc (b:Nat):AV:=.raw (.map (some b))
theorem kw {s:ByteArray}:∀{l:List MapEntry} {es:List (ByteArray × Int)} {i:Nat},l.map (fun e=>(e.key,e.val))=es.map oC→kV s es=none→Instr.findNow .string (.string s) l i=some none
 |[],[],_,_,_=>rfl
 |[],_::_,_,h,_=>by cases h
 |_::_,[],_,h,_=>by cases h
 |e::l,(k,v)::es,i,h,hg=>by
  simp only[List.map_cons,List.cons.injEq,oC,Prod.mk.injEq] at h
  obtain ⟨⟨h1,_⟩,h2⟩:=h
  simp only[kV] at hg
  split at hg
  ·cases hg
  ·rename_i hne
   unfold Instr.findNow
   rw[h1]
   have:(s == k)=false:=Bool.eq_false_iff.2 fun h=>hne ((MapKept.bytes_beq s k).1 h)
   simp only[Instr.sameNow,this]
   exact kw h2 hg
theorem kx {s:ByteArray} {u:Int}:∀{l:List MapEntry} {es:List (ByteArray × Int)} {i:Nat},l.map (fun e=>(e.key,e.val))=es.map oC→kV s es=some u →
  ∃j,Instr.findNow .string (.string s) l i=some (some (i+j,.int .i64 u))∧(∃e,l[j]?=some e∧e.key=.string s)∧∀v,es.set j (s,v)=oX s v es
 |[],[],_,_,hg=>by cases hg
 |[],_::_,_,h,_=>by cases h
 |_::_,[],_,h,_=>by cases h
 |e::l,(k,v)::es,i,h,hg=>by
  simp only[List.map_cons,List.cons.injEq,oC,Prod.mk.injEq] at h
  obtain ⟨⟨h1,h3⟩,h2⟩:=h
  simp only[kV] at hg
  unfold Instr.findNow
  rw[h1]
  split at hg
  ·rename_i heq
   subst heq
   cases hg
   refine ⟨0,?_,⟨e,Z,h1⟩,fun v=>?_⟩
   ·have hss:(s == s)=true:=(MapKept.bytes_beq s s).2 rfl
    simp only[Instr.sameNow,hss]
    rw[h3];rfl
   ·simp[oX]
  ·rename_i hne
   have hb:(s == k)=false:=Bool.eq_false_iff.2 fun h=>hne ((MapKept.bytes_beq s k).1 h)
   obtain ⟨j,g1,g2,g3⟩:=kx (i:=i+1) h2 hg
   refine ⟨j+1,?_,by simpa using g2,fun v=>?_⟩
   ·simp only[Instr.sameNow,hb,g1]
    congr 3;omega
   ·simp[oX,hne,g3]
section
variable {E:World} {P:Program} {n:Nat} {ops:Array Oper} {K:aS→OL→Prop} {env:aS} {O O':OL} {rest:List Oper}
variable {d ty:Nat} {pos:String} {af:Array Edge} {t e kt:TypeId} {x y z:Operand} {b i:Nat} {es:List (ByteArray × Int)}
theorem az.makeMap (k:∀b,az P E ops K rest (bC env d (nc b)) ((0,Dm b [])::O)):az P E ops K (Oper.mk (some d) (.makeMap t none) ty pos af none::rest) env O:=fun I F ρ w h1 ⟨ht,L,hL,hS⟩=>by
 refine bP.step Z ?_
 unfold eY
 have:(execOp (Go.Proofs.YtbanfokidalbaaaGreatDoor.ev ρ) (Oper.mk (some d) (.makeMap t none) ty pos af none)).run P w=.ok (.value (.map (some w.heap.size))) (w.alloc (.map #[] 0)):=by
  simp only[execOp,Option.map_none]
  rw[Sem.run_bind,run_makeMap_plain];rfl
 rw[this]
 exact k w.heap.size I F _ _ (h1.upd d rfl) ⟨ht,(w.heap.size,.map #[] 0)::L,⟨[_],L,rfl,⟨#[],0,rfl,rfl⟩,hL⟩,hS.alloc _⟩
theorem Kl {I:G} {L:List (Nat × Obj)} (hO:pm O i (Dm b es)) (hL:cM I O L):∃(arr:Array MapEntry) (clock:Nat),(b,Obj.map arr clock)∈L∧arr.toList.map (fun e=>(e.key,e.val))=es.map oC:=by
 obtain ⟨O',hO⟩:=hO
 obtain ⟨A,B,hp,⟨arr,clock,rfl,h2⟩,_⟩:=hO.rep hL
 exact ⟨arr,clock,hp.mem_iff.2 (by simp),h2⟩
theorem az.mapSet {s:ByteArray} {v:Int} (ht:P.underlying t=some (.map kt e)) (hk:P.underlying kt=some .string) (hx:bb env x=nc b) (hy:bb env y=.str s) (hz:bb env z=.int .i64 v) (hO:gr O i (Dm b es) (Dm b (oX s v es)) O')
  (k:az P E ops K rest env O'):az P E ops K (Oper.mk none (.mapUpdate t x y z) ty pos af none::rest) env O:=fun I F ρ w h1 ⟨htop,L,hL,hS⟩=>by
 have hx:=gy h1 hx
 have hy:=HO h1 hy
 have hz:=fY h1 hz
 obtain ⟨A,B,hp,⟨arr,clock,rfl,he⟩,hback⟩:=hO.rep hL
 have hS2:SL I.k ((b,.map arr clock)::(B++F)) E w:=hS.perm ((hp.append_right F).symm)
 have hb:=hS2.own _ (.head _)
 simp only at hb
 have hc:(Instr.checkKey false 10000 kt (.string s)).run P w=.ok () w:=MapKept.run_checkKey (k:=.string s) hk (by simp[MapKept.IsKey]) false 9999
 have fin:∀(arr':Array MapEntry) (clock':Nat),arr'.toList.map (fun e=>(e.key,e.val))=(oX s v es).map oC →
   (execOp (Go.Proofs.YtbanfokidalbaaaGreatDoor.ev ρ) (Oper.mk none (.mapUpdate t x y z) ty pos af none)).run P w=.ok .skip { w with heap:=w.heap.setIfInBounds b (.map arr' clock') }→bP P ops (fX I F E K) (Oper.mk none (.mapUpdate t x y z) ty pos af none::rest) ρ w:=fun arr' clock' he' hrun=>by
  refine bP.step Z ?_
  unfold eY
  rw[hrun]
  obtain ⟨L',h7,h8⟩:=hback (G.le.refl I) (A':=[(b,.map arr' clock')]) ⟨arr',clock',rfl,he'⟩
  have hh:=MapKept.heap_set (o':=.map arr' clock') hb
  have hS3:SL I.k ((b,.map arr' clock')::(B++F)) E { w with heap:=w.heap.setIfInBounds b (.map arr' clock') }:=hS2.turn rfl rfl rfl hh.1 hh.2
  exact k I F ρ _ h1 ⟨htop,L',h7,hS3.perm (h8.append_right F)⟩
 cases hg:kV s es with
 |none=>
  have hf:=kw (i:=0) he hg
  refine fin (arr.push { key:=.string s,val:=.int .i64 v,born:=clock }) (clock+1) ?_ ?_
  ·have hset:∀es:List (ByteArray × Int),kV s es=none→oX s v es=es++[(s,v)]:=fun es=>by
    induction es with
    |nil=>intro _;rfl
    |cons x es ih=>
     obtain ⟨k,u⟩:=x
     intro hg
     simp only[kV] at hg
     split at hg
     ·cases hg
     ·rename_i hne;simp[oX,hne,ih hg]
   rw[hset es hg]
   simp[he,oC]
  ·simp[execOp,hx,hy,hz,Instr.mapUpdate,run_underlying ht,MapKept.run_getObj_map hb,hc,MapKept.run_findKey hk hf,MapKept.run_setObj_map _ hb,Result.andThen]
 |some u=>
  obtain ⟨j,hf,⟨e0,hj,hkey⟩,hset⟩:=kx (i:=0) he hg
  rw[Nat.zero_add] at hf
  have hj':arr[j]?=some e0:=by rw[←Array.getElem?_toList];exact hj
  refine fin (arr.modify j fun e=>{ e with key:=.string s,val:=.int .i64 v }) clock ?_ ?_
  ·rw[←hset v,List.map_set]
   have hjl:j<arr.toList.length:=(List.getElem?_eq_some_iff.1 hj).1
   have:(arr.modify j fun e=>{ e with key:=.string s,val:=.int .i64 v }).toList=arr.toList.set j { e0 with key:=.string s,val:=.int .i64 v }:=by
    apply List.ext_getElem?
    intro q
    rw[Array.getElem?_toList,Array.getElem?_modify]
    by_cases hq:j=q
    ·subst hq
     rw[if_pos rfl,hj',List.getElem?_set_self hjl];rfl
    ·rw[if_neg hq,List.getElem?_set_ne hq,Array.getElem?_toList]
   rw[this,List.map_set,he];rfl
  ·have hkeep:(Instr.keyThatStays (.string s) (.string s)).run P w=.ok (.string s) w:=by
    have hss:(s == s)=true:=(MapKept.bytes_beq s s).2 rfl
    simp[Instr.keyThatStays,Instr.sameBits,hss]
   simp[execOp,hx,hy,hz,Instr.mapUpdate,run_underlying ht,MapKept.run_getObj_map hb,hc,MapKept.run_findKey hk hf,MapKept.run_setObj_map _ hb,Result.andThen,hj',hkey,hkeep]
end
end
section
section
variable {E:World} {P:Program} {n:Nat} {ops:Array Oper} {K:aS→OL→Prop} {env:aS} {O O':OL} {rest:List Oper} {R:AV→OL→Prop}
variable {d ty:Nat} {pos:String} {af:Array Edge} {t e:TypeId} {x y:Operand}
theorem fU.c1t {t u T i:Nat} {T':TypeId} {cs:List AV} {n:Nat} {y:AV} (hv:env t=.po i 0) (hu:env u=y) (hO:pm O i (.cells T' cs)) (ha:∀w,(isAgg T).run P w=.ok true w) (hs:∀w,(sizeOf T).run P w=.ok n w) (hn:cs.length=n) (h:R (.tup [.agg cs,y]) O) :
  fU P E #[.cell t T,.tmp u] R .ret env O:=fU.of (x:=.tup [.agg cs,y]) (fun I F ρ w h1 h2=>by
 obtain ⟨L,hL,hS⟩:=h2.2
 have h3:=h1 t
 rw[hv] at h3
 obtain ⟨b,c,e1,e⟩:=h3
 obtain ⟨b',c',vs,e2,h4,hm⟩:=hO.cells hL
 rw[e1] at e2;cases e2
 have hl:=gL (P:=P) (w:=w) (b:=b) (off:=0) ha (cs:=vs) (by rw[h4.length,hn];exact hs) (fun j v hj=>by
  rw[Nat.zero_add]
  exact hS.at_ (.inr ⟨_,_,_,List.mem_append_left _ hm,by rw[List.getElem?_toArray];exact hj⟩))
 exact ⟨.tuple #[.agg vs.toArray,ρ u],by simp[oP,e,asAddr,hl],⟨[_,_],rfl,_,_,rfl,⟨vs,rfl,h4⟩,_,_,rfl,hu▸h1 u,rfl⟩⟩) h
theorem uA {b off n:Nat} {vs:List Value} {T:TypeId} {old:List Value} {w:World} (hn:vs.length=n) (h1c:∀u∈vs,u.oneCell'=true) (hb:off+n≤old.length) (hown:w.heap[b]?=some (.cells old.toArray T (0,0))) :
  (storeCells (⟨b,off,none⟩:Addr) vs 0).run P w=.ok () (w.setRow b (old.take off++vs++old.drop (off+n)).toArray):=by
 rw[run_storeCells_at (P:=P) b off T vs 0 old.toArray w hown (by simp;omega) h1c]
 simp[hn]
end
end
section
section
variable {E:World} {P:Program} {env:aS} {O:OL} {d ty:Nat} {pos:String} {af:Array Edge} {x:Operand} {t u:TypeId}
end
end
section
section
variable {E:World} {P:Program} {ops:Array Oper} {K:aS→OL→Prop} {env:aS} {O O' O'':OL} {rest:List Oper} {n:Nat}
variable {d ty:Nat} {pos:String} {af:Array Edge} {x y z:Operand} {t u e:TypeId}
theorem Dn {A row:List AV} {j:Nat} {c:AV} (h:row[j]?=some c):(A++row).drop (A.length+j)=c::row.drop (j+1):=by
 obtain ⟨hj,rfl⟩:=List.getElem?_eq_some_iff.1 h
 rw[List.drop_append,List.drop_eq_nil_of_le (by omega),Nat.add_sub_cancel_left,List.nil_append]
 exact List.drop_eq_getElem_cons hj
theorem Gv.loadL {i off j k:Nat} {T:TypeId} {c:AV} {A row:List AV} (ha:∀w,(isAgg t).run P w=.ok false w) (hx:bb env x=.po i off) (hoff:off=A.length+j) (hO:pm O i (.grow k T (A++row))) (hv:row[j]?=some c) :
  Gv P env O (Oper.mk (some d) (.load t x) ty pos af none) c:=Gv.load1G ha hx hO (by subst hoff;exact Dn hv)
theorem az.storeL {i off j m k:Nat} {T:TypeId} {v:AV} {A row l new:List AV} (hs:∀w,(sizeOf t).run P w=.ok m w) (hx:bb env x=.po i off) (hoff:off=A.length+j) (hy:bb env y=v) (hv:v.sto=true) (hl:v.cs=l) (hl1:l.all AV.cell=true) (hn:l.length=m)
  (hO:gr O i (.grow k T (A++row)) (.grow k T (A++new)) O') (hb:Nat.ble (j+m) row.length=true) (hm:Nat.ble 1 m=true) (hnew:row.take j++l++row.drop (j+m)=new) (kk:az P E ops K rest env O'):az P E ops K (Oper.mk none (.store t x y) ty pos af none::rest) env O:=
 az.storeG hs hx hy hv hl hl1 hn hO (by have:=Nat.le_of_ble_eq_true hb;rw[qw];omega) (Nat.le_of_ble_eq_true hm) (by
  have:=Nat.le_of_ble_eq_true hb
  subst hoff hnew
  rw[List.take_append,List.take_of_length_le (by omega:A.length≤A.length+j),Nat.add_sub_cancel_left,List.drop_append,List.drop_eq_nil_of_le (by omega:A.length≤A.length+j+m),Nat.add_assoc,Nat.add_sub_cancel_left]
  simp) kk
theorem Gv.idxOL {i n k j r:Nat} {a:Int} {T:TypeId} {cs:List AV} (ht:P.underlying t=some (.slice e)) (hs:∀w,(sizeOf e).run P w=.ok k w) (hx:bb env x=.own i n) (hy:bb env y=.int .i64 a) (hi:a=(j:Int)) (hO:pm O i (.grow k T cs)) (hne:cs≠[]) (hj:j<n) (hr:j*k=r) :
  Gv P env O (Oper.mk (some d) (.indexAddr t x y) ty pos af none) (.po i r):=hr▸Gv.idxO ht hs hx hy hi hO hne hj
theorem aK.eq (h:O=O'):aK E env O env O':=fun I F ρ w h1 h2=>⟨I,.refl _,h1,h▸h2⟩
end
section
variable {P:Program} {E:World} {l:List Oper} {W:Nat→Bool} {fuel:Nat} {listed:Array Bool} {d ty:Nat} {op:Op} {pos:String} {af:Array Edge}
theorem cL.takeU {S0 S:World→Prop} {Q:cO→World→Prop} {ρ:cO} {w:World} {i j s:Nat} {b:Bool} (hi:l[i]?=some (Oper.mk (some d) op ty pos af (some (j,b)))) (hg:(l[j]?).bind (fun o:Oper=>o.dst)=some s) (hv:ρ s=undef) (hs:Region.noSelect l.toArray=true) (hf:Region.free .any l.toArray listed i=true)
  (hr:(Region.ready .any l.toArray listed).contains i=true) (hW:f9 l i W=true) (hWi:W i=false) (hcl:ft W listed=true) (hS0:S0 w) (hS:S w)
  (h:cL P l.toArray S0 S W Q fuel (listed.setIfInBounds i true) (upd ρ d undef) w):cL P l.toArray S0 S W Q (fuel+1) listed ρ w:=
 cL.first (oi:=Oper.mk (some d) op ty pos af (some (j,b))) (by simpa using hi) (Region.noSelect_spec hs) (Sx:=S) (C:=fun listed=>¬eW W listed) hWi (iY hW) (fun _ _ h1 _ h2=>h2.resolve_left h1) fuel listed ρ w (Region.free_spec (by simpa using hi) hf) (by simpa using hr)
  (.inr ⟨by simp only[dB,List.getElem?_toArray,hg,hv];simp[undef],rfl⟩) (iX hcl) hS0 (.inr hS) h
theorem bK.takeU {Q:aS→OL→Prop} {env:aS} {Os Om:OL} {i j s:Nat} {b:Bool} (hi:l[i]?=some (Oper.mk (some d) op ty pos af (some (j,b)))) (hg0:(l[j]?).bind (fun o:Oper=>o.dst)=some s) (hv0:env s=.raw undef) (hs:Region.noSelect l.toArray=true) (hf:Region.free .any l.toArray listed i=true)
  (hr:(Region.ready .any l.toArray listed).contains i=true) (hW:f9 l i W=true) (hWi:W i=false) (hcl:ft W listed=true)
  (h:bK P E l W Q fuel (listed.setIfInBounds i true) (bC env d (.raw undef)) Os Om):bK P E l W Q (fuel+1) listed env Os Om:=fun I F ρ w Ls h1 hLs h2=>
 cL.takeU hi hg0 (by have:=h1 s;rw[hv0] at this;exact this) hs hf hr hW hWi hcl h2.here.less h2.here (h I F _ w Ls (h1.upd d rfl) hLs h2)
end
theorem aK.knowP {E:World} {env:aS} {O O':OL} {t i:Nat} {T:TypeId} {cs:List AV} (hv:env t=.po i 0) (hO:dw O i (.cells T cs) O'):aK E env O (bC env t (.pf cs)) O':=fun I F ρ w h1 ⟨ht,L,hL,hS⟩=>by
 obtain ⟨A,B,hp,⟨b,c,vs,e1,hvs,hvc,rfl⟩,hB⟩:=hO.rep hL
 simp only at e1
 have hS2:SL I.k ((b,.cells vs.toArray T (0,0))::(B++F)) E w:=hS.perm ((hp.append_right F).symm)
 obtain ⟨hl,hS3⟩:=SL.freeze hS2
 let J:G:=⟨I.k.put b (.cells vs.toArray T (0,0)),I.h⟩
 have hle:I.le J:=⟨hl,fun _ _ h=>h⟩
 refine ⟨J,hle,fun s=>?_,ht,B,hB.mono hle,hS3⟩
 unfold bC
 cases hb:Nat.beq s t with
 |false=>exact bI.mono hle _ _ (h1 s)
 |true=>
  have:s=t:=Nat.eq_of_beq_eq_true hb
  subst this
  have h2:=h1 s
  rw[hv] at h2
  obtain ⟨b2,c2,e2,e3⟩:=h2
  rw[e1] at e2
  simp only[Option.some.injEq,Prod.mk.injEq] at e2
  obtain ⟨rfl,rfl⟩:=e2
  exact ⟨b,0,vs,e3,RepL.mono hle _ _ hvs,fun j u hj=>⟨_,_,_,aT.put_same _ _ _,by rw[Nat.zero_add,List.getElem?_toArray];exact hj⟩⟩
end
section
section
variable {E:World} {P:Program} {ops:Array Oper} {K:aS→OL→Prop} {env:aS} {O O':OL} {rest:List Oper}
variable {d ty:Nat} {pos:String} {af:Array Edge} {x y z:Operand} {t u e:TypeId}
end
end
section
section
variable {P:Program} {env:aS} {O:OL}
variable {d ty:Nat} {pos:String} {af:Array Edge} {x y:Operand}
theorem Gv.maxI {ts:Array TypeId} {k:IntKind} {a b:Int} (hx:bb env x=.int k a) (hy:bb env y=.int k b):Gv P env O (Oper.mk (some d) (.call { callee:=.builtin .max,args:=#[x,y],argTypes:=ts }) ty pos af none) (.int k (if b>a then b else a)):=qm fun I ρ h=>⟨_,rfl,fun w=>by
 simp[execOp,resolve,fY h hx,fY h hy,invoke,builtin,Builtin.max_,Builtin.max2,Result.andThen]⟩
theorem Gv.minI {ts:Array TypeId} {k:IntKind} {a b:Int} (hx:bb env x=.int k a) (hy:bb env y=.int k b):Gv P env O (Oper.mk (some d) (.call { callee:=.builtin .min,args:=#[x,y],argTypes:=ts }) ty pos af none) (.int k (if b<a then b else a)):=qm fun I ρ h=>⟨_,rfl,fun w=>by
 simp[execOp,resolve,fY h hx,fY h hy,invoke,builtin,Builtin.min_,Builtin.min2,Result.andThen]⟩
end
end
section
open Go.Lib
section
variable {P:Program} {ops:Array Oper} {K:cO→World→Prop} {ρ:cO} {w:World} {rest:List Oper}
variable {d ty:Nat} {pos:String} {af:Array Edge} {x y z:Operand} {t u e:TypeId}
variable {I:aT} {O A:List (Nat × Obj)} {E:World}
end
section
variable {E:World} {P:Program} {ops:Array Oper} {K:aS→OL→Prop} {env:aS} {O O':OL} {rest:List Oper}
variable {d ty:Nat} {pos:String} {af:Array Edge} {x y z:Operand} {t u e:TypeId}
end
section
variable {E:World} {P:Program} {env:aS} {O:OL} {d ty:Nat} {pos:String} {af:Array Edge} {t e kt:TypeId} {x y:Operand} {b i:Nat} {es:List (ByteArray × Int)}
theorem Gv.lookup1S {s:ByteArray} (ht:P.underlying t=some (.map kt e)) (hk:P.underlying kt=some .string) (hz:∀w,(zeroValue e).run P w=.ok (.int .i64 0) w) (hx:bb env x=nc b) (hy:bb env y=.str s) (hO:pm O i (Dm b es)) :
  Gv P env O (Oper.mk (some d) (.lookup t x y false) ty pos af none) (.int .i64 ((kV s es).getD 0)):=fun I L E ρ h1 hL=>by
 obtain ⟨arr,clock,hm,he⟩:=Kl hO hL
 have hx:=gy h1 hx
 have hy:=HO h1 hy
 refine ⟨.int .i64 ((kV s es).getD 0),Z,fun w J L' hl hS hin=>?_⟩
 have hb:=hS.own _ (hin _ hm)
 simp only at hb
 have hc:(Instr.checkKey arr.isEmpty 10000 kt (.string s)).run P w=.ok () w:=MapKept.run_checkKey (k:=.string s) hk (by simp[MapKept.IsKey]) _ 9999
 cases hg:kV s es with
 |none=>
  have hf:=kw (i:=0) he hg
  simp[execOp,Instr.lookup,run_underlying ht,hx,hy,MapKept.run_getObj_map hb,hc,MapKept.run_findKey hk hf,hz,Result.andThen]
 |some u=>
  obtain ⟨j,hf,_⟩:=kx (i:=0) he hg
  simp[execOp,Instr.lookup,run_underlying ht,hx,hy,MapKept.run_getObj_map hb,hc,MapKept.run_findKey hk hf,Result.andThen]
end
theorem vU (s v:ByteArray) (n:Int):∀es:List (ByteArray × Int),kV s (oX v n es)=if s=v then some n else kV s es
 |[]=>by simp only[oX,kV]
 |(k,u)::es=>by
  simp only[oX]
  split
  ·rename_i h;subst h;simp only[kV];split<;>rfl
  ·rename_i h
   simp only[kV,vU s v n es]
   split
   ·rename_i h2;subst h2;rw[if_neg (fun e=>h e.symm)]
   ·rfl
end
section
def cI (l:List Int):List AV:=l.map (AV.int .i64)
def cB (l:List Bool):List AV:=l.map AV.bool
theorem bf (l:List Int):(cI l).length=l.length:=by simp[cI]
theorem bd (l:List Bool):(cB l).length=l.length:=by simp[cB]
theorem uB (l:List Int):(l.map fun x=>[AV.int .i64 x]).flatten=cI l:=by
 induction l with
 |nil=>rfl
 |cons x l ih=>simp only[List.map_cons,List.flatten_cons,ih];rfl
theorem H8 (l:List Bool):(l.map fun x=>[AV.bool x]).flatten=cB l:=by
 induction l with
 |nil=>rfl
 |cons x l ih=>simp only[List.map_cons,List.flatten_cons,ih];rfl
theorem Km (l m:List Int):cI l++cI m=cI (l++m):=by simp[cI]
theorem Kn (l:List Int) (j:Nat) (v:Int):(cI l).set j (.int .i64 v)=cI (l.set j v):=by unfold cI;rw[List.map_set]
theorem Ko (l:List Bool) (j:Nat) (v:Bool):(cB l).set j (.bool v)=cB (l.set j v):=by unfold cB;rw[List.map_set]
theorem H9 {l:List Int} {j:Nat} {v:Int} (h:l[j]?=some v):(cI l).drop j=.int .i64 v::(cI l).drop (j+1):=by
 obtain ⟨hj,e⟩:=List.getElem?_eq_some_iff.1 h
 rw[List.drop_eq_getElem_cons (by rw[bf];exact hj)]
 unfold cI
 rw[List.getElem_map,e]
theorem Ia {l:List Bool} {j:Nat} {v:Bool} (h:l[j]?=some v):(cB l).drop j=.bool v::(cB l).drop (j+1):=by
 obtain ⟨hj,e⟩:=List.getElem?_eq_some_iff.1 h
 rw[List.drop_eq_getElem_cons (by rw[bd];exact hj)]
 unfold cB
 rw[List.getElem_map,e]
theorem Kp (n:Nat) (v:Bool):List.replicate n (AV.bool v)=cB (List.replicate n v):=by simp[cB]
theorem Do (I:G) (l:List Int):RepL I (cI l) (l.map (Value.int .i64)):=by
 unfold cI
 induction l with
 |nil=>rfl
 |cons x l ih=>exact ⟨_,_,rfl,rfl,ih⟩
theorem JG {I:G}:∀{l:List Int} {vs:List Value},RepL I (cI l) vs→vs=l.map (Value.int .i64)
 |[],_,h=>h
 |x::l,_,⟨v,us,e,h1,h2⟩=>by
  have h1:v=.int .i64 x:=h1
  rw[e,h1,JG h2];rfl
section
variable {E:World} {P:Program} {ops:Array Oper} {K:aS→OL→Prop} {env:aS} {O O' O'':OL} {rest:List Oper} {n:Nat}
variable {d ty:Nat} {pos:String} {af:Array Edge} {x y z:Operand} {t u e:TypeId}
theorem Gv.idxI {i n j:Nat} {a:Int} {T:TypeId} {cs:List AV} (ht:P.underlying t=some (.slice e)) (hs:∀w,(sizeOf e).run P w=.ok 1 w) (hx:bb env x=.own i n) (hy:bb env y=.int .i64 a) (hi:a=(j:Int)) (hO:pm O i (.grow 1 T cs)) (hn:cs.length=n) (hj:j<n) :
  Gv P env O (Oper.mk (some d) (.indexAddr t x y) ty pos af none) (.po i j):=
 Gv.idxOL ht hs hx hy hi hO (fun e=>by rw[e] at hn;simp at hn;omega) hj (Nat.mul_one j)
theorem Gv.loadI {i j:Nat} {T:TypeId} {l:List Int} {v:Int} (ha:∀w,(isAgg t).run P w=.ok false w) (hx:bb env x=.po i j) (hO:pm O i (.grow 1 T (cI l))) (hv:l[j]?=some v) :
  Gv P env O (Oper.mk (some d) (.load t x) ty pos af none) (.int .i64 v):=Gv.load1G ha hx hO (H9 hv)
theorem Gv.loadB {i j:Nat} {T:TypeId} {l:List Bool} {v:Bool} (ha:∀w,(isAgg t).run P w=.ok false w) (hx:bb env x=.po i j) (hO:pm O i (.grow 1 T (cB l))) (hv:l[j]?=some v) :
  Gv P env O (Oper.mk (some d) (.load t x) ty pos af none) (.bool v):=Gv.load1G ha hx hO (Ia hv)
theorem gr.cast {i k:Nat} {T:TypeId} {o:bQ} {cs ds:List AV} (h:gr O i o (.grow k T cs) O') (e:cs=ds):gr O i o (.grow k T ds) O':=e▸h
theorem az.storeI {i j:Nat} {T:TypeId} {l:List Int} {v:Int} (hs:∀w,(sizeOf t).run P w=.ok 1 w) (hx:bb env x=.po i j) (hy:bb env y=.int .i64 v) (hO:gr O i (.grow 1 T (cI l)) (.grow 1 T (cI (l.set j v))) O') (hb:j<l.length)
  (kk:az P E ops K rest env O'):az P E ops K (Oper.mk none (.store t x y) ty pos af none::rest) env O:=
 az.storeG1 (cs:=cI l) hs hx hy rfl rfl rfl (hO.cast (Kn l j v).symm) (by rw[bf];exact hb) kk
theorem az.storeB {i j:Nat} {T:TypeId} {l:List Bool} {v:Bool} (hs:∀w,(sizeOf t).run P w=.ok 1 w) (hx:bb env x=.po i j) (hy:bb env y=.bool v) (hO:gr O i (.grow 1 T (cB l)) (.grow 1 T (cB (l.set j v))) O') (hb:j<l.length)
  (kk:az P E ops K rest env O'):az P E ops K (Oper.mk none (.store t x y) ty pos af none::rest) env O:=
 az.storeG1 (cs:=cB l) hs hx hy rfl rfl rfl (hO.cast (Ko l j v).symm) (by rw[bd];exact hb) kk
theorem az.makeB {i:TypeInfo} {zv:Value} {m:Nat} {k1 k2:IntKind} {l l':Int} (ht:P.underlying t=some (.slice e)) (hi:P.info? e=some i) (hz:i.zero=some zv) (hzc:zv.cells=#[.bool false]) (hk:i.size=1) (hx:bb env x=.int k1 l) (hy:bb env y=.int k2 l')
  (hl:l=(m:Int)) (hl':l'=(m:Int)) (hb:(i.bytes:Int)*(m:Int)≤281474976710656) (hm:m≤281474976710656) (kk:∀j,az P E ops K rest (bC env d (.own j m)) ((j,.grow 1 e (cB (List.replicate m false)))::O)) :
  az P E ops K (Oper.mk (some d) (.makeSlice t x y) ty pos af none::rest) env O:=
 az.make1 ht hi hz hzc hk hx hy hl hl' hb hm rfl fun j=>by rw[show lit (.bool false)=AV.bool false from rfl,Kp];exact kk j
theorem aK.knowI {t i m:Nat} {T:TypeId} {l:List Int} (hv:env t=.own i m) (hO:dw O i (.grow 1 T (cI l)) O') (hm:l.length=m):aK E env O (bC env t (.fro 1 (l.map fun x=>[.int .i64 x]))) O':=
 aK.know hv (by rw[uB];exact hO) (fun r hr=>by obtain ⟨_,_,rfl⟩:=List.mem_map.1 hr;rfl) (by decide) (by rw[qx];exact hm)
theorem aK.knowB {t i m:Nat} {T:TypeId} {l:List Bool} (hv:env t=.own i m) (hO:dw O i (.grow 1 T (cB l)) O') (hm:l.length=m):aK E env O (bC env t (.fro 1 (l.map fun x=>[.bool x]))) O':=
 aK.know hv (by rw[H8];exact hO) (fun r hr=>by obtain ⟨_,_,rfl⟩:=List.mem_map.1 hr;rfl) (by decide) (by rw[qx];exact hm)
end
structure fj (α:Type) where
 k:Nat
 val:α→List Value
 pos:0<k
 len:∀x,(val x).length=k
 one:∀x,∀u∈val x,u.oneCell'=true
variable {α:Type}
def fj.vs (c:fj α) (l:List α):List Value:=l.flatMap c.val
def fj.row (c:fj α) (x:α):List AV:=(c.val x).map lit
def fj.av (c:fj α) (l:List α):List AV:=l.flatMap c.row
theorem fj.vs_len (c:fj α) (l:List α):(c.vs l).length=l.length*c.k:=by
 unfold fj.vs
 induction l with
 |nil=>simp
 |cons x l ih=>rw[List.flatMap_cons,qw,ih,c.len,List.length_cons,Nat.add_mul];omega
theorem fj.av_eq (c:fj α) (l:List α):c.av l=(c.vs l).map lit:=by
 unfold fj.av fj.vs
 induction l with
 |nil=>rfl
 |cons x l ih=>rw[List.flatMap_cons,List.flatMap_cons,List.map_append,ih];rfl
theorem fj.av_len (c:fj α) (l:List α):(c.av l).length=l.length*c.k:=by rw[c.av_eq,qx,c.vs_len]
theorem fj.av_app (c:fj α) (l m:List α):c.av l++c.av m=c.av (l++m):=by unfold fj.av;rw[List.flatMap_append]
theorem fj.av_push (c:fj α) (l:List α) (x:α):c.av l++c.row x=c.av (l++[x]):=by rw[←c.av_app];unfold fj.av;simp
theorem fj.vs_one (c:fj α) (l:List α):∀u∈c.vs l,u.oneCell'=true:=by
 intro u hu
 unfold fj.vs at hu
 obtain ⟨x,_,hx⟩:=List.mem_flatMap.1 hu
 exact c.one x u hx
theorem fj.av_un (c:fj α) {I:G} {l:List α} {vs:List Value} (h:RepL I (c.av l) vs):vs=c.vs l:=by rw[c.av_eq] at h;exact lF h
def eI:fj Int:=⟨1,fun x=>[.int .i64 x],by decide,fun _=>rfl,fun x u hu=>by simp at hu;subst hu;rfl⟩
def eP:fj (Int × Int):=⟨2,fun p=>[.int .i64 p.1,.int .i64 p.2],by decide,fun _=>rfl,fun x u hu=>by simp at hu;rcases hu with rfl|rfl<;>rfl⟩
def eE:fj (Int × Int × Int):=⟨3,fun p=>[.int .i64 p.1,.int .i64 p.2.1,.int .i64 p.2.2],by decide,fun _=>rfl,fun x u hu=>by simp at hu;rcases hu with rfl|rfl|rfl<;>rfl⟩
theorem Ft (l:List Int):eI.av l=cI l:=by
 unfold fj.av cI
 induction l with
 |nil=>rfl
 |cons x l ih=>rw[List.flatMap_cons,ih];rfl
inductive fe (c:fj α) (e:TypeId):List (List α)→List Value→List (Nat × Obj)→Prop
 |nil:fe c e [] [] []
 |cons {r rs a n cap hs A B}:fT c.k e a n cap (c.vs r) A→fe c e rs hs B→fe c e (r::rs) (.slice a n cap::hs) (A++B)
theorem fe.len {c:fj α} {e:TypeId} {rows:List (List α)} {hs:List Value} {L:List (Nat × Obj)} (h:fe c e rows hs L):hs.length=rows.length:=by
 induction h with
 |nil=>rfl
 |cons _ _ ih=>simp[ih]
def JH (c:fj α) (e:TypeId) (rows:List (List α)) (j:Nat) (hs:List Value) (B:List (Nat × Obj)):Prop:=
 ∀r' a' n' c' A',fT c.k e a' n' c' (c.vs r') A'→∃L',fe c e (rows.set j r') (hs.set j (.slice a' n' c')) L'∧L'.Perm (A'++B)
theorem fe.get {c:fj α} {e:TypeId} {rows:List (List α)} {hs:List Value} {L:List (Nat × Obj)} (h:fe c e rows hs L):∀{j:Nat} {r:List α},rows[j]?=some r →
  ∃a n cap A B,hs[j]?=some (.slice a n cap)∧fT c.k e a n cap (c.vs r) A∧L.Perm (A++B)∧JH c e rows j hs B:=by
 induction h with
 |nil=>intro j r hj;simp at hj
 |@cons r0 rs a n cap hs A B h1 h2 ih=>
  intro j r hj
  cases j with
  |zero=>
   simp at hj;subst hj
   exact ⟨a,n,cap,A,B,rfl,h1,.refl _,fun r' a' n' c' A' h=>⟨A'++B,.cons h h2,.refl _⟩⟩
  |succ j=>
   obtain ⟨a1,n1,c1,A1,B1,g1,g2,g3,g4⟩:=ih (j:=j) (r:=r) (by simpa using hj)
   refine ⟨a1,n1,c1,A1,A++B1,by simpa using g1,g2,?_,fun r' a' n' c' A' h=>?_⟩
   ·refine (g3.append_left A).trans ?_
    rw[←qs,←qs]
    exact List.perm_append_comm.append_right B1
   ·obtain ⟨L',k1,k2⟩:=g4 r' a' n' c' A' h
    refine ⟨A++L',by simpa using fe.cons h1 k1,?_⟩
    refine (k2.append_left A).trans ?_
    rw[←qs,←qs]
    exact List.perm_append_comm.append_right B1
theorem fe.rep (c:fj α) (e:TypeId):∀m:Nat,fe c e (List.replicate m []) (List.replicate m (.slice none 0 0)) []
 |0=>.nil
 |m+1=>by
  have:=fe.cons (c:=c) (r:=[]) (fT.nil c.k e) (fe.rep c e m)
  simpa [List.replicate_succ] using this
def cJ (c:fj α) (T e:TypeId) (b:Nat) (rows:List (List α)):bQ:=.heap fun L=>∃hs B,L=(b,.cells hs.toArray T (0,0))::B∧fe c e rows hs B
def Br (c:fj α) (T e:TypeId) (b:Nat) (rows:List (List α)) (j n i:Nat):bQ:=.heapG (fun I L=>∃hs B hd,L=(b,.cells hs.toArray T (0,0))::B∧I.h i=some hd∧hs[j]?=some (.slice (adr hd.1) n hd.2)∧hs.length=rows.length∧JH c e rows j hs B)
 (fun I J L h hp=>by obtain ⟨hs,B,hd,h1,h2,h3⟩:=hp;exact ⟨hs,B,hd,h1,h.h _ _ h2,h3⟩)
def dn (b n:Nat):AV:=.raw (.slice (some ⟨b,0,none⟩) n n)
def Fu (b j:Nat):AV:=.raw (.pointer (some ⟨b,j,none⟩))
theorem fT.adr {k:Nat} {e:TypeId} {a:Option Addr} {n c:Nat} {cs:List Value} {A:List (Nat × Obj)} (h:fT k e a n c cs A):∃b,a=Go.Proofs.YtbanfokidalbaaaGreatDoor.adr b:=by
 rcases h.2.2 with ⟨e,_⟩|⟨b,junk,e,_⟩
 ·exact ⟨none,e⟩
 ·exact ⟨some b,e⟩
section
variable {E:World} {P:Program} {ops:Array Oper} {K:aS→OL→Prop} {env:aS} {O O' O'':OL} {rest:List Oper} {n:Nat}
variable {d ty:Nat} {pos:String} {af:Array Edge} {x y z:Operand} {t u e T:TypeId}
theorem az.makeNest {i:TypeInfo} {zv:Value} {m:Nat} {k1 k2:IntKind} {l l':Int} (ht:P.underlying t=some (.slice T)) (hi:P.info? T=some i) (hz:i.zero=some zv) (hzc:zv.cells=#[.slice none 0 0]) (hk:i.size=1) (hx:bb env x=.int k1 l) (hy:bb env y=.int k2 l')
  (hl:l=(m:Int)) (hl':l'=(m:Int)) (hb:(i.bytes:Int)*(m:Int)≤281474976710656) (hm:m≤281474976710656) (c:fj α) (e:TypeId) (kk:∀b,az P E ops K rest (bC env d (dn b m)) ((0,cJ c T e b (List.replicate m []))::O)) :
  az P E ops K (Oper.mk (some d) (.makeSlice t x y) ty pos af none::rest) env O:=fun I F ρ w h1 h2=>by
 obtain ⟨htop,L,hL,hS⟩:=h2
 refine bP.make1 ht hi hz hzc hk (fY h1 hx) (fY h1 hy) hl hl' hb hm hS fun b w' hS'=>?_
 exact kk b I F _ _ (h1.upd d rfl) ⟨htop,_,⟨[(b,.cells (List.replicate m (.slice none 0 0)).toArray T (0,0))],L,rfl,⟨List.replicate m (.slice none 0 0),[],rfl,fe.rep c e m⟩,hL⟩,by simpa using hS'⟩
theorem Gv.idxN {b m j:Nat} {a:Int} (ht:P.underlying t=some (.slice T)) (hs:∀w,(sizeOf T).run P w=.ok 1 w) (hx:bb env x=dn b m) (hy:bb env y=.int .i64 a) (hi:a=(j:Int)) (hj:j<m) :
  Gv P env O (Oper.mk (some d) (.indexAddr t x y) ty pos af none) (Fu b j):=qm fun I ρ h=>by
 have h1:=gy h hx
 have h2:=fY h hy
 subst hi
 have hlt:((j:Int)<(m:Int)):=by omega
 refine ⟨_,Z,fun w=>?_⟩
 simp[execOp,h1,h2,Instr.indexAt,Sem.run_bind,run_underlying ht,hs,hlt,bE,asIntOf]
 intro h;omega
theorem Gv.lenN {b m:Nat} (ht:P.underlying t=some (.slice T)) (hx:bb env x=dn b m):Gv P env O (Oper.mk (some d) (.call { callee:=.builtin .len,args:=#[x],argTypes:=#[t] }) ty pos af none) (.int .i64 m):=qm fun I ρ h=>by
 have h1:=gy h hx
 exact ⟨_,rfl,fun w=>by simp[execOp,resolve,h1,invoke,builtin,Builtin.len_,run_underlying ht,goInt]⟩
theorem az.nestTake {c:fj α} {b j m:Nat} {rows:List (List α)} {r:List α} {f:Nat→OL} (ha:∀w,(isAgg t).run P w=.ok false w) (hx:bb env x=Fu b j) (hr:rows[j]?=some r)
  (hO:∀i,gr O m (cJ c T e b rows) (Br c T e b rows j r.length i) (f i)) (kk:∀i,az P E ops K rest (bC env d (.own i r.length)) ((i,.grow c.k e (c.av r))::f i)) :
  az P E ops K (Oper.mk (some d) (.load t x) ty pos af none::rest) env O:=fun I F ρ w h1 h2=>by
 obtain ⟨i,hi⟩:=h2.name
 obtain ⟨htop,L,hL,hS⟩:=h2
 have hx:=gy h1 hx
 obtain ⟨A,B,hp,⟨hs,B0,rfl,hN⟩,hback⟩:=(hO i).rep hL
 obtain ⟨a,n,cap,A1,B1,g1,g2,g3,g4⟩:=hN.get hr
 obtain ⟨b1,rfl⟩:=g2.adr
 have hn:n=r.length:=by have:=g2.1;rw[c.vs_len] at this;exact (Nat.eq_of_mul_eq_mul_right c.pos this).symm
 subst hn
 obtain ⟨J,e1,hle,e2,htop'⟩:=hi (b1,cap)
 have hS2:SL I.k ((b,.cells hs.toArray T (0,0))::(B0++(B++F))) E w:=hS.perm (by
  have:=hp.append_right F
  simpa using this.symm)
 obtain ⟨L',h5,h6⟩:=hback hle (A':=(b,.cells hs.toArray T (0,0))::B1) ⟨hs,B1,(b1,cap),rfl,e2,g1,hN.len,g4⟩
 refine bP.load1 (I:=I.k) (O:=(b,.cells hs.toArray T (0,0))::(B0++(B++F))) ha hS2 hx (.inr ⟨_,_,_,.head _,by rw[List.getElem?_toArray];exact g1⟩) ?_
 refine q3 (fun _ _=>qp hle) _ _ _ (kk i J F _ _ ((h1.mono hle).upd d ⟨b1,cap,e2,Z⟩) ⟨htop',A1++L',⟨A1,L',Z,⟨b1,cap,_,c.vs r,e2,by rw[c.av_eq];exact dx J _,c.vs_one r,g2⟩,h5⟩,?_⟩)
 rw[e1]
 refine hS2.perm<|List.Perm.trans ?_ (List.Perm.cons _ ((g3.append_right (B++F)).symm))
 have h7:(A1++L'++F).Perm (A1++((b,Obj.cells hs.toArray T (0,0))::(B1++B))++F):=(h6.append_left A1).append_right F
 refine h7.trans ?_
 simp only[qs,List.cons_append]
 exact List.perm_middle
theorem az.nestPut {c:fj α} {b j m i i0 n0 n1 k:Nat} {rows:List (List α)} {r:List α} {cs:List AV} (hs1:∀w,(sizeOf t).run P w=.ok 1 w) (hx:bb env x=Fu b j) (hy:bb env y=.own i n1) (hj:j<rows.length)
  (hP0:dw O i (.grow k e cs) O') (hO:gr O' m (Br c T e b rows j n0 i0) (cJ c T e b (rows.set j r)) O'') (hk:k=c.k) (hcs:cs=c.av r) (hn1:r.length=n1) (kk:az P E ops K rest env O'') :
  az P E ops K (Oper.mk none (.store t x y) ty pos af none::rest) env O:=fun I F ρ w h1 h2=>by
 obtain ⟨htop,L,hL,hS⟩:=h2
 have hP:dw O i (.grow c.k e (c.av r)) O':=by subst hk hcs;exact hP0
 have hx:=gy h1 hx
 have h3:=h1.ev y
 rw[hy] at h3
 obtain ⟨b1,c1,e1,ey⟩:=h3
 obtain ⟨A,B,hp,⟨b1',c1',n',vs,e2,hvs,hvc,hown⟩,hB⟩:=hP.rep hL
 simp only at e2
 rw[e1] at e2
 simp only[Option.some.injEq,Prod.mk.injEq] at e2
 obtain ⟨rfl,rfl⟩:=e2
 have hv:=c.av_un hvs
 subst hv
 have hnn:n'=n1:=by have:=hown.1;rw[c.vs_len,hn1] at this;exact (Nat.eq_of_mul_eq_mul_right c.pos this).symm
 subst hnn
 obtain ⟨A2,B2,hp2,⟨hs,B0,hd,rfl,_,hsj,hsl,hole⟩,hback⟩:=hO.rep hB
 obtain ⟨L',k1,k2⟩:=hole r _ _ _ A hown
 have hS2:SL I.k ([(b,.cells hs.toArray T (0,0))]++(A++(B0++(B2++F)))) E w:=hS.perm (by
  refine List.Perm.trans ?_ ((hp.append_right F).symm)
  refine List.Perm.trans ?_ (((hp2.append_left A).append_right F).symm)
  simp only[qs,List.cons_append,List.nil_append]
  exact (List.perm_middle).symm)
 refine bP.store1 (cs:=hs) (off:=j) hs1 hx ey Z (by rw[hsl];exact hj) hS2 fun w' hS'=>?_
 obtain ⟨L2,h7,h8⟩:=hback (G.le.refl I) (A':=(b,.cells (hs.set j (.slice (adr b1) n' c1)).toArray T (0,0))::L') ⟨_,L',rfl,k1⟩
 refine kk I F _ _ h1 ⟨htop,L2,h7,hS'.perm ?_⟩
 refine (h8.append_right F).trans ?_
 simp only[List.cons_append,List.nil_append,qs]
 refine List.Perm.cons _ ?_
 have:=k2.append_right (B2++F)
 simpa [qs] using this
theorem aK.nestBack {c:fj α} {b j m i:Nat} {rows:List (List α)} {r:List α} (hP:dw O i (.grow c.k e (c.av r)) O') (hO:gr O' m (Br c T e b rows j r.length i) (cJ c T e b (rows.set j r)) O''):aK E env O env O'':=fun I F ρ w h1 h2=>by
 obtain ⟨htop,L,hL,hS⟩:=h2
 obtain ⟨A,B,hp,⟨b1,c1,n',vs,e2,hvs,hvc,hown⟩,hB⟩:=hP.rep hL
 have hv:=c.av_un hvs
 subst hv
 have hnn:n'=r.length:=by have:=hown.1;rw[c.vs_len] at this;exact (Nat.eq_of_mul_eq_mul_right c.pos this).symm
 subst hnn
 obtain ⟨A2,B2,hp2,⟨hs,B0,hd,rfl,e3,hsj,hsl,hole⟩,hback⟩:=hO.rep hB
 simp only at e2
 rw[e2] at e3
 simp only[Option.some.injEq] at e3
 subst e3
 obtain ⟨L',k1,k2⟩:=hole r _ _ _ A hown
 have hsame:hs.set j (.slice (adr b1) r.length c1)=hs:=by
  obtain ⟨h9,h10⟩:=List.getElem?_eq_some_iff.1 hsj
  refine List.ext_getElem? fun k=>?_
  by_cases ek:k=j
  ·subst ek;rw[List.getElem?_set_self h9,hsj]
  ·rw[List.getElem?_set_ne (fun e=>ek e.symm)]
 rw[hsame] at k1
 obtain ⟨L2,h7,h8⟩:=hback (G.le.refl I) (A':=(b,.cells hs.toArray T (0,0))::L') ⟨_,L',rfl,k1⟩
 refine ⟨I,.refl _,h1,htop,L2,h7,hS.perm ?_⟩
 refine (h8.append_right F).trans<|List.Perm.trans ?_ ((hp.append_right F).symm)
 refine List.Perm.trans ?_ (((hp2.append_left A).append_right F).symm)
 simp only[qs,List.cons_append,List.nil_append]
 refine List.Perm.trans ?_ (List.perm_middle).symm
 refine List.Perm.cons _ ?_
 have:=k2.append_right (B2++F)
 simpa [qs] using this
theorem SL.freezeAllN:∀{A:List (Nat × Obj)} {I:aT} {F:List (Nat × Obj)} {E w:World},SL I (A++F) E w→∃J,I.le J∧SL J F E w∧∀x∈A,J x.1=some x.2
 |[],I,F,E,w,h=>⟨I,.refl _,h,fun _ h=>by cases h⟩
 |(b,o)::A,I,F,E,w,h=>by
  obtain ⟨h1,h2⟩:=SL.freeze (show SL I ((b,o)::(A++F)) E w from h)
  obtain ⟨J,h3,h4,h5⟩:=SL.freezeAllN h2
  refine ⟨J,h1.trans h3,h4,fun x hx=>?_⟩
  rcases List.mem_cons.1 hx with rfl|hx
  ·exact h3 _ _ (aT.put_same _ _ _)
  ·exact h5 x hx
theorem fT.fro {c:fj α} {I:G} {e:TypeId} {a:Option Addr} {n cap:Nat} {r:List α} {A:List (Nat × Obj)} (h:fT c.k e a n cap (c.vs r) A) (hI:∀x∈A,I.k x.1=some x.2):bI I (.fro c.k (r.map c.row)) (.slice a n cap):=by
 obtain ⟨h1,h2,h3⟩:=h
 have hn:n=r.length:=by rw[c.vs_len] at h1;exact (Nat.eq_of_mul_eq_mul_right c.pos h1).symm
 subst hn
 rcases h3 with ⟨rfl,rfl,_⟩|⟨b,junk,rfl,rfl,hj⟩
 ·have h0:r=[]:=List.eq_nil_of_length_eq_zero (by omega)
  subst h0
  exact ⟨none,0,0,rfl,rfl,Nat.le_refl _,fun _=>rfl,trivial⟩
 ·have hb:=hI _ (.head _)
  simp only at hb
  have hflat:(r.map c.row).flatten=(c.vs r).map lit:=by rw[←c.av_eq];unfold fj.av;rw[List.flatMap]
  refine ⟨_,_,_,Z,by simp,h2,fun e=>(by cases e),RepR.of_flat hb (r.map c.row) (c.vs r) 0 (fun x hx=>by obtain ⟨y,_,rfl⟩:=List.mem_map.1 hx;unfold fj.row;rw[qx,c.len]) (by rw[hflat];exact dx I _) fun i u hu=>?_⟩
  rw[Nat.zero_mul,Nat.zero_add,List.getElem?_toArray,List.getElem?_append_left (List.getElem?_eq_some_iff.1 hu).1]
  exact hu
theorem fe.fro {c:fj α} {I:G} {e:TypeId} {rows:List (List α)} {hs:List Value} {B:List (Nat × Obj)} (h:fe c e rows hs B) (hI:∀x∈B,I.k x.1=some x.2):RepL I (rows.map fun r=>.fro c.k (r.map c.row)) hs:=by
 induction h with
 |nil=>rfl
 |cons h1 _ ih=>exact ⟨_,_,rfl,h1.fro fun x hx=>hI x (List.mem_append_left _ hx),ih fun x hx=>hI x (List.mem_append_right _ hx)⟩
def oY (c:fj α) (rows:List (List α)):AV:=.fro 1 (rows.map fun r=>[.fro c.k (r.map c.row)])
theorem tz {c:fj α} {I:G} {F:List (Nat × Obj)} {E w:World} {b m:Nat} {rows:List (List α)} (hO:dw O m (cJ c T e b rows) O') (h:g9 I O F E w):∃J B,I.le J∧cM I O' B∧(∃top,∀i,top≤i→J.h i=none)∧SL J.k (B++F) E w∧bI J (oY c rows) (.slice (some ⟨b,0,none⟩) rows.length rows.length):=by
 obtain ⟨htop,L,hL,hS⟩:=h
 obtain ⟨A,B,hp,⟨hs,B0,rfl,hN⟩,hB⟩:=hO.rep hL
 have hS2:SL I.k (((b,.cells hs.toArray T (0,0))::B0)++(B++F)) E w:=hS.perm (by rw[←qs];exact (hp.append_right F).symm)
 obtain ⟨J,h1,h2,h3⟩:=SL.freezeAllN hS2
 have hle:I.le ⟨J,I.h⟩:=⟨h1,fun _ _ h=>h⟩
 refine ⟨⟨J,I.h⟩,B,hle,hB,htop,h2,?_⟩
 have hb:=h3 _ (.head _)
 simp only at hb
 have hrep:=hN.fro (I:=⟨J,I.h⟩) fun x hx=>h3 x (.tail _ hx)
 refine ⟨_,_,_,Z,by simp,Nat.le_refl _,fun e=>(by cases e),RepR.intro fun j row hj=>?_⟩
 rw[qy] at hj
 obtain ⟨r,hr,rfl⟩:=Option.map_eq_some_iff.1 hj
 obtain ⟨v,hv1,hv2⟩:=hrep.get (j:=j) (x:=.fro c.k (r.map c.row)) (by rw[qy,hr];rfl)
 refine ⟨b,0,[v],Z,Z,RepL.one hv2,fun i u hu=>?_⟩
 cases i with
 |zero=>
  simp at hu;subst hu
  exact ⟨_,_,_,hb,by rw[List.getElem?_toArray,show 0+(0+j)*1+0=j by omega];exact hv1⟩
 |succ i=>simp at hu
theorem aK.nestKnow {c:fj α} {s b m n:Nat} {rows:List (List α)} (hv:env s=dn b n) (hO:dw O m (cJ c T e b rows) O') (hn:rows.length=n):aK E env O (bC env s (oY c rows)) O':=fun I F ρ w h1 h2=>by
 obtain ⟨J,B,hle,hB,htop,hS,hrep⟩:=tz hO h2
 refine ⟨J,hle,fun q=>?_,htop,B,hB.mono hle,hS⟩
 unfold bC
 cases hb:Nat.beq q s with
 |false=>exact bI.mono hle _ _ (h1 q)
 |true=>
  have:q=s:=Nat.eq_of_beq_eq_true hb
  subst this
  have h4:=h1 q
  rw[hv] at h4
  have h4:ρ q=.slice (some ⟨b,0,none⟩) n n:=h4
  rw[h4,←hn];exact hrep
theorem aK.nestKnowC {c:fj α} {off b m n i:Nat} {T':TypeId} {cs:List AV} {rows:List (List α)} (hO:dw O m (cJ c T e b rows) O') (hP:gr O' i (.cells T' cs) (.cells T' (cs.set off (oY c rows))) O'') (hc:cs[off]?=some (dn b n)) (hn:rows.length=n):aK E env O env O'':=fun I F ρ w h1 h2=>by
 obtain ⟨J,B,hle,hB,htop,hS,hrep⟩:=tz hO h2
 obtain ⟨L',h5,h6⟩:=gr.same (F:=F) (E:=E) (w:=w) hle (.inr trivial) hP hc (fun v hv=>by
  have hv:v=.slice (some ⟨b,0,none⟩) n n:=hv
  rw[hv,←hn];exact hrep) hB
 exact ⟨J,hle,h1.mono hle,htop,L',h5,hS.perm (h6.symm.append_right F)⟩
end
end
section
open Go.Proofs
abbrev dI:=Int × Int × Int
def gg (e:dI):List AV:=[.int .i64 e.1,.int .i64 e.2.1,.int .i64 e.2.2]
def eC (l:List dI):List AV:=eE.av l
theorem qN (l:List dI):(eC l).length=l.length*3:=eE.av_len l
theorem uC (l:List dI) (e:dI):eC l++gg e=eC (l++[e]):=eE.av_push l e
def dz (r:be) (n:Int):Bool:=!decide (r.2<r.1)&&(decide (n≠mO)&&decide (n≠lc))
def ff (f:ad) (l:List be) (up:Bool) (v:Int) (other:Bool):Int:=if up≠other then (dW f l v).2 else (dW f l v).1
def iz (c:Bool) (e:dI):List dI:=if c then[e] else[]
def x0 (x:aN):Int:=(x.args[0]?).getD 0
def x1 (x:aN):Int:=(x.args[1]?).getD 0
def n0 (f:ad):Int:=f.vars.length
def qO (f:ad) (l:List be) (up:Bool) (v:Int) (other:Bool) (to from_:Int) (s:Int):List dI:=iz (dz (dW f l v) (ff f l up v other)) (from_,to,s*ff f l up v other)
def sK (f:ad) (l:List be) (up:Bool) (v:Int):List dI:=qO f l up v false v (n0 f) 1
def gN (f:ad) (l:List be) (x:aN):Bool:=decide ((dW f l (x0 x)).2<(dW f l (x0 x)).1∨(dW f l (x1 x)).2<(dW f l (x1 x)).1∨jA (x.op - 2).toNat (dW f l (x0 x)) (dW f l (x1 x)))
def kW (f:ad) (l:List be) (up:Bool) (x:aN) (blk at_:Int):List dI:=
 if (gN f l x||kq f x blk at_)=true then
  (if x.op=3 then qO f l up (x1 x) true x.dst (x0 x) (-1) else qO f l up (x1 x) false x.dst (x0 x) 1++qO f l up (x0 x) false x.dst (x1 x) 1)
 else[]
def li (f:ad) (l:List be) (v:Int):Bool:=dz (dW f l v) (dW f l v).1&&decide (0≤(dW f l v).1)
def qP (f:ad) (l:List be) (x:aN):Bool:=if x.op=5 then li f l (x0 x)&&li f l (x1 x) else li f l (x0 x)
def gD (f:ad) (l:List be) (up:Bool) (x:aN):List dI:=
 (if qP f l x=true then[if up=true then (x0 x,x.dst,0) else (n0 f,x.dst,0)] else[])++iz (decide (x.op=6)&&(li f l (x1 x)&&up)) (x1 x,x.dst,-1)
def Bs (up:Bool) (x:aN):List dI:=
 (x0 x,x.dst,0)::(if up=true∧x.num=0 then[(x1 x,x.dst,-1)]
  else if (up=true∧(x.num=1∨x.num=2))∨(up=false∧(x.num=2∨x.num=3)) then[(x1 x,x.dst,0)]
  else if up=false∧x.num=4 then[(x1 x,x.dst,1)] else[])
def cT (f:ad) (l:List be) (up:Bool) (x:aN) (blk at_:Int):List dI:=
 if x.op=0 then[(n0 f,x.dst,x.num)] else if x.op=1∨x.op=12∨x.op=15 then[(x0 x,x.dst,0)]
 else if x.op=2∨x.op=3 then kW f l up x blk at_ else if x.op=5∨x.op=6 then gD f l up x
 else if x.op=16 then[(n0 f,x.dst,0)] else if x.op=25 then Bs up x
 else if x.op=26 then[(x0 x,x.dst,0),if up=true then (x1 x,x.dst,-1) else (n0 f,x.dst,0)] else[]
def oZ (f:ad) (l:List be) (up:Bool) (v:Nat):List dI:=if (aB f v).1<0∧oV f v≠1 then sK f l up v else[]
def fK (f:ad) (l:List be) (up:Bool) (x:aN) (blk at_:Int):List dI:=if 0≤x.dst∧oV f x.dst≠1 then cT f l up x blk at_++sK f l up x.dst else[]
def df (f:ad) (l:List be) (up:Bool) (k:Nat):List dI:=(List.range k).flatMap (oZ f l up)
def ee (f:ad) (l:List be) (up:Bool) (i:Nat) (xs:List aN):List dI:=xs.zipIdx.flatMap fun q=>fK f l up q.1 i q.2
def bS (f:ad) (l:List be) (up:Bool) (k:Nat):List dI:=(f.blocks.take k).zipIdx.flatMap fun b=>ee f l up b.2 b.1.insts
def bX (f:ad) (l:List be) (up:Bool):List dI:=df f l up f.vars.length++bS f l up f.blocks.length
theorem gh (f:ad) (l:List be) (up:Bool) (k:Nat):df f l up (k+1)=df f l up k++oZ f l up k:=by unfold df;rw[List.range_succ,List.flatMap_append];simp
theorem nW (f:ad) (l:List be) (up:Bool) (i:Nat) {xs:List aN} {j:Nat} (h:j<xs.length):ee f l up i (xs.take (j+1))=ee f l up i (xs.take j)++fK f l up xs[j] i j:=by
 unfold ee;rw[lH h,List.flatMap_append];simp
theorem my {f:ad} (l:List be) (up:Bool) {k:Nat} (h:k<f.blocks.length):bS f l up (k+1)=bS f l up k++ee f l up k f.blocks[k].insts:=by
 unfold bS;rw[lH h,List.flatMap_append];simp
theorem nX (c:Bool) (e:dI):(iz c e).length≤1:=by unfold iz;split<;>simp
theorem qQ (f:ad) (l:List be) (up:Bool) (v:Int) (o:Bool) (a b s:Int):(qO f l up v o a b s).length≤1:=nX _ _
theorem lL (f:ad) (l:List be) (up:Bool) (x:aN) (blk at_:Int):(cT f l up x blk at_).length≤2:=by
 have h1:=qQ f l up
 unfold cT
 split
 ·simp
 split
 ·simp
 split
 ·unfold kW
  split
  ·split
   ·have:=h1 (x1 x) true x.dst (x0 x) (-1);omega
   ·have a:=h1 (x1 x) false x.dst (x0 x) 1
    have b:=h1 (x0 x) false x.dst (x1 x) 1
    rw[qw];omega
  ·simp
 split
 ·unfold gD
  have a:=nX (decide (x.op=6)&&(li f l (x1 x)&&up)) (x1 x,x.dst,-1)
  rw[qw]
  split<;>simp<;>omega
 split
 ·simp
 split
 ·unfold Bs;(repeat' split)<;>simp
 split
 ·simp
 ·simp
theorem Dp (f:ad) (l:List be) (up:Bool) (x:aN) (blk at_:Int):(fK f l up x blk at_).length≤3:=by
 unfold fK
 split
 ·have a:=lL f l up x blk at_
  have b:=qQ f l up x.dst false x.dst (n0 f) 1
  unfold sK;rw[qw];omega
 ·simp
theorem Fv (f:ad) (l:List be) (up:Bool) (k:Nat):(oZ f l up k).length≤1:=by
 unfold oZ
 split
 ·exact qQ _ _ _ _ _ _ _ _
 ·simp
theorem ic (f:ad) (l:List be) (up:Bool):∀k,(df f l up k).length≤k
 |0=>by simp[df]
 |k+1=>by
  have a:=ic f l up k
  have b:=Fv f l up k
  rw[gh,qw];omega
theorem qR (f:ad) (l:List be) (up:Bool) (i:Nat) (xs:List aN):∀j,j≤xs.length→(ee f l up i (xs.take j)).length≤3*j
 |0,_=>by simp[ee]
 |j+1,hj=>by
  have a:=qR f l up i xs j (by omega)
  have b:=Dp f l up (xs[j]'(by omega)) i j
  rw[nW f l up i (by omega),qw];omega
theorem nY (f:ad) (l:List be) (up:Bool) {m:Nat} (h:∀b∈f.blocks,b.insts.length≤m):∀k,k≤f.blocks.length→(bS f l up k).length≤k*(3*m)
 |0,_=>by simp[bS]
 |k+1,hk=>by
  have a:=nY f l up h k (by omega)
  have b:=qR f l up k (f.blocks[k]'(by omega)).insts (f.blocks[k]'(by omega)).insts.length (Nat.le_refl _)
  have c:=h _ (qu (show k<f.blocks.length by omega))
  rw[qv] at b
  rw[my l up (by omega),qw,Nat.add_mul];omega
end
section
section
variable {E:World} {P:Program} {ops:Array Oper} {K:aS→OL→Prop} {env:aS} {O O' O'':OL} {rest:List Oper} {n:Nat}
variable {d ty:Nat} {pos:String} {af:Array Edge} {x y z:Operand} {t u e:TypeId}
theorem az.cutTo {i k m j:Nat} {a:Int} {T:TypeId} {cs:List AV} (ht:P.underlying t=some (.slice e)) (hs:∀w,(sizeOf e).run P w=.ok k w) (hx:bb env x=.own i m) (hy:bb env y=.int .i64 a) (hi:a=(j:Int)) (hO:gr O i (.grow k T cs) (.grow k T (cs.take (j*k))) O')
  (hk:0<k) (hj:j*k≤cs.length)
  (kk:az P E ops K rest (bC env d (.own i j)) O'):az P E ops K (Oper.mk (some d) (.slice t x none (some y) none) ty pos af none::rest) env O:=fun I F ρ w h1 h2=>by
 obtain ⟨htop,L,hL,hS⟩:=h2
 have h3:=h1.ev x
 rw[hx] at h3
 obtain ⟨b,c,e1,e2⟩:=h3
 have h4:=fY h1 hy
 subst hi
 obtain ⟨A,B,hp,⟨b',c',n',vs,e3,hvs,hvc,h5,h6,h7⟩,hback⟩:=hO.rep hL
 simp only at e3
 rw[e1] at e3
 simp only[Option.some.injEq,Prod.mk.injEq] at e3
 obtain ⟨rfl,rfl⟩:=e3
 have hlen:vs.length=cs.length:=hvs.length
 have hjn:j≤n':=by
  have:j*k≤n'*k:=by omega
  exact Nat.le_of_mul_le_mul_right this hk
 have hjc:j≤c:=by omega
 have hval:(execOp (Go.Proofs.YtbanfokidalbaaaGreatDoor.ev ρ) (Oper.mk (some d) (.slice t x none (some y) none) ty pos af none)).run P w=.ok (.value (.slice (adr b) j c)) w:=by
  have:(if c=0 then adr b else (adr b).map (·.add (0*k)))=adr b:=by
   split
   ·rfl
   ·cases b<;>simp[adr,Addr.add]
  simp[execOp,Instr.sliceAt,Instr.slice,Instr.sliceBounds,Instr.sliceBound,asIntOf,Sem.run_bind,run_underlying ht,hs,e2,h4,hjc]
  simpa using this
 obtain ⟨L',h8,h9⟩:=hback (G.le.refl I) (A':=A) ⟨b,c,j,vs.take (j*k),e1,hvs.take _,fun u hu=>hvc u (List.mem_of_mem_take hu),by rw[w6];omega,by omega,by
  rcases h7 with h7|⟨b2,junk,e4,e5,e6⟩
  ·exact .inl ⟨h7.1,h7.2.1,h7.2.2⟩
  ·exact .inr ⟨b2,vs.drop (j*k)++junk,e4,by rw[←qs,List.take_append_drop];exact e5,by rw[←qs,List.take_append_drop];exact e6⟩⟩
 exact bP.val hval (kk I F _ w (h1.upd d ⟨b,c,e1,rfl⟩) ⟨htop,L',h8,hS.perm ((h9.trans hp.symm).append_right F)⟩)
theorem az.cutLast {i k m j:Nat} {a:Int} {T:TypeId} {A row:List AV} (ht:P.underlying t=some (.slice e)) (hs:∀w,(sizeOf e).run P w=.ok k w) (hx:bb env x=.own i m) (hy:bb env y=.int .i64 a) (hi:a=(j:Int)) (hO:gr O i (.grow k T (A++row)) (.grow k T A) O')
  (hk:0<k) (hA:A.length=j*k)
  (kk:az P E ops K rest (bC env d (.own i j)) O'):az P E ops K (Oper.mk (some d) (.slice t x none (some y) none) ty pos af none::rest) env O:=
 az.cutTo ht hs hx hy hi (hO.cast (by rw[←hA,List.take_left])) hk (by rw[qw];omega) kk
end
end
section
open Go.Sort (Holds putRow putCells onCells)
theorem vV {zs ys:List Int} {junk:List Value} (hl:ys.length=zs.length):putCells (Value.int .i64) 0 ys.toArray (zs.map (Value.int .i64)++junk).toArray=(ys.map (Value.int .i64)++junk).toArray:=by
 unfold putCells
 apply Array.ext_getElem?
 intro k
 simp only[Array.getElem?_mapIdx,List.getElem?_toArray,qt,true_and,Nat.zero_add,Nat.sub_zero,List.size_toArray]
 by_cases hk:k<ys.length
 ·rw[List.getElem?_append_left (by rw[qx];omega),List.getElem?_append_left (by rw[qx];omega),qy,qy,qq hk,qq (by omega:k<zs.length)]
  simp[hk]
 ·rw[List.getElem?_append_right (by rw[qx];omega),List.getElem?_append_right (by rw[qx];omega),qx,qx,hl]
  rw[hl] at hk
  simp only[hk,if_false]
  cases junk[k - zs.length]?<;>rfl
theorem SL.turned {I:aT} {O:List (Nat × Obj)} {E w:World} {b n:Nat} {zs ys:List Int} {junk:List Value} {T:TypeId} {os:Array Obj} (hl:ys.length=zs.length) (h:SL I ((b,.cells (zs.map (Value.int .i64)++junk).toArray T (0,0))::O) E w) :
  SL I ((b,.cells (ys.map (Value.int .i64)++junk).toArray T (0,0))::O) E (Go.Sort.grow (putRow (Value.int .i64) (Go.Sort.ahead w n) b 0 ys.toArray) os):=by
 have hb:=h.own _ (.head _)
 simp only at hb
 have hlt:=dv hb
 have h1:SL I ((b,.cells (ys.map (Value.int .i64)++junk).toArray T (0,0))::O) E (putRow (Value.int .i64) (Go.Sort.ahead w n) b 0 ys.toArray):=by
  refine h.turn Z Z Z ?_ fun k hk=>?_
  ·show (w.heap.modify b (onCells (putCells (Value.int .i64) 0 ys.toArray)))[b]?=_
   rw[Array.getElem?_modify,if_pos rfl,hb]
   simp only[Option.map_some,onCells,vV hl]
  ·show (w.heap.modify b (onCells (putCells (Value.int .i64) 0 ys.toArray)))[k]?=_
   rw[Array.getElem?_modify,if_neg (fun e=>hk e.symm)]
 exact h1.more rfl rfl rfl fun k hk=>Go.Sort.heap_grow_old _ _ hk
theorem ba.turned {E:World} {P:Program} {f:FuncId} {fn:Func} {c:Code} {g:List Int→List Int} {B:Nat} (hf:P.funcs[f]?=some fn) (hb:fn.body=some c) (hn:fn.name≠"runtime.NumGoroutine") (hg:∀l,(g l).length=l.length)
  (hC:∀(blk cap:Nat) (zs:List Int) (w:World),Holds (Value.int .i64) w blk 0 zs.toArray→blk<w.heap.size→zs.length<B →
   Calls P f #[.slice (some ⟨blk,0,none⟩) zs.length cap] w fun e w'=>e=.returned (.tuple #[])∧∃n os,w'=Go.Sort.grow (putRow (Value.int .i64) (Go.Sort.ahead w n) blk 0 (g zs).toArray) os)
  (hN:∀(cap:Nat) (w:World),Calls P f #[.slice none 0 cap] w fun e w'=>e=.returned (.tuple #[])∧w'=w)
  {l:List Int} {i n:Nat} {T:TypeId} (hl:l.length=n) (hB:n<B):ba P E f [.own i n] [(i,.grow 1 T (cI l))] fun r O=>r=.tup []∧O=[(i,.grow 1 T (cI (g l)))]:=fun I F w vs h1 h2=>by
 obtain ⟨v,us,rfl,⟨b,c,e1,rfl⟩,h3⟩:=h1
 have h3:us=[]:=h3
 subst h3
 obtain ⟨ht,L,⟨A,B',e2,⟨b',c',n',ws,e3,h4,h5,h6⟩,h7⟩,hS⟩:=h2
 have h7:B'=[]:=h7
 subst h7
 rw[w5] at e2
 subst e2
 simp only at e3
 rw[e1] at e3
 simp only[Option.some.injEq,Prod.mk.injEq] at e3
 obtain ⟨rfl,rfl⟩:=e3
 have h4:=JG h4
 subst h4
 refine Fn.ofCalls hf hb hn ?_
 obtain ⟨g1,g2,g3⟩:=h6
 rw[qx,Nat.mul_one] at g1
 have hnn:n'=n:=by omega
 subst hnn
 rcases g3 with ⟨ea,rfl,rfl⟩|⟨b2,junk,ea,rfl,hj⟩
 ·have h0:n'=0:=by omega
  subst h0
  have hl0:l=[]:=List.eq_nil_of_length_eq_zero hl
  subst hl0
  have hg0:g []=[]:=List.eq_nil_of_length_eq_zero (hg [])
  rw[ea]
  refine (hN 0 w).mono fun e w' ⟨he,hw⟩=>⟨_,he,I,.tup [],_,.refl _,⟨[],Z,Z⟩,?_,Z,Z⟩
  subst hw
  rw[hg0]
  exact ⟨ht,[],⟨[],[],rfl,⟨b,0,0,[],e1,rfl,by simp,by rw[ea];exact fT.nil 1 T⟩,rfl⟩,hS⟩
 ·rw[ea]
  have hS2:SL I.k ((b2,.cells (l.map (Value.int .i64)++junk).toArray T (0,0))::F) E w:=hS
  have hH:Holds (Value.int .i64) w b2 0 l.toArray:=fun j hjl=>by
   have hj2:j<l.length:=by simpa using hjl
   have hbk:=hS2.own _ (.head _)
   simp only at hbk
   refine ⟨?_,?_⟩
   ·rw[hS2.cell_own,Nat.zero_add,List.getElem?_toArray,List.getElem?_append_left (by rw[qx];exact hj2),qy,qq hj2]
    simp[hj2]
   ·simp[World.frozen?,hbk]
  have:=hC b2 c l w hH (dv (hS2.own _ (.head _))) (by omega)
  rw[hl] at this
  refine this.mono fun e w' ⟨he,k,os,hw⟩=>⟨_,he,I,.tup [],_,.refl _,⟨[],Z,Z⟩,?_,Z,Z⟩
  subst hw
  refine ⟨ht,[(b2,.cells ((g l).map (Value.int .i64)++junk).toArray T (0,0))],⟨_,[],by simp,⟨b,c,n',(g l).map (Value.int .i64),e1,Do I (g l),fun u hu=>by obtain ⟨x,_,rfl⟩:=List.mem_map.1 hu;rfl,by rw[qx,hg,hl,Nat.mul_one],g2,.inr ⟨b2,junk,ea,rfl,by rw[qw,qx,hg] ;rw[qw,qx] at hj;exact hj⟩⟩,rfl⟩,?_⟩
  exact SL.turned (hg l) hS2
end
section
variable {α:Type}
theorem fe.inv {c:fj α} {e:TypeId} {r:List α} {rs:List (List α)} {hs:List Value} {L:List (Nat × Obj)} (h:fe c e (r::rs) hs L) :
  ∃a n cap hs' A B,hs=.slice a n cap::hs'∧L=A++B∧fT c.k e a n cap (c.vs r) A∧fe c e rs hs' B:=by
 cases h with
 |cons h1 h2=>exact ⟨_,_,_,_,_,_,rfl,rfl,h1,h2⟩
def Bt (c:fj α) (T e:TypeId) (b:Nat) (rows:List (List α)) (k:Nat):bQ:=.heap fun L=>∃(hs:List Value) (B:List (Nat × Obj)),L=(b,.cells hs.toArray T (0,0))::B∧hs.length=rows.length∧fe c e (rows.drop k) (hs.drop k) B
section
variable {E:World} {P:Program} {ops:Array Oper} {K:aS→OL→Prop} {env:aS} {O O' O'':OL} {rest:List Oper} {n:Nat}
variable {d ty:Nat} {pos:String} {af:Array Edge} {x y z:Operand} {t u e T:TypeId}
theorem aK.nestTail {c:fj α} {b m:Nat} {rows:List (List α)} (hO:gr O m (cJ c T e b rows) (Bt c T e b rows 0) O'):aK E env O env O':=fun I F ρ w h1 h2=>by
 obtain ⟨htop,L,hL,hS⟩:=h2
 obtain ⟨A,B,hp,⟨hs,B0,rfl,hN⟩,hback⟩:=hO.rep hL
 obtain ⟨L',h5,h6⟩:=hback (G.le.refl I) (A':=(b,.cells hs.toArray T (0,0))::B0) ⟨hs,B0,rfl,hN.len,hN⟩
 exact ⟨I,.refl _,h1,htop,L',h5,hS.perm ((h6.trans hp.symm).append_right F)⟩
theorem az.nestShift {c:fj α} {b k m:Nat} {rows:List (List α)} {r:List α} (ha:∀w,(isAgg t).run P w=.ok false w) (hx:bb env x=Fu b k) (hr:rows[k]?=some r)
  (hO:gr O m (Bt c T e b rows k) (Bt c T e b rows (k+1)) O') (kk:∀i,az P E ops K rest (bC env d (.own i r.length)) ((i,.grow c.k e (c.av r))::O')) :
  az P E ops K (Oper.mk (some d) (.load t x) ty pos af none::rest) env O:=fun I F ρ w h1 h2=>by
 obtain ⟨i,hi⟩:=h2.name
 obtain ⟨htop,L,hL,hS⟩:=h2
 have hx:=gy h1 hx
 obtain ⟨A,B,hp,⟨hs,B0,rfl,hl,hN⟩,hback⟩:=hO.rep hL
 obtain ⟨hlt,hrk⟩:=List.getElem?_eq_some_iff.1 hr
 rw[List.drop_eq_getElem_cons hlt,hrk] at hN
 obtain ⟨a,n,cap,hs',A1,B1,g0,rfl,g2,g3⟩:=hN.inv
 have hlt2:k<hs.length:=by omega
 have g0':=g0
 rw[List.drop_eq_getElem_cons hlt2] at g0'
 simp only[List.cons.injEq] at g0'
 obtain ⟨g1,rfl⟩:=g0'
 have g1:hs[k]?=some (.slice a n cap):=by rw[qq hlt2,g1]
 obtain ⟨b1,rfl⟩:=g2.adr
 have hn:n=r.length:=by have:=g2.1;rw[c.vs_len] at this;exact (Nat.eq_of_mul_eq_mul_right c.pos this).symm
 subst hn
 obtain ⟨J,e1,hle,e2,htop'⟩:=hi (b1,cap)
 have hS2:SL I.k ((b,.cells hs.toArray T (0,0))::(A1++B1++(B++F))) E w:=hS.perm (by
  have:=hp.append_right F
  simpa using this.symm)
 obtain ⟨L',h5,h6⟩:=hback hle (A':=(b,.cells hs.toArray T (0,0))::B1) ⟨hs,B1,rfl,hl,g3⟩
 refine bP.load1 (I:=I.k) (O:=(b,.cells hs.toArray T (0,0))::(A1++B1++(B++F))) ha hS2 hx (.inr ⟨_,_,_,.head _,by rw[List.getElem?_toArray];exact g1⟩) ?_
 refine q3 (fun _ _=>qp hle) _ _ _ (kk i J F _ _ ((h1.mono hle).upd d ⟨b1,cap,e2,Z⟩) ⟨htop',A1++L',⟨A1,L',Z,⟨b1,cap,_,c.vs r,e2,by rw[c.av_eq];exact dx J _,c.vs_one r,g2⟩,h5⟩,?_⟩)
 rw[e1]
 refine hS2.perm ?_
 have h7:(A1++L'++F).Perm (A1++((b,Obj.cells hs.toArray T (0,0))::(B1++B))++F):=(h6.append_left A1).append_right F
 refine h7.trans ?_
 simp only[qs,List.cons_append]
 exact List.perm_middle
end
set_option linter.defProp false
def zj:=@dw.perm
def yd:=@aK.knowP
def ye:=@az.makeNest
def yv:=@bK.two
def q0:=@Gv.idxI
def q5:=@az.nestTake
def q6:=@RepL.fld
def q7:=@bK.takeU
def qe:=@Gv.idxN
def qf:=@az.nestPut
def qh:=@Gv.loadI
def qo:=@jM.at
end
end Go.Proofs.YtbanfokidalbaaaGreatDoor
