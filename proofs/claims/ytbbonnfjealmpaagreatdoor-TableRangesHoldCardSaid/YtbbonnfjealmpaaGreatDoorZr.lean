/- Where the checks of sums stand; a look at a program. Of programs that are little. -/
import Derived.Test.YtbbonnfjealmpaaGreatDoorZq
import Derived.Test.YtbbonnfjealmpaaGreatDoorZm
import Derived.Test.YtbbonnfjealmpaaGreatDoorZo
import Derived.Test.YtbbonnfjealmpaaGreatDoorZh
set_option linter.unusedVariables false
set_option linter.unusedSimpArgs false
set_option linter.unusedSectionVars false
namespace Go.Proofs.YtbbonnfjealmpaaGreatDoor
section
open Go.Proofs.Tryz
open Go.Proofs Go.Lib Go.Shelf Go.RowKit
variable {E:World}
set_option maxRecDepth 20000
theorem py {α:Type} {p:α→Bool} {x:α}:∀{xs:List α} (j:Nat),xs.find? p=some x→∃k:Nat,cS p xs j=((j+k:Nat):Int)∧xs[k]?=some x
 |[],j,h=>by simp at h
 |y::xs,j,h=>by
  by_cases c:p y=true
  ·rw[List.find?_cons_of_pos c] at h
   exact ⟨0,by rw[cS,if_pos c];rfl,by simpa using h⟩
  ·rw[List.find?_cons_of_neg (by simpa using c)] at h
   obtain ⟨k,h1,h2⟩:=py (j+1) h
   exact ⟨k+1,by rw[cS,if_neg c,h1];congr 1;omega,by simpa using h2⟩
theorem A9 (v:Int) (p:cZ):aP prog E 106 ([.agg (dA p)]++[.pf [.int .i64 v]]) (.bool (decide (p.dst=v))):=by
 refine zp func106 U (by decide) U<|ae<|y6 (cs:=_) U U U<|ad U<|z2<|ae<|ak Z4 U j9 U U<|aA jg U<|aA jg U<|ao U U<|ad U<|z2<|zg<|zm (x:=.bool _) U ?_
 rfl
structure Jb (f:ab):Prop where
 small:small f
 shaped:bH f
 once:mP f
 bool:∀b∈f.blocks,∀x∈b.insts,x.op=10∨x.op=11→∀v∈x.args,FB f v=1
theorem Ba {op:Int} (h:op=2∨op=3∨op=4):bE op=true:=by rcases h with rfl|rfl|rfl<;>decide
theorem Bb (f:ab) (hF:Jb f) (l:List bh) (chk:List Bool) (hck:chk.length=f.vars.length) (Lv:AV) {i:Nat} {HL:bC} (hof:∀{a:Int},bt f a=true→bn prog E 142 [uI f chk Lv,.int .i64 a] [(i,HL)] (sq i HL (.agg (bP (oR f l a)))))
  (ho:∀u:Int,0≤u→cO (lv l u)) (v:Nat) (hv:v<f.vars.length) (hm:0≤(aD f v).1) :
  bn prog E 67 [uI f chk Lv,.int .i64 v] [(i,HL)] (sq i HL (.agg (bP (l5 f (gb chk) l v)))):=by
 have hS:=hF.shaped
 have hf:=hF.small
 have hn:=hf.2.2.1
 have hone:=(hF.once v hv).1
 obtain ⟨bi,b,hget,hcase⟩:=jR hm
 have hbi:bi<f.blocks.length:=(List.getElem?_eq_some_iff.1 hget).1
 have hmem:=w9 hget
 obtain ⟨hb0,hb1,hb2,hb3,hb4⟩:=hf.2.2.2.2 b hmem
 obtain ⟨hPh,hIn,hTm⟩:=hS.2.2.2.2.2 b hmem
 have hmk0:=jO (f:=f) hv
 refine bn.same<|zp func67 U (by decide) U<|ae<|y6 (cs:=[_]) U U U<|zu (cs:=[.int .i64 0,.int .i64 0]) Z3 U U<|fun i4=>z2 ?_
 rcases hcase with ⟨p0,hp0,hd0,hmk⟩|⟨k,x,hxk,hxd,hmk⟩
 ·have hrule:=n4 (chk:=gb chk) (l:=l) hone hget hp0 hd0 hmk
  rw[hrule]
  rw[hmk] at hmk0
  obtain ⟨k,hk1,hk2⟩:=py 0 (xW hone hget hp0 hd0)
  rw[Nat.zero_add] at hk1
  obtain ⟨hpd,hpl,hpn,hpa,hpf⟩:=hPh p0 hp0
  have hpb:=(hb3 p0 hp0).1
  have hix:=ln (E:=E) b.phis (by omega) (fun p _=>A9 (v:Int) p)
  rw[hk1] at hix
  refine zb<|zr (fun j=>false) (by kernel_rfl) U (zo (.rest _))<|ai 0 U (tv U)<|ai 1 U (qg U)<|ai 2 U (db Ym U Yr U U)<|ai 3 U (gd Xa U)<|ai 4 U (dQ jg U)<|ai 5 U (bB v Zl Y9 U U U hmk0)<|ai 6 U (yp isAgg114 Y9 U U)<|aN 7 U<|zu (cs:=[.int .i64 0,.int .i64 0]) zeroValue114 U U<|fun i5=>z2<|aN 8 U<|zj Y9 U U U U U U .head U<|z2<|bI<|y7 (y8 (t:=5) U .head)<|zb<|zr (fun j=>false) (by kernel_rfl) U (zo (.rest _))<|ai 0 U (tv U)<|ai 1 U (qg U)<|ai 2 U (db Ym U ji U U)<|ai 3 U (db je U Zd U U)<|ai 4 U (gd Zf U)<|ai 5 U (db Y8 U j9 U U)<|ai 6 U (dQ jg U)<|ai 7 U (bB bi ju Z2 U U U hget)<|ai 8 U (yp Yc Z2 U U)<|aN 9 U<|zu (cs:=[.e,.n,.n,.int .i64 0,.int .i64 0,.int .i64 0,.int .i64 0]) Zh U U<|fun i6=>z2<|aN 10 U<|zj Z2 U U U U U U .head U<|z2<|bI<|y7 (y8 (t:=6) U .head)<|zb<|ae<|ak Y8 U j9 U U ?_
  refine aA jg U<|z8 (q9 U U)<|z2<|yq U U<|zf<|ae<|ak jr U Zv U U<|aI Yd U<|z8 (Gv.func U U)<|ze (hix) U<|am U<|z2<|ae<|z8 (tv U)<|ak jr U Zv U U<|aI Yd U<|aa U<|z8 (bB k Z8 Ze U U U hk2)<|ac Ys Ze U U<|y3 U (zo (.r (.l (.rest _)))) (DJ f l hof p0 hpa hpb) ?_
  rintro r45 O45 ⟨rfl,rfl⟩
  refine zj j8 U U U U U U .t1 U<|z2<|y7 (za (zc .t1))<|zg<|ym U ⟨_,.head⟩ jk j8 U ?_
  exact ⟨rfl,.d1⟩
 ·have hI:=gh (hIn x (w9 hxk))
  have hrule:=mC (chk:=gb chk) (l:=l) hget hxk hmk
  rw[hrule,Ci]
  rw[hmk] at hmk0
  refine zb<|zr (fun j=>false) (by kernel_rfl) U (zo (.rest _))<|ai 0 U (tv U)<|ai 1 U (qg U)<|ai 2 U (db Ym U Yr U U)<|ai 3 U (gd Xa U)<|ai 4 U (dQ jg U)<|ai 5 U (bB v Zl Y9 U U U hmk0)<|ai 6 U (yp isAgg114 Y9 U U)<|aN 7 U<|zu (cs:=[.int .i64 0,.int .i64 0]) zeroValue114 U U<|fun i5=>z2<|aN 8 U<|zj Y9 U U U U U U .head U<|z2<|bI<|y7 (y8 (t:=5) U .head)<|zb<|zr (fun j=>false) (by kernel_rfl) U (zo (.rest _))<|ai 0 U (tv U)<|ai 1 U (qg U)<|ai 2 U (db Ym U ji U U)<|ai 3 U (db je U Zd U U)<|ai 4 U (gd Zf U)<|ai 5 U (db Y8 U j9 U U)<|ai 6 U (dQ jg U)<|ai 7 U (bB bi ju Z2 U U U hget)<|ai 8 U (yp Yc Z2 U U)<|aN 9 U<|zu (cs:=[.e,.n,.n,.int .i64 0,.int .i64 0,.int .i64 0,.int .i64 0]) Zh U U<|fun i6=>z2<|aN 10 U<|zj Z2 U U U U U U .head U<|z2<|bI<|y7 (y8 (t:=6) U .head)<|zb<|ae<|ak Y8 U j9 U U ?_
  refine aA jg U<|z8 (q9 U U)<|z2<|yr U (we (by show (0:Int)≤(k:Int);omega))<|ae<|z8 (tv U)<|ak jr U Zw U U<|aI Y3 U<|ak Y8 U j9 U U<|aA jg U<|z8 (bB k Z6 Za U U U hxk)<|ac Yj Za U U<|y3 U (zo (.r (.l (.rest _)))) (A8 f l chk Lv hof ho x hI (hF.bool b hmem x (w9 hxk)) (fun _=>by rw[hxd,hck];exact hv) (fun _=>by rw[hxd];omega)) ?_
  rintro r34 O34 ⟨rfl,rfl⟩
  refine zj j8 U U U U U U .t1 U<|z2<|y7 (za (zc .t1))<|zg<|ym U ⟨_,.head⟩ jk j8 U ?_
  exact ⟨rfl,.d1⟩
end
section
open Go.Proofs.Tryz
def jC (q:Int):Prop:=21≤q∧q≤23
instance (q:Int):Decidable (jC q):=by unfold jC;infer_instance
def sr (q:Int) (i:Nat) (xs:List aB):List km:=if jC q then (xs.zipIdx.filter fun x=>decide (x.1.op=q)).map fun x=>((i:Int),(x.2:Int)) else[]
def oW (f:ab) (k:Nat) (q:Int):List km:=(f.blocks.take k).zipIdx.flatMap fun b=>sr q b.2 b.1.insts
theorem DM (q:Int) (i:Nat) {xs:List aB} {j:Nat} (h:j<xs.length):sr q i (xs.take (j+1))=sr q i (xs.take j)++if jC q∧xs[j].op=q then[((i:Int),(j:Int))] else[]:=by
 unfold sr
 by_cases hq:jC q
 ·rw[if_pos hq,if_pos hq,nY h,List.filter_append,wb]
  congr 1
  by_cases c:xs[j].op=q
  ·rw[if_pos ⟨hq,c⟩];simp[c]
  ·rw[if_neg (fun h=>c h.2)];simp[c]
 ·rw[if_neg hq,if_neg hq,if_neg (fun h=>hq h.1)];rfl
theorem uJ {f:ab} {k:Nat} (q:Int) (h:k<f.blocks.length):oW f (k+1) q=oW f k q++sr q k f.blocks[k].insts:=by
 unfold oW;rw[nY h,List.flatMap_append];simp
theorem xY (q:Int) (i:Nat) (xs:List aB):(sr q i xs).length≤xs.length:=by
 unfold sr
 split
 ·rw[w6]
  have:=List.length_filter_le (fun x:aB × Nat=>decide (x.1.op=q)) xs.zipIdx
  simpa using this
 ·simp
theorem ss {f:ab} {q:Int} {m:Nat} (h:∀b∈f.blocks,b.insts.length≤m):∀k,k≤f.blocks.length→(oW f k q).length≤k*m
 |0,_=>by simp[oW]
 |k+1,hk=>by
  have h1:=ss (q:=q) h k (by omega)
  have h2:=xY q k (f.blocks[k]'(by omega)).insts
  have h3:=h _ (w3 (show k<f.blocks.length by omega))
  rw[uJ q (by omega),w5,Nat.add_mul];omega
theorem oa {f:ab} {q:Int} {m:km}:m∈oW f f.blocks.length q↔jC q∧∃(i k:Nat) (b:aK) (z:aB),f.blocks[i]?=some b∧b.insts[k]?=some z∧z.op=q∧m=((i:Int),(k:Int)):=by
 unfold oW sr
 rw[w4,List.mem_flatMap]
 constructor
 ·rintro ⟨⟨b,i⟩,h1,h2⟩
  have hb:=List.mem_zipIdx_iff_getElem?.1 h1
  dsimp only at h2 hb
  split at h2
  ·rename_i hq
   obtain ⟨⟨z,k⟩,h3,h4⟩:=List.mem_map.1 h2
   obtain ⟨h5,h6⟩:=List.mem_filter.1 h3
   exact ⟨hq,i,k,b,z,hb,List.mem_zipIdx_iff_getElem?.1 h5,by simpa using h6,h4.symm⟩
  ·cases h2
 ·rintro ⟨hq,i,k,b,z,h1,h2,h3,rfl⟩
  refine ⟨(b,i),List.mem_zipIdx_iff_getElem?.2 h1,?_⟩
  dsimp only
  rw[if_pos hq]
  exact List.mem_map.2 ⟨(z,k),List.mem_filter.2 ⟨List.mem_zipIdx_iff_getElem?.2 h2,by simpa using h3⟩,rfl⟩
def vF (f:ab) (x:aB) (i k:Nat) (m:km):Bool:=((kX f m).map fun c=>decide (c.args=x.args)).getD false&&eC f m i k
theorem xZ {f:ab} {x:aB} {i k:Nat} {q:Int}:JZ f q x.args i k=true↔∃(i' k':Nat) (b:aK) (z:aB),f.blocks[i']?=some b∧b.insts[k']?=some z∧z.op=q∧z.args=x.args∧eC f ((i':Int),(k':Int)) i k=true:=by
 unfold JZ
 rw[List.any_eq_true]
 constructor
 ·rintro ⟨i',hi,h⟩
  rw[List.mem_range] at hi
  rw[Cj (qx hi)] at h
  obtain ⟨⟨z,k'⟩,h1,h2⟩:=List.any_eq_true.1 h
  unfold Id at h2
  simp only[wh,wm] at h2
  exact ⟨i',k',_,z,qx hi,List.mem_zipIdx_iff_getElem?.1 h1,h2.1.1,h2.1.2,h2.2⟩
 ·rintro ⟨i',k',b,z,h1,h2,h3,h4,h5⟩
  have hi:=(List.getElem?_eq_some_iff.1 h1).1
  refine ⟨i',List.mem_range.2 hi,?_⟩
  rw[Cj h1]
  refine List.any_eq_true.2 ⟨(z,k'),List.mem_zipIdx_iff_getElem?.2 h2,?_⟩
  unfold Id
  simp only[wh,wm]
  exact ⟨⟨h3,h4⟩,h5⟩
theorem nw {f:ab} {i k:Nat} {b:aK} {z:aB} (h1:f.blocks[i]?=some b) (h2:b.insts[k]?=some z):kX f ((i:Int),(k:Int))=some z:=by
 unfold kX
 rw[if_pos ⟨by dsimp only;omega,by dsimp only;omega⟩]
 show ((f.blocks[i]?).bind fun b=>b.insts[k]?)=_
 rw[h1];exact h2
def kY (op:Int):Int:=if op=2∨op=3∨op=4 then op+19 else 0
theorem FK {f:ab} {x:aB} {i k:Nat}:tK f x i k=true↔∃m∈oW f f.blocks.length (kY x.op),vF f x i k m=true:=by
 unfold tK I8 kY
 by_cases hs:x.op=2∨x.op=3∨x.op=4
 ·rw[we hs,Bool.true_and,if_pos hs,xZ]
  constructor
  ·rintro ⟨i',k',b,z,h1,h2,h3,h4,h5⟩
   refine ⟨((i':Int),(k':Int)),oa.2 ⟨by unfold jC;omega,i',k',b,z,h1,h2,h3,rfl⟩,?_⟩
   unfold vF
   rw[nw h1 h2,h5];simp[h4]
  ·rintro ⟨m,hm,hh⟩
   obtain ⟨hq,i',k',b,z,h1,h2,h3,rfl⟩:=oa.1 hm
   unfold vF at hh
   rw[nw h1 h2] at hh
   simp at hh
   exact ⟨i',k',b,z,h1,h2,h3,hh.1,hh.2⟩
 ·rw[wg hs,Bool.false_and,if_neg hs]
  constructor
  ·intro h;cases h
  ·rintro ⟨m,hm,_⟩
   obtain ⟨hq,_⟩:=oa.1 hm
   unfold jC at hq;omega
def lE (f:ab) (i k:Nat) (v:Int):Prop:=∃(i' k':Nat) (b:aK) (z:aB),f.blocks[i']?=some b∧b.insts[k']?=some z∧z.dst=v∧tK f z i' k'=true∧(i'<i∨i'=i∧k'<k)
theorem lE.step {f:ab} {i k:Nat} {b:aK} {z:aB} (h1:f.blocks[i]?=some b) (h2:b.insts[k]?=some z) (v:Int):lE f i (k+1) v↔lE f i k v∨(v=z.dst∧tK f z i k=true):=by
 constructor
 ·rintro ⟨i',k',b',z',g1,g2,g3,g4,g5⟩
  by_cases e:i'=i∧k'=k
  ·obtain ⟨rfl,rfl⟩:=e
   rw[h1] at g1;cases g1
   rw[h2] at g2;cases g2
   exact .inr ⟨g3.symm,g4⟩
  ·exact .inl ⟨i',k',b',z',g1,g2,g3,g4,by omega⟩
 ·rintro (⟨i',k',b',z',g1,g2,g3,g4,g5⟩|⟨rfl,h⟩)
  ·exact ⟨i',k',b',z',g1,g2,g3,g4,by omega⟩
  ·exact ⟨i,k,b,z,h1,h2,rfl,h,.inr ⟨rfl,by omega⟩⟩
theorem lE.next {f:ab} {i:Nat} {b:aK} (h1:f.blocks[i]?=some b) (v:Int):lE f (i+1) 0 v↔lE f i b.insts.length v:=by
 constructor
 ·rintro ⟨i',k',b',z',g1,g2,g3,g4,g5⟩
  refine ⟨i',k',b',z',g1,g2,g3,g4,?_⟩
  by_cases e:i'=i
  ·subst e
   rw[h1] at g1;cases g1
   exact .inr ⟨rfl,(List.getElem?_eq_some_iff.1 g2).1⟩
  ·exact .inl (by omega)
 ·rintro ⟨i',k',b',z',g1,g2,g3,g4,g5⟩
  exact ⟨i',k',b',z',g1,g2,g3,g4,.inl (by omega)⟩
theorem lE.zero (f:ab) (v:Int):¬lE f 0 0 v:=by
 rintro ⟨i',k',b',z',g1,g2,g3,g4,g5⟩;omega
theorem lE.all {f:ab} (ho:mP f) {v:Nat} (hv:v<f.vars.length):lE f f.blocks.length 0 v↔nu f v=true:=by
 constructor
 ·rintro ⟨i',k',b',z',g1,g2,g3,g4,g5⟩
  have hm:((i':Int),(k':Int))∈bp f v:=eH.2 ⟨i',b',g1,f6.2 (.inr ⟨k',z',g2,g3,rfl⟩)⟩
  have:=sn (ho v hv).1 hm
  rw[Ck g1 g2 this];exact g4
 ·intro h
  by_cases h0:0≤(aD f v).1
  ·obtain ⟨i,b,h1,⟨p,h2,h3,h4⟩|⟨k,x,h2,h3,h4⟩⟩:=jR h0
   ·unfold nu kX at h
    rw[h4,if_neg (by dsimp only;omega)] at h
    cases h
   ·rw[Ck h1 h2 h4] at h
    exact ⟨i,k,b,x,h1,h2,h3,h,.inl (List.getElem?_eq_some_iff.1 h1).1⟩
  ·unfold nu kX at h
   rw[if_neg (fun hh=>h0 hh.1)] at h
   cases h
def pU (f:ab):List Bool:=(List.range f.vars.length).map fun (v:Nat)=>nu f v
theorem su (f:ab):(pU f).length=f.vars.length:=by simp[pU]
theorem Ig {f:ab} {v:Int} (h0:0≤v) (h:v<f.vars.length):gb (pU f) v=nu f v:=by
 obtain ⟨k,rfl⟩:∃k:Nat,v=(k:Int):=⟨v.toNat,by omega⟩
 rw[nm]
 unfold pU
 rw[w7,List.getElem?_range (by omega)];rfl
theorem Ih {f:ab} (ho:mP f) {L:List Bool} (hl:L.length=f.vars.length) (h:∀v:Nat,v<f.vars.length→(gb L v=true↔lE f f.blocks.length 0 v)):L=pU f:=by
 apply List.ext_getElem?
 intro v
 by_cases hv:v<f.vars.length
 ·have h1:=h v hv
  rw[lE.all ho hv] at h1
  unfold pU
  rw[w7,List.getElem?_range hv,jQ (out:=L) (by omega)]
  simp only[Option.map_some]
  rw[Bool.eq_iff_iff.2 h1]
 ·rw[List.getElem?_eq_none (by omega),List.getElem?_eq_none (by rw[su];omega)]
theorem Ii {L:List Bool} {d v:Nat} (hd:d<L.length):gb (L.set d true) v=true↔v=d∨gb L v=true:=by
 rw[nm,nm,List.getElem?_set]
 by_cases e:d=v
 ·subst e;rw[if_pos rfl,if_pos hd];simp
 ·rw[if_neg e]
  constructor
  ·exact .inr
  ·rintro (h|h)
   ·exact absurd h.symm e
   ·exact h
end
section
open Go.Proofs.Tryz
open Go.Proofs Go.Lib Go.Shelf Go.RowKit
set_option maxRecDepth 20000
variable {E:World}
theorem ob {α:Type} (g:α→Nat):∀(l:List α) (k:Nat),((l.take k).map g).sum≤(l.map g).sum
 |[],k=>by simp
 |x::l,0=>by simp
 |x::l,k+1=>by
  have:=ob g l k
  simp only[List.take_succ_cons,List.map_cons,List.sum_cons];omega
theorem Ij (l:List cZ) (k:Nat):wP (l.take k)≤wP l:=ob _ l k
theorem Ik (l:List aB) (k:Nat):wX (l.take k)≤wX l:=ob _ l k
theorem oX {f:ab} (h:m9 f) {k:Nat} (hk:k<f.blocks.length):wV f.vars+AC (f.blocks.take k)+wB f.blocks[k]≤4000:=by
 have h1:=h.2.2.2.2.2 (fun e=>by rw[e] at hk;exact absurd hk (Nat.not_lt_zero _))
 have h2:AC (f.blocks.take (k+1))≤AC f.blocks:=ob _ f.blocks (k+1)
 rw[xt hk] at h2
 omega
set_option maxHeartbeats 8000000 in
theorem x8 (f:ab) (hf:ux f):bn prog E 44 [.agg (bw f)] [] (fun x _=>∃b:Bool,x=.bool b∧(b=true↔m9 f)):=by
 obtain ⟨hf1,hf2,hf3,hf4⟩:=hf
 have hl1:=hf1.lt
 have hl3:=hf3.lt
 refine zp func44 U (by decide) U<|ae<|y6 (cs:=_) U U U<|ad U<|z2<|zb<|zb<|yb (γ:=Unit) [1] (fun u=>[(27,.bool (Dd f))]) (fun u=>[]) (fun u=>True) ?_ (fun _ _ h=>h) ?_
 ·refine aW<|ak je U Zn U U<|aI Zz U<|aj Z7 U<|be U U<|aq U<|zt (s:=16) U (fun c1=>?_) (fun c1=>?_)
  ·refine z6 U U c1<|z6 U U c1<|z6 U U c1<|z6 U U c1<|au U c1 U<|aq U<|z6 U U U<|z6 U U U<|z6 U U U<|z6 U U U<|au U U U<|z2 ?_
   exact ⟨(),aL,⟨jb (by simp_all[Dd]<;>grind),trivial⟩,aE,trivial⟩
  ·refine z7 U U c1<|ak je U Zd U U<|z7 U U c1<|aI Zf U<|z7 U U c1<|aj ju U<|z7 U U c1<|be U U<|aw U c1 U<|aq U<|zt (s:=22) U (fun c2=>?_) (fun c2=>?_)
   ·refine z6 U U c2<|z6 U U c2<|z6 U U c2<|z6 U U c2<|au U c2 U<|z2 ?_
    exact ⟨(),aL,⟨jb (by simp_all[Dd]<;>grind),trivial⟩,aE,trivial⟩
   ·refine z7 U U c2<|ak je U jh U U<|z7 U U c2<|aI jx U<|z7 U U c2<|aj j7 U<|z7 U U c2<|be U U<|aw U c2 U<|z2 ?_
    exact ⟨(),aL,⟨jb (by simp_all[Dd]<;>grind),trivial⟩,aE,trivial⟩
 ·rintro _ _
  refine zw U (fun c1=>?_) (fun c1=>?_)
  ·refine ae<|ad U<|z2<|zg<|zm (x:=.bool _) U ?_
   exact ⟨_,rfl,fun h=>(by cases h),fun hl=>absurd hl (fun hl=>by have h1:=hl.1;have h2:=hl.2.1;have h3:=hl.2.2.1;unfold Dd at c1;simp at c1;omega)⟩
  ·have hsz:f.vars.length≤100∧f.blocks.length≤40∧f.params.length≤20:=by unfold Dd at c1;simp at c1;omega
   refine zf<|ae<|am U<|z2<|zb<|ae<|ak je U Zn U U<|aI Zz U<|aj Z7 U<|aa U<|z2<|zi<|y5 (γ:=Nat) [1,29,30] (fun k=>[(31,.i k),(3,.i (wV (f.vars.take k)))]) (fun k=>[]) (fun k=>k≤f.vars.length∧wV (f.vars.take k)≤400*k∧∀v∈f.vars.take k,v.name.size≤400) (fun k=>f.vars.length - k) 0 b7 aE (⟨w2 _,Nat.le_refl _,by simp⟩) ?_
   rintro k ⟨hk,hw,hv⟩
   refine ae<|ap U U<|z2<|zb<|zn U (fun ck=>?_) (fun ck=>?_)
   ·have hk1:k<f.vars.length:=by omega
    have hs:=HV hk1
    refine zf<|zb<|zi<|ae<|z8 (qh Z7 Yf U U U (qx (by omega)))<|ac isAgg48 Yf U U<|zu (cs:=[.e,.int .i64 0]) zeroValue48 U U<|fun i5=>zj Yf U U U U U U .head U<|z2<|zb<|ae<|z8 (zh Zt U Y6 (by decide) U U)<|z8 (zq (c:=.str _) Yk U ⟨_,.head⟩ U)<|z8 (Gv.lenT Zy U)<|be U U<|z2<|zn U (fun cn=>?_) (fun cn=>?_)
    ·refine ae<|ad U<|z2<|zg<|zm (x:=.bool _) U ?_
     exact ⟨_,rfl,fun h=>(by cases h),fun hl=>absurd hl (fun hl=>by have h1:=hl.2.2.2.1 _ (w3 hk1);omega)⟩
    ·refine zf<|aW<|aa U<|z8 (zh Zt U Y6 (by decide) U U)<|z8 (zq (c:=.str _) Yk U ⟨_,.head⟩ U)<|z8 (Gv.lenT Zy U)<|aC U U<|am U<|z2<|aW<|aC U U<|aa U<|z2 ?_
     exact ⟨k+1,bW,⟨rfl,congrArg (AV.int .i64) (by rw[hs];omega),trivial⟩,⟨_,(.drop (.refl _)),rfl⟩,⟨hk1,by omega,fl hk1 hv (by omega)⟩,by omega⟩
   ·obtain rfl:k=f.vars.length:=by omega
    rw[w4] at hw hv
    rw[w4]
    refine y4<|zb<|ae<|ak je U Zd U U<|aI Zf U<|aj ju U<|aa U<|z2<|zi<|y5 (γ:=Nat) [46,47] (fun k=>[(48,.i k),(3,.i (wV f.vars+AC (f.blocks.take k):Nat))]) (fun k=>[]) (fun k=>k≤f.blocks.length∧(0<k→wV f.vars+AC (f.blocks.take k)≤4000)∧AC (f.blocks.take k)≤4000∧∀b∈f.blocks.take k,B6 b) (fun k=>f.blocks.length - k) 0 b7 aE (⟨w2 _,by omega,by simp[AC],by simp⟩) ?_
    rintro k ⟨hk,hw2,hw3,hb⟩
    refine ae<|ap U U<|z2<|zb<|zn U (fun ck=>?_) (fun ck=>?_)
    ·have hk1:k<f.blocks.length:=by omega
     obtain ⟨hb1,hb2,hb3,hb4⟩:=hf4 _ (w3 hk1)
     have hs:=xt hk1
     refine zf<|zb<|zi<|ae<|z8 (qh ju Z2 U U U (qx (by omega)))<|ac Yc Z2 U U<|zu (cs:=[.e,.n,.n,.int .i64 0,.int .i64 0,.int .i64 0,.int .i64 0]) Zh U U<|fun i7=>zj Z2 U U U U U U .head U<|z2<|zb<|zb<|yb (γ:=Unit) [3,7,46,47,48] (fun u=>[(67,.bool (De f.blocks[k]))]) (fun u=>[(i7,.cells 59 (bD f.blocks[k]))]) (fun u=>True) ?_ (fun _ _ h=>h) ?_
     ·refine aW<|z8 (zh jr U Y6 (by decide) U U)<|z8 (zq (c:=.str _) Yk U ⟨_,.head⟩ U)<|z8 (Gv.lenT Zy U)<|be U U<|aq U<|zt (s:=56) U (fun c3=>?_) (fun c3=>?_)
      ·refine z6 U U c3<|z6 U U c3<|z6 U U c3<|z6 U U c3<|au U c3 U<|aq U<|z6 U U U<|z6 U U U<|z6 U U U<|z6 U U U<|au U U U<|z2 ?_
       exact ⟨(),mI,⟨jb (by simp_all[De]<;>grind),trivial⟩,aE,trivial⟩
      ·refine z7 U U c3<|z8 (zh jr U Zv (by decide) U U)<|z7 U U c3<|z8 (zq (c:=.fro _ _) Yd U ⟨_,.head⟩ U)<|z7 U U c3<|aj Z8 U<|z7 U U c3<|be U U<|aw U c3 U<|aq U<|zt (s:=62) U (fun c4=>?_) (fun c4=>?_)
       ·refine z6 U U c4<|z6 U U c4<|z6 U U c4<|z6 U U c4<|au U c4 U<|z2 ?_
        exact ⟨(),mI,⟨jb (by simp_all[De]<;>grind),trivial⟩,aE,trivial⟩
       ·refine z7 U U c4<|z8 (zh jr U Zw (by decide) U U)<|z7 U U c4<|z8 (zq (c:=.fro _ _) Y3 U ⟨_,.head⟩ U)<|z7 U U c4<|aj Z6 U<|z7 U U c4<|be U U<|aw U c4 U<|z2 ?_
        exact ⟨(),mI,⟨jb (by simp_all[De]<;>grind),trivial⟩,aE,trivial⟩
     ·rintro _ _
      refine zw U (fun c2=>?_) (fun c2=>?_)
      ·refine ae<|ad U<|z2<|zg<|zm (x:=.bool _) U ?_
       exact ⟨_,rfl,fun h=>(by cases h),fun hl=>absurd hl (fun hl=>by obtain ⟨h1,h2,h3,_⟩:=hl.2.2.2.2.1 _ (w3 hk1);unfold De at c2;simp at c2;omega)⟩
      ·have hsb:f.blocks[k].name.size≤400∧f.blocks[k].phis.length≤400∧f.blocks[k].insts.length≤400:=by unfold De at c2;simp at c2;omega
       refine zf<|ae<|aa U<|z8 (zh jr U Y6 (by decide) U U)<|z8 (zq (c:=.str _) Yk U ⟨_,.head⟩ U)<|z8 (Gv.lenT Zy U)<|z8 (zh jr U Zv (by decide) U U)<|z8 (zq (c:=.fro _ _) Yd U ⟨_,.head⟩ U)<|aj Z8 U<|z8 (zh jr U Zw (by decide) U U)<|z8 (zq (c:=.fro _ _) Y3 U ⟨_,.head⟩ U)<|aj Z6 U<|aC U U<|z8 (Gv.mul U U (by unfold lz;omega))<|aC U U<|aC U U<|am U<|z2<|zb<|ae<|z8 (zh jr U Zv (by decide) U U)<|z8 (zq (c:=.fro _ _) Yd U ⟨_,.head⟩ U)<|aj Z8 U<|aa U<|z2<|zi<|y5 (γ:=Nat) [7,46,47,48,83,84] (fun m=>[(85,.i m),(3,.i (wV f.vars+AC (f.blocks.take k)+(f.blocks[k].name.size+10*(f.blocks[k].phis.length+f.blocks[k].insts.length))+wP (f.blocks[k].phis.take m):Nat))]) (fun m=>[(i7,.cells 59 (bD f.blocks[k]))]) (fun m=>m≤f.blocks[k].phis.length∧wP (f.blocks[k].phis.take m)≤800*m∧∀p∈f.blocks[k].phis.take m,p.args.length≤400∧p.from_.length≤400) (fun m=>f.blocks[k].phis.length - m) 0 ⟨U,(congrArg (AV.int .i64) (by simp[wP]<;>omega)),trivial⟩ aE (⟨w2 _,by simp[wP],by simp⟩) ?_
       rintro m ⟨hm,hwp,hp⟩
       refine ae<|ap U U<|z2<|zb<|zn U (fun cm=>?_) (fun cm=>?_)
       ·have hm1:m<f.blocks[k].phis.length:=by omega
        obtain ⟨hq1,hq2⟩:=hb3 _ (w3 hm1)
        have hl6:=hq1.lt
        have hl7:=hq2.lt
        have hs2:=HW hm1
        refine zf<|zb<|zi<|ae<|z8 (qh Z8 Ze U U U (qx (by omega)))<|ac Ys Ze U U<|zu (cs:=[.int .i64 0,.n,.n]) Y1 U U<|fun i9=>zj Ze U U U U U U .head U<|z2<|zb<|zb<|yb (γ:=Unit) [3,7,9,46,47,48,83,84,85] (fun u=>[(102,.bool (decide ((4000:Int)<(wV f.vars+AC (f.blocks.take k)+(f.blocks[k].name.size+10*(f.blocks[k].phis.length+f.blocks[k].insts.length))+wP (f.blocks[k].phis.take m):Nat))||(decide ((400:Int)<f.blocks[k].phis[m].args.length)||decide ((400:Int)<f.blocks[k].phis[m].from_.length))))]) (fun u=>[(i9,.cells 83 (dA f.blocks[k].phis[m])),(i7,.cells 59 (bD f.blocks[k]))]) (fun u=>True) ?_ (fun _ _ h=>h) ?_
        ·refine aW<|aa U<|be U U<|aq U<|zt (s:=91) U (fun c5=>?_) (fun c5=>?_)
         ·refine z6 U U c5<|z6 U U c5<|z6 U U c5<|z6 U U c5<|au U c5 U<|aq U<|z6 U U U<|z6 U U U<|z6 U U U<|z6 U U U<|au U U U<|z2 ?_
          exact ⟨(),pI,⟨jb (by simp_all<;>grind),trivial⟩,aE,trivial⟩
         ·refine z7 U U c5<|z8 (zh Z4 U jh (by decide) U U)<|z7 U U c5<|z8 (zq (c:=.fro _ _) jx U ⟨_,.head⟩ U)<|z7 U U c5<|aj j7 U<|z7 U U c5<|be U U<|aw U c5 U<|aq U<|zt (s:=97) U (fun c6=>?_) (fun c6=>?_)
          ·refine z6 U U c6<|z6 U U c6<|z6 U U c6<|z6 U U c6<|au U c6 U<|z2 ?_
           exact ⟨(),pI,⟨jb (by simp_all<;>grind),trivial⟩,aE,trivial⟩
          ·refine z7 U U c6<|z8 (zh Z4 U jh (by decide) U U)<|z7 U U c6<|z8 (zq (c:=.fro _ _) jx U ⟨_,.head⟩ U)<|z7 U U c6<|aj j7 U<|z7 U U c6<|be U U<|aw U c6 U<|z2 ?_
           exact ⟨(),pI,⟨jb (by simp_all<;>grind),trivial⟩,aE,trivial⟩
        ·rintro _ _
         refine zw U (fun cp=>?_) (fun cp=>?_)
         ·refine ae<|ad U<|z2<|zg<|zm (x:=.bool _) U ?_
          exact ⟨_,rfl,fun h=>(by cases h),fun hl=>absurd hl (fun hl=>by obtain ⟨_,_,_,h4,_⟩:=hl.2.2.2.2.1 _ (w3 hk1);have h5:=h4 _ (w3 hm1);have h9:=oX hl hk1;have hwb:wB f.blocks[k]=f.blocks[k].name.size+10*(f.blocks[k].phis.length+f.blocks[k].insts.length)+wP f.blocks[k].phis+wX f.blocks[k].insts:=rfl;have h10:=Ij f.blocks[k].phis m;simp only[Bool.or_eq_true,wm] at cp;omega)⟩
         ·rcases Bool.or_eq_false_iff.1 cp with ⟨a1,a2⟩
          rcases Bool.or_eq_false_iff.1 a2 with ⟨a3,a4⟩
          have a3:=wl a3
          have a4:=wl a4
          refine zf<|aW<|aa U<|z8 (zh Z4 U jh (by decide) U U)<|z8 (zq (c:=.fro _ _) jx U ⟨_,.head⟩ U)<|aj j7 U<|z8 (zh Z4 U jh (by decide) U U)<|z8 (zq (c:=.fro _ _) jx U ⟨_,.head⟩ U)<|aj j7 U<|aC U U<|aC U U<|am U<|z2<|aW<|aC U U<|aa U<|z2 ?_
          exact ⟨m+1,oB,⟨rfl,congrArg (AV.int .i64) (by rw[hs2];omega),trivial⟩,⟨_,(.drop (.refl _)),rfl⟩,⟨hm1,by omega,fl hm1 hp ⟨by omega,by omega⟩⟩,by omega⟩
       ·obtain rfl:m=f.blocks[k].phis.length:=by omega
        rw[w4] at hwp hp
        rw[w4]
        refine y4<|zb<|ae<|z8 (zh jr U Zw (by decide) U U)<|z8 (zq (c:=.fro _ _) Y3 U ⟨_,.head⟩ U)<|aj Z6 U<|aa U<|z2<|zi<|y5 (γ:=Nat) [46,47,48,114,115] (fun m=>[(116,.i m),(3,.i (wV f.vars+AC (f.blocks.take k)+(f.blocks[k].name.size+10*(f.blocks[k].phis.length+f.blocks[k].insts.length))+wP f.blocks[k].phis+wX (f.blocks[k].insts.take m):Nat))]) (fun m=>[(i7,.cells 59 (bD f.blocks[k]))]) (fun m=>m≤f.blocks[k].insts.length∧wX (f.blocks[k].insts.take m)≤400*m∧∀p∈f.blocks[k].insts.take m,p.args.length≤400) (fun m=>f.blocks[k].insts.length - m) 0 ⟨U,(congrArg (AV.int .i64) (by simp[wX]<;>omega)),trivial⟩ aE (⟨w2 _,by simp[wX],by simp⟩) ?_
        rintro m ⟨hm,hwx,hx⟩
        refine ae<|ap U U<|z2<|zb<|zn U (fun cm=>?_) (fun cm=>?_)
        ·have hm1:m<f.blocks[k].insts.length:=by omega
         have hq1:=hb4 _ (w3 hm1)
         have hl6:=hq1.lt
         have hs2:=HX hm1
         refine zf<|zb<|zi<|ae<|z8 (qh Z6 Za U U U (qx (by omega)))<|ac Yj Za U U<|zu (cs:=[.int .i64 0,.int .i64 0,.n,.int .i64 0]) Zr U U<|fun i11=>zj Za U U U U U U .head U<|z2<|zb<|zb<|yb (γ:=Unit) [3,11,46,47,48,114,115,116] (fun u=>[(127,.bool (decide ((4000:Int)<(wV f.vars+AC (f.blocks.take k)+(f.blocks[k].name.size+10*(f.blocks[k].phis.length+f.blocks[k].insts.length))+wP f.blocks[k].phis+wX (f.blocks[k].insts.take m):Nat))||decide ((400:Int)<f.blocks[k].insts[m].args.length)))]) (fun u=>[(i11,.cells 51 (bq f.blocks[k].insts[m])),(i7,.cells 59 (bD f.blocks[k]))]) (fun u=>True) ?_ (fun _ _ h=>h) ?_
         ·refine aW<|aa U<|be U U<|aq U<|zt (s:=122) U (fun c7=>?_) (fun c7=>?_)
          ·refine z6 U U c7<|z6 U U c7<|z6 U U c7<|z6 U U c7<|au U c7 U<|z2 ?_
           exact ⟨(),tk,⟨jb (by simp_all<;>grind),trivial⟩,aE,trivial⟩
          ·refine z7 U U c7<|z8 (zh jd U jh (by decide) U U)<|z7 U U c7<|z8 (zq (c:=.fro _ _) jx U ⟨_,.head⟩ U)<|z7 U U c7<|aj j7 U<|z7 U U c7<|be U U<|aw U c7 U<|z2 ?_
           exact ⟨(),tk,⟨jb (by simp_all<;>grind),trivial⟩,aE,trivial⟩
         ·rintro _ _
          refine zw U (fun cp=>?_) (fun cp=>?_)
          ·refine ae<|ad U<|z2<|zg<|zm (x:=.bool _) U ?_
           exact ⟨_,rfl,fun h=>(by cases h),fun hl=>absurd hl (fun hl=>by obtain ⟨_,_,_,_,h4⟩:=hl.2.2.2.2.1 _ (w3 hk1);have h5:=h4 _ (w3 hm1);have h9:=oX hl hk1;have hwb:wB f.blocks[k]=f.blocks[k].name.size+10*(f.blocks[k].phis.length+f.blocks[k].insts.length)+wP f.blocks[k].phis+wX f.blocks[k].insts:=rfl;have h10:=Ik f.blocks[k].insts m;simp only[Bool.or_eq_true,wm] at cp;omega)⟩
          ·rcases Bool.or_eq_false_iff.1 cp with ⟨a1,a2⟩
           have a2:=wl a2
           refine zf<|aW<|aa U<|z8 (zh jd U jh (by decide) U U)<|z8 (zq (c:=.fro _ _) jx U ⟨_,.head⟩ U)<|aj j7 U<|aC U U<|am U<|z2<|aW<|aC U U<|aa U<|z2 ?_
           exact ⟨m+1,mI,⟨rfl,congrArg (AV.int .i64) (by rw[hs2];omega),trivial⟩,⟨_,(.drop (.refl _)),rfl⟩,⟨hm1,by omega,fl hm1 hx (by omega)⟩,by omega⟩
        ·obtain rfl:m=f.blocks[k].insts.length:=by omega
         rw[w4] at hwx hx
         rw[w4]
         refine y4<|ae<|aa U<|be U U<|z2<|zn U (fun cz=>?_) (fun cz=>?_)
         ·refine ae<|ad U<|z2<|zg<|zm (x:=.bool _) U ?_
          exact ⟨_,rfl,fun h=>(by cases h),fun hl=>absurd hl (fun hl=>by have h9:=oX hl hk1;have hwb:wB f.blocks[k]=f.blocks[k].name.size+10*(f.blocks[k].phis.length+f.blocks[k].insts.length)+wP f.blocks[k].phis+wX f.blocks[k].insts:=rfl;omega)⟩
         ·have hwb:wB f.blocks[k]=f.blocks[k].name.size+10*(f.blocks[k].phis.length+f.blocks[k].insts.length)+wP f.blocks[k].phis+wX f.blocks[k].insts:=rfl
          refine zf<|aW<|aC U U<|aa U<|z2 ?_
          exact ⟨k+1,b7,⟨rfl,congrArg (AV.int .i64) (by rw[hs];omega),trivial⟩,⟨_,(.drop (.refl _)),rfl⟩,⟨hk1,by omega,by omega,fl hk1 hb ⟨hsb.1,hsb.2.1,hsb.2.2,hp,hx⟩⟩,by omega⟩
    ·obtain rfl:k=f.blocks.length:=by omega
     rw[w4] at hw2 hw3 hb
     refine y4<|ae<|ad U<|z2<|zg<|zm (x:=.bool _) U ?_
     exact ⟨_,rfl,fun _=>⟨hsz.1,hsz.2.1,hsz.2.2,hv,hb,fun hne=>hw2 (List.length_pos_iff.2 hne)⟩,fun _=>rfl⟩
theorem pV (f:ab) (hf:ve f) (hn:nV f) (hL:bx E):aP prog E 83 [.agg (bw f)] (.bool (decide (bH f))):=by
 refine zp func83 U (by decide) U<|ae<|y6 (cs:=_) U U U<|ad U<|z2<|ae<|ac Z0 ji U U<|ze (rC _ (by assumption) (by assumption) hL) U<|ad U<|z2<|zg<|zm (x:=.bool _) U ?_
 rfl
noncomputable def FL (f:ab):Bool:=@decide (m9 f) (Classical.propDecidable _)
theorem l8 (f:ab):FL f=true↔m9 f:=by unfold FL;exact @decide_eq_true_iff _ (Classical.propDecidable _)
theorem DN (f:ab) (hf:ux f):aP prog E 44 [.agg (bw f)] (.bool (FL f)):=
 (x8 f hf).mono fun x O' ⟨b,e,h⟩=>by
  rw[e]
  congr 1
  rw[w8,h,l8]
theorem tM (f:ab) (hE:cg f) (hf:small f) (hS:bH f):aP prog E 21 [.agg (bw f)] (.bool (oO f&&kr f)):=by
 have hn:=hf.2.2.1
 refine zp func21 U (by decide) U<|ae<|y6 (cs:=_) U U U<|ad U<|z2<|zb<|ae<|ak je U Zd U U<|aI Zf U<|aj ju U<|aa U<|z2<|zi<|y5 (γ:=Nat) [1,8,9] (fun i=>[(10,.i i)]) (fun i=>[]) (fun i=>i≤f.blocks.length∧(f.blocks.take i).all (fun b=>!(b.insts.any fun x=>decide (x.op=25)||decide (x.op=26)))=true) (fun i=>f.blocks.length - i) 0 aL aE (⟨w2 _,U⟩) ?_
 rintro i ⟨hi,hall⟩
 refine ae<|ap U U<|z2<|zb<|zn U (fun ci=>?_) (fun ci=>?_)
 ·have hi2:i<f.blocks.length:=by simp at ci;omega
  obtain ⟨b,hbi⟩:∃b,f.blocks[i]=b:=⟨_,rfl⟩
  have hget:f.blocks[i]?=some b:=by rw[qx hi2,hbi]
  have hmem:b∈f.blocks:=hbi▸w3 hi2
  obtain ⟨hb0,hb1,hb2,hb3,hb4⟩:=hf.2.2.2.2 b hmem
  obtain ⟨hPh,hIn,hTm⟩:=hS.2.2.2.2.2 b hmem
  refine zf<|zb<|zi<|ae<|z8 (bB i ju Z2 U U U hget)<|ac Yc Z2 U U<|zu (cs:=[.e,.n,.n,.int .i64 0,.int .i64 0,.int .i64 0,.int .i64 0]) Zh U U<|fun i4=>zj Z2 U U U U U U .head U<|zd (y8 (t:=4) U .head)<|z2<|ae<|ak jr U Zw U U<|aI Y3 U<|aj Z6 U<|aa U<|z2<|zi<|y5 (γ:=Nat) [1,8,9,10,15,16] (fun k=>[(17,.i k)]) (fun k=>[]) (fun k=>k≤b.insts.length∧(b.insts.take k).all (fun x=>!(decide (x.op=25)||decide (x.op=26)))=true) (fun k=>b.insts.length - k) 0 aL aE (⟨w2 _,U⟩) ?_
  rintro k ⟨hk,hkall⟩
  refine ae<|ap U U<|z2<|zb<|zn U (fun ck=>?_) (fun ck=>?_)
  ·have hk2:k<b.insts.length:=by simp at ck;omega
   have hI:=(gh (hIn _ (w3 hk2))).op
   refine zf<|zb<|zi<|ae<|z8 (bB k Z6 Za U U U (qx hk2))<|ac Yj Za U U<|zu (cs:=[.int .i64 0,.int .i64 0,.n,.int .i64 0]) Zr U U<|fun i6=>zj Za U U U U U U .head U<|zd (y8 (t:=6) U .head)<|z2<|ae<|ak jd U Zs U U<|aA Y2 U<|z8 (q9 U U)<|z2<|zn U (fun cq=>?_) (fun cq=>?_)
   ·have hbad:(b.insts.any fun x=>decide (x.op=25)||decide (x.op=26))=true:=List.any_eq_true.2 ⟨_,w3 hk2,by simp;omega⟩
    refine ae<|ad U<|z2<|zg<|zm (x:=.bool _) U ?_
    rw[show oO f=false from Bool.eq_false_iff.2 (dI hi2 (by rw[hbi,hbad];rfl))];rfl
   ·refine zf<|aW<|aC U U<|aa U<|z2 ?_
    exact ⟨k+1,oB,aL,aE,⟨hk2,bS hk2 hkall (by simp;omega)⟩,by omega⟩
  ·have hkn:k=b.insts.length:=by simp at ck;omega
   rw[hkn,w4] at hkall
   have hgood:(b.insts.any fun x=>decide (x.op=25)||decide (x.op=26))=false:=List.any_eq_false.2 fun x hx=>by have:=List.all_eq_true.1 hkall x hx;simpa using this
   refine y4<|aW<|aC U U<|aa U<|z2 ?_
   exact ⟨i+1,bW,aL,aE,⟨hi2,bS hi2 hall (by rw[hbi,hgood];rfl)⟩,by omega⟩
 ·have hin:i=f.blocks.length:=by simp at ci;omega
  rw[hin,w4] at hall
  refine y4<|ae<|ac Z0 ji U U<|ze (r9 f hE hf hS) U<|ad U<|z2<|zg<|zm (x:=.bool _) U ?_
  rw[show oO f=true from hall];rfl
theorem sv (f:ab) (hf:small f) (hL:bx E):aP prog E 45 [.agg (bw f)] (.bool (bf f)):=by
 have hs:=pV (E:=E) f hf.ok hf.names hL
 refine zp func45 U (by decide) U<|ae<|y6 (cs:=_) U U U<|ad U<|z2<|ae<|ac Z0 ji U U<|ze (hs) U ?_
 by_cases g4:bH f
 ·refine aq U<|z7 U U (we g4)<|ac Z0 ji U U<|z7 U U (we g4)<|ze (tI f hf g4) U<|z8 (Ep U (we g4) U)<|ad U<|z2<|zg<|zm (x:=.bool _) U ?_
  exact jb (by unfold bf;rw[iZ,we g4];rfl)
 ·refine aq U<|z6 U U (wg g4)<|z6 U U (wg g4)<|z8 (Eg U (wg g4) U)<|ad U<|z2<|zg<|zm (x:=.bool _) U ?_
  exact jb (by unfold bf;rw[iZ,wg g4];rfl)
theorem tN (f:ab) (hw:ux f) (hL:bx E):aP prog E 20 [.agg (bw f)] (.bool (FL f&&bf f)):=by
 refine zp func20 U (by decide) U<|ae<|y6 (cs:=_) U U U<|ad U<|z2<|ae<|ac Z0 ji U U<|ze (DN f hw) U<|aq U<|zt (s:=5) U (fun g=>?_) (fun g=>?_)
 ·refine z7 U U g<|ac Z0 ji U U<|z7 U U g<|ze (sv f ((l8 f).1 g).small hL) U<|au U g U<|ad U<|z2<|zg<|zm (x:=.bool _) U ?_
  exact jb (by rw[g];rfl)
 ·refine z6 U U g<|z6 U U g<|aw U g U<|ad U<|z2<|zg<|zm (x:=.bool _) U ?_
  exact jb (by rw[g];rfl)
noncomputable def gZ (f:ab):Bool:=FL f&&bf f&&(cT f&&oO f)
theorem oY {a b:Bool} (h:(a&&b)=true):a=true∧b=true:=by simpa using h
theorem x9 {f:ab} (h:bf f=true):kr f=cT f:=
 Fu (dM h) fun b hb p hp c hc=>by
  have h1:=((dN h).2.2.2.2.2 b hb).1 p hp
  have h2:=List.all_eq_true.1 h1.2.2.2.2 c hc
  simpa [eX] using h2
theorem tO (f:ab) (hw:ux f) (hL:bx E):aP prog E 7 [.agg (bw f)] (.bool (gZ f)):=by
 refine zp func7 U (by decide) U<|ae<|y6 (cs:=_) U U U<|ad U<|z2<|ae<|ac Z0 ji U U<|ze (tN f hw hL) U<|aq U<|zt (s:=5) U (fun g=>?_) (fun g=>?_)
 ·refine z7 U U g<|ac Z0 ji U U<|z7 U U g<|ze (tM f (dM (oY g).2) ((l8 f).1 (oY g).1).small (dN (oY g).2)) U<|au U g U<|ad U<|z2<|zg<|zm (x:=.bool _) U ?_
  exact jb (by unfold gZ;rw[g,x9 (oY g).2,Bool.and_comm];rfl)
 ·refine z6 U U g<|z6 U U g<|aw U g U<|ad U<|z2<|zg<|zm (x:=.bool _) U ?_
  exact jb (by unfold gZ;rw[g];rfl)
end
section
open Go.Proofs.Tryz
open Go.Proofs Go.Lib Go.Shelf Go.RowKit
theorem Jc:em prog 111 #[(0,3),(3,1),(4,1),(5,1)] [.n,.n,.n,.n,.n,.n]:=⟨_,_,Ym,zeroValue111,fun w=>by kernel_rfl,rfl⟩
variable {E:World}
set_option maxRecDepth 20000
theorem tP (op:Int):aP prog E 77 [.int .i64 op] (.int .i64 (kY op)):=by
 refine zp func77 U (by decide) U<|ae<|am U<|z2<|zb<|ae<|aa U<|z2<|zi<|zb<|ae<|ao U U<|ad U<|z2<|yb (γ:=Bool) [0] (fun u=>[(4,.bool u)]) (fun u=>[]) (fun u=>u=decide (op=2∨op=3∨op=4)) ?_ (fun _ _ h=>h) ?_
 ·refine zw U (fun c1=>?_) (fun c1=>?_)
  ·refine zf ?_
   exact ⟨_,aL,aL,aE,by simp_all⟩
  ·refine ae<|ao U U<|ad U<|z2<|zw U (fun c2=>?_) (fun c2=>?_)
   ·refine zf ?_
    exact ⟨_,aL,aL,aE,by simp_all⟩
   ·refine aW<|ao U U<|ad U<|z2 ?_
    exact ⟨_,aL,aL,aE,by simp_all⟩
 ·rintro u hu
  subst hu
  refine zn U (fun c=>?_) (fun c=>?_)
  ·refine ae<|aa U<|z8 (Gv.addW U U)<|z8 (Gv.subW U U)<|am U<|z2<|zg<|zm (x:=.int _ _) U ?_
   rw[kY,if_pos c,gf (z:=21+op) (by unfold bg;omega),gf (by unfold bg;omega)];congr 1;omega
  ·refine zf<|ae<|am U<|z2<|zg<|zm (x:=.int _ _) U ?_
   rw[kY,if_neg c]
def FM (f:ab) (es:List (Int × List km)):Prop:=∀q,mg q es=oW f f.blocks.length q
set_option maxHeartbeats 4000000 in
theorem yA (f:ab) (hf:small f):bn prog E 76 [.agg (bw f)] [] fun x O=>∃g:Nat × List (Int × List km),x=kj g.1∧O=[(0,pw eP g.1 g.2)]∧FM f g.2:=by
 have hn:=hf.2.2.1
 have hpl:∀q k,k≤f.blocks.length→(oW f k q).length≤k*1000:=fun q k hk=>ss (fun b hb=>(hf.2.2.2.2 b hb).2.2.1) k hk
 refine bn.exact (γ:=Nat × List (Int × List km)) (x:=fun g=>kj g.1) (M:=fun g=>[(0,pw eP g.1 g.2)]) (p:=fun g=>FM f g.2)<|zp func76 U (by decide) U<|ae<|y6 (cs:=_) U U U<|cE U<|z2<|ae<|ay.makeMapN eP 114<|fun b8=>z8 (q8 (v:=kj _) U)<|z2<|zb<|ae<|ak je U Zd U U<|aI Zf U<|aj ju U<|aa U<|z2<|zi<|y5 (γ:=Nat × List (Int × List km)) [3,10,11] (fun g=>[(12,.i g.1)]) (fun g=>[(0,l4 eP 114 b8 g.2)]) (fun g=>g.1≤f.blocks.length∧∀q,mg q g.2=oW f g.1 q) (fun g=>f.blocks.length - g.1) (0,[]) aL aE (⟨w2 _,fun q=>U⟩) ?_
 rintro ⟨i,es⟩ ⟨hi,hes⟩
 try dsimp only at *
 refine ae<|ap U U<|z2<|zb<|zn U (fun ci=>?_) (fun ci=>?_)
 ·have hi2:i<f.blocks.length:=by simp at ci;omega
  obtain ⟨b,hbi⟩:∃b,f.blocks[i]=b:=⟨_,rfl⟩
  have hget:f.blocks[i]?=some b:=by rw[qx hi2,hbi]
  obtain ⟨hb0,hb1,hb2,hb3,hb4⟩:=hf.2.2.2.2 b (hbi▸w3 hi2)
  refine zf<|zb<|zi<|ae<|aa U<|z8 (bB i ju Z2 U U U hget)<|ac Yc Z2 U U<|zu (cs:=[.e,.n,.n,.int .i64 0,.int .i64 0,.int .i64 0,.int .i64 0]) Zh U U<|fun i5=>am U<|zj Z2 U U U U U U .head U<|zd (y8 (t:=5) U .head)<|z2<|ae<|ak jr U Zw U U<|aI Y3 U<|aj Z6 U<|aa U<|z2<|zi<|y5 (γ:=Nat × List (Int × List km)) [3,4,10,11,12,18,19] (fun g=>[(20,.i g.1)]) (fun g=>[(0,l4 eP 114 b8 g.2)]) (fun g=>g.1≤b.insts.length∧∀q,mg q g.2=oW f i q++sr q i (b.insts.take g.1)) (fun g=>b.insts.length - g.1) (0,es) aL aE (⟨w2 _,fun q=>by rw[hes q];unfold sr;split<;>simp⟩) ?_
  rintro ⟨j,es⟩ ⟨hj,hes⟩
  try dsimp only at *
  refine ae<|ap U U<|z2<|zb<|zn U (fun cj=>?_) (fun cj=>?_)
  ·have hj2:j<b.insts.length:=by simp at cj;omega
   obtain ⟨z,hz⟩:∃z,b.insts[j]=z:=⟨_,rfl⟩
   have hstep:∀q,oW f i q++sr q i (b.insts.take (j+1))=mg q es++if jC q∧z.op=q then[((i:Int),(j:Int))] else[]:=fun q=>by rw[DM q i hj2,hz,←qz,←hes q]
   have hlen:∀q,(mg q es).length≤2000000:=fun q=>by
    have h1:=hpl q i hi
    have h2:=xY q i (b.insts.take j)
    rw[wd] at h2
    rw[hes q,w5];omega
   refine zf<|zb<|zi<|ae<|aa U<|z8 (bB j Z6 Za U U U (by rw[qx hj2,hz])) ?_
   refine ac Yj Za U U<|zu (cs:=[.int .i64 0,.int .i64 0,.n,.int .i64 0]) Zr U U<|fun i7=>am U<|zj Za U U U U U U .head U<|zd (y8 (t:=7) U .head)<|z2<|zb<|yb (γ:=Bool) [3,4,6,7,10,11,12,18,19,20] (fun u=>[(32,.bool u)]) (fun u=>[(0,l4 eP 114 b8 es)]) (fun u=>u=decide (jC z.op)) ?_ (fun _ _ h=>h) ?_
   ·refine aW<|ak jd U Zs U U<|aA Y2 U<|z8 (q9 U U)<|aq U<|zt (s:=28) U (fun c1=>?_) (fun c1=>?_)
    ·refine z7 U U c1<|ak jd U Zs U U<|z7 U U c1<|aA Y2 U<|z7 U U c1<|z8 (Gv.leq U U)<|au U c1 U<|z2 ?_
     exact ⟨_,iS,aL,aE,decide_eq_decide.2 (by unfold jC;have:=wk c1;omega)⟩
    ·refine z6 U U c1<|z6 U U c1<|z6 U U c1<|aw U c1 U<|z2 ?_
     exact ⟨_,iS,aL,aE,(wg (by unfold jC;have:=wl c1;omega)).symm⟩
   ·rintro u hu
    subst hu
    refine zn U (fun cc=>?_) (fun cc=>?_)
    ·have hlz:=hlen z.op
     refine yb (γ:=Unit) [3,4,10,11,12,18,19,20] (fun u=>[]) (fun u=>[(0,l4 eP 114 b8 (ms z.op (mg z.op es++[((i:Int),(j:Int))]) es))]) (fun u=>True) ?_ (fun _ _ h=>h) ?_
     ·refine zr (fun j=>false) (by kernel_rfl) U (zo (.rest _))<|ai 0 U (yt (v:=kj _) U)<|ai 1 U (db jd U Zs U U)<|ai 2 U (dQ Y2 U)<|ai 3 U (yt (v:=kj _) U)<|ai 4 U (db jd U Zs U U)<|ai 5 U (dQ Y2 U)<|ai 7 U (dx U)<|ai 8 U (dx U)<|ai 9 U (zz (cps:=[(0,[_]),(1,[_])]) (rs:=[_,_]) Cf U U U)<|yj (i:=6) (j:=10) U U (by kernel_rfl) ?_ ?_
      ·refine ay.mapTake underlying147 Xh zeroValue109 U U .head<|fun i39=>z2<|aN 10 U<|zx (rows:=[[_,_]]) jP U U U U U<|z2<|aN 11 U<|yg (k:=2) Zl type114 U U U U U (fun _=>.head) (by rw[eP.av_len];rfl) (by decide) U (by show (_+1)*16≤_;omega) (by show _+1≤_;omega)<|fun i44=>z2<|aN 12 U<|ay.mapPut (r:=mg z.op es++[((i:Int),(j:Int))]) underlying147 Xh U U U .head .head U (eP.av_push (mg z.op es) ((i:Int),(j:Int))) (by rw[w5];rfl)<|z2<|bI ?_
       exact ⟨(),tk,trivial,aE,trivial⟩
      ·refine zx (rows:=[[_,_]]) jP U U U U U<|z2<|aN 6 U<|ay.mapTake underlying147 Xh zeroValue109 U U .head<|fun i39=>z2<|aN 11 U<|yg (k:=2) Zl type114 U U U U U (fun _=>.head) (by rw[eP.av_len];rfl) (by decide) U (by show (_+1)*16≤_;omega) (by show _+1≤_;omega)<|fun i44=>z2<|aN 12 U<|ay.mapPut (r:=mg z.op es++[((i:Int),(j:Int))]) underlying147 Xh U U U .head .head U (eP.av_push (mg z.op es) ((i:Int),(j:Int))) (by rw[w5];rfl)<|z2<|bI ?_
       exact ⟨(),tk,trivial,aE,trivial⟩
     ·rintro _ _
      refine aW<|aC U U<|aa U<|z2 ?_
      exact ⟨(j+1,ms z.op (mg z.op es++[((i:Int),(j:Int))]) es),lg,aL,aE,⟨hj2,fun q=>by rw[hstep,I7];by_cases e:q=z.op;rw[if_pos e,if_pos ⟨e▸cc,e.symm⟩,e];rw[if_neg e,if_neg (fun h:jC q∧z.op=q=>e h.2.symm),wc]⟩,by dsimp only;omega⟩
    ·refine zf<|aW<|aC U U<|aa U<|z2 ?_
     exact ⟨(j+1,es),lg,aL,aE,⟨hj2,fun q=>by rw[hstep,if_neg (fun h:jC q∧z.op=q=>cc (h.2▸h.1)),wc]⟩,by dsimp only;omega⟩
  ·have hjn:j=b.insts.length:=by simp at cj;omega
   subst hjn
   refine y4<|aW<|aC U U<|aa U<|z2 ?_
   exact ⟨(i+1,es),bW,aL,aE,⟨hi2,fun q=>by rw[hes q,w4,uJ q hi2,hbi]⟩,by dsimp only;omega⟩
 ·have hin:i=f.blocks.length:=by simp at ci;omega
  subst hin
  refine y4<|y7 (aR.mapKnow .head)<|ae<|z8 (yt (v:=kj _) U)<|z8 (q8 (v:=kj _) U)<|z2<|zg<|zm (x:=kj _) U ?_
  exact ⟨(b8,es),rfl,⟨_,.refl _,rfl⟩,hes⟩
def Lu (f:ab) (x:AV) (O:OL):Prop:=∃iv:Nat,x=.tup [.po iv 0,.int .i64 0]∧O=[(iv,.cells 111 (Cn f (pU f) .n))]
theorem FN (f:ab) (hf:small f) (hL:bx E) (h:(bf f&&cT f)=false):aP prog E 40 [.agg (bw f)] (.tup [.raw (.pointer none),.int .i64 3]):=by
 have hR:=jA (E:=E) f hf hL
 rw[h] at hR
 refine zp func40 U (by decide) U<|ae<|y6 (cs:=_) U U U<|cE U<|am U<|z2<|zb<|ae<|ac Z0 ji U U<|ze (hR) U<|am U<|z2<|ae<|aa U<|aO U U<|z2<|yr U U<|ae<|aa U<|cE U<|am U<|z2<|zg<|qn (x:=.raw _) (y:=.int _ _) U U ?_
 rfl
set_option maxHeartbeats 8000000 in
theorem Il (f:ab) (hf:small f) (hL:bx E) (h:(bf f&&cT f)=true):bn prog E 40 [.agg (bw f)] [] (Lu f):=by
 have hn:=hf.2.2.1
 have hvn:=hf.1
 have hR:=jA (E:=E) f hf hL
 rw[h] at hR
 have ht:=(oY h).1
 have hs:=(oY h).2
 have hE:=dM ht
 have hS:=dN ht
 have honce:mP f:=(oM f).1 (by unfold cT at hs;simp only[wh] at hs;exact hs.2.2.1)
 refine bn.exact (γ:=Nat) (x:=fun iv=>.tup [.po iv 0,.int .i64 0]) (M:=fun iv=>[(iv,.cells 111 (Cn f (pU f) .n))]) (p:=fun _=>True) ?_ |>.mono fun x O ⟨iv,h1,h2,_⟩=>⟨iv,h1,h2⟩
 refine zp func40 U (by decide) U<|ae<|y6 (cs:=_) U U U<|cE U<|am U<|z2<|zb<|ae<|ac Z0 ji U U<|ze (hR) U<|am U<|z2<|ae<|aa U<|aO U U<|z2<|yq U U<|zf<|ae<|ac Z0 ji U U<|ze (xN f hf hL ht) U<|z8 (uY U)<|z8 (Gv.extract (v:=.pf _) U U)<|z8 (nC U U)<|z8 (q8 (v:=.pf _) U)<|am U<|z2<|zb<|ae<|aa U<|aO U U<|z2<|yq U U<|zf<|zb<|yb (γ:=Nat × Nat) [1,5] (fun z=>[(7,.po z.1 0)]) (fun z=>[(z.1,.cells 111 (bw f++[.fro 2 ((dp f).map eP.row),.own z.2 f.vars.length,.n])),(z.2,.grow 1 4 (cB (List.replicate f.vars.length false)))]) (fun z=>True) ?_ (fun _ _ h=>h) ?_
 ·refine zr (fun j=>false) (by kernel_rfl) U (zo (.rest _))<|ai 0 U (yp Z0 ji U U)<|ai 1 U (yp Z0 ji U U)<|ai 3 U (db je U Zn U U)<|ai 4 U (gd Zz U)<|ai 5 U (Gv.lenM Z7 U)<|yj (i:=2) (j:=6) U U (by kernel_rfl) ?_ ?_
  ·refine ze (lZ f hf hL ht) U<|z2<|aN 6 U<|qm (m:=f.vars.length) jw Yq U U U U U (by simp) (by simp) (by show (1:Int)*_≤_;omega) (by omega)<|fun i35=>z2<|ai 7 U (zz (cps:=[(0,[_,_,_]),(1,[_]),(2,[_])]) (rs:=[_,_,_,_,_,.n]) Jc U U U)<|aN 8 U<|yl (cs:=_) U U U U<|fun i37=>z2<|ai 9 U (gu U)<|bI ?_
   exact ⟨(i37,i35),b7,aL,aE,trivial⟩
  ·refine qm (m:=f.vars.length) jw Yq U U U U U (by simp) (by simp) (by show (1:Int)*_≤_;omega) (by omega)<|fun i35=>z2<|aN 2 U<|ze (lZ f hf hL ht) U<|z2<|ai 7 U (zz (cps:=[(0,[_,_,_]),(1,[_]),(2,[_])]) (rs:=[_,_,_,_,_,.n]) Jc U U U)<|aN 8 U<|yl (cs:=_) U U U U<|fun i37=>z2<|ai 9 U (gu U)<|bI ?_
   exact ⟨(i37,i35),b7,aL,aE,trivial⟩
 ·rintro ⟨iv,ck⟩ _
  refine ae<|ac Z0 ji U U<|y3 U (zo (.r (.r (.rest _)))) (yA f hf) ?_
  rintro r39 O39 ⟨⟨mb,es⟩,rfl,rfl,hes⟩
  refine z8 (q8 (v:=kj _) U)<|z2<|zb<|ae<|ak je U Zd U U<|aI Zf U<|aj ju U<|aa U<|z2<|y7 (za (zc .t2))<|y7 (za (zc .t2))<|zi<|y5 (γ:=Nat × List Bool) [1,5,7,8,41,42] (fun g=>[(43,.i g.1)]) (fun g=>[(iv,.cells 111 (bw f++[.fro 2 ((dp f).map eP.row),.own ck f.vars.length,.n])),(ck,.grow 1 4 (cB g.2)),(0,pw eP mb es)]) (fun g=>g.1≤f.blocks.length∧g.2.length=f.vars.length∧∀v:Nat,v<f.vars.length→(gb g.2 v=true↔lE f g.1 0 v)) (fun g=>f.blocks.length - g.1) (0,List.replicate f.vars.length false) aL aE (⟨w2 _,by simp,fun v hv=>by rw[nm,List.getElem?_replicate,if_pos hv];simpa using lE.zero f v⟩) ?_
  rintro ⟨i,L⟩ ⟨hi,hLl,hLd⟩
  try dsimp only at *
  refine ae<|ap U U<|z2<|zb<|zn U (fun ci=>?_) (fun ci=>?_)
  ·have hi2:i<f.blocks.length:=by simp at ci;omega
   obtain ⟨b,hbi⟩:∃b,f.blocks[i]=b:=⟨_,rfl⟩
   have hget:f.blocks[i]?=some b:=by rw[qx hi2,hbi]
   have hmem:b∈f.blocks:=hbi▸w3 hi2
   obtain ⟨hb0,hb1,hb2,hb3,hb4⟩:=hf.2.2.2.2 b hmem
   obtain ⟨hPh,hIn,hTm⟩:=hS.2.2.2.2.2 b hmem
   refine zf<|zb<|zi<|ae<|aa U<|z8 (bB i ju Z2 U U U hget)<|ac Yc Z2 U U<|zu (cs:=[.e,.n,.n,.int .i64 0,.int .i64 0,.int .i64 0,.int .i64 0]) Zh U U<|fun i10=>am U<|zj Z2 U U U U U U .head U<|zd (y8 (t:=10) U .head)<|z2<|ae<|ak jr U Zw U U<|aI Y3 U<|aj Z6 U<|aa U<|z2<|zi<|y5 (γ:=Nat × List Bool) [1,5,7,8,9,41,42,43,49,50] (fun g=>[(51,.i g.1)]) (fun g=>[(iv,.cells 111 (bw f++[.fro 2 ((dp f).map eP.row),.own ck f.vars.length,.n])),(ck,.grow 1 4 (cB g.2)),(0,pw eP mb es)]) (fun g=>g.1≤b.insts.length∧g.2.length=f.vars.length∧∀v:Nat,v<f.vars.length→(gb g.2 v=true↔lE f i g.1 v)) (fun g=>b.insts.length - g.1) (0,L) aL aE (⟨w2 _,hLl,hLd⟩) ?_
   rintro ⟨j,L⟩ ⟨hj,hLl,hLd⟩
   try dsimp only at *
   refine ae<|ap U U<|z2<|zb<|zn U (fun cj=>?_) (fun cj=>?_)
   ·have hj2:j<b.insts.length:=by simp at cj;omega
    obtain ⟨z,hz⟩:∃z,b.insts[j]=z:=⟨_,rfl⟩
    have hzg:b.insts[j]?=some z:=by rw[qx hj2,hz]
    have hzm:z∈b.insts:=hz▸w3 hj2
    have hI:=gh (hIn z hzm)
    have hzl:=hb4 z hzm
    have hstep:=fun v:Int=>lE.step (f:=f) hget hzg v
    have hmq:=hes (kY z.op)
    obtain ⟨ps,hps⟩:∃ps,mg (kY z.op) es=ps:=⟨_,rfl⟩
    have hpl:ps.length≤2000000:=by
     have:=ss (f:=f) (q:=kY z.op) (fun b hb=>(hf.2.2.2.2 b hb).2.2.1) f.blocks.length (Nat.le_refl _)
     rw[←hps,hmq];omega
    have hcx:tK f z i j=true↔∃m∈ps,vF f z i j m=true:=by rw[FK,←hps,hmq]
    have hpm:∀m∈ps,∃(i' k':Nat) (b':aK) (c:aB),f.blocks[i']?=some b'∧b'.insts[k']?=some c∧m=((i':Int),(k':Int))∧0≤z.dst∧z.dst.toNat<f.vars.length:=fun m hm=>by
     rw[←hps,hmq] at hm
     obtain ⟨hq,i',k',b',c,g1,g2,g3,g4⟩:=oa.1 hm
     have hso:z.op=2∨z.op=3∨z.op=4:=Classical.byContradiction fun hno=>by
      unfold kY at hq;rw[if_neg hno] at hq;unfold jC at hq;omega
     rcases hI.dst with ⟨d1,_⟩|⟨_,_,d3⟩
     ·rw[Ba hso] at d1;cases d1
     ·have:=n6 d3
      exact ⟨i',k',b',c,g1,g2,g4,this.1,by omega⟩
    refine zf<|zb<|zi<|ae<|aa U<|z8 (bB j Z6 Za U U U hzg)<|ac Yj Za U U<|zu (cs:=[.int .i64 0,.int .i64 0,.n,.int .i64 0]) Zr U U<|fun i12=>am U<|zj Za U U U U U U .head U<|zd (y8 (t:=12) U .head)<|z2<|ae<|z8 (yt (v:=kj _) U)<|ak jd U Zs U U<|aA Y2 U<|ze (tP z.op) U<|z8 (Gv.lookupF underlying147 Xh zeroValue109 U U ⟨_,.t2⟩)<|aj Zl U<|aa U<|z2 ?_
    rw[hps]
    refine zi<|y5 (γ:=Nat × List Bool) [1,5,7,8,9,11,12,41,42,43,49,50,51,60,61] (fun g=>[(62,.i g.1)]) (fun g=>[(iv,.cells 111 (bw f++[.fro 2 ((dp f).map eP.row),.own ck f.vars.length,.n])),(ck,.grow 1 4 (cB g.2)),(0,pw eP mb es)]) (fun g=>g.1≤ps.length∧g.2.length=f.vars.length∧∀v:Nat,v<f.vars.length→(gb g.2 v=true↔lE f i j v∨((v:Int)=z.dst∧∃m∈ps.take g.1,vF f z i j m=true))) (fun g=>ps.length - g.1) (0,L) aL aE (⟨w2 _,hLl,fun v hv=>by rw[hLd v hv];simp⟩) ?_
    rintro ⟨q,L⟩ ⟨hq,hLl,hLd⟩
    try dsimp only at *
    refine ae<|ap U U<|z2<|zb<|zn U (fun cq=>?_) (fun cq=>?_)
    ·have hq2:q<ps.length:=by simp at cq;omega
     obtain ⟨m,hm⟩:∃m,ps[q]=m:=⟨_,rfl⟩
     obtain ⟨i',k',b',c,g1,g2,rfl,hz0,hz1⟩:=hpm m (hm▸w3 hq2)
     have hcl:=(hf.2.2.2.2 b' (w9 g1)).2.2.2.2 c (w9 g2)
     have htk:∀P:km→Prop,(∃m∈ps.take (q+1),P m)↔(∃m∈ps.take q,P m)∨P ((i':Int),(k':Int)):=fun P=>by
      rw[qy hq2,hm]
      simp only[List.mem_append,List.mem_singleton]
      constructor
      ·rintro ⟨m,h|rfl,hp⟩
       ·exact .inl ⟨m,h,hp⟩
       ·exact .inr hp
      ·rintro (⟨m,h,hp⟩|hp)
       ·exact ⟨m,.inl h,hp⟩
       ·exact ⟨_,.inr rfl,hp⟩
     have hhit:vF f z i j ((i':Int),(k':Int))=(decide (c.args=z.args)&&eC f ((i':Int),(k':Int)) i j):=by unfold vF;rw[nw g1 g2];rfl
     refine zf<|zb<|zi<|ae<|z8 (bB q Zl Y9 U U U (by rw[qx hq2,hm])) ?_
     refine ac isAgg114 Y9 U U<|zu (cs:=[.int .i64 0,.int .i64 0]) zeroValue114 U U<|fun i14=>zj Y9 U U U U U U .head U<|zd (y8 (t:=14) U .head)<|z2<|zb<|zr (fun j=>false) (by kernel_rfl) U (zo (.rest _))<|ai 0 U (db je U Zd U U)<|ai 1 U (gd Zf U)<|ai 2 U (db Y8 U j9 U U)<|ai 3 U (dQ jg U)<|ai 4 U (bB (i') ju Z2 U U U g1)<|ai 5 U (db jr U Zw U U)<|ai 6 U (gd Y3 U)<|ai 7 U (db Y8 U j9 U U)<|ai 8 U (dQ jg U)<|ai 9 U (bB (k') Z6 Za U U U g2)<|ai 10 U (yp Yj Za U U)<|aN 11 U<|zu (cs:=[.int .i64 0,.int .i64 0,.n,.int .i64 0]) Zr U U<|fun i15=>z2<|aN 12 U<|zj Za U U U U U U .head U<|z2<|bI<|y7 (y8 (t:=15) U .head)<|zb<|yb (γ:=Bool) [1,5,7,8,9,11,12,41,42,43,49,50,51,60,61,62] (fun u=>[(88,.bool u)]) (fun u=>[(iv,.cells 111 (bw f++[.fro 2 ((dp f).map eP.row),.own ck f.vars.length,.n])),(ck,.grow 1 4 (cB L)),(0,pw eP mb es)]) (fun u=>u=vF f z i j ((i':Int),(k':Int))) ?_ (fun _ _ h=>h) ?_
     ·refine aW<|ak jd U jh U U<|aI jx U<|ak jd U jh U U<|aI jx U<|ze (pe c.args z.args (by unfold qX;omega)) U<|aq U<|zt (s:=82) U (fun c1=>?_) (fun c1=>?_)
      ·refine z7 U U c1<|z8 (tv U)<|z7 U U c1<|ac isAgg114 Y9 U U<|z7 U U c1<|aa U<|z7 U U c1<|aa U<|z7 U U c1<|ze (kT f hE hn ((i':Int),(k':Int)) i j (pM eI (Ce f)) .any) U<|au U c1 U<|z2 ?_
       exact ⟨_,⟨rfl,rfl,rfl,rfl,rfl,rfl,rfl,rfl,rfl,rfl,rfl,rfl,rfl,rfl,rfl,rfl,trivial⟩,aL,aE,by rw[hhit,show decide (c.args=z.args)=true from c1];rfl⟩
      ·refine z6 U U c1<|z6 U U c1<|z6 U U c1<|z6 U U c1<|z6 U U c1<|aw U c1 U<|z2 ?_
       exact ⟨_,⟨rfl,rfl,rfl,rfl,rfl,rfl,rfl,rfl,rfl,rfl,rfl,rfl,rfl,rfl,rfl,rfl,trivial⟩,aL,aE,by rw[hhit,show decide (c.args=z.args)=false from c1];rfl⟩
     ·rintro u hu
      subst hu
      refine zw U (fun ch=>?_) (fun ch=>?_)
      ·refine zr (fun j=>Nat.beq j 7) (by kernel_rfl) U (zo (.r (.r (.rest _))))<|ai 0 U (dR U)<|ai 1 U (zy U)<|ai 2 U (zh Ym U Yg (by decide) U U)<|ai 3 U (zq (c:=.own _ _) Yu U ⟨_,.head⟩ U)<|ai 4 U (db jd U j9 U U)<|ai 5 U (dQ jg U)<|ai 6 U (yd (j:=z.dst.toNat) jw Zb U U (by omega) ⟨_,.t1⟩ (by rw[aM];exact hLl) hz1)<|yc<|yk (i:=7) U (by kernel_rfl) (by kernel_rfl)<|q6 (j:=z.dst.toNat) Zb U U .t1 (by omega)<|z2<|yf (by kernel_rfl)<|aW<|aC U U<|aa U<|z2 ?_
       exact ⟨(q+1,L.set z.dst.toNat true),⟨rfl,rfl,rfl,rfl,rfl,rfl,rfl,rfl,rfl,rfl,rfl,rfl,rfl,rfl,rfl,trivial⟩,aL,aE,⟨hq2,by rw[List.length_set];exact hLl,fun v hv=>by rw[Ii (by omega),hLd v hv,htk,ch];constructor;(rintro (h|h|h);exact .inr ⟨by omega,.inr rfl⟩;exact .inl h;exact .inr ⟨h.1,.inl h.2⟩);(rintro (h|⟨h1,h2⟩);exact .inr (.inl h);exact .inl (by omega))⟩,by dsimp only;omega⟩
      ·refine zf<|aW<|aC U U<|aa U<|z2 ?_
       exact ⟨(q+1,L),⟨rfl,rfl,rfl,rfl,rfl,rfl,rfl,rfl,rfl,rfl,rfl,rfl,rfl,rfl,rfl,trivial⟩,aL,aE,⟨hq2,hLl,fun v hv=>by rw[hLd v hv,htk];simp[show vF f z i j ((i':Int),(k':Int))=false from ch]⟩,by dsimp only;omega⟩
    ·have hqn:q=ps.length:=by simp at cq;omega
     subst hqn
     refine y4<|aW<|aC U U<|aa U<|z2 ?_
     exact ⟨(j+1,L),iS,aL,aE,⟨hj2,hLl,fun v hv=>by rw[hLd v hv,w4,hstep,hcx]⟩,by dsimp only;omega⟩
   ·have hjn:j=b.insts.length:=by simp at cj;omega
    subst hjn
    refine y4<|aW<|aC U U<|aa U<|z2 ?_
    exact ⟨(i+1,L),oB,aL,aE,⟨hi2,hLl,fun v hv=>by rw[hLd v hv,lE.next hget]⟩,by dsimp only;omega⟩
  ·have hin:i=f.blocks.length:=by simp at ci;omega
   subst hin
   have hLe:=Ih honce hLl hLd
   subst hLe
   refine y4<|y7 (aR.knowBC (off:=4) .t1 .head U (su f))<|ae<|bb U<|z8 (gu U)<|am U<|z2<|zg<|qn (x:=.po _ _) (y:=.int _ _) U U ?_
   exact ⟨iv,rfl,⟨_,.keep (.drop (.refl _)),rfl⟩,trivial⟩
end
end Go.Proofs.YtbbonnfjealmpaaGreatDoor
