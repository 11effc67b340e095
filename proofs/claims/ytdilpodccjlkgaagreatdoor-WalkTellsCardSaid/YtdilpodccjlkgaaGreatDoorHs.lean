/- The document's single and plain. Of programs that are little. -/
import Derived.Test.YtdilpodccjlkgaaGreatDoorHm
set_option linter.unusedVariables false
set_option linter.unusedSimpArgs false
set_option linter.unusedSectionVars false
namespace Go.Proofs.YtdilpodccjlkgaaGreatDoor
open Go.Proofs.Tryz
open Go.Proofs Go.Lib Go.Shelf Go.RowKit
variable {E:World}
set_option maxRecDepth 20000
theorem fT (t:fH) (b:Int):b∈df t↔(t.kind=0∧t.to0=b)∨(t.kind=1∧(t.to0=b∨t.to1=b)):=by
 unfold df
 by_cases h0:t.kind=0
 ·rw[if_pos h0];simp[h0];exact eq_comm
 ·rw[if_neg h0]
  by_cases h1:t.kind=1
  ·rw[if_pos h1]
   by_cases h2:t.to0=t.to1
   ·rw[if_pos h2];simp[h1,h2];exact eq_comm
   ·rw[if_neg h2];simp[h1]
    constructor
    ·rintro (h|h);exact .inl h.symm;exact .inr h.symm
    ·rintro (h|h);exact .inl h.symm;exact .inr h.symm
  ·rw[if_neg h1];simp[h0,h1]
theorem jH (f:ad) (hn:f.blocks.length≤1000) (a b:Int) (h0:0≤a) (ha:a<f.blocks.length):aK prog E 82 [.agg (bD f),.int .i64 a,.int .i64 b] (.bool (decide (b∈ah f a))):=by
 obtain ⟨c,hc⟩:∃c,f.blocks[a.toNat]'(by omega)=c:=⟨_,rfl⟩
 have hget:f.blocks[a.toNat]?=some c:=by rw[qk (by omega),hc]
 have hE:ah f a=df c.term:=by rw[lD h0 (by omega),hc]
 rw[hE]
 refine zq func82 U (by decide) U<|ae<|y9 (cs:=_) U U U<|ab U<|z6<|ae<|ao jg U Z6 U U<|aI Zd U<|aa U<|za (bh a.toNat jk Z0 U U (by omega) hget)<|ao jj U Zm U U<|ac isAgg49 Zm U U<|y6 (cs:=[.int .i64 0,.int .i64 0,.int .i64 0,.int .i64 0]) zeroValue49 U U<|fun i7=>y1 Zm U U U U U U .head U<|zf (yf (t:=7) U .head)<|z6<|ae<|ao jh U Zz U U<|ay Y8 U<|ai U U<|aj U<|zo (s:=17) U (fun c1=>?_) (fun c1=>?_)
 ·refine z8 U U c1<|ao jh U Ze U U<|z8 U U c1<|za (yv (j:=0) Z1 j6 U U U (by decide) U)<|z8 U U c1<|ay j7 U<|z8 U U c1<|aa U<|z8 U U c1<|ai U U<|aq U c1 U<|aj U<|zo (s:=24) U (fun c2=>?_) (fun c2=>?_)
  ·refine z7 U U c2<|z7 U U c2<|z7 U U c2<|z7 U U c2<|zk U U<|zk U U<|zk U U<|zk U U<|zk U U<|zk U U<|zk U U<|zk U U<|zk U U<|zk U U<|zk U U<|zk U U<|z7 U U c2<|aq U c2 U<|ab U<|z6<|zi<|zm (x:=.bool _) U<|congrArg AV.bool ?_;rw[qt];simp only[w6,fT];simp_all
  ·refine z8 U U c2<|ao jh U Zz U U<|z8 U U c2<|ay Y8 U<|z8 U U c2<|ai U U<|z8 U U c2<|aj U<|zo (s:=28) U (fun c3=>?_) (fun c3=>?_)
   ·refine z8 U U c3<|ao jh U Ze U U<|z8 U U c3<|za (yv (j:=0) Z1 j6 U U U (by decide) U)<|z8 U U c3<|ay j7 U<|z8 U U c3<|aa U<|z8 U U c3<|ai U U<|z8 U U c3<|aj U<|zo (s:=34) U (fun c4=>?_) (fun c4=>?_)
    ·refine z7 U U c4<|z7 U U c4<|z7 U U c4<|z7 U U c4<|z7 U U c4<|z8 U U c3<|aq U c4 U<|z8 U U c2<|aq U c3 U<|au U c2 U<|ab U<|z6<|zi<|zm (x:=.bool _) U<|congrArg AV.bool ?_;rw[qt];simp only[w6,fT];simp_all
    ·refine z8 U U c4<|ao jh U Ze U U<|z8 U U c4<|za (yv (j:=1) Z1 j6 U U U (by decide) U)<|z8 U U c4<|ay j7 U<|z8 U U c4<|aa U<|z8 U U c4<|ai U U<|z8 U U c3<|au U c4 U<|z8 U U c2<|aq U c3 U<|au U c2 U<|ab U<|z6<|zi<|zm (x:=.bool _) U<|congrArg AV.bool ?_;rw[qt];simp only[w6,fT];simp_all
   ·refine z7 U U c3<|z7 U U c3<|z7 U U c3<|z7 U U c3<|z7 U U c3<|z7 U U c3<|zk U U<|zk U U<|zk U U<|zk U U<|zk U U<|z7 U U c3<|z8 U U c2<|au U c3 U<|au U c2 U<|ab U<|z6<|zi<|zm (x:=.bool _) U<|congrArg AV.bool ?_;rw[qt];simp only[w6,fT];simp_all
 ·refine z7 U U c1<|z7 U U c1<|z7 U U c1<|z7 U U c1<|z7 U U c1<|au U c1 U<|aj U<|z8 U U U<|ao jh U Zz U U<|z8 U U U<|ay Y8 U<|z8 U U U<|ai U U<|z8 U U U<|aj U<|zo (s:=28) U (fun c5=>?_) (fun c5=>?_)
  ·refine z8 U U c5<|ao jh U Ze U U<|z8 U U c5<|za (yv (j:=0) Z1 j6 U U U (by decide) U)<|z8 U U c5<|ay j7 U<|z8 U U c5<|aa U<|z8 U U c5<|ai U U<|z8 U U c5<|aj U<|zo (s:=34) U (fun c6=>?_) (fun c6=>?_)
   ·refine z7 U U c6<|z7 U U c6<|z7 U U c6<|z7 U U c6<|z7 U U c6<|z8 U U c5<|aq U c6 U<|z8 U U U<|aq U c5 U<|au U U U<|ab U<|z6<|zi<|zm (x:=.bool _) U<|congrArg AV.bool ?_;rw[qt];simp only[w6,fT];simp_all
   ·refine z8 U U c6<|ao jh U Ze U U<|z8 U U c6<|za (yv (j:=1) Z1 j6 U U U (by decide) U)<|z8 U U c6<|ay j7 U<|z8 U U c6<|aa U<|z8 U U c6<|ai U U<|z8 U U c5<|au U c6 U<|z8 U U U<|aq U c5 U<|au U U U<|ab U<|z6<|zi<|zm (x:=.bool _) U<|congrArg AV.bool ?_;rw[qt];simp only[w6,fT];simp_all
  ·refine z7 U U c5<|z7 U U c5<|z7 U U c5<|z7 U U c5<|z7 U U c5<|z7 U U c5<|zk U U<|zk U U<|zk U U<|zk U U<|zk U U<|z7 U U c5<|z8 U U U<|au U c5 U<|au U U U<|ab U<|z6<|zi<|zm (x:=.bool _) U<|congrArg AV.bool ?_;rw[qt];simp only[w6,fT];simp_all
theorem DK {a shut x:Int} {out:List Bool} {y:Nat} (hx:vV a out shut x) (h0:0≤x) (hy:y<out.length):vV a (out.set y true) shut x:=by
 refine ⟨hx.1,?_⟩
 rcases hx.2 with h|h
 ·exact .inl h
 ·right
  unfold gb at h ⊢
  rw[List.getElem?_set]
  by_cases e:y=x.toNat
  ·rw[if_pos e,if_pos (by omega)];rfl
  ·rw[if_neg e];exact h
set_option maxHeartbeats 4000000 in
theorem Cb (f:ad) (hE:bV f) (hn:f.blocks.length≤1000) (a shut:Int) (h0:0≤a) (ha:a<f.blocks.length):aR prog E 81 [.agg (bD f),.int .i64 a,.int .i64 shut] []
  fun x O=>∃i:Nat,x=.own i f.blocks.length∧O=[(i,.grow 1 4 (cB (kz (ah f) f.blocks.length a shut)))]:=by
 have hG:=hE.grph
 obtain ⟨n,hnn⟩:∃n,f.blocks.length=n:=⟨_,rfl⟩
 rw[hnn] at hG hn ha ⊢
 refine zq func81 U (by decide) U<|ae<|y9 (cs:=_) U U U<|bF U<|z6<|ae<|ao jg U Z6 U U<|aI Zd U<|ar jk U<|ap U<|z6<|ae<|aa U<|az.makeB (m:=n) jx type4 U U U U U (by omega) (by omega) (by show (1:Int)*_≤_;omega) (by omega)<|fun i16=>za (gZ U)<|z6<|zd<|ae<|ab U<|z6<|zj<|y8 (γ:=List Bool × Bool) [1,2,3,7,8] (fun g=>[(9,.bool g.2)]) (fun g=>[(i16,.grow 1 4 (cB g.1))]) (fun g=>FrS (ah f) a shut n g.1∧(g.2=false→zI (ah f) a shut g.1 n)) (fun g=>2*lJ g.1+(if g.2=true then 1 else 0)) (List.replicate n false,true) aH aD (⟨FrS.begin _ _ _ _,fun h=>by cases h⟩) ?_
 rintro ⟨o0,again⟩ ⟨hS0,hfin⟩
 try dsimp only at *
 refine zd<|ae<|aj U<|z6<|zy U (fun ca=>?_) (fun ca=>?_)
 ·have ca:again=true:=by simpa using ca
  subst ca
  refine zg<|zj<|ae<|ab U<|z6<|ae<|aa U<|aa U<|z6<|zj<|y8 (γ:=Nat × List Bool × Bool) [1,2,3,7,8,18] (fun g=>[(19,.int .i64 g.1),(9,.bool g.2.2)]) (fun g=>[(i16,.grow 1 4 (cB g.2.1))]) (fun g=>g.1≤n∧F8 (ah f) a shut n o0 g.2.1 g.2.2∧(g.2.2=false→zI (ah f) a shut g.2.1 g.1)) (fun g=>n - g.1) (0,o0,false) cV aD (⟨qn _,⟨hS0,Nat.le_refl _,fun h=>(by cases h),fun _=>U⟩,fun _ x hx=>by omega⟩) ?_
  rintro ⟨x,out,ag⟩ ⟨hx,hR,hcl⟩
  try dsimp only at *
  have hol:=hR.len
  refine ae<|ax U U<|z6<|zd<|zu U (fun cx=>?_) (fun cx=>?_)
  ·have hx2:x<n:=by omega
   have hgx:out[x]?=some (gb out (x:Int)):=jA (by omega)
   refine zg<|zd<|zj<|ae<|aa U<|ap U<|z6<|zd<|zd<|ya (γ:=Bool) [1,2,3,7,8,9,10,18,19] (fun u=>[(36,.bool u)]) (fun u=>[(i16,.grow 1 4 (cB out))]) (fun u=>u=!decide (vV a out shut x)) ?_ (fun _ _ h=>h) ?_
   ·refine aO<|aa U<|aa U<|ai U U<|aj U<|zo (s:=25) U (fun c7=>?_) (fun c7=>?_)
    ·refine z7 U U c7<|z7 U U c7<|z7 U U c7<|z7 U U c7<|zk U U<|zk U U<|zk U U<|zk U U<|zk U U<|z7 U U c7<|aq U c7 U<|z6 ?_
     exact ⟨_,n8,aH,aD,by simp_all[vV]⟩
    ·refine z8 U U c7<|aa U<|z8 U U c7<|aa U<|z8 U U c7<|aM U U<|z8 U U c7<|aj U<|zo (s:=29) U (fun c8=>?_) (fun c8=>?_)
     ·refine z8 U U c8<|bz U<|z8 U U c8<|aa U<|z8 U U c8<|za (yp (j:=x) jx Zc U U U ⟨_,.head⟩ (by first|rfl|(simp[aQ,aW];done)|(simp[aQ,aW];omega)) hx2)<|z8 U U c8<|za (Gv.loadB (j:=x) Y7 U ⟨_,.head⟩ hgx)<|z8 U U c8<|aB U<|z8 U U c7<|aq U c8 U<|au U c7 U<|z6 ?_
      exact ⟨_,n8,aH,aD,by simp_all[vV]⟩
     ·refine z7 U U c8<|z7 U U c8<|z7 U U c8<|z7 U U c8<|z7 U U c8<|z8 U U c7<|au U c8 U<|au U c7 U<|z6 ?_
      exact ⟨_,n8,aH,aD,by simp_all[vV]⟩
   ·rintro u hu
    subst hu
    refine zy U (fun co=>?_) (fun co=>?_)
    ·have hno:¬vV a out shut x:=by simpa using co
     refine y7<|aO<|aC U U<|aa U<|z6 ?_
     exact ⟨(x+1,out,ag),nu,cV,aD,⟨hx2,hR,fun h z hz hok=>by rcases Nat.lt_succ_iff_lt_or_eq.1 hz with h1|h1;exact hcl h z h1 hok;exact absurd (h1▸hok) hno⟩,by dsimp only;omega⟩
    ·have hok:vV a out shut x:=by simpa using co
     refine zg<|ae<|aa U<|aa U<|z6<|zj<|y8 (γ:=Nat × List Bool × Bool) [1,2,3,7,8,10,18,19,37] (fun g=>[(38,.int .i64 g.1),(9,.bool g.2.2)]) (fun g=>[(i16,.grow 1 4 (cB g.2.1))]) (fun g=>g.1≤n∧F8 (ah f) a shut n o0 g.2.1 g.2.2∧vV a g.2.1 shut x∧(g.2.2=false→zI (ah f) a shut g.2.1 x∧F7 (ah f) a shut g.2.1 x g.1)) (fun g=>n - g.1) (0,out,ag) cV aD (⟨qn _,hR,hok,fun h=>⟨hcl h,fun _ y hy=>by omega⟩⟩) ?_
     rintro ⟨y,out,ag⟩ ⟨hy,hR,hok,hcl⟩
     try dsimp only at *
     have hol:=hR.len
     refine ae<|ax U U<|z6<|zd<|zu U (fun cy=>?_) (fun cy=>?_)
     ·have hy2:y<n:=by omega
      have hgy:out[y]?=some (gb out (y:Int)):=jA (by omega)
      have hstep:(ag=false→(y:Int)∈ah f x→(y:Int)≠shut→gb out y=true)→(ag=false→zI (ah f) a shut out x∧F7 (ah f) a shut out x (y+1)):=fun h1 h2=>⟨(hcl h2).1,fun ho z hz he hs=>by
       rcases Nat.lt_succ_iff_lt_or_eq.1 hz with h3|h3
       ·exact (hcl h2).2 ho z h3 he hs
       ·subst h3;exact h1 h2 he hs⟩
      refine zg<|zd<|zj<|ae<|aa U<|ap U<|z6<|ae<|aa U<|aa U<|aM U U<|aj U<|zo (s:=44) U (fun c1=>?_) (fun c1=>?_)
      ·have d1:(y:Int)≠shut:=by simpa using c1
       refine z8 U U c1<|bz U<|z8 U U c1<|aa U<|z8 U U c1<|za (yp (j:=y) jx Zc U U U ⟨_,.head⟩ (by first|rfl|(simp[aQ,aW];done)|(simp[aQ,aW];omega)) hy2)<|z8 U U c1<|za (Gv.loadB (j:=y) Y7 U ⟨_,.head⟩ hgy)<|z8 U U c1<|aB U<|aq U c1 U<|aj U<|zo (s:=51) U (fun c2=>?_) (fun c2=>?_)
       ·have d2:gb out (y:Int)=false:=by simpa using c2
        refine z8 U U c2<|ac ju jf U U<|z8 U U c2<|aa U<|z8 U U c2<|aa U<|z8 U U c2<|ze (jH f (by omega) (x:Int) (y:Int) (by omega) (by omega)) U<|aq U c2 U<|z6<|zy U (fun c3=>?_) (fun c3=>?_)
        ·have d3:(y:Int)∈ah f x:=by simpa using c3
         refine ae<|bz U<|aa U<|za (yp (j:=y) jx Zc U U U ⟨_,.head⟩ (by first|rfl|(simp[aQ,aW];done)|(simp[aQ,aW];omega)) hy2)<|qg (j:=y) Zc U U .head (by first|omega|(simp;omega))<|z6<|aO<|ab U<|z6<|aO<|aC U U<|aa U<|z6 ?_
         exact ⟨(y+1,out.set y true,true),n8,cV,aD,⟨hy2,hR.hit hok d3 d1 hy2 d2,DK hok (by omega) (by omega),fun h=>by cases h⟩,by dsimp only;omega⟩
        ·have d3:¬(y:Int)∈ah f x:=by simpa using c3
         refine zg<|aO<|aC U U<|aa U<|z6 ?_
         exact ⟨(y+1,out,ag),n8,cV,aD,⟨hy2,hR,hok,hstep fun _ h _=>absurd h d3⟩,by dsimp only;omega⟩
       ·have d2:gb out (y:Int)=true:=by simpa using c2
        refine z7 U U c2<|z7 U U c2<|z7 U U c2<|z7 U U c2<|au U c2 U<|z6<|yg U U<|zg<|aO<|aC U U<|aa U<|z6 ?_
        exact ⟨(y+1,out,ag),n8,cV,aD,⟨hy2,hR,hok,hstep fun _ _ _=>d2⟩,by dsimp only;omega⟩
      ·have d1:(y:Int)=shut:=by simpa using c1
       refine z7 U U c1<|z7 U U c1<|z7 U U c1<|z7 U U c1<|z7 U U c1<|au U c1 U<|aj U<|z7 U U U<|z7 U U U<|z7 U U U<|z7 U U U<|au U U U<|z6<|yg U U<|zg<|aO<|aC U U<|aa U<|z6 ?_
       exact ⟨(y+1,out,ag),n8,cV,aD,⟨hy2,hR,hok,hstep fun _ _ h=>absurd d1 h⟩,by dsimp only;omega⟩
     ·have hyn:y=n:=by omega
      refine y7<|aO<|aC U U<|aa U<|z6 ?_
      exact ⟨(x+1,out,ag),nu,cV,aD,⟨hx2,hR,fun h z hz ho=>by rcases Nat.lt_succ_iff_lt_or_eq.1 hz with h1|h1;exact (hcl h).1 z h1 ho;subst h1;exact fun y2 he hs=>(by by_cases hlt:y2<n;exact (hcl h).2 ho y2 (by omega) he hs;exact absurd (hG.rng z (by omega) (by omega) _ he).2 (by omega))⟩,by dsimp only;omega⟩
  ·have hxn:x=n:=by omega
   subst hxn
   refine y7 ?_
   exact ⟨(out,ag),iO,aH,aD,⟨hR.toFrS,hcl⟩,by dsimp only;have h1:=hR.less;have h2:=hR.more;cases ag;simp;omega;have:=h2 rfl;simp;omega⟩
 ·have ca:again=false:=by simpa using ca
  rw[hS0.eq hG ⟨h0,ha⟩ (hfin ca)]
  refine y7<|ae<|bz U<|za (gZ U)<|z6<|zi<|zm (x:=.own _ _) U ?_
  exact ⟨i16,rfl,rfl⟩
theorem gr (f:ad) (hE:bV f) (hn:f.blocks.length≤1000) (shut:Int):aK prog E 41 [.agg (bD f),.int .i64 shut] (.fro 1 ((ej (ah f) f.blocks.length shut).map nF)):=by
 have hpos:=hE.grph.npos
 refine zq func41 U (by decide) U<|ae<|y9 (cs:=_) U U U<|bF U<|z6<|ae<|ac ju jf U U<|aa U<|zr U (zh (.rest _)) (Cb f hE hn 0 shut (Int.le_refl _) (by omega)) ?_
 rintro r8 O8 ⟨i8,rfl,rfl⟩
 refine za (gZ U)<|z6<|ae<|bz U<|aa U<|aM U U<|za (yp (j:=0) jx Zc U U U ⟨_,.head⟩ (by rw[aW,kZ]) hpos)<|qg (j:=0) Zc U U .head (by rw[kZ];exact hpos)<|z6<|ae<|bz U<|za (gZ U)<|z6 ?_
 rw[show (!decide (shut=0))=decide (shut≠0) by simp,zK]
 refine y3 (aX.knowB (t:=4) U .head (lK _ _ _))<|zi<|zm (x:=.fro _ _) U ?_
 rfl
end Go.Proofs.YtdilpodccjlkgaaGreatDoor
namespace Go.Proofs.YtdilpodccjlkgaaGreatDoor
open Go.Proofs.Tryz
open Go.Proofs Go.Lib Go.Shelf Go.RowKit
variable {E:World}
set_option maxRecDepth 20000
set_option maxHeartbeats 4000000 in
theorem jI (f:ad) (hf:small f) (v:Nat):aK prog E 42 [.agg (bD f),.int .i64 v] (.tup [.int .i64 (aL f v).1,.int .i64 (aL f v).2]):=by
 have hn:=hf.2.2.1
 refine zq func42 U (by decide) U<|ae<|y9 (cs:=_) U U U<|ap U<|ap U<|z6<|zd<|ae<|ao jg U Z6 U U<|aI Zd U<|ar jk U<|aa U<|z6<|zj<|y8 (γ:=Nat) [1,13,14] (fun k=>[(15,.int .i64 k)]) (fun k=>[]) (fun k=>k≤f.blocks.length∧jX v (dz f k)=0) (fun k=>f.blocks.length - k) 0 aH aD (⟨qn _,U⟩) ?_
 rintro k ⟨hk,hc⟩
 refine ae<|ax U U<|z6<|zd<|zu U (fun ck=>?_) (fun ck=>?_)
 ·have hk2:k<f.blocks.length:=by simp at ck;omega
  obtain ⟨b,hbk⟩:∃b,f.blocks[k]=b:=⟨_,rfl⟩
  have hget:f.blocks[k]?=some b:=by rw[qk hk2,hbk]
  have hmem:b∈f.blocks:=hbk▸qo hk2
  obtain ⟨hb0,hb1,hb2,hb3,hb4⟩:=hf.2.2.2.2 b hmem
  refine zg<|zd<|zj<|ae<|aa U<|za (bh k jk Z0 U U U hget)<|ac Yk Z0 U U<|y6 (cs:=[.str ⟨#[]⟩,.raw (.slice none 0 0),.raw (.slice none 0 0),.int .i64 0,.int .i64 0,.int .i64 0,.int .i64 0]) Zn U U<|fun i7=>ap U<|y1 Z0 U U U U U U .head U<|zf (yf (t:=7) U .head)<|z6<|zd<|ae<|ao jj U Yg U U<|aI Ys U<|ar Z5 U<|aa U<|z6<|zj<|y8 (γ:=Nat) [1,6,7,13,14,15,21,22] (fun j=>[(23,.int .i64 j)]) (fun j=>[]) (fun j=>j≤b.phis.length∧jX v (dz f k++dC k (b.phis.take j))=0) (fun j=>b.phis.length - j) 0 aH aD (⟨qn _,by rw[show dC k (b.phis.take 0)=[] from rfl,qw];exact hc⟩) ?_
  rintro j ⟨hj,hcj⟩
  refine ae<|ax U U<|z6<|zd<|zu U (fun cj=>?_) (fun cj=>?_)
  ·have hj2:j<b.phis.length:=by simp at cj;omega
   have hpre:=Dt hk2 hbk hj2
   have hsc:=k4 v (dz f k++dC k (b.phis.take j)) b.phis[j].dst ((k:Int),(-1:Int))
   rw[qm,←kY k hj2] at hsc
   refine zg<|zd<|zj<|ae<|za (bh j Z5 Zf U U U (qk hj2))<|ac X0 Zf U U<|y6 (cs:=[.int .i64 0,.raw (.slice none 0 0),.raw (.slice none 0 0)]) Yc U U<|fun i9=>y1 Zf U U U U U U .head U<|zf (yf (t:=9) U .head)<|z6<|ae<|ao Z3 U j6 U U<|ay j7 U<|aa U<|ai U U<|z6<|zy U (fun cd=>?_) (fun cd=>?_)
   ·have hd:b.phis[j].dst=(v:Int):=by simpa using cd
    rw[hd] at hpre
    refine ae<|aa U<|ap U<|ap U<|z6<|zi<|q7 (x:=.int _ _) (y:=.int _ _) U U ?_
    rw[rD hpre hcj]
   ·have hd:¬b.phis[j].dst=(v:Int):=by simpa using cd
    refine zg<|aO<|aC U U<|aa U<|z6 ?_
    exact ⟨j+1,pS,aH,aD,⟨hj2,by rw[hsc,if_neg hd,hcj]⟩,by omega⟩
  ·have hjn:j=b.phis.length:=by simp at cj;omega
   subst hjn
   rw[qp] at hcj
   refine y7<|ae<|ao jj U Zo U U<|aI Zx U<|ar jz U<|aa U<|z6<|zj<|y8 (γ:=Nat) [1,6,13,14,15,34,35] (fun j=>[(36,.int .i64 j)]) (fun j=>[]) (fun j=>j≤b.insts.length∧jX v (dz f k++dC k b.phis++f6 k (b.insts.take j))=0) (fun j=>b.insts.length - j) 0 aH aD (⟨qn _,by rw[show f6 k (b.insts.take 0)=[] from rfl,qw];exact hcj⟩) ?_
   rintro j ⟨hj,hci⟩
   refine ae<|ax U U<|z6<|zd<|zu U (fun cj=>?_) (fun cj=>?_)
   ·have hj2:j<b.insts.length:=by simp at cj;omega
    have hev:=iF k hj2
    refine zg<|zd<|zj<|ae<|aa U<|za (bh j jz jv U U U (qk hj2))<|ac Zk jv U U<|y6 (cs:=[.int .i64 0,.int .i64 0,.raw (.slice none 0 0),.int .i64 0]) Z4 U U<|fun i11=>ap U<|y1 jv U U U U U U .head U<|zf (yf (t:=11) U .head)<|z6<|ae<|ao j5 U j6 U U<|ay j7 U<|aa U<|ai U U<|z6<|zy U (fun cd=>?_) (fun cd=>?_)
    ·have hd:b.insts[j].dst=(v:Int):=by simpa using cd
     have hpre:=BD hk2 hbk hj2 (by omega)
     rw[hd] at hpre
     refine ae<|aa U<|aa U<|ap U<|ap U<|z6<|zi<|q7 (x:=.int _ _) (y:=.int _ _) U U ?_
     rw[rD hpre hci]
    ·have hd:¬b.insts[j].dst=(v:Int):=by simpa using cd
     have hsc:jX v (dz f k++dC k b.phis++f6 k (b.insts.take (j+1)))=0:=by
      rw[hev]
      split
      ·rw[←qm,k4,if_neg hd,hci]
      ·rw[qw];exact hci
     refine zg<|aO<|aC U U<|aa U<|z6 ?_
     exact ⟨j+1,lf,aH,aD,⟨hj2,hsc⟩,by omega⟩
   ·have hjn:j=b.insts.length:=by simp at cj;omega
    subst hjn
    rw[qp] at hci
    refine y7<|aO<|aC U U<|aa U<|z6 ?_
    exact ⟨k+1,de,aH,aD,⟨hk2,by rw[fR hk2,hbk,oZ,←qm];exact hci⟩,by omega⟩
 ·have hkn:k=f.blocks.length:=by simp at ck;omega
  subst hkn
  refine y7<|ae<|ap U<|ap U<|z6<|zi<|q7 (x:=.int _ _) (y:=.int _ _) U U ?_
  rw[vY hc]
set_option maxHeartbeats 4000000 in
theorem nK (f:ad) (hf:small f) (v:Nat):aK prog E 79 [.agg (bD f),.int .i64 v] (.int .i64 (bu f v).length):=by
 have hn:=hf.2.2.1
 refine zq func79 U (by decide) U<|ae<|y9 (cs:=_) U U U<|ap U<|z6<|ae<|ap U<|z6<|zd<|ae<|ao jg U Z6 U U<|aI Zd U<|ar jk U<|aa U<|z6<|zj<|y8 (γ:=Nat) [1,13,14] (fun k=>[(15,.int .i64 k),(5,.int .i64 (jX v (dz f k)))]) (fun k=>[]) (fun k=>k≤f.blocks.length) (fun k=>f.blocks.length - k) 0 cV aD (qn _) ?_
 rintro k hk
 refine ae<|ax U U<|z6<|zd<|zu U (fun ck=>?_) (fun ck=>?_)
 ·have hk2:k<f.blocks.length:=by simp at ck;omega
  obtain ⟨b,hbk⟩:∃b,f.blocks[k]=b:=⟨_,rfl⟩
  have hget:f.blocks[k]?=some b:=by rw[qk hk2,hbk]
  have hmem:b∈f.blocks:=hbk▸qo hk2
  obtain ⟨hb0,hb1,hb2,hb3,hb4⟩:=hf.2.2.2.2 b hmem
  have hel:=hf.evs hk
  refine zg<|zd<|zj<|ae<|za (bh k jk Z0 U U U hget)<|ac Yk Z0 U U<|y6 (cs:=[.str ⟨#[]⟩,.raw (.slice none 0 0),.raw (.slice none 0 0),.int .i64 0,.int .i64 0,.int .i64 0,.int .i64 0]) Zn U U<|fun i7=>y1 Z0 U U U U U U .head U<|zf (yf (t:=7) U .head)<|z6<|zd<|ae<|ao jj U Yg U U<|aI Ys U<|ar Z5 U<|aa U<|z6<|zj<|y8 (γ:=Nat) [1,7,13,14,15,20,21] (fun j=>[(22,.int .i64 j),(5,.int .i64 (jX v (dz f k++dC k (b.phis.take j))))]) (fun j=>[]) (fun j=>j≤b.phis.length) (fun j=>b.phis.length - j) 0 ⟨U,(by rw[show dC k (b.phis.take 0)=[] from rfl,qw];rfl),trivial⟩ aD (qn _) ?_
  rintro j hj
  refine ae<|ax U U<|z6<|zd<|zu U (fun cj=>?_) (fun cj=>?_)
  ·have hj2:j<b.phis.length:=by simp at cj;omega
   have hsc:=k4 v (dz f k++dC k (b.phis.take j)) b.phis[j].dst ((k:Int),(-1:Int))
   rw[qm,←kY k hj2] at hsc
   have hcl:jX v (dz f k++dC k (b.phis.take j))≤2001000:=by
    have h1:=xl v (dz f k++dC k (b.phis.take j))
    have h2:(dC k (b.phis.take j)).length≤1000:=by unfold dC;rw[qr,List.length_take];omega
    rw[qq] at h1;omega
   refine zg<|zd<|zj<|ae<|za (bh j Z5 Zf U U U (qk hj2))<|ac X0 Zf U U<|y6 (cs:=[.int .i64 0,.raw (.slice none 0 0),.raw (.slice none 0 0)]) Yc U U<|fun i9=>y1 Zf U U U U U U .head U<|zf (yf (t:=9) U .head)<|z6<|ae<|ao Z3 U j6 U U<|ay j7 U<|aa U<|ai U U<|z6<|zy U (fun cd=>?_) (fun cd=>?_)
   ·have hd:b.phis[j].dst=(v:Int):=by simpa using cd
    rw[if_pos hd] at hsc
    refine aO<|aa U<|aC U U<|ap U<|z6<|aO<|aC U U<|aa U<|z6 ?_
    exact ⟨j+1,lf,⟨rfl,(by rw[hsc];rfl),trivial⟩,aD,hj2,by omega⟩
   ·have hd:¬b.phis[j].dst=(v:Int):=by simpa using cd
    rw[if_neg hd] at hsc
    refine zg<|aO<|aC U U<|aa U<|z6 ?_
    exact ⟨j+1,lf,⟨rfl,(by rw[hsc];rfl),trivial⟩,aD,hj2,by omega⟩
  ·have hjn:j=b.phis.length:=by simp at cj;omega
   subst hjn
   rw[qp]
   refine y7<|ae<|ao jj U Zo U U<|aI Zx U<|ar jz U<|aa U<|z6<|zj<|y8 (γ:=Nat) [1,13,14,15,34,35] (fun j=>[(36,.int .i64 j),(5,.int .i64 (jX v (dz f k++dC k b.phis++f6 k (b.insts.take j))))]) (fun j=>[]) (fun j=>j≤b.insts.length) (fun j=>b.insts.length - j) 0 ⟨U,(by rw[show f6 k (b.insts.take 0)=[] from rfl,qw];rfl),trivial⟩ aD (qn _) ?_
   rintro j hj
   refine ae<|ax U U<|z6<|zd<|zu U (fun cj=>?_) (fun cj=>?_)
   ·have hj2:j<b.insts.length:=by simp at cj;omega
    have hcl:jX v (dz f k++dC k b.phis++f6 k (b.insts.take j))≤2002000:=by
     have h1:=xl v (dz f k++dC k b.phis++f6 k (b.insts.take j))
     have h2:(dC k b.phis).length≤1000:=by unfold dC;rw[qr];omega
     have h3:=o5 k (b.insts.take j)
     rw[List.length_take] at h3
     rw[qq,qq] at h1;omega
    have hsc:jX v (dz f k++dC k b.phis++f6 k (b.insts.take (j+1)))=jX v (dz f k++dC k b.phis++f6 k (b.insts.take j))+if b.insts[j].dst=(v:Int) then 1 else 0:=by
     rw[iF k hj2]
     split
     ·rw[←qm,k4]
     ·rw[qw,if_neg (by omega)];rfl
    refine zg<|zd<|zj<|ae<|za (bh j jz jv U U U (qk hj2))<|ac Zk jv U U<|y6 (cs:=[.int .i64 0,.int .i64 0,.raw (.slice none 0 0),.int .i64 0]) Z4 U U<|fun i11=>y1 jv U U U U U U .head U<|zf (yf (t:=11) U .head)<|z6<|ae<|ao j5 U j6 U U<|ay j7 U<|aa U<|ai U U<|z6<|zy U (fun cd=>?_) (fun cd=>?_)
    ·have hd:b.insts[j].dst=(v:Int):=by simpa using cd
     rw[if_pos hd] at hsc
     refine aO<|aa U<|aC U U<|ap U<|z6<|aO<|aC U U<|aa U<|z6 ?_
     exact ⟨j+1,nu,⟨rfl,(by rw[hsc];rfl),trivial⟩,aD,hj2,by omega⟩
    ·have hd:¬b.insts[j].dst=(v:Int):=by simpa using cd
     rw[if_neg hd] at hsc
     refine zg<|aO<|aC U U<|aa U<|z6 ?_
     exact ⟨j+1,nu,⟨rfl,(by rw[hsc];rfl),trivial⟩,aD,hj2,by omega⟩
   ·have hjn:j=b.insts.length:=by simp at cj;omega
    subst hjn
    rw[qp]
    refine y7<|aO<|aC U U<|aa U<|z6 ?_
    exact ⟨k+1,de,⟨rfl,(by rw[fR hk2,hbk,oZ,←qm];rfl),trivial⟩,aD,hk2,by omega⟩
 ·have hkn:k=f.blocks.length:=by simp at ck;omega
  subst hkn
  refine y7<|ae<|aa U<|ap U<|z6<|zi<|zm (x:=.int _ _) U ?_
  rw[uv]
theorem qF (f:ad) (hE:bV f) (hf:small f) (v:Nat) (b a:Int) (h0:0≤b) (hb:b<f.blocks.length):aK prog E 80 [.agg (bD f),.int .i64 v,.int .i64 b,.int .i64 a] (.bool (el f (aL f v) b a)):=by
 have hn:=hf.2.2.1
 refine zq func80 U (by decide) U<|ae<|y9 (cs:=_) U U U<|ab U<|z6<|ae<|ac ju jf U U<|aa U<|ze (jI f hf v) U<|bR U<|bJ U U<|bJ U U<|ap U<|ap U<|z6<|zd<|zj<|ae<|aa U<|ax U U<|ab U<|z6<|zu U (fun c0=>?_) (fun c0=>?_)
 ·refine ae<|ab U<|z6<|zi<|zm (x:=.bool _) U ?_
  rw[el,if_pos c0]
 ·refine ae<|aa U<|aa U<|ai U U<|ab U<|z6<|zy U (fun c1=>?_) (fun c1=>?_)
  ·have d1:(aL f v).1=b:=by simpa using c1
   refine ae<|aa U<|aa U<|ax U U<|ab U<|z6<|zi<|zm (x:=.bool _) U ?_
   rw[el,if_neg c0,if_pos d1]
  ·have d1:¬(aL f v).1=b:=by simpa using c1
   have hg:=jB (E:=ah f) (n:=f.blocks.length) (k:=b.toNat) (shut:=(aL f v).1) (by omega)
   rw[show ((b.toNat:Nat):Int)=b by omega] at hg
   refine zg<|ae<|ac ju jf U U<|aa U<|ze (gr f hE hn (aL f v).1) U<|aa U<|za (bh b.toNat jx Zc U U (by omega) hg)<|za (yn (c:=.bool _) Y7 U)<|aB U<|ab U<|z6<|zi<|zm (x:=.bool _) U ?_
   rw[el,if_neg c0,if_neg d1]
end Go.Proofs.YtdilpodccjlkgaaGreatDoor
namespace Go.Proofs.YtdilpodccjlkgaaGreatDoor
open Go.Proofs.Tryz
open Go.Proofs Go.Lib Go.Shelf Go.RowKit
variable {E:World}
set_option maxRecDepth 20000
theorem xF {f:ad} (hE:bV f) (i:Nat) (p:e7):CC f i p=true↔xa f i p.from_:=by
 unfold CC
 rw[w6,mM,yJ hE]
theorem wm {l:List Int} (hn:l.Nodup) {i:Int} (h:i∈l):(l.filter fun c=>decide (c=i))=[i]:=by
 induction l with
 |nil=>cases h
 |cons c l ih=>
  obtain ⟨h1,h2⟩:=List.nodup_cons.1 hn
  by_cases e:c=i
  ·subst e
   have:(l.filter fun x=>decide (x=c))=[]:=List.filter_eq_nil_iff.2 fun x hx=>by
    simp only[w6];rintro rfl;exact h1 hx
   simp[this]
  ·rw[List.filter_cons_of_neg (by simpa using e)]
   rcases List.mem_cons.1 h with h3|h3
   ·exact absurd h3.symm e
   ·exact ih h2 h3
theorem wn {f:ad} (k:Nat) (i:Int):(bd (ah f) (k+1) i).length=(bd (ah f) k i).length+if i∈ah f k then 1 else 0:=by
 rw[kp,qq,qr]
 have hn:=go f k
 congr 1
 by_cases h:i∈ah f k
 ·rw[if_pos h]
  have h1:=wm hn h
  rw[h1];rfl
 ·rw[if_neg h]
  have h1:((ah f k).filter fun c=>decide (c=i))=[]:=List.filter_eq_nil_iff.2 fun c hc=>by
   simp only[w6];rintro rfl;exact h hc
  rw[h1];rfl
set_option maxHeartbeats 4000000 in
theorem pD (f:ad) (hE:bV f) (hf:small f) (hS:b8 f):aK prog E 78 [.agg (bD f)] (.bool (di f)):=by
 have hn:=hf.2.2.1
 refine zq func78 U (by decide) U<|ae<|y9 (cs:=_) U U U<|ab U<|z6<|zd<|ae<|ao jg U Z6 U U<|aI Zd U<|ar jk U<|aa U<|z6<|zj<|y8 (γ:=Nat) [1,13,14] (fun i=>[(15,.int .i64 i)]) (fun i=>[]) (fun i=>i≤f.blocks.length∧(List.range i).all (Bu f)=true) (fun i=>f.blocks.length - i) 0 aH aD (⟨qn _,U⟩) ?_
 rintro i ⟨hi,hall⟩
 refine ae<|ax U U<|z6<|zd<|zu U (fun ci=>?_) (fun ci=>?_)
 ·have hi2:i<f.blocks.length:=by simp at ci;omega
  obtain ⟨b,hbi⟩:∃b,f.blocks[i]=b:=⟨_,rfl⟩
  have hget:f.blocks[i]?=some b:=by rw[qk hi2,hbi]
  have hmem:b∈f.blocks:=hbi▸qo hi2
  obtain ⟨hb0,hb1,hb2,hb3,hb4⟩:=hf.2.2.2.2 b hmem
  have hPh:=(hS.2.2.2.2.2 b hmem).1
  refine zg<|zd<|zj<|ae<|aa U<|za (bh i jk Z0 U U U hget)<|ac Yk Z0 U U<|y6 (cs:=[.str ⟨#[]⟩,.raw (.slice none 0 0),.raw (.slice none 0 0),.int .i64 0,.int .i64 0,.int .i64 0,.int .i64 0]) Zn U U<|fun i4=>ap U<|y1 Z0 U U U U U U .head U<|zf (yf (t:=4) U .head)<|z6<|ae<|ao jj U Yg U U<|aI Ys U<|ar Z5 U<|aa U<|z6<|zj<|y8 (γ:=Nat) [1,3,13,14,15,21,22] (fun j=>[(23,.int .i64 j)]) (fun j=>[]) (fun j=>j≤b.phis.length∧(b.phis.take j).all (CC f i)=true) (fun j=>b.phis.length - j) 0 aH aD (⟨qn _,U⟩) ?_
  rintro j ⟨hj,hjall⟩
  refine ae<|ax U U<|z6<|zd<|zu U (fun cj=>?_) (fun cj=>?_)
  ·have hj2:j<b.phis.length:=by simp at cj;omega
   obtain ⟨p,hp⟩:∃p,b.phis[j]=p:=⟨_,rfl⟩
   have hpm:p∈b.phis:=hp▸qo hj2
   have hpl:=(hb3 p hpm).2
   have hpr:∀c∈p.from_,0≤c∧c<f.blocks.length:=fun c hc=>by have:=List.all_eq_true.1 (hPh p hpm).2.2.2.2 c hc;simpa [eO] using this
   have hbad:¬xa f i p.from_→di f=false:=fun h=>dP hi2 (by rw[kX hget];exact Bool.eq_false_iff.2 (dh hj2 (by rw[hp];exact Bool.eq_false_iff.2 fun h2=>h ((xF hE i p).1 h2))))
   refine zg<|zd<|zj<|ae<|za (bh j Z5 Zf U U U (by rw[qk hj2,hp])) ?_
   refine ac X0 Zf U U<|y6 (cs:=[.int .i64 0,.raw (.slice none 0 0),.raw (.slice none 0 0)]) Yc U U<|fun i6=>y1 Zf U U U U U U .head U<|zf (yf (t:=6) U .head)<|z6<|ae<|ap U<|z6<|zd<|ae<|ao jg U Z6 U U<|aI Zd U<|ar jk U<|aa U<|z6<|zj<|y8 (γ:=Nat) [1,3,6,13,14,15,21,22,23,29] (fun a=>[(30,.int .i64 a),(7,.int .i64 (bd (ah f) a i).length)]) (fun a=>[]) (fun a=>a≤f.blocks.length) (fun a=>f.blocks.length - a) 0 cV aD (qn _) ?_
   rintro a ha
   refine ae<|ax U U<|z6<|zd<|zu U (fun ca=>?_) (fun ca=>?_)
   ·have ha2:a<f.blocks.length:=by simp at ca;omega
    have hone:=wn (f:=f) a i
    have hle:=gI f i a
    refine zg<|zd<|zj<|ae<|aa U<|ap U<|z6<|ae<|ac ju jf U U<|aa U<|aa U<|ze (jH f hn (a:Int) (i:Int) (by omega) (by omega)) U<|z6<|zy U (fun cl=>?_) (fun cl=>?_)
    ·have hl:(i:Int)∈ah f a:=by simpa using cl
     rw[if_pos hl] at hone
     refine aO<|aa U<|aC U U<|ap U<|z6<|aO<|aC U U<|aa U<|z6 ?_
     exact ⟨a+1,nv,⟨rfl,(by rw[hone];rfl),trivial⟩,aD,ha2,by omega⟩
    ·have hl:¬(i:Int)∈ah f a:=by simpa using cl
     rw[if_neg hl] at hone
     refine zg<|aO<|aC U U<|aa U<|z6 ?_
     exact ⟨a+1,nv,⟨rfl,(by rw[hone];rfl),trivial⟩,aD,ha2,by omega⟩
   ·have han:a=f.blocks.length:=by simp at ca;omega
    subst han
    refine y7<|zd<|ae<|aa U<|ao Z3 U j8 U U<|aI j9 U<|ar wz U<|aM U U<|z6<|zy U (fun cn=>?_) (fun cn=>?_)
    ·have hne:¬(bd (ah f) f.blocks.length i).length=p.from_.length:=by have h0:¬((bd (ah f) f.blocks.length i).length:Int)=(p.from_.length:Int):=(by simpa using cn);omega
     refine ae<|ab U<|z6<|zi<|zm (x:=.bool _) U ?_
     rw[hbad fun h=>hne h.1]
    ·have hne:(bd (ah f) f.blocks.length i).length=p.from_.length:=by have h0:((bd (ah f) f.blocks.length i).length:Int)=(p.from_.length:Int):=(by simpa using cn);omega
     refine zg<|ae<|ao Z3 U j8 U U<|aI j9 U<|ar wz U<|aa U<|z6<|zj<|y8 (γ:=Nat) [1,3,6,13,14,15,21,22,23,46,47] (fun k=>[(48,.int .i64 k)]) (fun k=>[]) (fun k=>k≤p.from_.length∧∀q (h:q<p.from_.length),q<k→(i:Int)∈ah f p.from_[q]∧p.from_[q] ∉ p.from_.take q) (fun k=>p.from_.length - k) 0 aH aD (⟨qn _,fun q h h2=>by omega⟩) ?_
     rintro k ⟨hk,hok⟩
     refine ae<|ax U U<|z6<|zd<|zu U (fun ck=>?_) (fun ck=>?_)
     ·have hk2:k<p.from_.length:=by simp at ck;omega
      obtain ⟨c,hc⟩:∃c,p.from_[k]=c:=⟨_,rfl⟩
      obtain ⟨hc0,hcn⟩:=hpr c (hc▸qo hk2)
      refine zg<|zd<|zj<|ae<|aa U<|za (bh k wz j6 U U U (by rw[qk hk2,hc])) ?_
      refine ay j7 U<|ap U<|ap U<|z6<|zd<|ae<|ac ju jf U U<|aa U<|aa U<|ze (jH f hn c (i:Int) hc0 hcn) U<|aB U<|z6<|zy U (fun cl=>?_) (fun cl=>?_)
      ·have hl:¬(i:Int)∈ah f c:=by simpa using cl
       refine ae<|ab U<|z6<|zi<|zm (x:=.bool _) U ?_
       rw[hbad fun h=>hl (hc▸(h.2 k hk2).1)]
      ·have hl:(i:Int)∈ah f c:=by simpa using cl
       refine zg<|ae<|aa U<|aa U<|z6<|zj<|y8 (γ:=Nat) [1,3,6,10,13,14,15,21,22,23,46,47,48,58] (fun q=>[(59,.int .i64 q)]) (fun q=>[]) (fun q=>q≤k∧c ∉ p.from_.take q) (fun q=>k - q) 0 aH aD (⟨qn _,by simp⟩) ?_
       rintro q ⟨hq,hqn⟩
       refine ae<|ax U U<|z6<|zd<|zu U (fun cq=>?_) (fun cq=>?_)
       ·have hq2:q<k:=by omega
        have hq3:q<p.from_.length:=by omega
        refine zg<|zd<|zj<|ae<|aa U<|ap U<|z6<|ae<|ao Z3 U j8 U U<|aI j9 U<|aa U<|za (bh q wz j6 U U U (qk hq3))<|ay j7 U<|aa U<|ai U U<|z6<|zy U (fun ce=>?_) (fun ce=>?_)
        ·have he:p.from_[q]=c:=by simpa using ce
         have hin:c∈p.from_.take k:=by rw[←he];exact List.mem_take_iff_getElem.2 ⟨q,by omega,rfl⟩
         refine ae<|ab U<|z6<|zi<|zm (x:=.bool _) U ?_
         rw[hbad fun h=>(h.2 k hk2).2 (by rw[hc];exact hin)]
        ·have he:¬p.from_[q]=c:=by simpa using ce
         refine zg<|aO<|aC U U<|aa U<|z6 ?_
         exact ⟨q+1,⟨rfl,rfl,rfl,rfl,rfl,rfl,rfl,rfl,rfl,rfl,rfl,rfl,rfl,rfl,trivial⟩,aH,aD,⟨hq2,fun hm=>by rw[ql hq3] at hm;rcases List.mem_append.1 hm with h1|h1;exact hqn h1;simp at h1;exact he h1.symm⟩,by omega⟩
       ·have hqn2:q=k:=by omega
        subst hqn2
        refine y7<|aO<|aC U U<|aa U<|z6 ?_
        exact ⟨q+1,⟨rfl,rfl,rfl,rfl,rfl,rfl,rfl,rfl,rfl,rfl,rfl,trivial⟩,aH,aD,⟨hk2,fun r hr h2=>by rcases Nat.lt_succ_iff_lt_or_eq.1 h2 with h3|h3;exact hok r hr h3;subst h3;rw[hc];exact ⟨hl,hqn⟩⟩,by omega⟩
     ·have hkn:k=p.from_.length:=by simp at ck;omega
      subst hkn
      refine y7<|aO<|aC U U<|aa U<|z6 ?_
      exact ⟨j+1,lf,aH,aD,⟨hj2,bN hj2 hjall (by rw[hp];exact (xF hE i p).2 ⟨hne,fun q hq=>hok q hq hq⟩)⟩,by omega⟩
  ·have hjn:j=b.phis.length:=by simp at cj;omega
   subst hjn
   rw[qp] at hjall
   refine y7<|aO<|aC U U<|aa U<|z6 ?_
   exact ⟨i+1,de,aH,aD,⟨hi2,cO hall (by rw[kX hget];exact hjall)⟩,by omega⟩
 ·have hin:i=f.blocks.length:=by simp at ci;omega
  subst hin
  refine y7<|ae<|ab U<|z6<|zi<|zm (x:=.bool _) U ?_
  rw[show di f=true from hall]
end Go.Proofs.YtdilpodccjlkgaaGreatDoor
namespace Go.Proofs.YtdilpodccjlkgaaGreatDoor
open Go.Proofs.Tryz
open Go.Proofs Go.Lib Go.Shelf Go.RowKit
variable {E:World}
set_option maxRecDepth 20000
theorem Cc {f:ad} {v:Int} (h:aZ f v=true):∃k:Nat,v=(k:Int)∧k<f.vars.length:=by
 have h1:0≤v∧v<f.vars.length:=by simpa [aZ] using h
 exact ⟨v.toNat,by omega,by omega⟩
theorem gU (f:ad) (hE:bV f) (hf:small f) {v:Int} (hv:aZ f v=true) (b a:Int) (h0:0≤b) (hb:b<f.blocks.length):aK prog E 80 [.agg (bD f),.int .i64 v,.int .i64 b,.int .i64 a] (.bool (el f (aL f v) b a)):=by
 obtain ⟨k,rfl,hk⟩:=Cc hv
 exact qF f hE hf k b a h0 hb
theorem nW {f:ad} {i:Nat} {b:aY} (hi:i<f.blocks.length) (hg:f.blocks[i]?=some b) (h:nH f i b=false):iH f=false:=by
 unfold iH;rw[dP hi (by rw[mT hg];exact h)];simp
set_option maxHeartbeats 8000000 in
theorem pE (f:ad) (hE:bV f) (hf:small f) (hS:b8 f):aK prog E 40 [.agg (bD f)] (.bool (iH f)):=by
 have hn:=hf.2.2.1
 have hv:=hf.1
 have hG:=hE.grph
 refine zq func40 U (by decide) U<|ae<|y9 (cs:=_) U U U<|ab U<|z6<|zd<|ae<|ac ju jf U U<|ze (pD f hE hf hS) U<|aB U<|z6<|zy U (fun cj=>?_) (fun cj=>?_)
 ·have dj:di f=false:=by simpa using cj
  refine ae<|ab U<|z6<|zi<|zm (x:=.bool _) U ?_
  rw[show iH f=false by unfold iH;rw[dj];rfl]
 ·have dj:di f=true:=by simpa using cj
  refine zg<|ae<|ac ju jf U U<|ze (gr f hE hn (-1)) U<|za (kO U)<|z6<|zd<|ae<|ao jg U Y4 U U<|aI Yb U<|ar Z7 U<|aa U<|z6<|zj<|y8 (γ:=Nat) [1,3,23] (fun v=>[(24,.int .i64 v)]) (fun v=>[]) (fun v=>v≤f.vars.length∧(List.range v).all (iG f)=true) (fun v=>f.vars.length - v) 0 aH aD (⟨qn _,U⟩) ?_
  rintro v ⟨hvl,hall⟩
  refine ae<|ax U U<|z6<|zd<|zu U (fun cv=>?_) (fun cv=>?_)
  ·have hv2:v<f.vars.length:=by simp at cv;omega
   have hbad:iG f v=false→iH f=false:=fun h=>by unfold iH;rw[show ll f=false from dP hv2 h];simp
   refine zg<|zd<|zj<|ae<|aa U<|ap U<|z6<|ae<|ac ju jf U U<|aa U<|ze (nK f hf v) U<|ap U<|z6<|ae<|aa U<|bb U U<|aj U<|zo (s:=32) U (fun c1=>?_) (fun c1=>?_)
   ·have d1:1<(bu f v).length:=by have h0:(1:Int)<((bu f v).length:Int):=(by simpa using c1);omega
    refine z7 U U c1<|z7 U U c1<|z7 U U c1<|zk U U<|zk U U<|zk U U<|zk U U<|zk U U<|z7 U U c1<|aq U c1 U<|z6<|yl U U<|ae<|ab U<|z6<|zi<|zm (x:=.bool _) U ?_
    rw[hbad (by unfold iG;simp[d1])]
   ·have d1:¬1<(bu f v).length:=by have h0:¬(1:Int)<((bu f v).length:Int):=(by simpa using c1);omega
    refine z8 U U c1<|aa U<|z8 U U c1<|bb U U<|z8 U U c1<|aj U<|zo (s:=35) U (fun c2=>?_) (fun c2=>?_)
    ·have d2:0<(bu f v).length:=by have h0:(0:Int)<((bu f v).length:Int):=(by simpa using c2);omega
     refine z8 U U c2<|aa U<|z8 U U c2<|ao jg U j8 U U<|z8 U U c2<|aI j9 U<|z8 U U c2<|ar wz U<|z8 U U c2<|ax U U<|z8 U U c1<|aq U c2 U<|au U c1 U<|z6<|zy U (fun c3=>?_) (fun c3=>?_)
     ·have d3:v<f.params.length:=by simpa using c3
      refine ae<|ab U<|z6<|zi<|zm (x:=.bool _) U ?_
      rw[hbad (by unfold iG;rw[qx d2,qx d3];simp)]
     ·have d3:¬v<f.params.length:=by simpa using c3
      refine zg<|aO<|aC U U<|aa U<|z6 ?_
      exact ⟨v+1,de,aH,aD,⟨hv2,cO hall (by unfold iG;rw[qy d1,qy d3];simp)⟩,by omega⟩
    ·have d2:¬0<(bu f v).length:=by have h0:¬(0:Int)<((bu f v).length:Int):=(by simpa using c2);omega
     refine z7 U U c2<|z7 U U c2<|z7 U U c2<|z7 U U c2<|z7 U U c2<|z8 U U c1<|au U c2 U<|au U c1 U<|z6<|yg U U<|zg<|aO<|aC U U<|aa U<|z6 ?_
     exact ⟨v+1,de,aH,aD,⟨hv2,cO hall (by unfold iG;rw[qy d1,qy d2];rfl)⟩,by omega⟩
  ·have hvn:v=f.vars.length:=by simp at cv;omega
   subst hvn
   have donce:ll f=true:=hall
   refine y7<|zd<|ae<|ao jg U Z6 U U<|aI Zd U<|ar jk U<|aa U<|z6<|zj<|y8 (γ:=Nat) [1,3,45,46] (fun i=>[(47,.int .i64 i)]) (fun i=>[]) (fun i=>i≤f.blocks.length∧(List.range i).all (Fz f)=true) (fun i=>f.blocks.length - i) 0 aH aD (⟨qn _,U⟩) ?_
   rintro i ⟨hi,hiall⟩
   refine ae<|ax U U<|z6<|zd<|zu U (fun ci=>?_) (fun ci=>?_)
   ·have hi2:i<f.blocks.length:=by simp at ci;omega
    obtain ⟨b,hbi⟩:∃b,f.blocks[i]=b:=⟨_,rfl⟩
    have hget:f.blocks[i]?=some b:=by rw[qk hi2,hbi]
    have hmem:b∈f.blocks:=hbi▸qo hi2
    obtain ⟨hb0,hb1,hb2,hb3,hb4⟩:=hf.2.2.2.2 b hmem
    obtain ⟨hPh,hIn,hTm⟩:=hS.2.2.2.2.2 b hmem
    have hth:=jB (E:=ah f) (shut:=-1) hi2
    refine zg<|zd<|zj<|ae<|aa U<|za (bh i jk Z0 U U U hget)<|ac Yk Z0 U U<|y6 (cs:=[.str ⟨#[]⟩,.raw (.slice none 0 0),.raw (.slice none 0 0),.int .i64 0,.int .i64 0,.int .i64 0,.int .i64 0]) Zn U U<|fun i7=>ap U<|y1 Z0 U U U U U U .head U<|zf (yf (t:=7) U .head)<|z6<|zd<|ae<|aT U<|aa U<|za (bh i jx Zc U U U hth)<|za (yn (c:=.bool _) Y7 U)<|aB U<|z6<|zy U (fun cr=>?_) (fun cr=>?_)
    ·have dr:¬re (ah f) (i:Int):=fun h=>by simp at cr;exact cr ((w7 hG).2 h)
     refine ae<|ab U<|z6<|zi<|zm (x:=.bool _) U ?_
     rw[nW hi2 hget (by unfold nH;simp[dr])]
    ·have dr:re (ah f) (i:Int):=by simp at cr;exact (w7 hG).1 cr
     refine zg<|zd<|ae<|ao jj U Yg U U<|aI Ys U<|ar Z5 U<|aa U<|z6<|zj<|y8 (γ:=Nat) [1,3,6,7,45,46,47,58,59] (fun j=>[(60,.int .i64 j)]) (fun j=>[]) (fun j=>j≤b.phis.length∧(b.phis.take j).all (Fw f)=true) (fun j=>b.phis.length - j) 0 aH aD (⟨qn _,U⟩) ?_
     rintro j ⟨hj,hjall⟩
     refine ae<|ax U U<|z6<|zd<|zu U (fun cjj=>?_) (fun cjj=>?_)
     ·have hj2:j<b.phis.length:=by simp at cjj;omega
      obtain ⟨p,hp⟩:∃p,b.phis[j]=p:=⟨_,rfl⟩
      have hpm:p∈b.phis:=hp▸qo hj2
      obtain ⟨hpd,hpl,hpn,hpa,hpf⟩:=hPh p hpm
      have hpb:=hb3 p hpm
      refine zg<|zd<|zj<|ae<|za (bh j Z5 Zf U U U (by rw[qk hj2,hp])) ?_
      refine ac X0 Zf U U<|y6 (cs:=[.int .i64 0,.raw (.slice none 0 0),.raw (.slice none 0 0)]) Yc U U<|fun i9=>y1 Zf U U U U U U .head U<|zf (yf (t:=9) U .head)<|z6<|ae<|ao Z3 U j8 U U<|aI j9 U<|ar wz U<|aa U<|z6<|zj<|y8 (γ:=Nat) [1,3,6,7,9,45,46,47,58,59,60,65,66] (fun k=>[(67,.int .i64 k)]) (fun k=>[]) (fun k=>k≤p.args.length∧((p.args.zip p.from_).take k).all (fun q=>el f (aL f q.1) q.2 (iC f q.2))=true) (fun k=>p.args.length - k) 0 aH aD (⟨qn _,U⟩) ?_
      rintro k ⟨hk,hkall⟩
      refine ae<|ax U U<|z6<|zd<|zu U (fun ck=>?_) (fun ck=>?_)
      ·have hk2:k<p.args.length:=by simp at ck;omega
       have hk3:k<p.from_.length:=by omega
       obtain ⟨v,hv⟩:∃v,p.args[k]=v:=⟨_,rfl⟩
       obtain ⟨c,hc⟩:∃c,p.from_[k]=c:=⟨_,rfl⟩
       have hvv:=List.all_eq_true.1 hpa v (hv▸qo hk2)
       have hcr:0≤c∧c<f.blocks.length:=by have:=List.all_eq_true.1 hpf c (hc▸qo hk3);simpa [eO] using this
       obtain ⟨d,hd⟩:∃d,f.blocks[c.toNat]'(by omega)=d:=⟨_,rfl⟩
       have hdg:f.blocks[c.toNat]?=some d:=by rw[qk (by omega),hd]
       have hla:iC f c=d.insts.length:=by unfold iC;rw[hdg];rfl
       have hz:k<(p.args.zip p.from_).length:=by rw[List.length_zip];omega
       have hzk:(p.args.zip p.from_)[k]=(v,c):=by rw[List.getElem_zip,hv,hc]
       refine zg<|zd<|zj<|ae<|aa U<|za (bh k wz j6 U U U (by rw[qk hk2,hv])) ?_
       refine ay j7 U<|ap U<|ap U<|z6<|zd<|zw (fun j=>false) (by kernel_rfl) U (zh (.rest _))<|ak 0 U (yr ju jf U U)<|ak 1 U (dq U)<|ak 2 U (bx Z3 U j8 U U)<|ak 3 U (dx j9 U)<|ak 4 U (dq U)<|ak 5 U (bh k wz j6 U U U (by rw[qk hk3,hc])) ?_
       refine ak 6 U (b7 j7 U)<|ak 7 U (bx jg U Z6 U U)<|ak 8 U (dx Zd U)<|ak 9 U (bx Z3 U j8 U U)<|ak 10 U (dx j9 U)<|ak 11 U (dq U)<|ak 12 U (bh k wz j6 U U U (by rw[qk hk3,hc])) ?_
       refine ak 13 U (b7 j7 U)<|ak 14 U (bh c.toNat jk Z0 U U (by omega) hdg)<|ak 15 U (bx jj U Zo U U)<|ak 16 U (dx Zx U)<|ak 17 U (Gv.lenM jz U)<|ba 18 U<|ze (gU f hE hf hvv c d.insts.length hcr.1 hcr.2) U<|z6<|ak 19 U (Gv.not U)<|bY<|zy U (fun cq=>?_) (fun cq=>?_)
       ·have hq:el f (aL f v) c (iC f c)=false:=by rw[hla];simpa using cq
        refine ae<|ab U<|z6<|zi<|zm (x:=.bool _) U ?_
        rw[nW hi2 hget (by unfold nH;rw[show b.phis.all (Fw f)=false from Bool.eq_false_iff.2 (dh hj2 (by rw[hp];unfold Fw;exact Bool.eq_false_iff.2 (dh hz (by rw[hzk];exact hq))))];simp)]
       ·have hq:el f (aL f v) c (iC f c)=true:=by rw[hla];simpa using cq
        refine zg<|aO<|aC U U<|aa U<|z6 ?_
        exact ⟨k+1,⟨rfl,rfl,rfl,rfl,rfl,rfl,rfl,rfl,rfl,rfl,rfl,rfl,rfl,trivial⟩,aH,aD,⟨hk2,bN hz hkall (by rw[hzk];exact hq)⟩,by omega⟩
      ·have hkn:k=p.args.length:=by simp at ck;omega
       have hzl:(p.args.zip p.from_).length=p.args.length:=by rw[List.length_zip];omega
       rw[hkn,←hzl,qp] at hkall
       refine y7<|aO<|aC U U<|aa U<|z6 ?_
       exact ⟨j+1,n8,aH,aD,⟨hj2,bN hj2 hjall (by rw[hp];exact hkall)⟩,by omega⟩
     ·have hjn:j=b.phis.length:=by simp at cjj;omega
      subst hjn
      rw[qp] at hjall
      refine y7<|zd<|ae<|ao jj U Zo U U<|aI Zx U<|ar jz U<|aa U<|z6<|zj<|y8 (γ:=Nat) [1,3,6,7,45,46,47,95,96] (fun k=>[(97,.int .i64 k)]) (fun k=>[]) (fun k=>k≤b.insts.length∧((b.insts.zipIdx).take k).all (Fx f i)=true) (fun k=>b.insts.length - k) 0 aH aD (⟨qn _,U⟩) ?_
      rintro k ⟨hk,hkall⟩
      refine ae<|ax U U<|z6<|zd<|zu U (fun ck=>?_) (fun ck=>?_)
      ·have hk2:k<b.insts.length:=by simp at ck;omega
       obtain ⟨z,hzk⟩:∃z,b.insts[k]=z:=⟨_,rfl⟩
       have hzm:z∈b.insts:=hzk▸qo hk2
       have hI:=gp (hIn z hzm)
       have hzl:=hb4 z hzm
       have hzi:k<b.insts.zipIdx.length:=by simp;exact hk2
       have hze:b.insts.zipIdx[k]=(z,k):=by simp[hzk]
       refine zg<|zd<|zj<|ae<|aa U<|za (bh k jz jv U U U (by rw[qk hk2,hzk])) ?_
       refine ac Zk jv U U<|y6 (cs:=[.int .i64 0,.int .i64 0,.raw (.slice none 0 0),.int .i64 0]) Z4 U U<|fun i13=>ap U<|y1 jv U U U U U U .head U<|zf (yf (t:=13) U .head)<|z6<|ae<|ao j5 U j8 U U<|aI j9 U<|ar wz U<|aa U<|z6<|zj<|y8 (γ:=Nat) [1,3,6,7,12,45,46,47,95,96,97,103,104] (fun m=>[(105,.int .i64 m)]) (fun m=>[]) (fun m=>m≤z.args.length∧(z.args.take m).all (fun v=>el f (aL f v) i k)=true) (fun m=>z.args.length - m) 0 aH aD (⟨qn _,U⟩) ?_
       rintro m ⟨hm,hmall⟩
       refine ae<|ax U U<|z6<|zd<|zu U (fun cm=>?_) (fun cm=>?_)
       ·have hm2:m<z.args.length:=by simp at cm;omega
        obtain ⟨v,hv⟩:∃v,z.args[m]=v:=⟨_,rfl⟩
        have hvv:=hI.args v (hv▸qo hm2)
        refine zg<|zd<|zj<|ae<|za (bh m wz j6 U U U (by rw[qk hm2,hv])) ?_
        refine ay j7 U<|ap U<|z6<|ae<|ac ju jf U U<|aa U<|aa U<|aa U<|ze (gU f hE hf hvv (i:Int) (k:Int) (by omega) (by omega)) U<|aB U<|z6<|zy U (fun cq=>?_) (fun cq=>?_)
        ·have hq:el f (aL f v) i k=false:=by simpa using cq
         refine ae<|ab U<|z6<|zi<|zm (x:=.bool _) U ?_
         rw[nW hi2 hget (by unfold nH;rw[show b.insts.zipIdx.all (Fx f i)=false from Bool.eq_false_iff.2 (dh hzi (by rw[hze];unfold Fx;exact Bool.eq_false_iff.2 (dh hm2 (by rw[hv];exact hq))))];simp)]
        ·have hq:el f (aL f v) i k=true:=by simpa using cq
         refine zg<|aO<|aC U U<|aa U<|z6 ?_
         exact ⟨m+1,⟨rfl,rfl,rfl,rfl,rfl,rfl,rfl,rfl,rfl,rfl,rfl,rfl,rfl,trivial⟩,aH,aD,⟨hm2,bN hm2 hmall (by rw[hv];exact hq)⟩,by omega⟩
       ·have hmn:m=z.args.length:=by simp at cm;omega
        rw[hmn,qp] at hmall
        refine y7<|aO<|aC U U<|aa U<|z6 ?_
        exact ⟨k+1,n8,aH,aD,⟨hk2,bN hzi hkall (by rw[hze];exact hmall)⟩,by omega⟩
      ·have hkn:k=b.insts.length:=by simp at ck;omega
       rw[hkn,show b.insts.length=b.insts.zipIdx.length by simp,qp] at hkall
       refine y7<|ae<|ao jj U Zm U U<|ao jh U Zz U U<|ay Y8 U<|aM U U<|aj U<|zo (s:=121) U (fun c0=>?_) (fun c0=>?_)
       ·have d0:¬b.term.kind=0:=by simpa using c0
        refine z8 U U c0<|ac ju jf U U<|z8 U U c0<|ao jj U Zm U U<|z8 U U c0<|ao jh U j6 U U<|z8 U U c0<|ay j7 U<|z8 U U c0<|aa U<|z8 U U c0<|ao jj U Zo U U<|z8 U U c0<|aI Zx U<|z8 U U c0<|ar jz U<|z8 U U c0<|ze (gU f hE hf (iD hTm d0) (i:Int) (b.insts.length:Int) (by omega) (by omega)) U<|z8 U U c0<|aB U<|aq U c0 U<|z6<|zy U (fun cq=>?_) (fun cq=>?_)
        ·have hq:el f (aL f b.term.var) i b.insts.length=false:=by simpa using cq
         refine ae<|ab U<|z6<|zi<|zm (x:=.bool _) U ?_
         rw[nW hi2 hget (by unfold nH Fy;rw[hq,qy d0];simp)]
        ·have hq:el f (aL f b.term.var) i b.insts.length=true:=by simpa using cq
         refine zg<|aO<|aC U U<|aa U<|z6 ?_
         exact ⟨i+1,fl,aH,aD,⟨hi2,cO hiall (by rw[mT hget];unfold nH Fy;rw[hjall,hkall,hq];simp[dr])⟩,by omega⟩
       ·have d0:b.term.kind=0:=by simpa using c0
        refine z7 U U c0<|z7 U U c0<|z7 U U c0<|z7 U U c0<|z7 U U c0<|z7 U U c0<|z7 U U c0<|z7 U U c0<|z7 U U c0<|z7 U U c0<|au U c0 U<|z6<|yg U U<|zg<|aO<|aC U U<|aa U<|z6 ?_
        exact ⟨i+1,fl,aH,aD,⟨hi2,cO hiall (by rw[mT hget];unfold nH Fy;rw[hjall,hkall,d0];simp[dr])⟩,by omega⟩
   ·have hin:i=f.blocks.length:=by simp at ci;omega
    subst hin
    refine y7<|ae<|ab U<|z6<|zi<|zm (x:=.bool _) U ?_
    rw[show iH f=true by unfold iH;rw[dj,donce,hiall];rfl]
end Go.Proofs.YtdilpodccjlkgaaGreatDoor
