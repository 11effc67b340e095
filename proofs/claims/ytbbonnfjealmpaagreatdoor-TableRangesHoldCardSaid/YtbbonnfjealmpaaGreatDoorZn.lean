/- The document's joined, single and plain. Of programs that are little. -/
import Derived.Test.YtbbonnfjealmpaaGreatDoorZm
import Derived.Test.YtbbonnfjealmpaaGreatDoorZj
set_option linter.unusedVariables false
set_option linter.unusedSimpArgs false
set_option linter.unusedSectionVars false
namespace Go.Proofs.YtbbonnfjealmpaaGreatDoor
section
open Go.Proofs.Tryz
open Go.Proofs Go.Lib Go.Shelf Go.RowKit
variable {E:World}
set_option maxRecDepth 20000
theorem gK (t:fg) (b:Int):b∈cK t↔(t.kind=0∧t.to0=b)∨(t.kind=1∧(t.to0=b∨t.to1=b)):=by
 unfold cK
 by_cases h0:t.kind=0
 ·rw[if_pos h0];simp[h0];exact eq_comm
 ·rw[if_neg h0]
  by_cases h1:t.kind=1
  ·rw[if_pos h1]
   by_cases h2:t.to0=t.to1
   ·rw[if_pos h2];simp[h1,h2];exact eq_comm
   ·rw[if_neg h2];simp[h1]
    constructor
    ·rintro (h|h);exact .inl h.symm;exact .inr h.symm
    ·rintro (h|h);exact .inl h.symm;exact .inr h.symm
  ·rw[if_neg h1];simp[h0,h1]
theorem kV (f:ab) (hn:f.blocks.length≤1000) (a b:Int) (h0:0≤a) (ha:a<f.blocks.length):aP prog E 48 [.agg (bw f),.int .i64 a,.int .i64 b] (.bool (decide (b∈ah f a))):=by
 obtain ⟨c,hc⟩:∃c,f.blocks[a.toNat]'(by omega)=c:=⟨_,rfl⟩
 have hget:f.blocks[a.toNat]?=some c:=by rw[qx (by omega),hc]
 have hE:ah f a=cK c.term:=by rw[kP h0 (by omega),hc]
 rw[hE]
 refine zp func48 U (by decide) U<|ae<|y6 (cs:=_) U U U<|ad U<|z2<|ae<|ak je U Zd U U<|aI Zf U<|aa U<|z8 (bB a.toNat ju Z2 U U (by omega) hget)<|ak jr U Zp U U<|ac Xk Zp U U<|zu (cs:=[.int .i64 0,.int .i64 0,.int .i64 0,.int .i64 0]) Xf U U<|fun i7=>zj Zp U U U U U U .head U<|zd (y8 (t:=7) U .head)<|z2<|ae<|ak jj U Y4 U U<|aA Yi U<|ao U U<|aq U<|zt (s:=17) U (fun c1=>?_) (fun c1=>?_)
 ·refine z7 U U c1<|ak jj U Zg U U<|z7 U U c1<|z8 (yx (j:=0) Z9 j9 U U U (by decide) U)<|z7 U U c1<|aA jg U<|z7 U U c1<|aa U<|z7 U U c1<|ao U U<|au U c1 U<|aq U<|zt (s:=24) U (fun c2=>?_) (fun c2=>?_)
  ·refine z6 U U c2<|z6 U U c2<|z6 U U c2<|z6 U U c2<|zk U U<|zk U U<|zk U U<|zk U U<|zk U U<|zk U U<|zk U U<|zk U U<|zk U U<|zk U U<|zk U U<|zk U U<|z6 U U c2<|au U c2 U<|ad U<|z2<|zg<|zm (x:=.bool _) U<|congrArg AV.bool ?_;rw[w8];simp only[wm,gK];simp_all
  ·refine z7 U U c2<|ak jj U Y4 U U<|z7 U U c2<|aA Yi U<|z7 U U c2<|ao U U<|z7 U U c2<|aq U<|zt (s:=28) U (fun c3=>?_) (fun c3=>?_)
   ·refine z7 U U c3<|ak jj U Zg U U<|z7 U U c3<|z8 (yx (j:=0) Z9 j9 U U U (by decide) U)<|z7 U U c3<|aA jg U<|z7 U U c3<|aa U<|z7 U U c3<|ao U U<|z7 U U c3<|aq U<|zt (s:=34) U (fun c4=>?_) (fun c4=>?_)
    ·refine z6 U U c4<|z6 U U c4<|z6 U U c4<|z6 U U c4<|z6 U U c4<|z7 U U c3<|au U c4 U<|z7 U U c2<|au U c3 U<|aw U c2 U<|ad U<|z2<|zg<|zm (x:=.bool _) U<|congrArg AV.bool ?_;rw[w8];simp only[wm,gK];simp_all
    ·refine z7 U U c4<|ak jj U Zg U U<|z7 U U c4<|z8 (yx (j:=1) Z9 j9 U U U (by decide) U)<|z7 U U c4<|aA jg U<|z7 U U c4<|aa U<|z7 U U c4<|ao U U<|z7 U U c3<|aw U c4 U<|z7 U U c2<|au U c3 U<|aw U c2 U<|ad U<|z2<|zg<|zm (x:=.bool _) U<|congrArg AV.bool ?_;rw[w8];simp only[wm,gK];simp_all
   ·refine z6 U U c3<|z6 U U c3<|z6 U U c3<|z6 U U c3<|z6 U U c3<|z6 U U c3<|zk U U<|zk U U<|zk U U<|zk U U<|zk U U<|z6 U U c3<|z7 U U c2<|aw U c3 U<|aw U c2 U<|ad U<|z2<|zg<|zm (x:=.bool _) U<|congrArg AV.bool ?_;rw[w8];simp only[wm,gK];simp_all
 ·refine z6 U U c1<|z6 U U c1<|z6 U U c1<|z6 U U c1<|z6 U U c1<|aw U c1 U<|aq U<|z7 U U U<|ak jj U Y4 U U<|z7 U U U<|aA Yi U<|z7 U U U<|ao U U<|z7 U U U<|aq U<|zt (s:=28) U (fun c5=>?_) (fun c5=>?_)
  ·refine z7 U U c5<|ak jj U Zg U U<|z7 U U c5<|z8 (yx (j:=0) Z9 j9 U U U (by decide) U)<|z7 U U c5<|aA jg U<|z7 U U c5<|aa U<|z7 U U c5<|ao U U<|z7 U U c5<|aq U<|zt (s:=34) U (fun c6=>?_) (fun c6=>?_)
   ·refine z6 U U c6<|z6 U U c6<|z6 U U c6<|z6 U U c6<|z6 U U c6<|z7 U U c5<|au U c6 U<|z7 U U U<|au U c5 U<|aw U U U<|ad U<|z2<|zg<|zm (x:=.bool _) U<|congrArg AV.bool ?_;rw[w8];simp only[wm,gK];simp_all
   ·refine z7 U U c6<|ak jj U Zg U U<|z7 U U c6<|z8 (yx (j:=1) Z9 j9 U U U (by decide) U)<|z7 U U c6<|aA jg U<|z7 U U c6<|aa U<|z7 U U c6<|ao U U<|z7 U U c5<|aw U c6 U<|z7 U U U<|au U c5 U<|aw U U U<|ad U<|z2<|zg<|zm (x:=.bool _) U<|congrArg AV.bool ?_;rw[w8];simp only[wm,gK];simp_all
  ·refine z6 U U c5<|z6 U U c5<|z6 U U c5<|z6 U U c5<|z6 U U c5<|z6 U U c5<|zk U U<|zk U U<|zk U U<|zk U U<|zk U U<|z6 U U c5<|z7 U U U<|aw U c5 U<|aw U U U<|ad U<|z2<|zg<|zm (x:=.bool _) U<|congrArg AV.bool ?_;rw[w8];simp only[wm,gK];simp_all
theorem Ib {a shut x:Int} {out:List Bool} {y:Nat} (hx:AR a out shut x) (h0:0≤x) (hy:y<out.length):AR a (out.set y true) shut x:=by
 refine ⟨hx.1,?_⟩
 rcases hx.2 with h|h
 ·exact .inl h
 ·right
  unfold gb at h ⊢
  rw[List.getElem?_set]
  by_cases e:y=x.toNat
  ·rw[if_pos e,if_pos (by omega)];rfl
  ·rw[if_neg e];exact h
set_option maxHeartbeats 4000000 in
theorem Fr (f:ab) (hE:cg f) (hn:f.blocks.length≤1000) (a shut:Int) (h0:0≤a) (ha:a<f.blocks.length):bn prog E 88 [.agg (bw f),.int .i64 a,.int .i64 shut] []
  fun x O=>∃i:Nat,x=.own i f.blocks.length∧O=[(i,.grow 1 4 (cB (l3 (ah f) f.blocks.length a shut)))]:=by
 have hG:=hE.grph
 obtain ⟨n,hnn⟩:∃n,f.blocks.length=n:=⟨_,rfl⟩
 rw[hnn] at hG hn ha ⊢
 refine zp func88 U (by decide) U<|ae<|y6 (cs:=_) U U U<|cE U<|z2<|ae<|ak je U Zd U U<|aI Zf U<|aj ju U<|am U<|z2<|ae<|aa U<|qm (m:=n) jw Yq U U U U U (by omega) (by omega) (by show (1:Int)*_≤_;omega) (by omega)<|fun i16=>z8 (ei U)<|z2<|zb<|ae<|ad U<|z2<|zi<|y5 (γ:=List Bool × Bool) [1,2,3,7,8] (fun g=>[(9,.bool g.2)]) (fun g=>[(i16,.grow 1 4 (cB g.1))]) (fun g=>FrS (ah f) a shut n g.1∧(g.2=false→Dw (ah f) a shut g.1 n)) (fun g=>2*nl g.1+(if g.2=true then 1 else 0)) (List.replicate n false,true) aL aE (⟨FrS.begin _ _ _ _,fun h=>by cases h⟩) ?_
 rintro ⟨o0,again⟩ ⟨hS0,hfin⟩
 try dsimp only at *
 refine zb<|ae<|aq U<|z2<|zw U (fun ca=>?_) (fun ca=>?_)
 ·have ca:again=true:=by simpa using ca
  subst ca
  refine zf<|zi<|ae<|ad U<|z2<|ae<|aa U<|aa U<|z2<|zi<|y5 (γ:=Nat × List Bool × Bool) [1,2,3,7,8,18] (fun g=>[(19,.i g.1),(9,.bool g.2.2)]) (fun g=>[(i16,.grow 1 4 (cB g.2.1))]) (fun g=>g.1≤n∧Lk (ah f) a shut n o0 g.2.1 g.2.2∧(g.2.2=false→Dw (ah f) a shut g.2.1 g.1)) (fun g=>n - g.1) (0,o0,false) b7 aE (⟨w2 _,⟨hS0,Nat.le_refl _,fun h=>(by cases h),fun _=>U⟩,fun _ x hx=>by omega⟩) ?_
  rintro ⟨x,out,ag⟩ ⟨hx,hR,hcl⟩
  try dsimp only at *
  have hol:=hR.len
  refine ae<|ap U U<|z2<|zb<|zn U (fun cx=>?_) (fun cx=>?_)
  ·have hx2:x<n:=by omega
   have hgx:out[x]?=some (gb out (x:Int)):=jQ (by omega)
   refine zf<|zb<|zi<|ae<|aa U<|am U<|z2<|zb<|zb<|yb (γ:=Bool) [1,2,3,7,8,9,10,18,19] (fun u=>[(36,.bool u)]) (fun u=>[(i16,.grow 1 4 (cB out))]) (fun u=>u=!decide (AR a out shut x)) ?_ (fun _ _ h=>h) ?_
   ·refine aW<|aa U<|aa U<|ao U U<|aq U<|zt (s:=25) U (fun c7=>?_) (fun c7=>?_)
    ·refine z6 U U c7<|z6 U U c7<|z6 U U c7<|z6 U U c7<|zk U U<|zk U U<|zk U U<|zk U U<|zk U U<|z6 U U c7<|au U c7 U<|z2 ?_
     exact ⟨_,pI,aL,aE,by simp_all[AR]⟩
    ·refine z7 U U c7<|aa U<|z7 U U c7<|aa U<|z7 U U c7<|aO U U<|z7 U U c7<|aq U<|zt (s:=29) U (fun c8=>?_) (fun c8=>?_)
     ·refine z7 U U c8<|bL U<|z7 U U c8<|aa U<|z7 U U c8<|z8 (yd (j:=x) jw Zb U U U ⟨_,.head⟩ (by first|rfl|(simp[aF,aM];done)|(simp[aF,aM];omega)) hx2)<|z7 U U c8<|z8 (Gv.loadB (j:=x) Yn U ⟨_,.head⟩ hgx)<|z7 U U c8<|aJ U<|z7 U U c7<|au U c8 U<|aw U c7 U<|z2 ?_
      exact ⟨_,pI,aL,aE,by simp_all[AR]⟩
     ·refine z6 U U c8<|z6 U U c8<|z6 U U c8<|z6 U U c8<|z6 U U c8<|z7 U U c7<|aw U c8 U<|aw U c7 U<|z2 ?_
      exact ⟨_,pI,aL,aE,by simp_all[AR]⟩
   ·rintro u hu
    subst hu
    refine zw U (fun co=>?_) (fun co=>?_)
    ·have hno:¬AR a out shut x:=by simpa using co
     refine y4<|aW<|aC U U<|aa U<|z2 ?_
     exact ⟨(x+1,out,ag),oB,b7,aE,⟨hx2,hR,fun h z hz hok=>by rcases Nat.lt_succ_iff_lt_or_eq.1 hz with h1|h1;exact hcl h z h1 hok;exact absurd (h1▸hok) hno⟩,by dsimp only;omega⟩
    ·have hok:AR a out shut x:=by simpa using co
     refine zf<|ae<|aa U<|aa U<|z2<|zi<|y5 (γ:=Nat × List Bool × Bool) [1,2,3,7,8,10,18,19,37] (fun g=>[(38,.i g.1),(9,.bool g.2.2)]) (fun g=>[(i16,.grow 1 4 (cB g.2.1))]) (fun g=>g.1≤n∧Lk (ah f) a shut n o0 g.2.1 g.2.2∧AR a g.2.1 shut x∧(g.2.2=false→Dw (ah f) a shut g.2.1 x∧Lj (ah f) a shut g.2.1 x g.1)) (fun g=>n - g.1) (0,out,ag) b7 aE (⟨w2 _,hR,hok,fun h=>⟨hcl h,fun _ y hy=>by omega⟩⟩) ?_
     rintro ⟨y,out,ag⟩ ⟨hy,hR,hok,hcl⟩
     try dsimp only at *
     have hol:=hR.len
     refine ae<|ap U U<|z2<|zb<|zn U (fun cy=>?_) (fun cy=>?_)
     ·have hy2:y<n:=by omega
      have hgy:out[y]?=some (gb out (y:Int)):=jQ (by omega)
      have hstep:(ag=false→(y:Int)∈ah f x→(y:Int)≠shut→gb out y=true)→(ag=false→Dw (ah f) a shut out x∧Lj (ah f) a shut out x (y+1)):=fun h1 h2=>⟨(hcl h2).1,fun ho z hz he hs=>by
       rcases Nat.lt_succ_iff_lt_or_eq.1 hz with h3|h3
       ·exact (hcl h2).2 ho z h3 he hs
       ·subst h3;exact h1 h2 he hs⟩
      refine zf<|zb<|zi<|ae<|aa U<|am U<|z2<|ae<|aa U<|aa U<|aO U U<|aq U<|zt (s:=44) U (fun c1=>?_) (fun c1=>?_)
      ·have d1:(y:Int)≠shut:=by simpa using c1
       refine z7 U U c1<|bL U<|z7 U U c1<|aa U<|z7 U U c1<|z8 (yd (j:=y) jw Zb U U U ⟨_,.head⟩ (by first|rfl|(simp[aF,aM];done)|(simp[aF,aM];omega)) hy2)<|z7 U U c1<|z8 (Gv.loadB (j:=y) Yn U ⟨_,.head⟩ hgy)<|z7 U U c1<|aJ U<|au U c1 U<|aq U<|zt (s:=51) U (fun c2=>?_) (fun c2=>?_)
       ·have d2:gb out (y:Int)=false:=by simpa using c2
        refine z7 U U c2<|ac Z0 ji U U<|z7 U U c2<|aa U<|z7 U U c2<|aa U<|z7 U U c2<|ze (kV f (by omega) (x:Int) (y:Int) (by omega) (by omega)) U<|au U c2 U<|z2<|zw U (fun c3=>?_) (fun c3=>?_)
        ·have d3:(y:Int)∈ah f x:=by simpa using c3
         refine ae<|bL U<|aa U<|z8 (yd (j:=y) jw Zb U U U ⟨_,.head⟩ (by first|rfl|(simp[aF,aM];done)|(simp[aF,aM];omega)) hy2)<|q6 (j:=y) Zb U U .head (by first|omega|(simp;omega))<|z2<|aW<|ad U<|z2<|aW<|aC U U<|aa U<|z2 ?_
         exact ⟨(y+1,out.set y true,true),pI,b7,aE,⟨hy2,hR.hit hok d3 d1 hy2 d2,Ib hok (by omega) (by omega),fun h=>by cases h⟩,by dsimp only;omega⟩
        ·have d3:¬(y:Int)∈ah f x:=by simpa using c3
         refine zf<|aW<|aC U U<|aa U<|z2 ?_
         exact ⟨(y+1,out,ag),pI,b7,aE,⟨hy2,hR,hok,hstep fun _ h _=>absurd h d3⟩,by dsimp only;omega⟩
       ·have d2:gb out (y:Int)=true:=by simpa using c2
        refine z6 U U c2<|z6 U U c2<|z6 U U c2<|z6 U U c2<|aw U c2 U<|z2<|yq U U<|zf<|aW<|aC U U<|aa U<|z2 ?_
        exact ⟨(y+1,out,ag),pI,b7,aE,⟨hy2,hR,hok,hstep fun _ _ _=>d2⟩,by dsimp only;omega⟩
      ·have d1:(y:Int)=shut:=by simpa using c1
       refine z6 U U c1<|z6 U U c1<|z6 U U c1<|z6 U U c1<|z6 U U c1<|aw U c1 U<|aq U<|z6 U U U<|z6 U U U<|z6 U U U<|z6 U U U<|aw U U U<|z2<|yq U U<|zf<|aW<|aC U U<|aa U<|z2 ?_
       exact ⟨(y+1,out,ag),pI,b7,aE,⟨hy2,hR,hok,hstep fun _ _ h=>absurd d1 h⟩,by dsimp only;omega⟩
     ·have hyn:y=n:=by omega
      refine y4<|aW<|aC U U<|aa U<|z2 ?_
      exact ⟨(x+1,out,ag),oB,b7,aE,⟨hx2,hR,fun h z hz ho=>by rcases Nat.lt_succ_iff_lt_or_eq.1 hz with h1|h1;exact (hcl h).1 z h1 ho;subst h1;exact fun y2 he hs=>(by by_cases hlt:y2<n;exact (hcl h).2 ho y2 (by omega) he hs;exact absurd (hG.rng z (by omega) (by omega) _ he).2 (by omega))⟩,by dsimp only;omega⟩
  ·have hxn:x=n:=by omega
   subst hxn
   refine y4 ?_
   exact ⟨(out,ag),mI,aL,aE,⟨hR.toFrS,hcl⟩,by dsimp only;have h1:=hR.less;have h2:=hR.more;cases ag;simp;omega;have:=h2 rfl;simp;omega⟩
 ·have ca:again=false:=by simpa using ca
  rw[hS0.eq hG ⟨h0,ha⟩ (hfin ca)]
  refine y4<|ae<|bL U<|z8 (ei U)<|z2<|zg<|zm (x:=.own _ _) U ?_
  exact ⟨i16,rfl,rfl⟩
theorem iD (f:ab) (hE:cg f) (hn:f.blocks.length≤1000) (shut:Int):aP prog E 47 [.agg (bw f),.int .i64 shut] (.fro 1 ((eY (ah f) f.blocks.length shut).map tG)):=by
 have hpos:=hE.grph.npos
 refine zp func47 U (by decide) U<|ae<|y6 (cs:=_) U U U<|cE U<|z2<|ae<|ac Z0 ji U U<|aa U<|y3 U (zo (.rest _)) (Fr f hE hn 0 shut (Int.le_refl _) (by omega)) ?_
 rintro r8 O8 ⟨i8,rfl,rfl⟩
 refine z8 (ei U)<|z2<|ae<|bL U<|aa U<|aO U U<|z8 (yd (j:=0) jw Zb U U U ⟨_,.head⟩ (by rw[aM,mA]) hpos)<|q6 (j:=0) Zb U U .head (by rw[mA];exact hpos)<|z2<|ae<|bL U<|z8 (ei U)<|z2 ?_
 rw[show (!decide (shut=0))=decide (shut≠0) by simp,Dy]
 refine y7 (aR.knowB (t:=4) U .head (np _ _ _))<|zg<|zm (x:=.fro _ _) U ?_
 rfl
end
section
open Go.Proofs.Tryz
def lD (v:Nat) (ev:List (Int × km)):Nat:=(ev.filter fun e=>decide (e.1=(v:Int))).length
theorem mB (v:Nat) (ev:List (Int × km)) (d:Int) (x:km):lD v (ev++[(d,x)])=lD v ev+if d=(v:Int) then 1 else 0:=by
 unfold lD;rw[List.filter_append,w5]
 by_cases h:d=(v:Int)<;>simp[h]
theorem xP (f:ab) (v:Nat):(bp f v).length=lD v (dT f f.blocks.length):=by rw[←nZ,w6];rfl
theorem Cg (v:Nat) (ev:List (Int × km)):lD v ev≤ev.length:=List.length_filter_le _ _
theorem rY {f:ab}:∀{n k:Nat},k≤n→n≤f.blocks.length→dT f k <+: dT f n
 |0,k,h,_=>by rw[show k=0 by omega];exact List.prefix_refl _
 |n+1,k,h,hn=>by
  by_cases e:k=n+1
  ·rw[e];exact List.prefix_refl _
  ·rw[gH (by omega)]
   exact (rY (by omega) (by omega)).trans (List.prefix_append _ _)
theorem Fs (i:Nat) (ps:List cZ) (j:Nat):dW i (ps.take j) <+: dW i ps:=by
 unfold dW
 obtain ⟨r,hr⟩:=List.take_prefix j ps
 exact ⟨r.map fun p=>(p.dst,((i:Int),-1)),by rw[←wb,hr]⟩
theorem xQ (i:Nat) (xs:List aB):∀(m j:Nat),j≤m→m≤xs.length→gX i (xs.take j) <+: gX i (xs.take m)
 |0,j,h,_=>by rw[show j=0 by omega];exact List.prefix_refl _
 |m+1,j,h,hm=>by
  by_cases e:j=m+1
  ·rw[e];exact List.prefix_refl _
  ·rw[kp i (by omega)]
   exact (xQ i xs m j (by omega) (by omega)).trans (List.prefix_append _ _)
theorem Ic {f:ab} {k j:Nat} {b:aK} (hk:k<f.blocks.length) (hb:f.blocks[k]=b) (hj:j<b.phis.length):(dT f k++dW k (b.phis.take j))++[(b.phis[j].dst,((k:Int),(-1:Int)))] <+: dT f f.blocks.length:=by
 refine List.IsPrefix.trans ?_ (rY (show k+1≤f.blocks.length by omega) (Nat.le_refl _))
 rw[gH hk,hb,qz,←mz k hj,rN]
 exact (List.prefix_append_right_inj _).2 ((Fs k b.phis (j+1)).trans (List.prefix_append _ _))
theorem Ft {f:ab} {k j:Nat} {b:aK} (hk:k<f.blocks.length) (hb:f.blocks[k]=b) (hj:j<b.insts.length) (h0:0≤b.insts[j].dst):(dT f k++dW k b.phis++gX k (b.insts.take j))++[(b.insts[j].dst,((k:Int),(j:Int)))] <+: dT f f.blocks.length:=by
 refine List.IsPrefix.trans ?_ (rY (show k+1≤f.blocks.length by omega) (Nat.le_refl _))
 have h:=kp k hj
 rw[if_pos h0] at h
 rw[gH hk,hb,qz,←h,rN,qz]
 have h2:=xQ k b.insts b.insts.length (j+1) (by omega) (Nat.le_refl _)
 rw[w4] at h2
 exact (List.prefix_append_right_inj _).2 ((List.prefix_append_right_inj _).2 h2)
theorem uG {f:ab} {v:Nat} {pre:List (Int × km)} {x:km} (hp:pre++[((v:Int),x)] <+: dT f f.blocks.length) (h0:lD v pre=0):aD f v=x:=by
 obtain ⟨r,hr⟩:=hp
 have h1:pre.filter (fun e=>decide (e.1=(v:Int)))=[]:=wa h0
 unfold aD
 rw[←nZ,←hr,List.filter_append,List.filter_append,h1]
 simp
theorem AW {f:ab} {v:Nat} (h0:lD v (dT f f.blocks.length)=0):aD f v=(-1,0):=by
 unfold aD
 rw[←nZ,wa h0]
 rfl
noncomputable section
def eZ (f:ab) (m:km) (b at_:Int):Bool:=by
 classical exact if m.1<0 then true else if m.1=b then decide (m.2<at_) else !decide (jZ (ah f) (fun x=>x≠m.1) 0 b)
def KI (f:ab) (p:cZ):Bool:=(p.args.zip p.from_).all fun q=>eZ f (aD f q.1) q.2 (fA f q.2)
def KJ (f:ab) (i:Nat) (x:aB × Nat):Bool:=x.1.args.all fun v=>eZ f (aD f v) i x.2
def KK (f:ab) (i:Nat) (b:aK):Bool:=decide (b.term.kind=0)||eZ f (aD f b.term.var) i b.insts.length
def pS (f:ab) (i:Nat) (b:aK):Bool:=by
 classical exact decide (nD (ah f) (i:Int))&&(b.phis.all (KI f)&&(b.insts.zipIdx.all (KJ f i)&&KK f i b))
def KL (f:ab) (i:Nat):Bool:=((f.blocks[i]?).map (pS f i)).getD true
def kr (f:ab):Bool:=dy f&&(mR f&&(List.range f.blocks.length).all (KL f))
end
theorem oP {f:ab} {i:Nat} {b:aK} (h:f.blocks[i]?=some b):KL f i=pS f i b:=by unfold KL;rw[h];rfl
theorem oQ {f:ab} (hE:cg f) (m:km) {b:Int} (at_:Int) (hb:nD (ah f) b):eZ f m b at_=eC f m b at_:=by
 rw[w8,gI hE]
 unfold eZ bM
 by_cases h0:m.1<0
 ·rw[if_pos h0];simp[h0]
 ·rw[if_neg h0]
  by_cases h1:m.1=b
  ·rw[if_pos h1];simp[h1];omega
  ·rw[if_neg h1]
   simp only[Bool.not_eq_true',decide_eq_false_iff_not]
   constructor
   ·intro h;exact .inr (.inr ⟨by omega,h1,hb,h⟩)
   ·rintro (h|h|h)
    ·exact absurd h h0
    ·exact absurd h.1 h1
    ·exact h.2.2.2
theorem Fu {f:ab} (hE:cg f) (hfr:∀b∈f.blocks,∀p∈b.phis,∀c∈p.from_,0≤c∧c<f.blocks.length):kr f=cT f:=by
 unfold kr cT
 by_cases hA:E3 f
 ·have hall:(gG (ah f) f.blocks.length).contains false=false:=(nh hE).2 hA
  rw[hall]
  have hrch:∀c:Int,0≤c→c<f.blocks.length→nD (ah f) c:=fun c h0 h1=>by
   have:=hA c.toNat (by omega)
   rwa [show ((c.toNat:Nat):Int)=c by omega] at this
  have:(List.range f.blocks.length).all (KL f)=AK f:=by
   unfold AK
   rw[w8,wi,wi]
   refine forall_congr' fun i=>?_
   constructor
   all_goals
    intro h hi
    have hi2:=List.mem_range.1 hi
    have h:=h hi
    have hget:f.blocks[i]?=some f.blocks[i]:=qx hi2
    have hmem:=w3 hi2
    have e1:f.blocks[i].phis.all (KI f)=f.blocks[i].phis.all (JV f):=by
     rw[w8,wi,wi]
     refine forall_congr' fun p=>forall_congr' fun hp=>?_
     unfold KI JV
     rw[wi,wi]
     refine forall_congr' fun q=>forall_congr' fun hq=>?_
     have hc:=hfr _ hmem p hp q.2 (List.of_mem_zip hq).2
     rw[oQ hE _ _ (hrch q.2 hc.1 hc.2)]
    have e2:f.blocks[i].insts.zipIdx.all (KJ f i)=f.blocks[i].insts.zipIdx.all (Fm f i):=by
     rw[w8,wi,wi]
     refine forall_congr' fun x=>forall_congr' fun _=>?_
     unfold KJ Fm
     rw[wi,wi]
     refine forall_congr' fun v=>forall_congr' fun _=>?_
     rw[oQ hE _ _ (hA i hi2)]
    have e3:KK f i f.blocks[i]=KH f i f.blocks[i]:=by unfold KK KH;rw[oQ hE _ _ (hA i hi2)]
    have e:pS f i f.blocks[i]=tF f i f.blocks[i]:=by
     unfold pS tF;rw[e1,e2,e3];simp[hA i hi2,Bool.and_assoc]
    first
     |(rw[oP hget,e] at h;rw[rR hget];exact h)
     |(rw[rR hget,←e] at h;rw[oP hget];exact h)
  rw[this]
  simp
 ·have h1:(gG (ah f) f.blocks.length).contains false=true:=by
   cases h:(gG (ah f) f.blocks.length).contains false with
   |true=>rfl
   |false=>exact absurd ((nh hE).1 h) hA
  have h2:(List.range f.blocks.length).all (KL f)=false:=by
   rw[Bool.eq_false_iff]
   intro h
   apply hA
   intro i hi
   have:=List.all_eq_true.1 h i (List.mem_range.2 hi)
   rw[oP (qx hi)] at this
   unfold pS at this
   simp only[wh,wm] at this
   exact this.1
  rw[h1,h2]
  simp
end
section
open Go.Proofs.Tryz
open Go.Proofs Go.Lib Go.Shelf Go.RowKit
variable {E:World}
set_option maxRecDepth 20000
set_option maxHeartbeats 4000000 in
theorem kW (f:ab) (hf:small f) (v:Nat):aP prog E 31 [.agg (bw f),.int .i64 v] (.tup [.int .i64 (aD f v).1,.int .i64 (aD f v).2]):=by
 have hn:=hf.2.2.1
 refine zp func31 U (by decide) U<|ae<|y6 (cs:=_) U U U<|am U<|am U<|z2<|zb<|ae<|ak je U Zd U U<|aI Zf U<|aj ju U<|aa U<|z2<|zi<|y5 (γ:=Nat) [1,13,14] (fun k=>[(15,.i k)]) (fun k=>[]) (fun k=>k≤f.blocks.length∧lD v (dT f k)=0) (fun k=>f.blocks.length - k) 0 aL aE (⟨w2 _,U⟩) ?_
 rintro k ⟨hk,hc⟩
 refine ae<|ap U U<|z2<|zb<|zn U (fun ck=>?_) (fun ck=>?_)
 ·have hk2:k<f.blocks.length:=by simp at ck;omega
  obtain ⟨b,hbk⟩:∃b,f.blocks[k]=b:=⟨_,rfl⟩
  have hget:f.blocks[k]?=some b:=by rw[qx hk2,hbk]
  have hmem:b∈f.blocks:=hbk▸w3 hk2
  obtain ⟨hb0,hb1,hb2,hb3,hb4⟩:=hf.2.2.2.2 b hmem
  refine zf<|zb<|zi<|ae<|aa U<|z8 (bB k ju Z2 U U U hget)<|ac Yc Z2 U U<|zu (cs:=[.e,.n,.n,.int .i64 0,.int .i64 0,.int .i64 0,.int .i64 0]) Zh U U<|fun i7=>am U<|zj Z2 U U U U U U .head U<|zd (y8 (t:=7) U .head)<|z2<|zb<|ae<|ak jr U Zv U U<|aI Yd U<|aj Z8 U<|aa U<|z2<|zi<|y5 (γ:=Nat) [1,6,7,13,14,15,21,22] (fun j=>[(23,.i j)]) (fun j=>[]) (fun j=>j≤b.phis.length∧lD v (dT f k++dW k (b.phis.take j))=0) (fun j=>b.phis.length - j) 0 aL aE (⟨w2 _,by rw[show dW k (b.phis.take 0)=[] from rfl,wc];exact hc⟩) ?_
  rintro j ⟨hj,hcj⟩
  refine ae<|ap U U<|z2<|zb<|zn U (fun cj=>?_) (fun cj=>?_)
  ·have hj2:j<b.phis.length:=by simp at cj;omega
   have hpre:=Ic hk2 hbk hj2
   have hsc:=mB v (dT f k++dW k (b.phis.take j)) b.phis[j].dst ((k:Int),(-1:Int))
   rw[qz,←mz k hj2] at hsc
   refine zf<|zb<|zi<|ae<|z8 (bB j Z8 Ze U U U (qx hj2))<|ac Ys Ze U U<|zu (cs:=[.int .i64 0,.n,.n]) Y1 U U<|fun i9=>zj Ze U U U U U U .head U<|zd (y8 (t:=9) U .head)<|z2<|ae<|ak Z4 U j9 U U<|aA jg U<|aa U<|ao U U<|z2<|zw U (fun cd=>?_) (fun cd=>?_)
   ·have hd:b.phis[j].dst=(v:Int):=by simpa using cd
    rw[hd] at hpre
    refine ae<|aa U<|am U<|am U<|z2<|zg<|qn (x:=.int _ _) (y:=.int _ _) U U ?_
    rw[uG hpre hcj]
   ·have hd:¬b.phis[j].dst=(v:Int):=by simpa using cd
    refine zf<|aW<|aC U U<|aa U<|z2 ?_
    exact ⟨j+1,tk,aL,aE,⟨hj2,by rw[hsc,if_neg hd,hcj]⟩,by omega⟩
  ·have hjn:j=b.phis.length:=by simp at cj;omega
   subst hjn
   rw[w4] at hcj
   refine y4<|ae<|ak jr U Zw U U<|aI Y3 U<|aj Z6 U<|aa U<|z2<|zi<|y5 (γ:=Nat) [1,6,13,14,15,34,35] (fun j=>[(36,.i j)]) (fun j=>[]) (fun j=>j≤b.insts.length∧lD v (dT f k++dW k b.phis++gX k (b.insts.take j))=0) (fun j=>b.insts.length - j) 0 aL aE (⟨w2 _,by rw[show gX k (b.insts.take 0)=[] from rfl,wc];exact hcj⟩) ?_
   rintro j ⟨hj,hci⟩
   refine ae<|ap U U<|z2<|zb<|zn U (fun cj=>?_) (fun cj=>?_)
   ·have hj2:j<b.insts.length:=by simp at cj;omega
    have hev:=kp k hj2
    refine zf<|zb<|zi<|ae<|aa U<|z8 (bB j Z6 Za U U U (qx hj2))<|ac Yj Za U U<|zu (cs:=[.int .i64 0,.int .i64 0,.n,.int .i64 0]) Zr U U<|fun i11=>am U<|zj Za U U U U U U .head U<|zd (y8 (t:=11) U .head)<|z2<|ae<|ak jd U j9 U U<|aA jg U<|aa U<|ao U U<|z2<|zw U (fun cd=>?_) (fun cd=>?_)
    ·have hd:b.insts[j].dst=(v:Int):=by simpa using cd
     have hpre:=Ft hk2 hbk hj2 (by omega)
     rw[hd] at hpre
     refine ae<|aa U<|aa U<|am U<|am U<|z2<|zg<|qn (x:=.int _ _) (y:=.int _ _) U U ?_
     rw[uG hpre hci]
    ·have hd:¬b.insts[j].dst=(v:Int):=by simpa using cd
     have hsc:lD v (dT f k++dW k b.phis++gX k (b.insts.take (j+1)))=0:=by
      rw[hev]
      split
      ·rw[←qz,mB,if_neg hd,hci]
      ·rw[wc];exact hci
     refine zf<|aW<|aC U U<|aa U<|z2 ?_
     exact ⟨j+1,lg,aL,aE,⟨hj2,hsc⟩,by omega⟩
   ·have hjn:j=b.insts.length:=by simp at cj;omega
    subst hjn
    rw[w4] at hci
    refine y4<|aW<|aC U U<|aa U<|z2 ?_
    exact ⟨k+1,bW,aL,aE,⟨hk2,by rw[gH hk2,hbk,rN,←qz];exact hci⟩,by omega⟩
 ·have hkn:k=f.blocks.length:=by simp at ck;omega
  subst hkn
  refine y4<|ae<|am U<|am U<|z2<|zg<|qn (x:=.int _ _) (y:=.int _ _) U U ?_
  rw[AW hc]
set_option maxHeartbeats 4000000 in
theorem pT (f:ab) (hf:small f) (v:Nat):aP prog E 86 [.agg (bw f),.int .i64 v] (.int .i64 (bp f v).length):=by
 have hn:=hf.2.2.1
 refine zp func86 U (by decide) U<|ae<|y6 (cs:=_) U U U<|am U<|z2<|ae<|am U<|z2<|zb<|ae<|ak je U Zd U U<|aI Zf U<|aj ju U<|aa U<|z2<|zi<|y5 (γ:=Nat) [1,13,14] (fun k=>[(15,.i k),(5,.i (lD v (dT f k)))]) (fun k=>[]) (fun k=>k≤f.blocks.length) (fun k=>f.blocks.length - k) 0 b7 aE (w2 _) ?_
 rintro k hk
 refine ae<|ap U U<|z2<|zb<|zn U (fun ck=>?_) (fun ck=>?_)
 ·have hk2:k<f.blocks.length:=by simp at ck;omega
  obtain ⟨b,hbk⟩:∃b,f.blocks[k]=b:=⟨_,rfl⟩
  have hget:f.blocks[k]?=some b:=by rw[qx hk2,hbk]
  have hmem:b∈f.blocks:=hbk▸w3 hk2
  obtain ⟨hb0,hb1,hb2,hb3,hb4⟩:=hf.2.2.2.2 b hmem
  have hel:=hf.evs hk
  refine zf<|zb<|zi<|ae<|z8 (bB k ju Z2 U U U hget)<|ac Yc Z2 U U<|zu (cs:=[.e,.n,.n,.int .i64 0,.int .i64 0,.int .i64 0,.int .i64 0]) Zh U U<|fun i7=>zj Z2 U U U U U U .head U<|zd (y8 (t:=7) U .head)<|z2<|zb<|ae<|ak jr U Zv U U<|aI Yd U<|aj Z8 U<|aa U<|z2<|zi<|y5 (γ:=Nat) [1,7,13,14,15,20,21] (fun j=>[(22,.i j),(5,.i (lD v (dT f k++dW k (b.phis.take j))))]) (fun j=>[]) (fun j=>j≤b.phis.length) (fun j=>b.phis.length - j) 0 ⟨U,(by rw[show dW k (b.phis.take 0)=[] from rfl,wc];rfl),trivial⟩ aE (w2 _) ?_
  rintro j hj
  refine ae<|ap U U<|z2<|zb<|zn U (fun cj=>?_) (fun cj=>?_)
  ·have hj2:j<b.phis.length:=by simp at cj;omega
   have hsc:=mB v (dT f k++dW k (b.phis.take j)) b.phis[j].dst ((k:Int),(-1:Int))
   rw[qz,←mz k hj2] at hsc
   have hcl:lD v (dT f k++dW k (b.phis.take j))≤2001000:=by
    have h1:=Cg v (dT f k++dW k (b.phis.take j))
    have h2:(dW k (b.phis.take j)).length≤1000:=by unfold dW;rw[w6,wd];omega
    rw[w5] at h1;omega
   refine zf<|zb<|zi<|ae<|z8 (bB j Z8 Ze U U U (qx hj2))<|ac Ys Ze U U<|zu (cs:=[.int .i64 0,.n,.n]) Y1 U U<|fun i9=>zj Ze U U U U U U .head U<|zd (y8 (t:=9) U .head)<|z2<|ae<|ak Z4 U j9 U U<|aA jg U<|aa U<|ao U U<|z2<|zw U (fun cd=>?_) (fun cd=>?_)
   ·have hd:b.phis[j].dst=(v:Int):=by simpa using cd
    rw[if_pos hd] at hsc
    refine aW<|aa U<|aC U U<|am U<|z2<|aW<|aC U U<|aa U<|z2 ?_
    exact ⟨j+1,lg,⟨rfl,(by rw[hsc];rfl),trivial⟩,aE,hj2,by omega⟩
   ·have hd:¬b.phis[j].dst=(v:Int):=by simpa using cd
    rw[if_neg hd] at hsc
    refine zf<|aW<|aC U U<|aa U<|z2 ?_
    exact ⟨j+1,lg,⟨rfl,(by rw[hsc];rfl),trivial⟩,aE,hj2,by omega⟩
  ·have hjn:j=b.phis.length:=by simp at cj;omega
   subst hjn
   rw[w4]
   refine y4<|ae<|ak jr U Zw U U<|aI Y3 U<|aj Z6 U<|aa U<|z2<|zi<|y5 (γ:=Nat) [1,13,14,15,34,35] (fun j=>[(36,.i j),(5,.i (lD v (dT f k++dW k b.phis++gX k (b.insts.take j))))]) (fun j=>[]) (fun j=>j≤b.insts.length) (fun j=>b.insts.length - j) 0 ⟨U,(by rw[show gX k (b.insts.take 0)=[] from rfl,wc];rfl),trivial⟩ aE (w2 _) ?_
   rintro j hj
   refine ae<|ap U U<|z2<|zb<|zn U (fun cj=>?_) (fun cj=>?_)
   ·have hj2:j<b.insts.length:=by simp at cj;omega
    have hcl:lD v (dT f k++dW k b.phis++gX k (b.insts.take j))≤2002000:=by
     have h1:=Cg v (dT f k++dW k b.phis++gX k (b.insts.take j))
     have h2:(dW k b.phis).length≤1000:=by unfold dW;rw[w6];omega
     have h3:=rO k (b.insts.take j)
     rw[wd] at h3
     rw[w5,w5] at h1;omega
    have hsc:lD v (dT f k++dW k b.phis++gX k (b.insts.take (j+1)))=lD v (dT f k++dW k b.phis++gX k (b.insts.take j))+if b.insts[j].dst=(v:Int) then 1 else 0:=by
     rw[kp k hj2]
     split
     ·rw[←qz,mB]
     ·rw[wc,if_neg (by omega)];rfl
    refine zf<|zb<|zi<|ae<|z8 (bB j Z6 Za U U U (qx hj2))<|ac Yj Za U U<|zu (cs:=[.int .i64 0,.int .i64 0,.n,.int .i64 0]) Zr U U<|fun i11=>zj Za U U U U U U .head U<|zd (y8 (t:=11) U .head)<|z2<|ae<|ak jd U j9 U U<|aA jg U<|aa U<|ao U U<|z2<|zw U (fun cd=>?_) (fun cd=>?_)
    ·have hd:b.insts[j].dst=(v:Int):=by simpa using cd
     rw[if_pos hd] at hsc
     refine aW<|aa U<|aC U U<|am U<|z2<|aW<|aC U U<|aa U<|z2 ?_
     exact ⟨j+1,oB,⟨rfl,(by rw[hsc];rfl),trivial⟩,aE,hj2,by omega⟩
    ·have hd:¬b.insts[j].dst=(v:Int):=by simpa using cd
     rw[if_neg hd] at hsc
     refine zf<|aW<|aC U U<|aa U<|z2 ?_
     exact ⟨j+1,oB,⟨rfl,(by rw[hsc];rfl),trivial⟩,aE,hj2,by omega⟩
   ·have hjn:j=b.insts.length:=by simp at cj;omega
    subst hjn
    rw[w4]
    refine y4<|aW<|aC U U<|aa U<|z2 ?_
    exact ⟨k+1,bW,⟨rfl,(by rw[gH hk2,hbk,rN,←qz];rfl),trivial⟩,aE,hk2,by omega⟩
 ·have hkn:k=f.blocks.length:=by simp at ck;omega
  subst hkn
  refine y4<|ae<|aa U<|am U<|z2<|zg<|zm (x:=.int _ _) U ?_
  rw[xP]
theorem tH (f:ab) (hE:cg f) (hf:small f) (v:Nat) (b a:Int) (h0:0≤b) (hb:b<f.blocks.length):aP prog E 87 [.agg (bw f),.int .i64 v,.int .i64 b,.int .i64 a] (.bool (eZ f (aD f v) b a)):=by
 have hn:=hf.2.2.1
 refine zp func87 U (by decide) U<|ae<|y6 (cs:=_) U U U<|ad U<|z2<|ae<|ac Z0 ji U U<|aa U<|ze (kW f hf v) U<|z8 (uY U)<|z8 (nC U U)<|z8 (nC U U)<|am U<|am U<|z2<|zb<|zi<|ae<|aa U<|ap U U<|ad U<|z2<|zn U (fun c0=>?_) (fun c0=>?_)
 ·refine ae<|ad U<|z2<|zg<|zm (x:=.bool _) U ?_
  rw[eZ,if_pos c0]
 ·refine ae<|aa U<|aa U<|ao U U<|ad U<|z2<|zw U (fun c1=>?_) (fun c1=>?_)
  ·have d1:(aD f v).1=b:=by simpa using c1
   refine ae<|aa U<|aa U<|ap U U<|ad U<|z2<|zg<|zm (x:=.bool _) U ?_
   rw[eZ,if_neg c0,if_pos d1]
  ·have d1:¬(aD f v).1=b:=by simpa using c1
   have hg:=kU (E:=ah f) (n:=f.blocks.length) (k:=b.toNat) (shut:=(aD f v).1) (by omega)
   rw[show ((b.toNat:Nat):Int)=b by omega] at hg
   refine zf<|ae<|ac Z0 ji U U<|aa U<|ze (iD f hE hn (aD f v).1) U<|aa U<|z8 (bB b.toNat jw Zb U U (by omega) hg)<|z8 (qe (c:=.bool _) Yn U)<|aJ U<|ad U<|z2<|zg<|zm (x:=.bool _) U ?_
   rw[eZ,if_neg c0,if_neg d1]
end
section
open Go.Proofs.Tryz
open Go.Proofs Go.Lib Go.Shelf Go.RowKit
variable {E:World}
set_option maxRecDepth 20000
theorem Ch {f:ab} (hE:cg f) (i:Nat) (p:cZ):G9 f i p=true↔B3 f i p.from_:=by
 unfold G9
 rw[wm,oH,C6 hE]
theorem AX {l:List Int} (hn:l.Nodup) {i:Int} (h:i∈l):(l.filter fun c=>decide (c=i))=[i]:=by
 induction l with
 |nil=>cases h
 |cons c l ih=>
  obtain ⟨h1,h2⟩:=List.nodup_cons.1 hn
  by_cases e:c=i
  ·subst e
   have:(l.filter fun x=>decide (x=c))=[]:=List.filter_eq_nil_iff.2 fun x hx=>by
    simp only[wm];rintro rfl;exact h1 hx
   simp[this]
  ·rw[List.filter_cons_of_neg (by simpa using e)]
   rcases List.mem_cons.1 h with h3|h3
   ·exact absurd h3.symm e
   ·exact ih h2 h3
theorem AY {f:ab} (k:Nat) (i:Int):(bj (ah f) (k+1) i).length=(bj (ah f) k i).length+if i∈ah f k then 1 else 0:=by
 rw[lT,w5,w6]
 have hn:=iC f k
 congr 1
 by_cases h:i∈ah f k
 ·rw[if_pos h]
  have h1:=AX hn h
  rw[h1];rfl
 ·rw[if_neg h]
  have h1:((ah f k).filter fun c=>decide (c=i))=[]:=List.filter_eq_nil_iff.2 fun c hc=>by
   simp only[wm];rintro rfl;exact h hc
  rw[h1];rfl
set_option maxHeartbeats 4000000 in
theorem rZ (f:ab) (hE:cg f) (hf:small f) (hS:bH f):aP prog E 85 [.agg (bw f)] (.bool (dy f)):=by
 have hn:=hf.2.2.1
 refine zp func85 U (by decide) U<|ae<|y6 (cs:=_) U U U<|ad U<|z2<|zb<|ae<|ak je U Zd U U<|aI Zf U<|aj ju U<|aa U<|z2<|zi<|y5 (γ:=Nat) [1,13,14] (fun i=>[(15,.i i)]) (fun i=>[]) (fun i=>i≤f.blocks.length∧(List.range i).all (Fk f)=true) (fun i=>f.blocks.length - i) 0 aL aE (⟨w2 _,U⟩) ?_
 rintro i ⟨hi,hall⟩
 refine ae<|ap U U<|z2<|zb<|zn U (fun ci=>?_) (fun ci=>?_)
 ·have hi2:i<f.blocks.length:=by simp at ci;omega
  obtain ⟨b,hbi⟩:∃b,f.blocks[i]=b:=⟨_,rfl⟩
  have hget:f.blocks[i]?=some b:=by rw[qx hi2,hbi]
  have hmem:b∈f.blocks:=hbi▸w3 hi2
  obtain ⟨hb0,hb1,hb2,hb3,hb4⟩:=hf.2.2.2.2 b hmem
  have hPh:=(hS.2.2.2.2.2 b hmem).1
  refine zf<|zb<|zi<|ae<|aa U<|z8 (bB i ju Z2 U U U hget)<|ac Yc Z2 U U<|zu (cs:=[.e,.n,.n,.int .i64 0,.int .i64 0,.int .i64 0,.int .i64 0]) Zh U U<|fun i4=>am U<|zj Z2 U U U U U U .head U<|zd (y8 (t:=4) U .head)<|z2<|ae<|ak jr U Zv U U<|aI Yd U<|aj Z8 U<|aa U<|z2<|zi<|y5 (γ:=Nat) [1,3,13,14,15,21,22] (fun j=>[(23,.i j)]) (fun j=>[]) (fun j=>j≤b.phis.length∧(b.phis.take j).all (G9 f i)=true) (fun j=>b.phis.length - j) 0 aL aE (⟨w2 _,U⟩) ?_
  rintro j ⟨hj,hjall⟩
  refine ae<|ap U U<|z2<|zb<|zn U (fun cj=>?_) (fun cj=>?_)
  ·have hj2:j<b.phis.length:=by simp at cj;omega
   obtain ⟨p,hp⟩:∃p,b.phis[j]=p:=⟨_,rfl⟩
   have hpm:p∈b.phis:=hp▸w3 hj2
   have hpl:=(hb3 p hpm).2
   have hpr:∀c∈p.from_,0≤c∧c<f.blocks.length:=fun c hc=>by have:=List.all_eq_true.1 (hPh p hpm).2.2.2.2 c hc;simpa [eX] using this
   have hbad:¬B3 f i p.from_→dy f=false:=fun h=>dL hi2 (by rw[my hget];exact Bool.eq_false_iff.2 (dI hj2 (by rw[hp];exact Bool.eq_false_iff.2 fun h2=>h ((Ch hE i p).1 h2))))
   refine zf<|zb<|zi<|ae<|z8 (bB j Z8 Ze U U U (by rw[qx hj2,hp])) ?_
   refine ac Ys Ze U U<|zu (cs:=[.int .i64 0,.n,.n]) Y1 U U<|fun i6=>zj Ze U U U U U U .head U<|zd (y8 (t:=6) U .head)<|z2<|ae<|am U<|z2<|zb<|ae<|ak je U Zd U U<|aI Zf U<|aj ju U<|aa U<|z2<|zi<|y5 (γ:=Nat) [1,3,6,13,14,15,21,22,23,29] (fun a=>[(30,.i a),(7,.i (bj (ah f) a i).length)]) (fun a=>[]) (fun a=>a≤f.blocks.length) (fun a=>f.blocks.length - a) 0 b7 aE (w2 _) ?_
   rintro a ha
   refine ae<|ap U U<|z2<|zb<|zn U (fun ca=>?_) (fun ca=>?_)
   ·have ha2:a<f.blocks.length:=by simp at ca;omega
    have hone:=AY (f:=f) a i
    have hle:=iX f i a
    refine zf<|zb<|zi<|ae<|aa U<|am U<|z2<|ae<|ac Z0 ji U U<|aa U<|aa U<|ze (kV f hn (a:Int) (i:Int) (by omega) (by omega)) U<|z2<|zw U (fun cl=>?_) (fun cl=>?_)
    ·have hl:(i:Int)∈ah f a:=by simpa using cl
     rw[if_pos hl] at hone
     refine aW<|aa U<|aC U U<|am U<|z2<|aW<|aC U U<|aa U<|z2 ?_
     exact ⟨a+1,iS,⟨rfl,(by rw[hone];rfl),trivial⟩,aE,ha2,by omega⟩
    ·have hl:¬(i:Int)∈ah f a:=by simpa using cl
     rw[if_neg hl] at hone
     refine zf<|aW<|aC U U<|aa U<|z2 ?_
     exact ⟨a+1,iS,⟨rfl,(by rw[hone];rfl),trivial⟩,aE,ha2,by omega⟩
   ·have han:a=f.blocks.length:=by simp at ca;omega
    subst han
    refine y4<|zb<|ae<|aa U<|ak Z4 U jh U U<|aI jx U<|aj j7 U<|aO U U<|z2<|zw U (fun cn=>?_) (fun cn=>?_)
    ·have hne:¬(bj (ah f) f.blocks.length i).length=p.from_.length:=by have h0:¬((bj (ah f) f.blocks.length i).length:Int)=(p.from_.length:Int):=(by simpa using cn);omega
     refine ae<|ad U<|z2<|zg<|zm (x:=.bool _) U ?_
     rw[hbad fun h=>hne h.1]
    ·have hne:(bj (ah f) f.blocks.length i).length=p.from_.length:=by have h0:((bj (ah f) f.blocks.length i).length:Int)=(p.from_.length:Int):=(by simpa using cn);omega
     refine zf<|ae<|ak Z4 U jh U U<|aI jx U<|aj j7 U<|aa U<|z2<|zi<|y5 (γ:=Nat) [1,3,6,13,14,15,21,22,23,46,47] (fun k=>[(48,.i k)]) (fun k=>[]) (fun k=>k≤p.from_.length∧∀q (h:q<p.from_.length),q<k→(i:Int)∈ah f p.from_[q]∧p.from_[q] ∉ p.from_.take q) (fun k=>p.from_.length - k) 0 aL aE (⟨w2 _,fun q h h2=>by omega⟩) ?_
     rintro k ⟨hk,hok⟩
     refine ae<|ap U U<|z2<|zb<|zn U (fun ck=>?_) (fun ck=>?_)
     ·have hk2:k<p.from_.length:=by simp at ck;omega
      obtain ⟨c,hc⟩:∃c,p.from_[k]=c:=⟨_,rfl⟩
      obtain ⟨hc0,hcn⟩:=hpr c (hc▸w3 hk2)
      refine zf<|zb<|zi<|ae<|aa U<|z8 (bB k j7 j9 U U U (by rw[qx hk2,hc])) ?_
      refine aA jg U<|am U<|am U<|z2<|zb<|ae<|ac Z0 ji U U<|aa U<|aa U<|ze (kV f hn c (i:Int) hc0 hcn) U<|aJ U<|z2<|zw U (fun cl=>?_) (fun cl=>?_)
      ·have hl:¬(i:Int)∈ah f c:=by simpa using cl
       refine ae<|ad U<|z2<|zg<|zm (x:=.bool _) U ?_
       rw[hbad fun h=>hl (hc▸(h.2 k hk2).1)]
      ·have hl:(i:Int)∈ah f c:=by simpa using cl
       refine zf<|ae<|aa U<|aa U<|z2<|zi<|y5 (γ:=Nat) [1,3,6,10,13,14,15,21,22,23,46,47,48,58] (fun q=>[(59,.i q)]) (fun q=>[]) (fun q=>q≤k∧c ∉ p.from_.take q) (fun q=>k - q) 0 aL aE (⟨w2 _,by simp⟩) ?_
       rintro q ⟨hq,hqn⟩
       refine ae<|ap U U<|z2<|zb<|zn U (fun cq=>?_) (fun cq=>?_)
       ·have hq2:q<k:=by omega
        have hq3:q<p.from_.length:=by omega
        refine zf<|zb<|zi<|ae<|aa U<|am U<|z2<|ae<|ak Z4 U jh U U<|aI jx U<|aa U<|z8 (bB q j7 j9 U U U (qx hq3))<|aA jg U<|aa U<|ao U U<|z2<|zw U (fun ce=>?_) (fun ce=>?_)
        ·have he:p.from_[q]=c:=by simpa using ce
         have hin:c∈p.from_.take k:=by rw[←he];exact List.mem_take_iff_getElem.2 ⟨q,by omega,rfl⟩
         refine ae<|ad U<|z2<|zg<|zm (x:=.bool _) U ?_
         rw[hbad fun h=>(h.2 k hk2).2 (by rw[hc];exact hin)]
        ·have he:¬p.from_[q]=c:=by simpa using ce
         refine zf<|aW<|aC U U<|aa U<|z2 ?_
         exact ⟨q+1,⟨rfl,rfl,rfl,rfl,rfl,rfl,rfl,rfl,rfl,rfl,rfl,rfl,rfl,rfl,trivial⟩,aL,aE,⟨hq2,fun hm=>by rw[qy hq3] at hm;rcases List.mem_append.1 hm with h1|h1;exact hqn h1;simp at h1;exact he h1.symm⟩,by omega⟩
       ·have hqn2:q=k:=by omega
        subst hqn2
        refine y4<|aW<|aC U U<|aa U<|z2 ?_
        exact ⟨q+1,qP,aL,aE,⟨hk2,fun r hr h2=>by rcases Nat.lt_succ_iff_lt_or_eq.1 h2 with h3|h3;exact hok r hr h3;subst h3;rw[hc];exact ⟨hl,hqn⟩⟩,by omega⟩
     ·have hkn:k=p.from_.length:=by simp at ck;omega
      subst hkn
      refine y4<|aW<|aC U U<|aa U<|z2 ?_
      exact ⟨j+1,lg,aL,aE,⟨hj2,bS hj2 hjall (by rw[hp];exact (Ch hE i p).2 ⟨hne,fun q hq=>hok q hq hq⟩)⟩,by omega⟩
  ·have hjn:j=b.phis.length:=by simp at cj;omega
   subst hjn
   rw[w4] at hjall
   refine y4<|aW<|aC U U<|aa U<|z2 ?_
   exact ⟨i+1,bW,aL,aE,⟨hi2,cL hall (by rw[my hget];exact hjall)⟩,by omega⟩
 ·have hin:i=f.blocks.length:=by simp at ci;omega
  subst hin
  refine y4<|ae<|ad U<|z2<|zg<|zm (x:=.bool _) U ?_
  rw[show dy f=true from hall]
end
end Go.Proofs.YtbbonnfjealmpaaGreatDoor
