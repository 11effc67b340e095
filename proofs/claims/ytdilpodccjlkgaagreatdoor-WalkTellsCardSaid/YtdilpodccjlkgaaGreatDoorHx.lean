/- What the document knows behind an instruction. Of typed ones, of facts of nodes that there are. -/
import Derived.Test.YtdilpodccjlkgaaGreatDoorHw
import Derived.Test.YtdilpodccjlkgaaGreatDoorHp
set_option linter.unusedVariables false
set_option linter.unusedSimpArgs false
set_option linter.unusedSectionVars false
namespace Go.Proofs.YtdilpodccjlkgaaGreatDoor
open Go.Proofs.Tryz
open Go.Proofs Go.Lib Go.Shelf Go.RowKit
theorem Fj:cU prog 45 54 1 4 [.int .i64 0,.int .i64 0,.raw (.slice none 0 0),.int .i64 0]:=⟨_,jz,jv,Z4,by decide,by decide,by kernel_rfl⟩
variable {E:World}
set_option maxRecDepth 20000
def gV (P:List aF) (x:aF):List aF:=if 18≤x.op∧x.op≤24 then P++[x] else P
theorem lc (K:KS) (p:List (Int × List Int)) (a b c:Int):cQ ⟨K.l,p⟩ a b c=⟨(cQ K a b c).l,p⟩:=by unfold cQ;split<;>rfl
theorem Ah {f:ad} {x:aF} (hT:ft f x=true) (h:x.op=12∨x.op=15):¬bp f x.dst=1:=by
 unfold ft at hT
 rw[if_neg (by omega),qz] at hT
 have h2:=hT.2
 rcases h with e|e
 ·rw[e,show dV 12=true from by decide,show iS 12=0 from by decide] at h2
  have:bp f x.dst=0:=by simpa using h2
  omega
 ·rw[e,show dV 15=true from by decide,show iS 15=2 from by decide] at h2
  have:bp f x.dst=2:=by simpa using h2
  omega
section
variable {f:ad} {K:KS} {P:List aF} {iw jl jp:Nat} (hv:f.vars.length≤1000)
theorem f8.stp (hP:f8 K P) (hPl:P.length<1000000) {x:aF} (hx:x.args.length≤1000):f8 (dk f K x) (gV P x):=by
 unfold dk gV
 by_cases h:18≤x.op∧x.op≤24
 ·rw[if_pos h,if_pos h]
  refine ⟨?_,by rw[qq,List.length_singleton];omega,fun y hy=>?_⟩
  ·rw[xr,hP.eq,qv];rfl
  ·rcases List.mem_append.1 hy with hy|hy
   ·exact hP.arg y hy
   ·rw[List.mem_singleton.1 hy];exact hx
 ·rw[if_neg h,if_neg h]
  exact ⟨by rw[sH];exact hP.eq,hP.len,hP.arg⟩
include hv
set_option maxHeartbeats 4000000 in
theorem uZ (hK:KB f K) (hP:f8 K P) (hPl:P.length<1000000) (x:aF) (hF:dg f x) (hT:ft f x=true) :
  aR prog E 27 [.po iw 0,.agg (aP x)] (li f iw jl jp K P) (fun y O=>∃g:Nat × Nat,y=.tup []∧O=li f iw g.1 g.2 (dk f K x) (gV P x)∧True):=by
 refine yu (γ:=Nat × Nat) (x:=fun g=>.tup []) (M:=fun g=>li f iw g.1 g.2 (dk f K x) (gV P x)) (p:=fun _=>True) ?_
 have nn:aJ f (bQ f):=d5
 have hfl:=Co P
 have a0:∀{k:Int},x.op=k→0<([0,1,2,2,2,2,2,2,2,2,1,2,1,2,3,1,0,1,2,1,1,2,2,2,1,2,2][k.toNat]?).getD 0→aJ f (bc x)∧0<x.args.length:=fun e h=>⟨bv (hF.a0 (by rw[hF.cnt e];exact h)),by rw[hF.cnt e];exact h⟩
 have a1:∀{k:Int},x.op=k→1<([0,1,2,2,2,2,2,2,2,2,1,2,1,2,3,1,0,1,2,1,1,2,2,2,1,2,2][k.toNat]?).getD 0→aJ f (bC x)∧1<x.args.length:=fun e h=>⟨bv (hF.a1 (by rw[hF.cnt e];exact h)),by rw[hF.cnt e];exact h⟩
 have add:=fun P jl jp K hK a b c=>k9 (E:=E) (f:=f) (P:=P) (iw:=iw) (jp:=jp) jl K hK a b c
 have sum:=fun jp h d y z h1 h2 h3=>Ag (E:=E) (f:=f) (iw:=iw) (jl:=jl) (jp:=jp) hv hK hP x hF h d y z h1 h2 h3
 have lea:=fun P jp a b (ha:aJ f a) (hb:aJ f b)=>Er (E:=E) (P:=P) (iw:=iw) (jl:=jl) (jp:=jp) hv hK ha hb
 have hpasN:¬(18≤x.op∧x.op≤24)→gV P x=P:=fun h=>by unfold gV;rw[if_neg h]
 have hal:x.args.length<1000:=by
  have h:=hF.cnt (k:=x.op) rfl
  have:∀k:Nat,([0,1,2,2,2,2,2,2,2,2,1,2,1,2,3,1,0,1,2,1,1,2,2,2,1,2,2][k]?).getD 0≤3:=fun k=>by
   by_cases hk:k<27
   ·have:∀j:Fin 27,([0,1,2,2,2,2,2,2,2,2,1,2,1,2,3,1,0,1,2,1,1,2,2,2,1,2,2][j.val]?).getD 0≤3:=by decide
    exact this ⟨k,hk⟩
   ·rw[List.getElem?_eq_none (by simpa using hk)];decide
  have:=this x.op.toNat
  omega
 have hop:=hF.op
 unfold li at *
 refine zq func27 U (by decide) U<|ae<|y9 (cs:=_) U U U<|z6<|ae<|ao j5 U j6 U U<|ay j7 U<|ap U<|ap U<|ap U<|z6<|zd<|ae<|ao j5 U j8 U U<|aI j9 U<|ar wz U<|bb U U<|z6<|ya (γ:=Int) [0,3,4,6] (fun y=>[(5,.int .i64 y)]) (fun y=>[(iw,.cells 109 (mx f jl K.l.length jp (P).length)),(jl,.grow 3 145 (K.l.map bf).flatten),(jp,.grow 4 54 ((P).map aP).flatten)]) (fun y=>0<x.args.length→y=bc x) ?_ (fun _ _ h=>h) ?_
 ·refine zu U (fun c1=>?_) (fun c1=>?_)
  ·refine aO<|ao j5 U j8 U U<|aI j9 U<|za (bh 0 wz j6 U U U (bn (by omega)))<|ay j7 U<|ap U<|z6 ?_
   exact ⟨(bc x),(by repeat (first|with_reducible exact zp _ _|refine zz rfl ?_|exact fl)),aH,aD,fun _=>rfl⟩
  ·refine zg ?_
   exact ⟨(-1),(by repeat (first|with_reducible exact zp _ _|refine zz rfl ?_|exact fl)),aH,aD,fun h=>absurd h (by omega)⟩
 ·rintro y hy
  refine zd<|ae<|ao j5 U j8 U U<|aI j9 U<|ar wz U<|bb U U<|z6<|ya (γ:=Int) [0,3,4,5] (fun z=>[(6,.int .i64 z)]) (fun z=>[(iw,.cells 109 (mx f jl K.l.length jp (P).length)),(jl,.grow 3 145 (K.l.map bf).flatten),(jp,.grow 4 54 ((P).map aP).flatten)]) (fun z=>1<x.args.length→z=bC x) ?_ (fun _ _ h=>h) ?_
  ·refine zu U (fun c2=>?_) (fun c2=>?_)
   ·refine aO<|ao j5 U j8 U U<|aI j9 U<|za (bh 1 wz j6 U U U (bw (by omega)))<|ay j7 U<|ap U<|z6 ?_
    exact ⟨(bC x),(by repeat (first|with_reducible exact zp _ _|refine zz rfl ?_|exact fl)),aH,aD,fun _=>rfl⟩
   ·refine zg ?_
    exact ⟨(-1),(by repeat (first|with_reducible exact zp _ _|refine zz rfl ?_|exact fl)),aH,aD,fun h=>absurd h (by omega)⟩
  ·rintro z hz
   refine zd<|ae<|ao j5 U jy U U<|ay Z2 U<|ze (nt x.op hop) U<|bb U U<|z6<|ya (γ:=Nat) [0,3,4,5,6] (fun g=>[]) (fun g=>[(iw,.cells 109 (mx f jl K.l.length g ((gV P x)).length)),(jl,.grow 3 145 (K.l.map bf).flatten),(g,.grow 4 54 (((gV P x)).map aP).flatten)]) (fun g=>True) ?_ (fun _ _ h=>h) ?_
   ·refine zu U (fun cc=>?_) (fun cc=>?_)
    ·have hcc:18≤x.op∧x.op≤24:=Classical.byContradiction fun h=>by rw[if_neg h] at cc;omega
     have hps:gV P x=P++[x]:=by unfold gV;rw[if_pos hcc]
     refine zw (fun j=>Nat.beq j 10) (by kernel_rfl) U (zh (.r (.rest _)))<|ak 0 U (ef U)<|ak 1 U (ef U)<|ak 2 U (yb U)<|ak 3 U (zn jw U Zo (by decide) U U)<|ak 4 U (zt (c:=.own _ _) Zx U ⟨_,.head⟩ U)<|ak 5 U (yr Zk jv U U)<|ba 6 U<|y4 (rows:=[[_,_,_,_]]) Fj U U U U U<|z6<|ba 7 U<|yj (k:=4) jz type54 U U U U U (fun _=>.t1) hfl (by decide) U (by show (_+_)*48≤_;simp<;>omega) (by simp<;>omega)<|fun i44=>z6<|yx (i:=8) U (by kernel_rfl) (by kernel_rfl) (by kernel_rfl) (by kernel_rfl) (yb U)<|ak 9 U (zn jw U Zo (by decide) U U)<|ym<|yi (i:=10) U (by kernel_rfl) (by kernel_rfl)<|yw (l:=[_]) (new:=[_,_,_,_,_,_]) Zo U U U U U U .head U U<|z6<|yo (by kernel_rfl) ?_
     exact ⟨i44,(by repeat (first|with_reducible exact zp _ _|refine zz rfl ?_|exact iO)),trivial,⟨_,(.refl _),by rw[hps,qv,List.flatten_append,qq];rfl⟩,trivial⟩
    ·have hcc:¬(18≤x.op∧x.op≤24):=fun h=>by rw[if_pos h] at cc;omega
     refine zg ?_
     exact ⟨jp,(by repeat (first|with_reducible exact zp _ _|refine zz rfl ?_|exact iO)),trivial,⟨_,(.refl _),by rw[hpasN hcc]⟩,trivial⟩
   ·rintro jq _
    obtain ⟨P2,hP2⟩:∃P2,gV P x=P2:=⟨_,rfl⟩
    rw[hP2]
    unfold dk
    refine ae<|ao j5 U jy U U<|ay Z2 U<|z6<|zj<|ae<|ai U U<|ab U<|z6<|zu U (fun k0=>?_) (fun k0=>?_)
    ·have k0:x.op=0:=k0
     rw[if_neg (by omega)]
     unfold gR
     have hd:aJ f x.dst:=bv (hF.d k0 rfl)
     refine zd<|ya (γ:=Bool) [0,3,4] (fun z0=>[(58,.bool z0)]) (fun z0=>[(iw,.cells 109 (mx f jl K.l.length jq (P2).length)),(jl,.grow 3 145 (K.l.map bf).flatten),(jq,.grow 4 54 ((P2).map aP).flatten)]) (fun z0=>z0=decide (-bo≤x.num∧x.num≤bo)) ?_ (fun _ _ h=>h) ?_
     ·refine aO<|ao j5 U Za U U<|ay Zj U<|za (yy U U)<|aj U<|zo (s:=54) U (fun c1=>?_) (fun c1=>?_)
      ·refine z8 U U c1<|ao j5 U Za U U<|z8 U U c1<|ay Zj U<|z8 U U c1<|za (qb U U)<|aq U c1 U<|z6 ?_
       exact ⟨_,(by repeat (first|with_reducible exact zp _ _|refine zz rfl ?_|exact de)),aH,aD,by unfold bo;simp_all<;>omega⟩
      ·refine z7 U U c1<|z7 U U c1<|z7 U U c1<|au U c1 U<|z6 ?_
       exact ⟨_,(by repeat (first|with_reducible exact zp _ _|refine zz rfl ?_|exact de)),aH,aD,by unfold bo;simp_all<;>omega⟩
     ·rintro z0 hz0
      refine zy U (fun cz=>?_) (fun cz=>?_)
      ·have cz:=w4 (hz0▸cz)
       rw[if_pos ⟨k0,cz⟩]
       unfold bo at cz
       have hneg:IntKind.i64.wrap (0 - x.num)=-x.num:=by rw[rX];omega
       refine zd<|zw (fun j=>false) (by kernel_rfl) U (zh (.rest _))<|ak 0 U (ef U)<|ak 1 U (dq U)<|ak 2 U (ef U)<|ak 3 U (yb U)<|ak 4 U (zn jw U j6 (by decide) U U)<|ak 6 U (bx j5 U Za U U)<|ak 7 U (b7 Zj U)<|ba 5 U<|za (zt (c:=.int _ _) j7 U ⟨_,.head⟩ U)<|z6<|ba 8 U<|zr U (zh (.l (.l (.l (.rest _))))) (add P2 jl jq K hK x.dst (bQ f) x.num) ?_
       rintro r67 O67 ⟨j1,rfl,rfl,_⟩
       refine z6<|bY<|zw (fun j=>false) (by kernel_rfl) U (zh (.rest _))<|ak 0 U (ef U)<|ak 1 U (ef U)<|ak 2 U (yb U)<|ak 3 U (zn jw U j6 (by decide) U U)<|ak 5 U (dq U)<|ak 6 U (bx j5 U Za U U)<|ak 7 U (b7 Zj U)<|ak 8 U (Gv.neg U)<|ba 4 U<|za (zt (c:=.int _ _) j7 U ⟨_,.head⟩ U)<|z6<|ba 9 U<|zr U (zh (.l (.l (.l (.rest _))))) (add P2 j1 jq _ (hK.add hd nn) (bQ f) x.dst (IntKind.i64.wrap (0 - x.num))) ?_
       rintro r77 O77 ⟨j2,rfl,rfl,_⟩
       refine z6<|bY<|yh ?_
       exact ⟨(j2,jq),rfl,⟨_,.refl _,by rw[hneg]<;>rfl⟩,trivial⟩
      ·have cz:=w5 (hz0▸cz)
       rw[if_neg (fun h=>cz h.2),if_neg (by omega),if_neg (by omega),if_neg (by omega),if_neg (by omega)]
       refine zg<|yh ?_
       exact ⟨(jl,jq),rfl,⟨_,.refl _,rfl⟩,trivial⟩
    ·have k0:¬x.op=0:=k0
     refine zd<|ae<|ai U U<|ab U<|z6<|ya (γ:=Bool) [0,3,4,5,6,48] (fun z1=>[(78,.bool z1)]) (fun z1=>[(iw,.cells 109 (mx f jl K.l.length jq (P2).length)),(jl,.grow 3 145 (K.l.map bf).flatten),(jq,.grow 4 54 ((P2).map aP).flatten)]) (fun z1=>z1=decide (x.op=1∨x.op=12∨x.op=15)) ?_ (fun _ _ h=>h) ?_
     ·refine zy U (fun c2=>?_) (fun c2=>?_)
      ·refine zg ?_
       exact ⟨_,(by repeat (first|with_reducible exact zp _ _|refine zz rfl ?_|exact nu)),aH,aD,by simp_all⟩
      ·refine ae<|ai U U<|ab U<|z6<|zy U (fun c3=>?_) (fun c3=>?_)
       ·refine zg ?_
        exact ⟨_,(by repeat (first|with_reducible exact zp _ _|refine zz rfl ?_|exact nu)),aH,aD,by simp_all⟩
       ·refine aO<|ai U U<|ab U<|z6 ?_
        exact ⟨_,(by repeat (first|with_reducible exact zp _ _|refine zz rfl ?_|exact nu)),aH,aD,by simp_all⟩
     ·rintro z1 hz1
      refine zy U (fun c1=>?_) (fun c1=>?_)
      ·have c1:=w4 (hz1▸c1)
       rw[if_neg (by omega)]
       unfold gR
       rw[if_neg (by omega)]
       have hd0:x.dst<f.vars.length∧0≤x.dst:=by
        rcases c1 with e|e|e
        ·exact hF.d e rfl
        ·exact hF.d e rfl
        ·exact hF.d e rfl
       have hd:aJ f x.dst:=bv hd0
       have n0:aJ f (bc x)∧0<x.args.length:=by
        rcases c1 with e|e|e
        ·exact a0 e (by decide)
        ·exact a0 e (by decide)
        ·exact a0 e (by decide)
       obtain rfl:=hy n0.2
       obtain ⟨vr,hx,hv2,hk⟩:=iA (show aZ f x.dst=true by unfold aZ;simpa using ⟨hd0.2,hd0.1⟩)
       refine ae<|aE U<|aw U<|za (zn jw U jf (by decide) U U)<|za (zn jg U Y4 (by decide) U U)<|za (zt (c:=.fro _ _) Yb U ⟨_,.head⟩ U)<|aa U<|za (bh x.dst.toNat Z7 Y1 U U hv2 hx)<|ao Zi U Yq U U<|ay X4 U<|aM U U<|z6<|zy U (fun ct=>?_) (fun ct=>?_)
       ·have ct:¬bp f x.dst=1:=by rw[hk];simpa using ct
        rw[if_pos (show (x.op=1∧¬bp f x.dst=1)∨x.op=12∨x.op=15 from c1.elim (fun e=>.inl ⟨e,ct⟩) .inr)]
        refine ae<|aE U<|aa U<|aa U<|zr U (zh (.l (.l (.l (.rest _))))) (add P2 jl jq K hK x.dst (bc x) 0) ?_
        rintro r95 O95 ⟨j1,rfl,rfl,_⟩
        refine z6<|aO<|aE U<|aa U<|aa U<|zr U (zh (.l (.l (.l (.rest _))))) (add P2 j1 jq _ (hK.add hd n0.1) (bc x) x.dst 0) ?_
        rintro r99 O99 ⟨j2,rfl,rfl,_⟩
        refine z6<|yh ?_
        exact ⟨(j2,jq),rfl,⟨_,.refl _,rfl⟩,trivial⟩
       ·have ct:bp f x.dst=1:=by rw[hk];simpa using ct
        have e1:x.op=1:=c1.resolve_right fun h=>Ah hT h ct
        rw[if_neg (show ¬((x.op=1∧¬bp f x.dst=1)∨x.op=12∨x.op=15) by omega),if_neg (by omega),if_neg (by omega),if_neg (by omega)]
        refine zg<|yh ?_
        exact ⟨(jl,jq),rfl,⟨_,.refl _,rfl⟩,trivial⟩
      ·have c1:=w5 (hz1▸c1)
       refine ae<|ai U U<|ab U<|z6<|zu U (fun c16=>?_) (fun c16=>?_)
       ·have c16:x.op=16:=c16
        rw[if_neg (by omega)]
        unfold gR
        rw[if_neg (by omega),if_neg (by omega),if_pos c16]
        have hd:aJ f x.dst:=bv (hF.d c16 rfl)
        refine ae<|aE U<|aa U<|aE U<|aw U<|za (zn jw U j6 (by decide) U U)<|za (zt (c:=.int _ _) j7 U ⟨_,.head⟩ U)<|zr U (zh (.l (.l (.l (.rest _))))) (add P2 jl jq K hK x.dst (bQ f) 0) ?_
        rintro r108 O108 ⟨j1,rfl,rfl,_⟩
        refine z6<|aO<|aE U<|aE U<|aw U<|za (zn jw U j6 (by decide) U U)<|za (zt (c:=.int _ _) j7 U ⟨_,.head⟩ U)<|aa U<|zr U (zh (.l (.l (.l (.rest _))))) (add P2 j1 jq _ (hK.add hd nn) (bQ f) x.dst 0) ?_
        rintro r115 O115 ⟨j2,rfl,rfl,_⟩
        refine z6<|yh ?_
        exact ⟨(j2,jq),rfl,⟨_,.refl _,rfl⟩,trivial⟩
       ·have c16:¬x.op=16:=c16
        refine zd<|ae<|ai U U<|ab U<|z6<|ya (γ:=Bool) [0,3,4,5,6,48] (fun z2=>[(116,.bool z2)]) (fun z2=>[(iw,.cells 109 (mx f jl K.l.length jq (P2).length)),(jl,.grow 3 145 (K.l.map bf).flatten),(jq,.grow 4 54 ((P2).map aP).flatten)]) (fun z2=>z2=decide (x.op=2∨x.op=3)) ?_ (fun _ _ h=>h) ?_
        ·refine zy U (fun c4=>?_) (fun c4=>?_)
         ·refine zg ?_
          exact ⟨_,(by repeat (first|with_reducible exact zp _ _|refine zz rfl ?_|exact nu)),aH,aD,by simp_all⟩
         ·refine aO<|ai U U<|ab U<|z6 ?_
          exact ⟨_,(by repeat (first|with_reducible exact zp _ _|refine zz rfl ?_|exact nu)),aH,aD,by simp_all⟩
        ·rintro z2 hz2
         refine zy U (fun c2=>?_) (fun c2=>?_)
         ·have c2:=w4 (hz2▸c2)
          rw[if_neg (by omega)]
          unfold gR
          rw[if_neg (by omega),if_neg (by omega),if_neg (by omega),if_pos c2]
          have hl2:x.args.length=2:=by rcases c2 with e|e<;>(rw[hF.cnt e];decide)
          have hPe:P2=P:=by rw[←hP2];exact hpasN (by omega)
          subst hPe
          refine aO<|aE U<|ac Zk jv U U<|aa U<|aa U<|aa U<|zr U (zh (.l (.l (.l (.rest _))))) (sum jq c2 x.dst y z U (hy (by omega)) (hz (by omega))) ?_
          rintro r124 O124 ⟨j1,rfl,rfl,_⟩
          refine z6<|yh ?_
          exact ⟨(j1,jq),rfl,⟨_,.refl _,rfl⟩,trivial⟩
         ·have c2:=w5 (hz2▸c2)
          refine zd<|ae<|ai U U<|ab U<|z6<|ya (γ:=Bool) [0,3,4,5,6,48] (fun z3=>[(125,.bool z3)]) (fun z3=>[(iw,.cells 109 (mx f jl K.l.length jq (P2).length)),(jl,.grow 3 145 (K.l.map bf).flatten),(jq,.grow 4 54 ((P2).map aP).flatten)]) (fun z3=>z3=decide (x.op=5∨x.op=6)) ?_ (fun _ _ h=>h) ?_
          ·refine zy U (fun c5=>?_) (fun c5=>?_)
           ·refine zg ?_
            exact ⟨_,(by repeat (first|with_reducible exact zp _ _|refine zz rfl ?_|exact nu)),aH,aD,by simp_all⟩
           ·refine aO<|ai U U<|ab U<|z6 ?_
            exact ⟨_,(by repeat (first|with_reducible exact zp _ _|refine zz rfl ?_|exact nu)),aH,aD,by simp_all⟩
          ·rintro z3 hz3
           refine zy U (fun c3=>?_) (fun c3=>?_)
           ·have c3:=w4 (hz3▸c3)
            rw[if_neg (by omega)]
            unfold gR
            rw[if_neg (by omega),if_neg (by omega),if_neg (by omega),if_neg (by omega),if_pos c3]
            have hl2:x.args.length=2:=by rcases c3 with e|e<;>(rw[hF.cnt e];decide)
            have hd:aJ f x.dst:=by rcases c3 with e|e<;>exact bv (hF.d e rfl)
            have n0:aJ f (bc x):=bv (hF.a0 (by omega))
            have n1:aJ f (bC x):=bv (hF.a1 (by omega))
            obtain rfl:=hy (by omega)
            obtain rfl:=hz (by omega)
            have la:=lea P2 jq _ _ nn n0
            have lb:=lea P2 jq _ _ nn n1
            refine ae<|aE U<|aE U<|aw U<|za (zn jw U j6 (by decide) U U)<|za (zt (c:=.int _ _) j7 U ⟨_,.head⟩ U)<|aa U<|zr U (zh (.l (.l (.l (.rest _))))) (la) ?_
            rintro r135 O135 ⟨rfl,rfl⟩
            refine bR U<|bJ U U<|bZ U U<|ap U<|ab U<|z6<|ae<|aE U<|aE U<|aw U<|za (zn jw U j6 (by decide) U U)<|za (zt (c:=.int _ _) j7 U ⟨_,.head⟩ U)<|aa U<|zr U (zh (.l (.l (.l (.rest _))))) (lb) ?_
            rintro r145 O145 ⟨rfl,rfl⟩
            refine bR U<|bJ U U<|bZ U U<|ap U<|ab U<|z6<|zd<|ya (γ:=Bool × Bool) [0,3,4,5,6] (fun w=>[(8,.bool w.1),(10,.bool w.2)]) (fun w=>[(iw,.cells 109 (mx f jl K.l.length jq (P2).length)),(jl,.grow 3 145 (K.l.map bf).flatten),(jq,.grow 4 54 ((P2).map aP).flatten)]) (fun w=>w.1=eg f K (bc x)∧w.2=eg f K (bC x)) ?_ (fun _ _ h=>h) ?_
            ·refine aO<|aj U<|aj U<|zo (s:=149) U (fun c6=>?_) (fun c6=>?_)
             ·refine z8 U U c6<|aa U<|z8 U U c6<|za (qb U U)<|aq U c6 U<|aj U<|aj U<|zo (s:=154) U (fun c7=>?_) (fun c7=>?_)
              ·refine z8 U U c7<|aa U<|z8 U U c7<|za (qb U U)<|aq U c7 U<|ab U<|ab U<|z6 ?_
               exact ⟨(eg f K (bc x),eg f K (bC x)),(by repeat (first|with_reducible exact zp _ _|refine zz rfl ?_|exact iO)),⟨congrArg AV.bool (by unfold eg b5 gB;unfold bO at *;cases h:dE K.l (f.vars.length+1) (bQ f) (bc x)<;>simp_all),congrArg AV.bool (by unfold eg b5 gB;unfold bO at *;cases h2:dE K.l (f.vars.length+1) (bQ f) (bC x)<;>simp_all),trivial⟩,aD,⟨rfl,rfl⟩⟩
              ·refine z7 U U c7<|z7 U U c7<|au U c7 U<|ab U<|ab U<|z6 ?_
               exact ⟨(eg f K (bc x),eg f K (bC x)),(by repeat (first|with_reducible exact zp _ _|refine zz rfl ?_|exact iO)),⟨congrArg AV.bool (by unfold eg b5 gB;unfold bO at *;cases h:dE K.l (f.vars.length+1) (bQ f) (bc x)<;>simp_all),congrArg AV.bool (by unfold eg b5 gB;unfold bO at *;cases h2:dE K.l (f.vars.length+1) (bQ f) (bC x)<;>simp_all),trivial⟩,aD,⟨rfl,rfl⟩⟩
             ·refine z7 U U c6<|z7 U U c6<|au U c6 U<|aj U<|aj U<|zo (s:=154) U (fun c8=>?_) (fun c8=>?_)
              ·refine z8 U U c8<|aa U<|z8 U U c8<|za (qb U U)<|aq U c8 U<|ab U<|ab U<|z6 ?_
               exact ⟨(eg f K (bc x),eg f K (bC x)),(by repeat (first|with_reducible exact zp _ _|refine zz rfl ?_|exact iO)),⟨congrArg AV.bool (by unfold eg b5 gB;unfold bO at *;cases h:dE K.l (f.vars.length+1) (bQ f) (bc x)<;>simp_all),congrArg AV.bool (by unfold eg b5 gB;unfold bO at *;cases h2:dE K.l (f.vars.length+1) (bQ f) (bC x)<;>simp_all),trivial⟩,aD,⟨rfl,rfl⟩⟩
              ·refine z7 U U c8<|z7 U U c8<|au U c8 U<|ab U<|ab U<|z6 ?_
               exact ⟨(eg f K (bc x),eg f K (bC x)),(by repeat (first|with_reducible exact zp _ _|refine zz rfl ?_|exact iO)),⟨congrArg AV.bool (by unfold eg b5 gB;unfold bO at *;cases h:dE K.l (f.vars.length+1) (bQ f) (bc x)<;>simp_all),congrArg AV.bool (by unfold eg b5 gB;unfold bO at *;cases h2:dE K.l (f.vars.length+1) (bQ f) (bC x)<;>simp_all),trivial⟩,aD,⟨rfl,rfl⟩⟩
            ·rintro ⟨w1,w2⟩ ⟨hw1,hw2⟩
             dsimp only at hw1 hw2
             subst hw1 hw2
             refine zd<|zd<|ya (γ:=Bool) [0,3,4,5,6,10] (fun w=>[(166,.bool w)]) (fun w=>[(iw,.cells 109 (mx f jl K.l.length jq (P2).length)),(jl,.grow 3 145 (K.l.map bf).flatten),(jq,.grow 4 54 ((P2).map aP).flatten)]) (fun w=>w=decide (eg f K (bc x)=true∧(eg f K (bC x)=true∨x.op=6))) ?_ (fun _ _ h=>h) ?_
             ·refine aO<|aj U<|aj U<|zo (s:=159) U (fun c9=>?_) (fun c9=>?_)
              ·refine z8 U U c9<|aj U<|z8 U U c9<|aj U<|zo (s:=161) U (fun c10=>?_) (fun c10=>?_)
               ·refine z7 U U c10<|z7 U U c10<|z7 U U c10<|z8 U U c9<|aq U c10 U<|aq U c9 U<|z6 ?_
                exact ⟨_,(by repeat (first|with_reducible exact zp _ _|refine zz rfl ?_|exact nu)),aH,aD,by simp_all⟩
               ·refine z8 U U c10<|ao j5 U jy U U<|z8 U U c10<|ay Z2 U<|z8 U U c10<|ai U U<|z8 U U c9<|au U c10 U<|aq U c9 U<|z6 ?_
                exact ⟨_,(by repeat (first|with_reducible exact zp _ _|refine zz rfl ?_|exact nu)),aH,aD,by simp_all⟩
              ·refine z7 U U c9<|z7 U U c9<|zk U U<|zk U U<|zk U U<|z7 U U c9<|au U c9 U<|z6 ?_
               exact ⟨_,(by repeat (first|with_reducible exact zp _ _|refine zz rfl ?_|exact nu)),aH,aD,by simp_all⟩
             ·rintro w hw
              refine ya (γ:=Nat) [0,3,4,6,10] (fun g=>[]) (fun g=>[(iw,.cells 109 (mx f g (dA f K x).l.length jq (P2).length)),(g,.grow 3 145 ((dA f K x).l.map bf).flatten),(jq,.grow 4 54 ((P2).map aP).flatten)]) (fun g=>True) ?_ (fun _ _ h=>h) ?_
              ·refine zy U (fun c=>?_) (fun c=>?_)
               ·have hA:dA f K x=cQ (cQ K (bQ f) x.dst 0) x.dst (bc x) 0:=by unfold dA;rw[if_pos (w4 (hw▸c))]
                refine ae<|aE U<|aE U<|aw U<|za (zn jw U j6 (by decide) U U)<|za (zt (c:=.int _ _) j7 U ⟨_,.head⟩ U)<|aa U<|zr U (zh (.l (.l (.l (.rest _))))) (add P2 jl jq K hK (bQ f) x.dst 0) ?_
                rintro r173 O173 ⟨j1,rfl,rfl,_⟩
                refine z6<|aO<|aE U<|aa U<|aa U<|zr U (zh (.l (.l (.l (.rest _))))) (add P2 j1 jq _ (hK.add nn hd) x.dst (bc x) 0) ?_
                rintro r177 O177 ⟨j2,rfl,rfl,_⟩
                refine z6 ?_
                exact ⟨j2,(by repeat (first|with_reducible exact zp _ _|refine zz rfl ?_|exact iO)),trivial,⟨_,(.refl _),by rw[hA]<;>rfl⟩,trivial⟩
               ·have hA:dA f K x=K:=by unfold dA;rw[if_neg (w5 (hw▸c))]
                refine zg ?_
                exact ⟨jl,(by repeat (first|with_reducible exact zp _ _|refine zz rfl ?_|exact iO)),trivial,⟨_,(.refl _),by rw[hA]<;>rfl⟩,trivial⟩
              ·rintro jr _
               have hK1:=xq hK hd n0
               refine zd<|ya (γ:=Bool) [0,4,6] (fun w=>[(183,.bool w)]) (fun w=>[(iw,.cells 109 (mx f jr (dA f K x).l.length jq (P2).length)),(jr,.grow 3 145 ((dA f K x).l.map bf).flatten),(jq,.grow 4 54 ((P2).map aP).flatten)]) (fun w=>w=decide (eg f K (bC x)=true∧x.op=6)) ?_ (fun _ _ h=>h) ?_
               ·refine aO<|aj U<|aj U<|zo (s:=179) U (fun c11=>?_) (fun c11=>?_)
                ·refine z8 U U c11<|ao j5 U jy U U<|z8 U U c11<|ay Z2 U<|z8 U U c11<|ai U U<|aq U c11 U<|z6 ?_
                 exact ⟨_,(by repeat (first|with_reducible exact zp _ _|refine zz rfl ?_|exact de)),aH,aD,by simp_all⟩
                ·refine z7 U U c11<|z7 U U c11<|z7 U U c11<|au U c11 U<|z6 ?_
                 exact ⟨_,(by repeat (first|with_reducible exact zp _ _|refine zz rfl ?_|exact de)),aH,aD,by simp_all⟩
               ·rintro w hw2
                refine zy U (fun c=>?_) (fun c=>?_)
                ·have hA:gQ f K x=cQ (dA f K x) x.dst (bC x) (-1):=by unfold gQ;rw[if_pos (w4 (hw2▸c))]
                 refine aO<|aE U<|aa U<|aa U<|zr U (zh (.l (.l (.l (.rest _))))) (add P2 jr jq _ hK1 x.dst (bC x) (-1)) ?_
                 rintro r187 O187 ⟨j1,rfl,rfl,_⟩
                 refine z6<|yh ?_
                 exact ⟨(j1,jq),rfl,⟨_,.refl _,by rw[hA]<;>rfl⟩,trivial⟩
                ·have hA:gQ f K x=dA f K x:=by unfold gQ;rw[if_neg (w5 (hw2▸c))]
                 refine zg<|yh ?_
                 exact ⟨(jr,jq),rfl,⟨_,.refl _,by rw[hA]<;>rfl⟩,trivial⟩
           ·have c3:=w5 (hz3▸c3)
            refine ae<|ai U U<|ab U<|z6<|zu U (fun c18=>?_) (fun c18=>?_)
            ·have c18:x.op=18:=c18
             rw[if_pos (by omega)]
             unfold iI
             rw[if_pos c18,lc K,lc (cQ K (bQ f) (bC x) 0)]
             have n0:=a0 c18 (by decide)
             have n1:=a1 c18 (by decide)
             obtain rfl:=hy n0.2
             obtain rfl:=hz n1.2
             refine ae<|aE U<|aE U<|aw U<|za (zn jw U j6 (by decide) U U)<|za (zt (c:=.int _ _) j7 U ⟨_,.head⟩ U)<|aa U<|zr U (zh (.l (.l (.l (.rest _))))) (add P2 jl jq K hK (bQ f) (bC x) 0) ?_
             rintro r196 O196 ⟨j1,rfl,rfl,_⟩
             refine z6<|aO<|aE U<|aa U<|aa U<|zr U (zh (.l (.l (.l (.rest _))))) (add P2 j1 jq _ (hK.add nn n1.1) (bC x) (bc x) (-1)) ?_
             rintro r200 O200 ⟨j2,rfl,rfl,_⟩
             refine z6<|yh ?_
             exact ⟨(j2,jq),rfl,⟨_,.refl _,rfl⟩,trivial⟩
            ·have c18:¬x.op=18:=c18
             refine ae<|ai U U<|ab U<|z6<|zu U (fun c24=>?_) (fun c24=>?_)
             ·have c24:x.op=24:=c24
              rw[if_pos (by omega)]
              unfold iI
              rw[if_neg c18,if_pos c24,lc K,lc (cQ K (bQ f) (bc x) 0)]
              have n0:=a0 c24 (by decide)
              obtain rfl:=hy n0.2
              refine ae<|aE U<|aE U<|aw U<|za (zn jw U j6 (by decide) U U)<|za (zt (c:=.int _ _) j7 U ⟨_,.head⟩ U)<|aa U<|zr U (zh (.l (.l (.l (.rest _))))) (add P2 jl jq K hK (bQ f) (bc x) 0) ?_
              rintro r209 O209 ⟨j1,rfl,rfl,_⟩
              refine z6<|aO<|aE U<|aa U<|aE U<|aw U<|za (zn jw U j6 (by decide) U U)<|za (zt (c:=.int _ _) j7 U ⟨_,.head⟩ U)<|zr U (zh (.l (.l (.l (.rest _))))) (add P2 j1 jq _ (hK.add nn n0.1) (bc x) (bQ f) 64) ?_
              rintro r216 O216 ⟨j2,rfl,rfl,_⟩
              refine z6<|yh ?_
              exact ⟨(j2,jq),rfl,⟨_,.refl _,rfl⟩,trivial⟩
             ·have c24:¬x.op=24:=c24
              refine ae<|ai U U<|ab U<|z6<|zu U (fun c20=>?_) (fun c20=>?_)
              ·have c20:x.op=20:=c20
               rw[if_pos (by omega)]
               unfold iI
               rw[if_neg c18,if_neg c24,if_pos c20]
               have n0:=a0 c20 (by decide)
               obtain rfl:=hy n0.2
               have la:=lea P2 jq _ _ nn n0.1
               have lb:=lea P2 jq _ _ n0.1 nn
               refine ae<|aE U<|aE U<|aw U<|za (zn jw U j6 (by decide) U U)<|za (zt (c:=.int _ _) j7 U ⟨_,.head⟩ U)<|aa U<|zr U (zh (.l (.l (.l (.rest _))))) (la) ?_
               rintro r226 O226 ⟨rfl,rfl⟩
               refine bR U<|bJ U U<|bZ U U<|ap U<|ab U<|z6<|ae<|aE U<|aa U<|aE U<|aw U<|za (zn jw U j6 (by decide) U U)<|za (zt (c:=.int _ _) j7 U ⟨_,.head⟩ U)<|zr U (zh (.l (.l (.l (.rest _))))) (lb) ?_
               rintro r236 O236 ⟨rfl,rfl⟩
               refine bR U<|bJ U U<|bZ U U<|ap U<|ab U<|z6<|zd<|ya (γ:=Bool) [0,5,13,14] (fun w=>[(243,.bool w)]) (fun w=>[(iw,.cells 109 (mx f jl K.l.length jq (P2).length)),(jl,.grow 3 145 (K.l.map bf).flatten),(jq,.grow 4 54 ((P2).map aP).flatten)]) (fun w=>w=eg f K (bc x)) ?_ (fun _ _ h=>h) ?_
               ·refine aO<|aj U<|aj U<|zo (s:=240) U (fun c12=>?_) (fun c12=>?_)
                ·refine z8 U U c12<|aa U<|z8 U U c12<|za (qb U U)<|aq U c12 U<|z6 ?_
                 exact ⟨_,(by repeat (first|with_reducible exact zp _ _|refine zz rfl ?_|exact fl)),aH,aD,by unfold eg b5 gB;unfold bO at *;cases h:dE K.l (f.vars.length+1) (bQ f) (bc x)<;>simp_all⟩
                ·refine z7 U U c12<|z7 U U c12<|au U c12 U<|z6 ?_
                 exact ⟨_,(by repeat (first|with_reducible exact zp _ _|refine zz rfl ?_|exact fl)),aH,aD,by unfold eg b5 gB;unfold bO at *;cases h:dE K.l (f.vars.length+1) (bQ f) (bc x)<;>simp_all⟩
               ·rintro w hw
                refine zy U (fun cp=>?_) (fun cp=>?_)
                ·rw[if_pos (show eg f K (bc x)=true by rw[←hw];exact cp),lc]
                 refine aO<|aE U<|aE U<|aw U<|za (zn jw U j6 (by decide) U U)<|za (zt (c:=.int _ _) j7 U ⟨_,.head⟩ U)<|aa U<|zr U (zh (.l (.l (.l (.rest _))))) (add P2 jl jq K hK (bQ f) (bc x) (-1)) ?_
                 rintro r250 O250 ⟨j1,rfl,rfl,_⟩
                 refine z6<|yh ?_
                 exact ⟨(j1,jq),rfl,⟨_,.refl _,rfl⟩,trivial⟩
                ·rw[if_neg (show ¬eg f K (bc x)=true by rw[←hw,cp];decide)]
                 refine zd<|ya (γ:=Bool) [0,5] (fun w2=>[(255,.bool w2)]) (fun w2=>[(iw,.cells 109 (mx f jl K.l.length jq (P2).length)),(jl,.grow 3 145 (K.l.map bf).flatten),(jq,.grow 4 54 ((P2).map aP).flatten)]) (fun w2=>w2=b5 f K (bc x) (bQ f) 0) ?_ (fun _ _ h=>h) ?_
                 ·refine aO<|aj U<|aj U<|zo (s:=252) U (fun c13=>?_) (fun c13=>?_)
                  ·refine z8 U U c13<|aa U<|z8 U U c13<|za (qb U U)<|aq U c13 U<|z6 ?_
                   exact ⟨_,(by repeat (first|with_reducible exact zp _ _|refine zz rfl ?_|exact cV)),aH,aD,by unfold b5 gB;unfold bO at *;cases h:dE K.l (f.vars.length+1) (bc x) (bQ f)<;>simp_all⟩
                  ·refine z7 U U c13<|z7 U U c13<|au U c13 U<|z6 ?_
                   exact ⟨_,(by repeat (first|with_reducible exact zp _ _|refine zz rfl ?_|exact cV)),aH,aD,by unfold b5 gB;unfold bO at *;cases h:dE K.l (f.vars.length+1) (bc x) (bQ f)<;>simp_all⟩
                 ·rintro w2 hw2
                  refine zy U (fun cq=>?_) (fun cq=>?_)
                  ·rw[if_pos (show b5 f K (bc x) (bQ f) 0=true by rw[←hw2];exact cq),lc]
                   refine aO<|aE U<|aa U<|aE U<|aw U<|za (zn jw U j6 (by decide) U U)<|za (zt (c:=.int _ _) j7 U ⟨_,.head⟩ U)<|zr U (zh (.l (.l (.l (.rest _))))) (add P2 jl jq K hK (bc x) (bQ f) (-1)) ?_
                   rintro r262 O262 ⟨j1,rfl,rfl,_⟩
                   refine z6<|yh ?_
                   exact ⟨(j1,jq),rfl,⟨_,.refl _,rfl⟩,trivial⟩
                  ·rw[if_neg (show ¬b5 f K (bc x) (bQ f) 0=true by rw[←hw2,cq];decide)]
                   refine zg<|yh ?_
                   exact ⟨(jl,jq),rfl,⟨_,.refl _,rfl⟩,trivial⟩
              ·have c20:¬x.op=20:=c20
               have hl:(if 18≤x.op∧x.op≤24 then iI f K x else gR f K x).l=K.l:=by
                by_cases h:18≤x.op∧x.op≤24
                ·rw[if_pos h]
                 unfold iI
                 rw[if_neg c18,if_neg c24,if_neg c20]
                ·rw[if_neg h]
                 unfold gR
                 rw[if_neg (by omega),if_neg (by omega),if_neg (by omega),if_neg (by omega),if_neg (by omega)]
               refine zg<|yh ?_
               exact ⟨(jl,jq),rfl,⟨_,.refl _,by rw[hl]⟩,trivial⟩
end
end Go.Proofs.YtdilpodccjlkgaaGreatDoor
