/- What is decided of a bool variable by the facts. Of single programs that are little. -/
import Derived.Test.YtdilpodccjlkgaaGreatDoorHq
import Derived.Test.YtdilpodccjlkgaaGreatDoorHp
import Derived.Test.YtdilpodccjlkgaaGreatDoorHo
import Derived.Test.YtdilpodccjlkgaaGreatDoorHn
set_option linter.unusedVariables false
set_option linter.unusedSimpArgs false
set_option linter.unusedSectionVars false
namespace Go.Proofs.YtdilpodccjlkgaaGreatDoor
open Go.Proofs.Tryz
open Go.Proofs Go.Lib Go.Shelf Go.RowKit
theorem Gq:cX prog 256 #[(0,3),(3,1),(4,1),(5,1)] [.raw (.slice none 0 0),.raw (.slice none 0 0),.raw (.slice none 0 0),.raw (.slice none 0 0),.raw (.map none),.raw (.slice none 0 0)]:=⟨_,_,Y6,zeroValue256,fun w=>by kernel_rfl,rfl⟩
variable {E:World}
set_option maxRecDepth 20000
theorem pB (l:List v2):∀x∈l.map ee,x.length=3:=fun x hx=>by obtain ⟨o,_,rfl⟩:=List.mem_map.1 hx;rfl
theorem uM (f:ad) (hR:bE f) (hv:f.vars.length≤1000) (c:Int) (is:Bool) (hc:aZ f c=true) :
  aK prog E 151 [.agg (bD f),.fro 2 ((cE f).map eP.row),.int .i64 c,.bool is] (.fro 3 ((gS f c is).map ee)):=by
 have hA:=fun iq bs jo=>xA (E:=E) f hR hv iq bs 100000 ⟨[],[]⟩ [] jo c is hc (hR.rk_low c) (im.emp f) (by decide)
 unfold sN at hA
 refine zq func151 U (by decide) U<|ae<|y9 (cs:=_) U U U<|bF U<|z6<|ae<|ac ju jf U U<|aT U<|az.makeMapT (c:=sM)<|fun b12=>za (y5 (cps:=[(0,[_,_,_]),(1,[_]),(2,[_])]) (rs:=[_,_,_,_,_,.raw (.slice none 0 0)]) Gq U U U)<|yk (cs:=_) U U U U<|fun i14=>za (gc U)<|z6<|fe (off:=5) (k:=3) (T:=183) (fun _=>.head) U<|fun jo=>y3 (zb (zc .t2))<|y3 (zb (zc .t2))<|ae<|aE U<|aa U<|aj U<|zr U (zh (.l (.l (.l (.rest _))))) (hA i14 b12 jo) ?_
 rintro r18 O18 ⟨⟨j1,e1⟩,rfl,rfl,hB1,hB2⟩
 refine z6<|y3 (aX.knowC (off:=5) (rows:=(gS f c is).map ee) .t2 .head U (by exact pB _) (by decide) (by rw[qr];rfl))<|ae<|aE U<|aw U<|za (zn Y6 U sizeOf181 (by decide) U U)<|za (zt (c:=.fro _ _) isAgg181 U ⟨_,.head⟩ U)<|za (kO U)<|z6<|zi<|zm (x:=.fro _ _) U ?_
 rfl
theorem uN (f:ad) (hf:small f) (hL:bB E) (hR:bE f) (ht:bj f=true) (hs:dv f=true) (c:Int) (is:Bool) (hc:aZ f c=true) (hk:bp f c=1) :
  aK prog E 109 [.agg (bD f),.int .i64 c,.bool is] (.fro 3 ((gS f c is).map ee)):=by
 have h1:=kx (E:=E) f hf hL
 rw[if_pos (by rw[ht,hs];rfl)] at h1
 have h2:=kw (E:=E) f hf hL ht
 have h3:=uM (E:=E) f hR hf.1 c is hc
 obtain ⟨vr,hx,hv2,hkt⟩:=iA hc
 have hc2:0≤c∧c<f.vars.length:=by simpa [aZ] using hc
 rw[hk] at hkt
 unfold bD at *
 refine zq func109 U (by decide) U<|ae<|y9 (cs:=_) U U U<|bF U<|z6<|zd<|zd<|ya (γ:=Bool) [1,2,3] (fun u=>[(29,.bool u)]) (fun u=>[]) (fun u=>u=false) ?_ (fun _ _ h=>h) ?_
 ·refine aO<|ac ju jf U U<|ze (h1) U<|aM U U<|aj U<|zo (s:=10) U (fun c1=>?_) (fun c1=>?_)
  ·refine z7 U U c1<|z7 U U c1<|aq U c1 U<|aj U<|z7 U U U<|z7 U U U<|z7 U U U<|z7 U U U<|z7 U U U<|aq U U U<|aj U<|z7 U U U<|z7 U U U<|z7 U U U<|z7 U U U<|z7 U U U<|z7 U U U<|z7 U U U<|aq U U U<|z6 ?_
   exact ⟨_,(by repeat (first|with_reducible exact zp _ _|refine zz rfl ?_)),aH,aD,by clear h1 h2 h3 hv2;simp_all<;>omega⟩
  ·refine z8 U U c1<|aa U<|z8 U U c1<|ax U U<|au U c1 U<|aj U<|zo (s:=14) U (fun c2=>?_) (fun c2=>?_)
   ·refine z7 U U c2<|z7 U U c2<|z7 U U c2<|z7 U U c2<|z7 U U c2<|aq U c2 U<|aj U<|z7 U U U<|z7 U U U<|z7 U U U<|z7 U U U<|z7 U U U<|z7 U U U<|z7 U U U<|aq U U U<|z6 ?_
    exact ⟨_,(by repeat (first|with_reducible exact zp _ _|refine zz rfl ?_)),aH,aD,by clear h1 h2 h3 hv2;simp_all<;>omega⟩
   ·refine z8 U U c2<|aa U<|z8 U U c2<|ao jg U Y4 U U<|z8 U U c2<|aI Yb U<|z8 U U c2<|ar Z7 U<|z8 U U c2<|za (yy U U)<|au U c2 U<|aj U<|zo (s:=21) U (fun c3=>?_) (fun c3=>?_)
    ·refine z7 U U c3<|z7 U U c3<|z7 U U c3<|z7 U U c3<|z7 U U c3<|z7 U U c3<|z7 U U c3<|aq U c3 U<|z6 ?_
     exact ⟨_,(by repeat (first|with_reducible exact zp _ _|refine zz rfl ?_)),aH,aD,by clear h1 h2 h3 hv2;simp_all<;>omega⟩
    ·refine z8 U U c3<|ao jg U Y4 U U<|z8 U U c3<|aI Yb U<|z8 U U c3<|aa U<|z8 U U c3<|za (bh c.toNat Z7 Y1 U U hv2 hx)<|z8 U U c3<|ao Zi U Yq U U<|z8 U U c3<|ay X4 U<|z8 U U c3<|aM U U<|au U c3 U<|z6 ?_
     exact ⟨_,(by repeat (first|with_reducible exact zp _ _|refine zz rfl ?_)),aH,aD,by clear h1 h2 h3 hv2;simp_all<;>omega⟩
 ·rintro u hu
  subst hu
  refine yg U U<|zg<|zd<|zw (fun j=>false) (by kernel_rfl) U (zh (.rest _))<|ak 0 U (yr ju jf U U)<|ak 1 U (yr ju jf U U)<|ak 3 U (dq U)<|ak 4 U (l6 U)<|ba 2 U<|ze (h2) U<|z6<|ba 5 U<|ze (h3) U<|z6<|ak 6 U (kO U)<|bY<|zi<|zm (x:=.fro _ _) U ?_
  rfl
theorem B9 (K:KS) (r:v2):(et K r).p=K.p:=by
 unfold et;repeat' split
 ·exact cG ..
 ·exact cG ..
 ·exact jF ..
 ·rfl
theorem pC:∀(l:List v2) (K:KS),(l.foldl et K).p=K.p
 |[],_=>rfl
 |r::l,K=>by rw[List.foldl_cons,pC l,B9]
theorem wl {f:ad} {i:Int} (h:¬(bd (ah f) f.blocks.length i).length=1):vg f i=[]:=by
 unfold vg
 split
 ·rename_i p e;rw[e] at h;exact absurd rfl h
 ·rfl
def sO (f:ad):AV:=lg eI (cS f f.blocks.length)
set_option maxHeartbeats 4000000 in
theorem Aa {f:ad} {K:KS} {t a9 a10:AV} {iw js jl jm jp:Nat} {M:List Int} (hf:small f) (hL:bB E) (hR:bE f) (ht:bj f=true) (hs:dv f=true) (hK:KB f K) {i:Nat} (hi:i<f.blocks.length) :
  aR prog E 69 [.po iw 0,.int .i64 i] (iu f t (sO f) a9 a10 iw js jl jm jp K M) (fun y O=>∃g:Nat,y=.tup []∧O=iu f t (sO f) a9 a10 iw js g jm jp (fK f K i) M∧True):=by
 refine yu (γ:=Nat) (x:=fun g=>.tup []) (M:=fun g=>iu f t (sO f) a9 a10 iw js g jm jp (fK f K i) M) (p:=fun _=>True) ?_
 have add:=fun jl K hK a b (ha:aJ f a) (hb:aJ f b) c=>gx (E:=E) (js:=js) (jm:=jm) (M:=M) jl K hK ha hb c
 have same:=fun jl jp np K hK a b (ha:aJ f a) (hb:aJ f b)=>lO (E:=E) (t:=t) (pr:=sO f) (a9:=a9) (a10:=a10) (iw:=iw) (js:=js) (jm:=jm) (M:=M) jl jp np K hK ha hb
 have hget:((cS f f.blocks.length).map fun r=>[AV.fro 1 (r.map eI.row)])[i]?=some [.fro 1 ((bd (ah f) f.blocks.length i).map cW)]:=by rw[qs,iZ f hi];rfl
 unfold iu at *
 unfold fK
 refine zq func69 U (by decide) U<|zd<|ae<|aE U<|aw U<|za (zn je U Xa (by decide) U U)<|za (zt (c:=.fro _ _) isAgg70 U ⟨_,.head⟩ U)<|aa U<|za (Gv.idxF (j:=i) ji j8 U U U hget)<|aI j9 U<|ar wz U<|aM U U<|z6<|zy U (fun c0=>?_) (fun c0=>?_)
 ·have hn:=wl (f:=f) (i:=i) (by intro e;rw[e] at c0;cases c0)
  rw[hn]
  refine zi<|yh ?_
  exact ⟨jl,rfl,⟨_,.refl _,rfl⟩,trivial⟩
 ·obtain ⟨p,hp⟩:∃p,bd (ah f) f.blocks.length i=[p]:=List.length_eq_one_iff.1 (by have h:=c0;simp at h;omega)
  obtain ⟨hp1,_⟩:=hR.pred hp
  have hpr:0≤p∧p<f.blocks.length:=Classical.byContradiction fun hn=>by rw[iV hn] at hp1;cases hp1
  obtain ⟨q,rfl⟩:∃q:Nat,p=(q:Int):=⟨p.toNat,by omega⟩
  have hq:=qk (show q<f.blocks.length by omega)
  obtain ⟨B,hB⟩:∃B,f.blocks[q]=B:=⟨_,rfl⟩
  rw[hB] at hq
  have hbq:=fw hq
  have hat:vg f i=if B.term.kind=1∧B.term.to0≠B.term.to1 then gS f B.term.var (decide (B.term.to0=i)) else[]:=by unfold vg;rw[hp];dsimp only;rw[hbq]
  rw[hp] at hget
  refine zg<|zd<|zw (fun j=>false) (by kernel_rfl) U (zh (.r (.rest _)))<|ak 0 U (ef U)<|ak 1 U (yb U)<|ak 2 U (zn je U jf (by decide) U U)<|ak 3 U (zn jg U Z6 (by decide) U U)<|ak 4 U (zt (c:=.fro _ _) Zd U ⟨_,.head⟩ U)<|ak 5 U (ef U)<|ak 6 U (yb U)<|ak 7 U (zn je U Xa (by decide) U U)<|ak 8 U (zt (c:=.fro _ _) isAgg70 U ⟨_,.head⟩ U)<|ak 9 U (dq U)<|ak 10 U (Gv.idxF (j:=i) ji j8 U U U hget)<|ak 11 U (dx j9 U)<|ak 12 U (bh 0 wz j6 U U U U)<|ak 13 U (b7 j7 U)<|ak 14 U (bh q jk Z0 U U U hq)<|ak 15 U (bx jj U Zm U U)<|ak 16 U (yr isAgg49 Zm U U)<|ba 17 U<|y6 (cs:=[.int .i64 0,.int .i64 0,.int .i64 0,.int .i64 0]) zeroValue49 U U<|fun i4=>z6<|ba 18 U<|y1 Zm U U U U U U .head U<|z6<|bY<|y3 (yf (t:=4) U .t1)<|zd<|zd<|ya (γ:=Bool) [0,1,4] (fun u=>[(44,.bool u)]) (fun u=>[(iw,.cells 75 (lm f t (sO f) js jp K.p.length a9 a10)),(js,.cells 136 [.int .i64 ((f.vars.length+1:Nat):Int),.own jl K.l.length,.own jm M.length]),(jl,.grow 3 180 (K.l.map bf).flatten),(jm,.grow 1 3 (cI M)),(jp,.grow 2 187 (K.p.map cD).flatten)]) (fun u=>u=decide (¬(B.term.kind=1∧B.term.to0≠B.term.to1))) ?_ (fun _ _ h=>h) ?_
  ·refine aO<|ao jh U Zz U U<|ay Y8 U<|aM U U<|aj U<|zo (s:=36) U (fun c4=>?_) (fun c4=>?_)
   ·refine z7 U U c4<|z7 U U c4<|z7 U U c4<|z7 U U c4<|z7 U U c4<|z7 U U c4<|z7 U U c4<|aq U c4 U<|z6 ?_
    exact ⟨_,(by repeat (first|with_reducible exact zp _ _|refine zz rfl ?_)),aH,aD,by simp_all⟩
   ·refine z8 U U c4<|ao jh U Ze U U<|z8 U U c4<|za (yv (j:=0) Z1 j6 U U U (by decide) U)<|z8 U U c4<|ay j7 U<|z8 U U c4<|ao jh U Ze U U<|z8 U U c4<|za (yv (j:=1) Z1 j6 U U U (by decide) U)<|z8 U U c4<|ay j7 U<|z8 U U c4<|ai U U<|au U c4 U<|z6 ?_
    exact ⟨_,(by repeat (first|with_reducible exact zp _ _|refine zz rfl ?_)),aH,aD,by simp_all⟩
  ·rintro u hu
   refine zy U (fun cu=>?_) (fun cu=>?_)
   ·rw[hat,if_neg (w4 (hu▸cu))]
    refine zi<|yh ?_
    exact ⟨jl,rfl,⟨_,.refl _,rfl⟩,trivial⟩
   ·have hc:B.term.kind=1∧B.term.to0≠B.term.to1:=by rw[hu] at cu;simpa using cu
    rw[hat,if_pos hc]
    have hbm:=qu hq
    have hbT:=hR.hT B hbm
    have hvk:aZ f B.term.var=true∧bp f B.term.var=1:=by
     have h1:=(hR.run.term _ hbm)
     unfold bM at h1
     rw[if_neg (by omega),if_pos hc.1] at h1
     unfold ii at hbT
     simp only[qz] at h1 hbT
     have h2:=hbT.2
     unfold d4 at h2
     rw[if_neg (by omega),if_pos hc.1] at h2
     simp only[qz] at h2
     exact ⟨h1.1.1,by simpa using h2.1.1⟩
    have hN:∀r∈gS f B.term.var (decide (B.term.to0=(i:Int))),sC f r:=rE hR _ _ _ _ fun r hr=>(by cases hr)
    obtain ⟨R,hRe⟩:∃R,gS f B.term.var (decide (B.term.to0=(i:Int)))=R:=⟨_,rfl⟩
    have hKn:=uN (E:=E) f hf hL hR ht hs B.term.var (decide (B.term.to0=(i:Int))) hvk.1 hvk.2
    have hRl:=rH hR (decide (B.term.to0=(i:Int))) hvk.1
    have hvl:=hf.1
    rw[hRe] at hN hKn hRl ⊢
    unfold bD at hKn
    refine zg<|zd<|zw (fun j=>false) (by kernel_rfl) U (zh (.r (.rest _)))<|ak 0 U (ef U)<|ak 1 U (yb U)<|ak 2 U (zn je U jf (by decide) U U)<|ak 3 U (Gv.loadAC (l:=[_,_,_]) ju jf U ⟨_,.head⟩ U U)<|ak 4 U (bx jh U j6 U U)<|ak 5 U (b7 j7 U)<|ak 6 U (bx jh U Ze U U)<|ak 7 U (yv (j:=0) Z1 j6 U U U (by decide) U)<|ak 8 U (b7 j7 U)<|ak 9 U (dq U)<|ak 10 U (Gv.eqlI U U)<|ak 13 U (dq U)<|ba 11 U<|ze (hKn) U<|z6<|ak 12 U (Gv.lenM underlying181 U)<|bY<|zj<|y8 (γ:=Nat × Nat) [0,56,57] (fun g=>[(58,.int .i64 g.1)]) (fun g=>[(iw,.cells 75 (lm f t (sO f) js jp K.p.length a9 a10)),(js,.cells 136 [.int .i64 ((f.vars.length+1:Nat):Int),.own g.2 ((R.take g.1).foldl et K).l.length,.own jm M.length]),(g.2,.grow 3 180 (((R.take g.1).foldl et K).l.map bf).flatten),(jm,.grow 1 3 (cI M)),(jp,.grow 2 187 (K.p.map cD).flatten)]) (fun g=>g.1≤R.length) (fun g=>R.length - g.1) (0,jl) aH aD (qn _) ?_
    rintro ⟨g,jq⟩ hg
    try dsimp only at *
    have hKB:KB f ((R.take g).foldl et K):=KB.rels _ _ hK fun r hr=>hN r (List.mem_of_mem_take hr)
    have hKp:=pC (R.take g) K
    refine ae<|ax U U<|z6<|zd<|zu U (fun cg=>?_) (fun cg=>?_)
    ·have hg2:g<R.length:=by simp at cg;omega
     obtain ⟨r,hr⟩:∃r,R[g]=r:=⟨_,rfl⟩
     have hgr:R[g]?=some r:=by rw[qk hg2,hr]
     have hrn:=hN r (qu hgr)
     have hstep:(R.take (g+1)).foldl et K=et ((R.take g).foldl et K) r:=by rw[List.take_add_one,hgr,List.foldl_append];rfl
     obtain ⟨Q,hQ⟩:∃Q,(R.take g).foldl et K=Q:=⟨_,rfl⟩
     rw[hQ] at hKB hKp hstep
     have hQr:=B9 Q r
     rw[hQ]
     refine zg<|zd<|zj<|ae<|za (bh g underlying181 sizeOf183 U U U hgr)<|ac isAgg183 sizeOf183 U U<|y6 (cs:=[.int .i64 0,.int .i64 0,.int .i64 0]) zeroValue183 U U<|fun i6=>y1 sizeOf183 U U U U U U .head U<|zf (yf (t:=6) U .head)<|z6<|ae<|ao Yo U Za U U<|ay Zj U<|z6<|zj<|ae<|ai U U<|ab U<|z6<|zu U (fun r0=>?_) (fun r0=>?_)
     ·have hre:et Q r=cQ Q r.a r.b (-1):=by unfold et;rw[if_pos (show r.n=0 from r0)]
      refine zw (fun j=>false) (by kernel_rfl) U (zh (.r (.rest _)))<|ak 0 U (ef U)<|ak 1 U (yb U)<|ak 2 U (zn je U Z8 (by decide) U U)<|ak 3 U (zt (c:=.po _ _) Zg U ⟨_,.head⟩ U)<|ak 4 U (bx Yo U j6 U U)<|ak 5 U (b7 j7 U)<|ak 6 U (bx Yo U j6 U U)<|ak 7 U (b7 j7 U)<|ba 8 U<|zr U (zh (.l (.l (.l (.r (.rest _)))))) (add jq Q hKB _ _ hrn.1.1 hrn.1.2 (-1)) ?_
      rintro r74 O74 ⟨⟨j1,u1⟩,rfl,rfl,_⟩
      refine z6<|bY<|y3 (zb (zc .t4))<|y3 (zb (zc .t4))<|y3 (zb (zc .t4))<|y3 (zb (zc .t4))<|y3 (zb (zc .t4))<|aO<|aC U U<|aa U<|z6 ?_
      exact ⟨(g+1,j1),de,aH,⟨_,(.refl _),by rw[hstep,hre]⟩,hg2,by dsimp only;omega⟩
     ·refine ae<|ai U U<|ab U<|z6<|zu U (fun r1=>?_) (fun r1=>?_)
      ·have hre:et Q r=cQ Q r.a r.b 0:=by unfold et;rw[if_neg (show ¬r.n=0 from r0),if_pos (show r.n=1 from r1)]
       refine zw (fun j=>false) (by kernel_rfl) U (zh (.r (.rest _)))<|ak 0 U (ef U)<|ak 1 U (yb U)<|ak 2 U (zn je U Z8 (by decide) U U)<|ak 3 U (zt (c:=.po _ _) Zg U ⟨_,.head⟩ U)<|ak 4 U (bx Yo U j6 U U)<|ak 5 U (b7 j7 U)<|ak 6 U (bx Yo U j6 U U)<|ak 7 U (b7 j7 U)<|ba 8 U<|zr U (zh (.l (.l (.l (.r (.rest _)))))) (add jq Q hKB _ _ hrn.1.1 hrn.1.2 0) ?_
       rintro r85 O85 ⟨⟨j1,u1⟩,rfl,rfl,_⟩
       refine z6<|bY<|y3 (zb (zc .t4))<|y3 (zb (zc .t4))<|y3 (zb (zc .t4))<|y3 (zb (zc .t4))<|y3 (zb (zc .t4))<|aO<|aC U U<|aa U<|z6 ?_
       exact ⟨(g+1,j1),de,aH,⟨_,(.refl _),by rw[hstep,hre]⟩,hg2,by dsimp only;omega⟩
      ·refine ae<|ai U U<|ab U<|z6<|zu U (fun r2=>?_) (fun r2=>?_)
       ·have hre:et Q r=hU Q r.a r.b:=by unfold et;rw[if_neg (show ¬r.n=0 from r0),if_neg (show ¬r.n=1 from r1),if_pos (show r.n=2 from r2)]
        refine aO<|aE U<|ao Yo U j6 U U<|ay j7 U<|ao Yo U j6 U U<|ay j7 U<|zr U (zh (.l (.l (.l (.l (.r (.rest _))))))) (same jq jp K.p.length Q hKB _ _ hrn.1.1 hrn.1.2) ?_
        rintro r93 O93 ⟨j1,rfl,rfl,_⟩
        refine z6<|y3 (zb (zc .t4))<|y3 (zb (zc .t4))<|y3 (zb (zc .t4))<|y3 (zb (zc .t4))<|y3 (zb (zc .t4))<|aO<|aC U U<|aa U<|z6 ?_
        exact ⟨(g+1,j1),de,aH,⟨_,(.refl _),by rw[hstep,hre]⟩,hg2,by dsimp only;omega⟩
       ·exfalso
        have h0:¬r.n=0:=r0
        have h1:¬r.n=1:=r1
        have h2:¬r.n=2:=r2
        have:=hrn.2
        omega
    ·obtain rfl:g=R.length:=by simp at cg;omega
     rw[qp]
     refine y7<|yh ?_
     exact ⟨jq,rfl,⟨_,.refl _,by rw[pC]⟩,trivial⟩
end Go.Proofs.YtdilpodccjlkgaaGreatDoor
namespace Go.Proofs.YtdilpodccjlkgaaGreatDoor
open Go.Proofs.Tryz
def dK (f:ad) (K:KS) (v:Int):Int:=fa f K 100000 v
section
variable {f:ad} (hR:bE f) {K:KS} {v:Int}
include hR
theorem ib:dK f K v=fa f K (mC f v+1) v:=kE hR K _ _ v (hR.rk_low v) (Nat.lt_succ_self _)
theorem nV (hm:b4 f v=none):dK f K v=0:=by rw[ib hR];unfold fa;rw[hm]
variable {x:aF} (hm:b4 f v=some x)
include hm
theorem Gr (h:x.op=8):dK f K v=fJ (b5 f K (bc x) (bC x) (-1)) (b5 f K (bC x) (bc x) 0):=by rw[ib hR];unfold fa;rw[hm];dsimp only;rw[if_pos h]
theorem Gs (h:x.op=9):dK f K v=fJ (b5 f K (bc x) (bC x) 0) (b5 f K (bC x) (bc x) (-1)):=by rw[ib hR];unfold fa;rw[hm];dsimp only;rw[if_neg (by omega),if_pos h]
theorem Gt (h:x.op=7):dK f K v=fJ (b5 f K (bc x) (bC x) 0&&b5 f K (bC x) (bc x) 0) (b5 f K (bc x) (bC x) (-1)||b5 f K (bC x) (bc x) (-1)):=by rw[ib hR];unfold fa;rw[hm];dsimp only;rw[if_neg (by omega),if_neg (by omega),if_pos h]
theorem sP (h:0<x.args.length):fa f K (mC f v) (bc x)=dK f K (bc x):=kE hR K _ _ _ (hR.rk0 hm h) (hR.rk_low _)
theorem DJ (h:1<x.args.length):fa f K (mC f v) (bC x)=dK f K (bC x):=kE hR K _ _ _ (hR.rk1 hm h) (hR.rk_low _)
theorem Gu (h:x.op=1) (hl:0<x.args.length):dK f K v=dK f K (bc x):=by
 rw[ib hR];unfold fa;rw[hm];dsimp only
 rw[if_neg (by omega),if_neg (by omega),if_neg (by omega),if_pos h,sP hR hm hl]
theorem Eo (h:x.op=10) (hl:0<x.args.length):dK f K v=fJ (decide (dK f K (bc x)=2)) (decide (dK f K (bc x)=1)):=by
 rw[ib hR];unfold fa;rw[hm];dsimp only
 rw[if_neg (by omega),if_neg (by omega),if_neg (by omega),if_neg (by omega),if_pos h,sP hR hm hl]
theorem Ep (h:x.op=11) (hl:1<x.args.length):dK f K v=fJ (decide (dK f K (bc x)=1)&&decide (dK f K (bC x)=1)) (decide (dK f K (bc x)=2)||decide (dK f K (bC x)=2)):=by
 rw[ib hR];unfold fa;rw[hm];dsimp only
 rw[if_neg (by omega),if_neg (by omega),if_neg (by omega),if_neg (by omega),if_neg (by omega),if_pos h,sP hR hm (by omega),DJ hR hm hl]
theorem xB (h:¬x.op=8∧¬x.op=9∧¬x.op=7∧¬x.op=1∧¬x.op=10∧¬x.op=11):dK f K v=0:=by
 rw[ib hR];unfold fa;rw[hm];dsimp only
 rw[if_neg h.1,if_neg h.2.1,if_neg h.2.2.1,if_neg h.2.2.2.1,if_neg h.2.2.2.2.1,if_neg h.2.2.2.2.2]
end
def mI (es:List (Int × Int)):List (Int × AV):=es.map fun p=>(p.1,.int .i64 p.2)
def FB (k n:Int):List (Int × Int)→List (Int × Int)
 |[]=>[(k,n)]
 |(k',m)::es=>if k=k' then (k,n)::es else (k',m)::FB k n es
theorem xC (k n:Int):∀es,am k (.int .i64 n) (mI es)=mI (FB k n es)
 |[]=>rfl
 |(k',m)::es=>by
  have ih:=xC k n es
  unfold mI at ih ⊢
  rw[List.map_cons]
  unfold am FB
  by_cases h:k=k'
  ·rw[if_pos h,if_pos h];rfl
  ·rw[if_neg h,if_neg h,ih];rfl
def CE (f:ad) (K:KS) (es:List (Int × Int)):Prop:=∀v x,ag v (mI es)=some x→x=.int .i64 (dK f K v)
theorem CE.emp (f:ad) (K:KS):CE f K []:=fun v x h=>by cases h
theorem CE.put {f:ad} {K:KS} {es:List (Int × Int)} (h:CE f K es) (v:Int):CE f K (FB v (dK f K v) es):=fun u x hx=>by
 rw[←xC,Em] at hx
 split at hx
 ·rename_i e;subst e;cases hx;rfl
 ·exact h u x hx
end Go.Proofs.YtdilpodccjlkgaaGreatDoor
namespace Go.Proofs.YtdilpodccjlkgaaGreatDoor
open Go.Proofs.Tryz
open Go.Proofs Go.Lib Go.Shelf Go.RowKit
variable {E:World}
set_option maxRecDepth 20000
theorem dZ (p q:Bool):aK prog E 118 [.bool p,.bool q] (.int .i64 (fJ p q)):=by
 refine zq func118 U (by decide) U<|ae<|ap U<|z6<|zd<|zj<|ae<|aj U<|ab U<|z6<|zy U (fun c=>?_) (fun c=>?_)
 ·refine ae<|ap U<|z6<|zi<|zm (x:=.int _ _) U ?_
  unfold fJ;rw[if_pos (show p=true from c)]
 ·refine ae<|aj U<|ab U<|z6<|zy U (fun d=>?_) (fun d=>?_)
  ·refine ae<|ap U<|z6<|zi<|zm (x:=.int _ _) U ?_
   unfold fJ;rw[if_neg (by rw[show p=false from c];decide),if_pos (show q=true from d)]
  ·refine zg<|ae<|ap U<|z6<|zi<|zm (x:=.int _ _) U ?_
   unfold fJ;rw[if_neg (by rw[show p=false from c];decide),if_neg (by rw[show q=false from d];decide)]
def xD (E:World) (f:ad) (K:KS) (t pr:AV) (bk n:Nat):Prop:=∀(es:List (Int × Int)) (v:Int),aZ f v=true→mC f v<n→CE f K es →
 aR prog E 73 [v7 f K t pr,.int .i64 v,dw bk] [(0,iJ bk (mI es))] (fun y O=>∃g:List (Int × Int),y=.int .i64 (dK f K v)∧O=[(0,iJ bk (mI g))]∧CE f K g)
set_option maxHeartbeats 16000000 in
theorem Ca (f:ad) (hR:bE f) (hv:f.vars.length≤1000) (K:KS) (hK:KB f K) (t pr:AV) (bk n:Nat) (ih:xD E f K t pr bk n):xD E f K t pr bk (n+1):=by
 intro es v hvv hrk hKn
 refine yu (γ:=List (Int × Int)) (x:=fun _=>.int .i64 (dK f K v)) (M:=fun g=>[(0,iJ bk (mI g))]) (p:=fun g=>CE f K g) ?_
 have flw:=fun a b c ha hb=>Gh (E:=E) hv hK (a:=a) (b:=b) ha hb c
 have hM:=uC (E:=E) (K:=K) (t:=t) (pr:=pr) hvv
 have hM2:=fun y=>uD (E:=E) (K:=K) (t:=t) (pr:=pr) hvv (y:=y)
 unfold xD at ih
 unfold v7 vt at *
 unfold wT at *
 refine zq func73 U (by decide) U ?_
 rcases hg:ag v (mI es) with _|z
 ·refine ae<|ap U<|z6<|zd<|ae<|za (yt (v:=dw _) U)<|aa U<|za (Gv.lookupA (zx:=.int .i64 0) hg underlying139 Zu Zs (fun _=>U) U U ⟨_,.head⟩)<|bR U<|bJ U U<|bZ U U<|ap U<|ab U<|z6<|ae<|aj U<|z6<|yg U U ?_
  rcases hm:b4 f v with _|x
  ·refine zg<|ae<|bg U<|aa U<|ze (hM hm) U<|bR U<|za (yz (v:=.agg _) U U)<|bZ U U<|y6 (cs:=[.int .i64 0,.int .i64 0,.raw (.slice none 0 0),.int .i64 0]) Z4 U U<|fun i9=>y1 jv U U U U U U .head U<|zf (yf (t:=9) U .head)<|ab U<|z6<|ae<|ap U<|z6<|zd<|zj<|ae<|aj U<|aB U<|ab U<|z6<|yl U U<|zg<|ae<|za (yt (v:=dw _) U)<|aa U<|aa U<|az.mapSetA (v:=.int _ _) underlying139 Zu U U U .head<|z6<|ae<|aa U<|ap U<|z6<|zi<|zm (x:=.int _ _) U ?_
   exact ⟨FB v (dK f K v) es,(by rw[nV hR hm]),⟨_,.refl _,by rw[←xC,nV hR hm]⟩,hKn.put v⟩
  ·obtain ⟨hF,_,_⟩:=hR.madeF hm
   have a0:∀{k:Int},x.op=k→0<([0,1,2,2,2,2,2,2,2,2,1,2,1,2,3,1,0,1,2,1,1,2,2,2,1,2,2][k.toNat]?).getD 0→(aZ f (bc x)=true∧mC f (bc x)<n)∧0<x.args.length∧aJ f (bc x):=fun e h=>by
    have hl:0<x.args.length:=by rw[hF.cnt e];exact h
    have:=hR.rk0 hm hl
    exact ⟨⟨lR (hF.a0 hl),by omega⟩,hl,bv (hF.a0 hl)⟩
   have a1:∀{k:Int},x.op=k→1<([0,1,2,2,2,2,2,2,2,2,1,2,1,2,3,1,0,1,2,1,1,2,2,2,1,2,2][k.toNat]?).getD 0→(aZ f (bC x)=true∧mC f (bC x)<n)∧1<x.args.length∧aJ f (bC x):=fun e h=>by
    have hl:1<x.args.length:=by rw[hF.cnt e];exact h
    have:=hR.rk1 hm hl
    exact ⟨⟨lR (hF.a1 hl),by omega⟩,hl,bv (hF.a1 hl)⟩
   refine zg<|ae<|bg U<|aa U<|ze (hM2 x hm) U<|bR U<|za (yz (v:=.agg _) U U)<|bZ U U<|y6 (cs:=[.int .i64 0,.int .i64 0,.raw (.slice none 0 0),.int .i64 0]) Z4 U U<|fun i9=>y1 jv U U U U U U .head U<|zf (yf (t:=9) U .head)<|ab U<|z6<|ae<|ap U<|z6<|zd<|ya (γ:=List (Int × Int)) [1,2] (fun g=>[(11,.int .i64 (dK f K v))]) (fun g=>[(0,iJ bk (mI g))]) (fun g=>CE f K g) ?_ (fun _ _ h=>h) ?_
   ·refine zj<|ae<|aj U<|aB U<|ab U<|z6<|yg U U<|ae<|ao j5 U jy U U<|ay Z2 U<|ai U U<|ab U<|z6<|zu U (fun c8=>?_) (fun c8=>?_)
    ·have c8:x.op=8:=c8
     obtain ⟨_,l0,n0⟩:=a0 c8 (by decide)
     obtain ⟨_,l1,n1⟩:=a1 c8 (by decide)
     rw[Gr hR hm c8]
     refine zw (fun j=>false) (by kernel_rfl) U (zh (.rest _))<|ak 0 U (gD U)<|ak 1 U (yc U)<|ak 2 U (bx je U Z8 U U)<|ak 3 U (yn (c:=.pf _) Zg U)<|ak 4 U (bx j5 U j8 U U)<|ak 5 U (dx j9 U)<|ak 6 U (bh 0 wz j6 U U U (bn l0))<|ak 7 U (b7 j7 U)<|ak 8 U (bx j5 U j8 U U)<|ak 9 U (dx j9 U)<|ak 10 U (bh 1 wz j6 U U U (bw l1))<|ak 11 U (b7 j7 U)<|ak 13 U (gD U)<|ak 14 U (yc U)<|ak 15 U (bx je U Z8 U U)<|ak 16 U (yn (c:=.pf _) Zg U)<|ak 17 U (bx j5 U j8 U U)<|ak 18 U (dx j9 U)<|ak 19 U (bh 1 wz j6 U U U (bw l1))<|ak 20 U (b7 j7 U)<|ak 21 U (bx j5 U j8 U U)<|ak 22 U (dx j9 U)<|ak 23 U (bh 0 wz j6 U U U (bn l0))<|ak 24 U (b7 j7 U)<|ba 12 U<|ze (flw _ _ (-1) n0 n1) U<|z6<|ba 25 U<|ze (flw _ _ 0 n1 n0) U<|z6<|ba 26 U<|ze (dZ _ _) U<|z6<|ak 27 U (mA U)<|bY ?_
     exact ⟨es,(by repeat (first|with_reducible exact zp _ _|refine zz rfl ?_)),aH,aD,hKn⟩
    ·refine ae<|ao j5 U jy U U<|ay Z2 U<|ai U U<|ab U<|z6<|zu U (fun c9=>?_) (fun c9=>?_)
     ·have c9:x.op=9:=c9
      obtain ⟨_,l0,n0⟩:=a0 c9 (by decide)
      obtain ⟨_,l1,n1⟩:=a1 c9 (by decide)
      rw[Gs hR hm c9]
      refine zw (fun j=>false) (by kernel_rfl) U (zh (.rest _))<|ak 0 U (gD U)<|ak 1 U (yc U)<|ak 2 U (bx je U Z8 U U)<|ak 3 U (yn (c:=.pf _) Zg U)<|ak 4 U (bx j5 U j8 U U)<|ak 5 U (dx j9 U)<|ak 6 U (bh 0 wz j6 U U U (bn l0))<|ak 7 U (b7 j7 U)<|ak 8 U (bx j5 U j8 U U)<|ak 9 U (dx j9 U)<|ak 10 U (bh 1 wz j6 U U U (bw l1))<|ak 11 U (b7 j7 U)<|ak 13 U (gD U)<|ak 14 U (yc U)<|ak 15 U (bx je U Z8 U U)<|ak 16 U (yn (c:=.pf _) Zg U)<|ak 17 U (bx j5 U j8 U U)<|ak 18 U (dx j9 U)<|ak 19 U (bh 1 wz j6 U U U (bw l1))<|ak 20 U (b7 j7 U)<|ak 21 U (bx j5 U j8 U U)<|ak 22 U (dx j9 U)<|ak 23 U (bh 0 wz j6 U U U (bn l0))<|ak 24 U (b7 j7 U)<|ba 12 U<|ze (flw _ _ 0 n0 n1) U<|z6<|ba 25 U<|ze (flw _ _ (-1) n1 n0) U<|z6<|ba 26 U<|ze (dZ _ _) U<|z6<|ak 27 U (mA U)<|bY ?_
      exact ⟨es,(by repeat (first|with_reducible exact zp _ _|refine zz rfl ?_)),aH,aD,hKn⟩
     ·refine ae<|ao j5 U jy U U<|ay Z2 U<|ai U U<|ab U<|z6<|zu U (fun c7=>?_) (fun c7=>?_)
      ·have c7:x.op=7:=c7
       obtain ⟨_,l0,n0⟩:=a0 c7 (by decide)
       obtain ⟨_,l1,n1⟩:=a1 c7 (by decide)
       rw[Gt hR hm c7]
       refine zd<|zw (fun j=>false) (by kernel_rfl) U (zh (.rest _))<|ak 0 U (bx j5 U j8 U U)<|ak 1 U (dx j9 U)<|ak 2 U (bh 0 wz j6 U U U (bn l0))<|ak 3 U (b7 j7 U)<|ak 4 U (bx j5 U j8 U U)<|ak 5 U (dx j9 U)<|ak 6 U (bh 1 wz j6 U U U (bw l1))<|ak 7 U (b7 j7 U)<|ak 8 U (mA U)<|ak 9 U (mA U)<|bY<|zw (fun j=>false) (by kernel_rfl) U (zh (.rest _))<|ak 0 U (gD U)<|ak 1 U (yc U)<|ak 2 U (bx je U Z8 U U)<|ak 3 U (yn (c:=.pf _) Zg U)<|ak 4 U (dq U)<|ak 5 U (dq U)<|ak 16 U (gD U)<|ak 17 U (yc U)<|ak 18 U (bx je U Z8 U U)<|ak 19 U (yn (c:=.pf _) Zg U)<|ak 20 U (dq U)<|ak 21 U (dq U)<|ba 6 U<|ze (flw _ _ 0 n0 n1) U<|z6<|ak 7 U (l6 U)<|qe (s:=115) U (fun c1=>?_) (fun c1=>?_)
       ·refine cR 8 U U U c1 (gD U)<|cR 9 U U U c1 (yc U)<|cR 10 U U U c1 (bx je U Z8 U U)<|cR 11 U U U c1 (yn (c:=.pf _) Zg U)<|cR 12 U U U c1 (dq U)<|cR 13 U U U c1 (dq U)<|ba 14 U<|z8 U U c1<|ze (flw _ _ 0 n1 n0) U<|z6<|ak 15 U (ta U c1 U)<|ba 22 U<|ze (flw _ _ (-1) n0 n1) U<|z6<|ak 23 U (l6 U)<|qe (s:=131) U (fun c2=>?_) (fun c2=>?_)
        ·refine b9 24 U U U c2<|b9 25 U U U c2<|b9 26 U U U c2<|b9 27 U U U c2<|b9 28 U U U c2<|b9 29 U U U c2<|b9 30 U U U c2<|ak 31 U (ta U c2 U)<|ba 32 U<|ze (dZ _ _) U<|z6<|ak 33 U (mA U)<|bY ?_
         exact ⟨es,(by repeat (first|with_reducible exact zp _ _|refine zz rfl ?_)),⟨(by show AV.int .i64 _=AV.int .i64 _;simp_all),trivial⟩,aD,hKn⟩
        ·refine cR 24 U U U c2 (gD U)<|cR 25 U U U c2 (yc U)<|cR 26 U U U c2 (bx je U Z8 U U)<|cR 27 U U U c2 (yn (c:=.pf _) Zg U)<|cR 28 U U U c2 (dq U)<|cR 29 U U U c2 (dq U)<|ba 30 U<|z8 U U c2<|ze (flw _ _ (-1) n1 n0) U<|z6<|ak 31 U (qU U c2 U)<|ba 32 U<|ze (dZ _ _) U<|z6<|ak 33 U (mA U)<|bY ?_
         exact ⟨es,(by repeat (first|with_reducible exact zp _ _|refine zz rfl ?_)),⟨(by show AV.int .i64 _=AV.int .i64 _;simp_all),trivial⟩,aD,hKn⟩
       ·refine b9 8 U U U c1<|b9 9 U U U c1<|b9 10 U U U c1<|b9 11 U U U c1<|b9 12 U U U c1<|b9 13 U U U c1<|b9 14 U U U c1<|ak 15 U (qU U c1 U)<|ba 22 U<|ze (flw _ _ (-1) n0 n1) U<|z6<|ak 23 U (l6 U)<|qe (s:=131) U (fun c3=>?_) (fun c3=>?_)
        ·refine b9 24 U U U c3<|b9 25 U U U c3<|b9 26 U U U c3<|b9 27 U U U c3<|b9 28 U U U c3<|b9 29 U U U c3<|b9 30 U U U c3<|ak 31 U (ta U c3 U)<|ba 32 U<|ze (dZ _ _) U<|z6<|ak 33 U (mA U)<|bY ?_
         exact ⟨es,(by repeat (first|with_reducible exact zp _ _|refine zz rfl ?_)),⟨(by show AV.int .i64 _=AV.int .i64 _;simp_all),trivial⟩,aD,hKn⟩
        ·refine cR 24 U U U c3 (gD U)<|cR 25 U U U c3 (yc U)<|cR 26 U U U c3 (bx je U Z8 U U)<|cR 27 U U U c3 (yn (c:=.pf _) Zg U)<|cR 28 U U U c3 (dq U)<|cR 29 U U U c3 (dq U)<|ba 30 U<|z8 U U c3<|ze (flw _ _ (-1) n1 n0) U<|z6<|ak 31 U (qU U c3 U)<|ba 32 U<|ze (dZ _ _) U<|z6<|ak 33 U (mA U)<|bY ?_
         exact ⟨es,(by repeat (first|with_reducible exact zp _ _|refine zz rfl ?_)),⟨(by show AV.int .i64 _=AV.int .i64 _;simp_all),trivial⟩,aD,hKn⟩
      ·refine ae<|ao j5 U jy U U<|ay Z2 U<|ai U U<|ab U<|z6<|zu U (fun c1=>?_) (fun c1=>?_)
       ·have c1:x.op=1:=c1
        obtain ⟨h0,l0,n0⟩:=a0 c1 (by decide)
        rw[Gu hR hm c1 l0]
        refine aO<|bg U<|ao j5 U j8 U U<|aI j9 U<|za (bh 0 wz j6 U U U (bn l0))<|ay j7 U<|za (yt (v:=dw _) U)<|zr U (zh (.l (.rest _))) (ih es _ h0.1 h0.2 hKn) ?_
        rintro r151 O151 ⟨g1,rfl,rfl,hk1⟩
        refine ap U<|z6 ?_
        exact ⟨g1,(by repeat (first|with_reducible exact zp _ _|refine zz rfl ?_)),aH,aD,hk1⟩
       ·refine ae<|ao j5 U jy U U<|ay Z2 U<|ai U U<|ab U<|z6<|zu U (fun c10=>?_) (fun c10=>?_)
        ·have c10:x.op=10:=c10
         obtain ⟨h0,l0,n0⟩:=a0 c10 (by decide)
         rw[Eo hR hm c10 l0]
         refine ae<|bg U<|ao j5 U j8 U U<|aI j9 U<|za (bh 0 wz j6 U U U (bn l0))<|ay j7 U<|za (yt (v:=dw _) U)<|zr U (zh (.l (.rest _))) (ih es _ h0.1 h0.2 hKn) ?_
         rintro r162 O162 ⟨g1,rfl,rfl,hk1⟩
         refine ap U<|z6<|aO<|aa U<|ai U U<|aa U<|ai U U<|ze (dZ _ _) U<|ap U<|z6 ?_
         exact ⟨g1,(by repeat (first|with_reducible exact zp _ _|refine zz rfl ?_)),aH,aD,hk1⟩
        ·refine ae<|ao j5 U jy U U<|ay Z2 U<|ai U U<|ab U<|z6<|zu U (fun c11=>?_) (fun c11=>?_)
         ·have c11:x.op=11:=c11
          obtain ⟨h0,l0,n0⟩:=a0 c11 (by decide)
          obtain ⟨h1,l1,n1⟩:=a1 c11 (by decide)
          rw[Ep hR hm c11 l1]
          refine zd<|zw (fun j=>false) (by kernel_rfl) U (zh (.rest _))<|ak 0 U (gD U)<|ak 1 U (bx j5 U j8 U U)<|ak 2 U (dx j9 U)<|ak 3 U (bh 0 wz j6 U U U (bn l0))<|ak 4 U (b7 j7 U)<|ak 5 U (yt (v:=dw _) U)<|ak 7 U (gD U)<|ak 8 U (bx j5 U j8 U U)<|ak 9 U (dx j9 U)<|ak 10 U (bh 1 wz j6 U U U (bw l1))<|ak 11 U (b7 j7 U)<|ak 12 U (yt (v:=dw _) U)<|ba 6 U<|zr U (zh (.l (.rest _))) (ih es _ h0.1 h0.2 hKn) ?_
          rintro r178 O178 ⟨g1,rfl,rfl,hk1⟩
          refine z6<|ba 13 U<|zr U (zh (.l (.rest _))) (ih g1 _ h1.1 h1.2 hk1) ?_
          rintro r185 O185 ⟨g2,rfl,rfl,hk2⟩
          refine z6<|ak 14 U (mA U)<|ak 15 U (mA U)<|bY<|aO<|aa U<|ai U U<|aj U<|zo (s:=188) U (fun c4=>?_) (fun c4=>?_)
          ·refine z8 U U c4<|aa U<|z8 U U c4<|ai U U<|aq U c4 U<|aa U<|ai U U<|aj U<|zo (s:=194) U (fun c5=>?_) (fun c5=>?_)
           ·refine z7 U U c5<|z7 U U c5<|aq U c5 U<|ze (dZ _ _) U<|ap U<|z6 ?_
            exact ⟨g2,(by repeat (first|with_reducible exact zp _ _|refine zz rfl ?_)),⟨(by show AV.int .i64 _=AV.int .i64 _;simp_all),trivial⟩,aD,hk2⟩
           ·refine z8 U U c5<|aa U<|z8 U U c5<|ai U U<|au U c5 U<|ze (dZ _ _) U<|ap U<|z6 ?_
            exact ⟨g2,(by repeat (first|with_reducible exact zp _ _|refine zz rfl ?_)),⟨(by show AV.int .i64 _=AV.int .i64 _;simp_all),trivial⟩,aD,hk2⟩
          ·refine z7 U U c4<|z7 U U c4<|au U c4 U<|aa U<|ai U U<|aj U<|zo (s:=194) U (fun c6=>?_) (fun c6=>?_)
           ·refine z7 U U c6<|z7 U U c6<|aq U c6 U<|ze (dZ _ _) U<|ap U<|z6 ?_
            exact ⟨g2,(by repeat (first|with_reducible exact zp _ _|refine zz rfl ?_)),⟨(by show AV.int .i64 _=AV.int .i64 _;simp_all),trivial⟩,aD,hk2⟩
           ·refine z8 U U c6<|aa U<|z8 U U c6<|ai U U<|au U c6 U<|ze (dZ _ _) U<|ap U<|z6 ?_
            exact ⟨g2,(by repeat (first|with_reducible exact zp _ _|refine zz rfl ?_)),⟨(by show AV.int .i64 _=AV.int .i64 _;simp_all),trivial⟩,aD,hk2⟩
         ·rw[xB hR hm ⟨c8,c9,c7,c1,c10,c11⟩]
          refine zg ?_
          exact ⟨es,(by repeat (first|with_reducible exact zp _ _|refine zz rfl ?_)),aH,aD,hKn⟩
   ·rintro g1 hk1
    refine ae<|za (yt (v:=dw _) U)<|aa U<|aa U<|az.mapSetA (v:=.int _ _) underlying139 Zu U U U .head<|z6<|ae<|aa U<|ap U<|z6<|zi<|zm (x:=.int _ _) U ?_
    exact ⟨FB v (dK f K v) g1,rfl,⟨_,.refl _,by rw[←xC]⟩,hk1.put v⟩
 ·have hz:=hKn v z hg
  subst hz
  refine ae<|ap U<|z6<|zd<|ae<|za (yt (v:=dw _) U)<|aa U<|za (Gv.lookupA (zx:=.int .i64 0) hg underlying139 Zu Zs (fun _=>U) U U ⟨_,.head⟩)<|bR U<|bJ U U<|bZ U U<|ap U<|ab U<|z6<|ae<|aj U<|z6<|yl U U<|ae<|aa U<|ap U<|z6<|zi<|zm (x:=.int _ _) U ?_
  exact ⟨es,rfl,⟨_,.refl _,rfl⟩,hKn⟩
theorem xE (f:ad) (hR:bE f) (hv:f.vars.length≤1000) (K:KS) (hK:KB f K) (t pr:AV) (bk:Nat):∀n,xD E f K t pr bk n
 |0=>fun _ _ _ h=>by omega
 |n+1=>Ca f hR hv K hK t pr bk n (xE f hR hv K hK t pr bk n)
end Go.Proofs.YtdilpodccjlkgaaGreatDoor
