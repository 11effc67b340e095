/- Numbers of 16 and of 64 bits, as a call is handed them. No conditions. -/
import Derived.Test.YtbbonnfjealmpaaGreatDoorZx
import Derived.Test.YtbbonnfjealmpaaGreatDoorZbb
import Derived.Test.YtbbonnfjealmpaaGreatDoorZv
import Derived.Test.YtbbonnfjealmpaaGreatDoorZt
import Derived.Test.YtbbonnfjealmpaaGreatDoorZs
import Derived.Test.YtbbonnfjealmpaaGreatDoorZr
import Derived.Test.YtbbonnfjealmpaaGreatDoorZu
import Derived.Test.YtbbonnfjealmpaaGreatDoorZh
import Derived.Test.YtbbonnfjealmpaaGreatDoorZc
import Derived.Test.YtbbonnfjealmpaaGreatDoorZd
import Derived.Lib.LaidRTab
import Derived.Test.YtbbonnfjealmpaaGreatDoorRows
import Derived.Test.YtbbonnfjealmpaaGreatDoorChecked
import Derived.ProofKit
import Derived.JoinedOf
set_option linter.unusedVariables false
set_option linter.unusedSimpArgs false
set_option linter.unusedSectionVars false
namespace Go.Proofs.YtbbonnfjealmpaaGreatDoor
section
open Go.Proofs.Tryz
open Go.Proofs Go.Lib Go.Shelf Go.RowKit
variable {E:World}
set_option maxRecDepth 20000
theorem wE {M:Nat}:∀(bs:List aK),(∀b∈bs,b.phis.length+b.insts.length≤M)→eG bs≤bs.length*M
 |[],_=>w2 _
 |c::bs,h=>by
  have h1:=wE bs (fun c hc=>h c (.tail _ hc))
  have h2:=h c (.head _)
  unfold eG at h1 ⊢
  rw[List.map_cons,List.sum_cons,List.length_cons,Nat.add_mul];omega
theorem Ey {f:ab} (hf:small f) (hR:bm f) (hv:f.vars.length≤100) (hn:f.blocks.length≤40) (hi:∀b∈f.blocks,b.insts.length≤400):(fu f).vars.length≤32100∧(fu f).blocks.length≤40∧∀b∈(fu f).blocks,b.phis.length≤1000∧b.insts.length≤33000:=by
 have hw:=(Kw hR hv hn hi (Nat.le_refl (jF f).length)).1
 rw[vV] at hw
 refine ⟨hw,by rw[md hR];exact hn,fun b hb=>?_⟩
 obtain ⟨k,hk⟩:=List.getElem?_of_mem hb
 have hkl:=(List.getElem?_eq_some_iff.1 hk).1
 rw[md hR] at hkl
 obtain ⟨c,hc,hg,_,hok⟩:=sX hR (i:=(k:Int)) (by omega) (by omega)
 rw[Int.toNat_natCast] at hg hc
 rw[hk] at hg
 cases hg
 have hbm:aQ f (k:Int)∈f.blocks:=dU (by omega) (by omega)
 have hcl:=(zA hR).2 k c hc
 have hil:=hi _ hbm
 refine ⟨?_,?_⟩
 ·show (List.map _ _).length≤1000;rw[w6];exact (hf.2.2.2.2 _ hbm).2.1
 ·show c.insts.length≤33000;omega
theorem wF {f:ab} (hf:small f) (hR:bm f) (hv:f.vars.length≤100) (hn:f.blocks.length≤40) (hi:∀b∈f.blocks,b.insts.length≤400):aP prog E 12 [.agg (bw (fu f))] (.bool (mV (fu f))):=by
 obtain ⟨b1,b2,b3⟩:=Ey hf hR hv hn hi
 have hs:=wE (M:=34000) (fu f).blocks fun b hb=>by have:=b3 b hb;omega
 have hs2:(fu f).blocks.length*34000≤40*34000:=Nat.mul_le_mul_right _ b2
 exact zQ (E:=E) (fu f) (by omega) (by omega) (by omega) fun b hb=>by have:=b3 b hb;omega
theorem wG {f:ab} (hf:small f) (hR:bm f) (hv:f.vars.length≤100) (hn:f.blocks.length≤40) (hi:∀b∈f.blocks,b.insts.length≤400):aP prog E 14 [.agg (bw f)] (.agg (bw (ly f))):=by
 have hI:=BC (E:=E) hf hR hv hn hi
 have hF:=wF (E:=E) hf hR hv hn hi
 unfold ly
 refine zp func14 U (by decide) U<|ae<|y6 (cs:=_) U U U<|zu (cs:=[.n,.n,.n]) zeroValue26 U U<|fun i2=>z2<|ae<|ac Z0 ji U U<|ze (hI) U<|zu (cs:=[.n,.n,.n]) zeroValue26 U U<|fun i3=>zj ji U U U U U U .head U<|zd (y8 (t:=3) U .head)<|z2<|zb<|ae<|ac Z0 ji U U<|ze (hF) U<|aJ U<|z2<|zw U (fun cf=>?_) (fun cf=>?_)
 ·have hc:¬mV (fu f)=true:=by simpa using cf
  rw[if_neg hc]
  refine ae<|ac Z0 ji U U<|zj ji U U U U U U .head U<|z2<|zg<|ym U ⟨_,.head⟩ Z0 ji U ?_
  rfl
 ·have hc:mV (fu f)=true:=by simpa using cf
  rw[if_pos hc]
  refine zf<|ae<|ac Z0 ji U U<|zj ji U U U U U U .head U<|z2<|zg<|ym U ⟨_,.head⟩ Z0 ji U ?_
  rfl
theorem CO {f:ab} (hR:o6 f) {s:GS} (hg:bA f s) {v:Int} (h:v∈dw f s):0≤v∧v<f.vars.length:=by
 have hBm:=w9 (eO hg.b0 hg.b1)
 have hnt:=kZ hR hg
 unfold dw at h
 split at h
 ·rename_i x hx
  split at h
  ·rename_i h0
   rw[List.mem_singleton.1 h]
   refine ⟨h0,?_⟩
   rcases (hR.insts _ hBm x (w9 hx)).1.dst with ⟨h1,h2⟩|⟨h0,_,h3⟩
   ·omega
   ·exact (bN h3).1
  ·cases h
 ·split at h
  ·cases h
  ·rename_i hk
   obtain ⟨g0,g1⟩:=hnt hk
   obtain ⟨p,hp,rfl⟩:=List.mem_map.1 h
   exact (bN (hR.phis _ (dU g0 g1) p hp).1).symm
theorem Ez {f:ab} (hs:small f) (hR:o6 f) {s:GS} (hg:bA f s):(dw f s).length≤1000:=by
 have hnt:=kZ hR hg
 unfold dw
 split
 ·split
  ·exact Nat.le_of_ble_eq_true rfl
  ·exact w2 _
 ·split
  ·exact w2 _
  ·rename_i hk
   obtain ⟨g0,g1⟩:=hnt hk
   rw[w6]
   exact (hs.2.2.2.2 _ (dU g0 g1)).2.1
def IV (g:ab) (k:Nat):List Bool:=(lx g).take k++List.replicate (g.vars.length - k) false
theorem nI (g:ab):(lx g).length=g.vars.length:=by unfold lx;rw[w6,List.length_range]
theorem BJ {g:ab} {k:Nat} (h:k≤g.vars.length):(IV g k).length=g.vars.length:=by unfold IV;rw[w5,wd,List.length_replicate,nI];omega
theorem Hk {g:ab} {k:Nat} (h:k<g.vars.length):(IV g k).set k (decide ((aD g (k:Int)).1<0))=IV g (k+1):=by
 have hg:(lx g)[k]?=some (decide ((aD g (k:Int)).1<0)):=by unfold lx;rw[w7,List.getElem?_range h];rfl
 have hl:((lx g).take k).length=k:=by rw[wd,nI];omega
 unfold IV
 rw[List.set_append_right _ _ (by omega),hl,Nat.sub_self,show g.vars.length - k=(g.vars.length - (k+1))+1 by omega,List.replicate_succ,List.set_cons_zero,List.take_add_one,hg]
 simp
theorem EA {p:Nat→Bool} {k:Nat}:(List.range (k+1)).any p=((List.range k).any p||p k):=by rw[List.range_succ,List.any_append];simp
theorem qR (e:Bool):∀(l:List Int) (m:List Bool),(lw m e l).length=m.length
 |[],_=>rfl
 |v::l,m=>by
  show (lw (ta e m v) e l).length=_
  rw[qR e l]
  show (m.set _ _).length=_
  rw[List.length_set]
theorem CP {e:Bool} {m:List Bool} {l:List Int} {q:Nat} {v:Int} (h:l[q]?=some v):lw m e (l.take (q+1))=ta e (lw m e (l.take q)) v:=by unfold lw;exact qJ _ h
set_option maxHeartbeats 8000000 in
theorem wH (g:ab) (i:uL) (n:Nat) (l:List bh) (hs:small g) (hR:o6 g) (hi:bA g (kw g i)) (ha:i.args.length≤g.vars.length) (hn:n≤1000) (hl:l.length=g.vars.length):aP prog E 16 [.agg (bw g),.agg (ue i),.int .i64 n,.fro 2 (l.map bP)] (.bool (uS g i n l)):=by
 have hv:=hs.1
 have hls:=hi.ls
 have hlr:=hi.lr
 have hh:uS g i n l=oo g l n (kw g i) (lx g):=by unfold uS;rw[we hl,Bool.true_and]
 have hmd:=fun v:Nat=>kW (E:=E) g hs v
 rw[hh]
 refine zp func16 U (by decide) U<|ae<|y6 (cs:=_) U U U<|y6 (cs:=_) U U U<|ad U<|z2<|zb<|ae<|bd U<|aj Yt U<|ak je U Zn U U<|aI Zz U<|aj Z7 U<|aO U U<|z2<|yq U (by simp[hl])<|zf<|ae<|ac Z0 ji U U<|ac isAgg30 sizeOf30 U U<|y3 U (zo (.rest _)) (wD g i hv ha hls hlr) ?_
 rintro r27 O27 ⟨iw,ja,jb,jc,jo,jt,ids,hids,rfl,rfl⟩
 refine z8 (gu U)<|z2<|ae<|ak je U Zn U U<|aI Zz U<|aj Z7 U<|qm (m:=g.vars.length) jw Yq U U U U U (by simp) (by simp) (by show (1:Int)*_≤_;omega) (by omega)<|fun i31=>z8 (ei U)<|z2<|zb<|ae<|ak je U Zn U U<|aI Zz U<|aj Z7 U<|aa U<|z2<|zi<|y5 (γ:=Nat) [2,3,4,9,10,34] (fun k=>[(35,.i k)]) (fun k=>(i31,.grow 1 4 (cB (IV g k)))::wO g iw ja jb jc jo jt ids (kw g i)) (fun k=>k≤g.vars.length) (fun k=>g.vars.length - k) 0 aL aE (w2 _) ?_
 rintro k hk
 refine ae<|ap U U<|z2<|zb<|zn U (fun ck=>?_) (fun ck=>?_)
 ·have hk2:k<g.vars.length:=by simp at ck;omega
  refine zf<|zb<|zi<|ae<|aa U<|am U<|z2<|ae<|ac Z0 ji U U<|aa U<|ze (hmd _) U<|z8 (uY U)<|z8 (nC U U)<|z8 (nC U U)<|am U<|am U<|z2<|aW<|bL U<|aa U<|aa U<|ap U U<|z8 (yd (j:=k) jw Zb U U U ⟨_,.head⟩ ((aM _).trans (BJ hk)) hk2)<|q6 (j:=k) Zb U U .head (by rw[BJ hk];exact hk2)<|z2<|aW<|aC U U<|aa U<|z2 ?_
  exact ⟨k+1,oB,aL,⟨_,(.refl _),(by rw[←Hk hk2])⟩,hk2,by omega⟩
 ·obtain rfl:k=g.vars.length:=by simp at ck;omega
  have hm0:IV g g.vars.length=lx g:=by unfold IV;rw[List.take_of_length_le (by rw[nI];exact Nat.le_refl _),Nat.sub_self];simp
  rw[hm0]
  refine y4<|zb<|ae<|aa U<|aa U<|z2<|zi<|y5 (γ:=Nat × GS × List Bool × Nat × Nat × List Nat) [3,4,9,10,50] (fun w=>[(51,.i w.1)]) (fun w=>(i31,.grow 1 4 (cB w.2.2.1))::wO g iw ja jb jc w.2.2.2.1 w.2.2.2.2.1 w.2.2.2.2.2 w.2.1) (fun w=>w.1≤n∧oo g l (n - w.1) w.2.1 w.2.2.1=oo g l n (kw g i) (lx g)∧bA g w.2.1∧w.2.1.st≤w.1∧(∀q,w.2.1.ck q≤w.1)∧w.2.2.2.2.2.length=w.2.1.arrays.length∧w.2.2.1.length=g.vars.length) (fun w=>n - w.1) (0,kw g i,lx g,jo,jt,ids) aL aE (⟨w2 _,U,hi,w2 _,fun _=>w2 _,hids,nI g⟩) ?_
  rintro ⟨c,s,m,jo,jt,ids⟩ ⟨hc,hrun,hg,hst,hck,hids,hml⟩
  try dsimp only at *
  refine ae<|ap U U<|z2<|zb<|zw U (fun cn=>?_) (fun cn=>?_)
  ·have hc2:c<n:=by simp at cn;omega
   rw[show n - c=(n - (c+1))+1 by omega] at hrun
   have hrn:oo g l ((n - (c+1))+1) s m=if (List.range g.vars.length).any (zC g l s m)=true then false else if s.ended=true then true else oo g l (n - (c+1)) (bu g s) (lw m (bu g s).ended (dw g s)):=rfl
   rw[hrn] at hrun
   clear hrn
   refine zf<|zb<|zi<|zb<|ae<|ak je U Zn U U<|aI Zz U<|aj Z7 U<|aa U<|z2<|zi<|y5 (γ:=Nat) [3,4,9,10,50,51,55] (fun v=>[(56,.i v)]) (fun v=>(i31,.grow 1 4 (cB m))::wO g iw ja jb jc jo jt ids s) (fun v=>v≤g.vars.length∧(List.range v).any (zC g l s m)=false) (fun v=>g.vars.length - v) 0 aL aE (⟨w2 _,U⟩) ?_
   rintro v ⟨hv2,hno⟩
   refine ae<|ap U U<|z2<|zb<|zn U (fun cv=>?_) (fun cv=>?_)
   ·have hv3:v<g.vars.length:=by simp at cv;omega
    have hlv:l[v]?=some (lv l v):=by unfold lv;rw[Int.toNat_natCast,qx (by omega)];rfl
    have hva:=IG hg (v:=(v:Int)) ⟨by omega,by omega⟩
    have hV:=u5 (E:=E) g iw ja jb jc jo jt ids s v hv3 hids hg
    rw[hva] at hV
    have hov:zC g l s m v=(gb m v&&(decide (dG g s v<(lv l v).1)||decide ((lv l v).2<dG g s v))):=rfl
    have hsu:=EA (p:=zC g l s m) (k:=v)
    rw[hno,Bool.false_or] at hsu
    refine zf<|zb<|zi<|ae<|aa U<|am U<|z2<|ae<|bb U<|aa U<|y3 U (zo (.r (.l (.l (.l (.l (.l (.l (.l (.rest _)))))))))) (hV) ?_
    rintro r61 O61 ⟨rfl,rfl⟩
    refine am U<|z2<|y7 (za (zc .t7))<|zb<|yb (γ:=Bool) [3,4,9,10,50,51,55,56] (fun u=>[(83,.bool u)]) (fun u=>(i31,.grow 1 4 (cB m))::wO g iw ja jb jc jo jt ids s) (fun u=>u=(gb m v&&(decide (dG g s v<(lv l v).1)||decide ((lv l v).2<dG g s v)))) ?_ (fun _ _ h=>h) ?_
    ·refine aW<|bL U<|aa U<|z8 (yd (j:=v) jw Zb U U U ⟨_,.head⟩ ((aM _).trans hml) hv3)<|z8 (Gv.loadB (j:=v) Yn U ⟨_,.head⟩ (ml (by omega) (Int.natCast_nonneg v)))<|aq U<|zt (s:=66) U (fun c1=>?_) (fun c1=>?_)
     ·refine z7 U U c1<|aa U<|z7 U U c1<|bd U<|z7 U U c1<|aa U<|z7 U U c1<|z8 (bB v Yt j8 U U U hlv)<|z7 U U c1<|ak jz U Z1 U U<|z7 U U c1<|aA Zc U<|z7 U U c1<|ap U U<|z7 U U c1<|aq U<|zt (s:=74) U (fun c2=>?_) (fun c2=>?_)
      ·refine z6 U U c2<|z6 U U c2<|z6 U U c2<|z6 U U c2<|z6 U U c2<|z6 U U c2<|z6 U U c2<|z7 U U c1<|au U c2 U<|au U c1 U<|z2 ?_
       exact ⟨_,tk,aL,aE,by simp_all<;>omega⟩
      ·refine z7 U U c2<|aa U<|z7 U U c2<|bd U<|z7 U U c2<|aa U<|z7 U U c2<|z8 (bB v Yt j8 U U U hlv)<|z7 U U c2<|ak jz U Z1 U U<|z7 U U c2<|aA Zc U<|z7 U U c2<|be U U<|z7 U U c1<|aw U c2 U<|au U c1 U<|z2 ?_
       exact ⟨_,tk,aL,aE,by simp_all<;>omega⟩
     ·refine z6 U U c1<|z6 U U c1<|z6 U U c1<|z6 U U c1<|z6 U U c1<|z6 U U c1<|z6 U U c1<|z6 U U c1<|zk U U<|zk U U<|zk U U<|zk U U<|zk U U<|zk U U<|zk U U<|z6 U U c1<|aw U c1 U<|z2 ?_
      exact ⟨_,tk,aL,aE,by simp_all<;>omega⟩
    ·rintro u hu
     rw[←hov] at hu
     subst hu
     refine zw U (fun cu=>?_) (fun cu=>?_)
     ·have hany:(List.range g.vars.length).any (zC g l s m)=true:=List.any_eq_true.2 ⟨v,List.mem_range.2 hv3,cu⟩
      rw[if_pos hany] at hrun
      rw[←hrun]
      refine ae<|ad U<|z2<|zg<|zm (x:=.bool _) U ?_
      rfl
     ·rw[cu] at hsu
      refine zf<|aW<|aC U U<|aa U<|z2 ?_
      exact ⟨v+1,lg,aL,aE,⟨hv3,hsu⟩,by omega⟩
   ·obtain rfl:v=g.vars.length:=by simp at cv;omega
    rw[if_neg (by rw[hno];decide)] at hrun
    refine y4<|zb<|ae<|bb U<|ax U<|z8 (zh jf U Zb (by decide) U U)<|z8 (zq (c:=.bool _) Yn U ⟨_,.t1⟩ U)<|z2<|zw U (fun ce=>?_) (fun ce=>?_)
    ·have ce:s.ended=true:=ce
     rw[if_pos ce] at hrun
     rw[←hrun]
     refine y4<|ae<|ad U<|z2<|zg<|zm (x:=.bool _) U ?_
     rfl
    ·have ce:s.ended=false:=ce
     rw[if_neg (by rw[ce];decide)] at hrun
     have hM:=uZ (E:=E) g iw ja jb jc jo jt ids s hg hR hs
     have hmr:=fun v h=>CO hR hg (v:=v) h
     have hml2:=Ez hs hR hg
     obtain ⟨mk,hmk⟩:∃mk,dw g s=mk:=⟨_,rfl⟩
     rw[hmk] at hM hmr hrun hml2
     refine zf<|ae<|bb U<|y3 U (zo (.r (.l (.l (.l (.l (.l (.l (.l (.rest _)))))))))) (hM) ?_
     rintro r90 O90 ⟨rfl,rfl⟩
     refine z8 (oA U)<|z2<|ae<|bb U<|y3 U (zo (.l (.l (.l (.l (.l (.l (.l (.r (.rest _)))))))))) (Ae g iw ja jb jc jo jt ids s hids hg hR hv hs (by omega) (fun q=>by have:=hck q;omega)) ?_
     rintro r92 O92 ⟨jo',jt',ids',hl',rfl,rfl⟩
     refine z2<|y7 (za (zc .t7)) ?_
     have hg2:=hg.step hR
     have hst2:(bu g s).st≤c+1:=by rw[Ir];omega
     have hck2:∀q,(bu g s).ck q≤c+1:=fun q=>Nat.le_trans (Is g s q) (by have:=hck q;omega)
     obtain ⟨t,ht⟩:∃t,bu g s=t:=⟨_,rfl⟩
     rw[ht] at hrun hg2 hst2 hck2 hl'
     rw[ht]
     refine ae<|bd U<|aj j7 U<|aa U<|z2<|zi<|y5 (γ:=Nat) [3,4,9,10,50,51,93,94] (fun q=>[(95,.i q)]) (fun q=>(i31,.grow 1 4 (cB (lw m t.ended (mk.take q))))::wO g iw ja jb jc jo' jt' ids' t) (fun q=>q≤mk.length) (fun q=>mk.length - q) 0 aL aE (w2 _) ?_
     rintro q hq
     refine ae<|ap U U<|z2<|zb<|zn U (fun cq=>?_) (fun cq=>?_)
     ·have hq2:q<mk.length:=by simp at cq;omega
      obtain ⟨x,hx⟩:∃x,mk[q]?=some x:=⟨_,qx hq2⟩
      obtain ⟨x0,x1⟩:=hmr x (w9 hx)
      have hsu:=CP (e:=t.ended) (m:=m) hx
      have hmq:=qR t.ended (mk.take q) m
      obtain ⟨mm,hmm⟩:∃mm,lw m t.ended (mk.take q)=mm:=⟨_,rfl⟩
      rw[hmm] at hsu hmq
      rw[hmm]
      refine zf<|zb<|zi<|ae<|z8 (bB q j7 j9 U U U hx)<|aA jg U<|am U<|z2<|aW<|bL U<|aa U<|bb U<|ax U<|z8 (zh jf U Zb (by decide) U U)<|z8 (zq (c:=.bool _) Yn U ⟨_,.t1⟩ U)<|aJ U<|aq U<|zt (s:=106) U (fun cz=>?_) (fun cz=>?_)
      ·have hz:t.ended=false:=by simpa using cz
       refine z6 U U cz<|z6 U U cz<|z6 U U cz<|z6 U U cz<|au U cz U<|z8 (yd (j:=x.toNat) jw Zb U U (by omega) ⟨_,.head⟩ ((aM _).trans (hmq.trans hml)) (by omega))<|q6 (j:=x.toNat) Zb U U .head (by omega)<|z2<|aW<|aC U U<|aa U<|z2 ?_
       exact ⟨q+1,tk,aL,⟨_,(.refl _),(by rw[hsu];unfold ta;rw[hz];rfl)⟩,hq2,by omega⟩
      ·have hz:t.ended=true:=by simpa using cz
       refine z7 U U cz<|bL U<|z7 U U cz<|aa U<|z7 U U cz<|z8 (yd (j:=x.toNat) jw Zb U U (by omega) ⟨_,.head⟩ ((aM _).trans (hmq.trans hml)) (by omega))<|z7 U U cz<|z8 (Gv.loadB (j:=x.toNat) Yn U ⟨_,.head⟩ (ml (by omega) x0))<|aw U cz U<|z8 (yd (j:=x.toNat) jw Zb U U (by omega) ⟨_,.head⟩ ((aM _).trans (hmq.trans hml)) (by omega))<|q6 (j:=x.toNat) Zb U U .head (by omega)<|z2<|aW<|aC U U<|aa U<|z2 ?_
       exact ⟨q+1,tk,aL,⟨_,(.refl _),(by rw[hsu];unfold ta;rw[hz];rfl)⟩,hq2,by omega⟩
     ·obtain rfl:q=mk.length:=by simp at cq;omega
      rw[w4]
      refine y4<|aW<|aC U U<|aa U<|z2 ?_
      exact ⟨(c+1,t,lw m t.ended mk,jo',jt',ids'),mI,aL,aE,⟨hc2,hrun,hg2,hst2,hck2,hl',(qR _ _ _).trans hml⟩,by dsimp only;omega⟩
  ·have hc2:c=n:=by simp at cn;omega
   rw[hc2,Nat.sub_self] at hrun
   rw[←hrun]
   refine y4<|ae<|ad U<|z2<|zg<|zm (x:=.bool _) U ?_
   rfl
end
section
open Go.Proofs.Tryz
open Go.Proofs Go.Lib Go.Shelf Go.RowKit
variable {E:World}
set_option maxRecDepth 20000
section
variable {f:ab} {K:KS} {t pr a9 a10:AV} {iw js jl jm jp:Nat} {M:List Int}
variable (hv:f.vars.length≤1000)
include hv
end
end
section
open Go.Proofs.Tryz
section
variable {f:ab} (hR:bm f) {K:KS} {v:Int}
include hR
variable {x:aB} (hm:eg f v=some x)
include hm
end
end
section
open Go.Proofs.Tryz
open Go.Proofs Go.Lib Go.Shelf Go.RowKit
variable {E:World}
set_option maxRecDepth 20000
end
section
open Go.Proofs.Tryz
open Go.Proofs Go.Lib Go.Shelf Go.RowKit
variable {E:World}
set_option maxRecDepth 20000
end
section
open Go.Proofs.Tryz
open Go.Proofs Go.Lib Go.Shelf Go.RowKit
variable {E:World}
set_option maxRecDepth 20000
end
section
open Go.Proofs.Tryz
open Go.Proofs Go.Lib Go.Shelf Go.RowKit
variable {E:World}
set_option maxRecDepth 20000
def LV (f:ab):Bool:=bf f&&(cT f&&oO f)
end
section
open Go.Proofs.Tryz
open Go.Proofs
theorem Hl {f:ab} (hR:bm f) (hp:LV f=true):∀b∈f.blocks,∀y∈b.insts,y.op<25:=fun b hb y hy=>by
 have h1:=(hR.run.insts b hb y hy).1.op
 unfold LV oO at hp
 simp only[wh] at hp
 have h2:=List.all_eq_true.1 hp.2.2 b hb
 have h3:(b.insts.any fun x=>decide (x.op=25)||decide (x.op=26))=false:=by simpa using h2
 have h4:=List.any_eq_false.1 h3 y hy
 simp at h4
 omega
end
section
open Go.Proofs.Tryz
open Go.Proofs Go.Lib Go.Shelf Go.RowKit
variable {E:World}
set_option maxRecDepth 20000
theorem wI (f:ab) (i:uL) (hp:f.params.length≤f.vars.length) (hl:i.args.length≤281474976710656) (hl2:i.arrays.length≤281474976710656):aP prog E 9 [.agg (bw f),.agg (ue i)] (.int .i64 (ec f i)):=by
 refine zp func9 U (by decide) U<|ae<|y6 (cs:=_) U U U<|y6 (cs:=_) U U U<|am U<|z2<|zb<|ae<|ak Yp U sizeOf27 U U<|aI isAgg27 U<|aj Xb U<|ak je U jh U U<|aI jx U<|aj j7 U<|aO U U<|z2<|zw U (fun c1=>?_) (fun c1=>?_)
 ·have c1:¬i.args.length=f.params.length:=by simp at c1;omega
  refine ae<|am U<|z2<|zg<|zm (x:=.int _ _) U ?_
  unfold ec;rw[if_pos c1]
 ·have c1:i.args.length=f.params.length:=by simp at c1;omega
  refine zf<|zb<|ae<|ak Yp U sizeOf27 U U<|aI isAgg27 U<|aj Xb U<|aa U<|z2<|zi<|y5 (γ:=Nat) [2,3,17,18] (fun k=>[(19,.i k)]) (fun k=>[]) (fun k=>k≤i.args.length∧∀(j:Nat) a,j<k→i.args[j]?=some a→fS f i (a,j)=false) (fun k=>i.args.length - k) 0 aL aE (⟨w2 _,fun j a h=>absurd h (Nat.not_lt_zero _)⟩) ?_
  rintro k ⟨hk,hok⟩
  refine ae<|ap U U<|z2<|zb<|zn U (fun ck=>?_) (fun ck=>?_)
  ·have hk2:k<i.args.length:=by simp at ck;omega
   obtain ⟨a,hea⟩:∃a,i.args[k]=a:=⟨_,rfl⟩
   have hag:i.args[k]?=some a:=by rw[qx hk2,hea]
   obtain ⟨v,hev⟩:∃v,f.vars[k]?=some v:=⟨_,qx (by omega)⟩
   have hty:mD f k=v.ty:=by unfold mD;rw[hev];rfl
   refine zf<|zb<|zi<|ae<|aa U<|z8 (bB k Xb sizeOf68 U U U hag)<|ac isAgg68 sizeOf68 U U<|zu (cs:=[.int .i64 0,.bool false,.int .i64 0]) zeroValue68 U U<|fun i6=>am U<|zj sizeOf68 U U U U U U .head U<|zd (y8 (t:=6) U .head)<|z2<|zb<|yb (γ:=Bool) [2,3,17,18,19] (fun z=>[(43,.bool z)]) (fun z=>[]) (fun z=>z=fS f i (a,k)) ?_ (fun _ _ h=>h) ?_
   ·refine aW<|ak je U Zn U U<|aI Zz U<|aa U<|z8 (bB k Z7 Yf U U U hev)<|ak Zt U X9 U U<|aA Xj U<|ao U U<|aq U<|zt (s:=31) U (fun c2=>?_) (fun c2=>?_)
    ·have d2:mD f k=2:=hty.trans (by simpa using c2)
     refine z7 U U c2<|ak Xi U j9 U U<|z7 U U c2<|aA jg U<|z7 U U c2<|ap U U<|z7 U U c2<|aq U<|zt (s:=35) U (fun c3=>?_) (fun c3=>?_)
     ·have d3:a.arr < -1:=by simpa using c3
      refine z6 U U c3<|z6 U U c3<|z6 U U c3<|z6 U U c3<|z6 U U c3<|z6 U U c3<|z7 U U c2<|au U c3 U<|au U c2 U<|z2 ?_
      exact ⟨_,mI,aL,aE,by unfold fS;simp[d2,d3]⟩
     ·have d3:¬a.arr < -1:=by simpa using c3
      refine z7 U U c3<|ak Xi U j9 U U<|z7 U U c3<|aA jg U<|z7 U U c3<|ak Yp U Yh U U<|z7 U U c3<|aI X3 U<|z7 U U c3<|aj Zm U<|z7 U U c3<|z8 (q9 U U)<|z7 U U c2<|aw U c3 U<|au U c2 U<|z2 ?_
      exact ⟨_,mI,aL,aE,by unfold fS;simp[d2,d3]⟩
    ·have d2:¬mD f k=2:=fun h=>by rw[hty] at h;simp[h] at c2
     refine z6 U U c2<|z6 U U c2<|z6 U U c2<|z6 U U c2<|zk U U<|zk U U<|zk U U<|zk U U<|zk U U<|zk U U<|z6 U U c2<|aw U c2 U<|z2 ?_
     exact ⟨_,mI,aL,aE,by unfold fS;simp[d2]⟩
   ·rintro z hz
    refine zw U (fun cz=>?_) (fun cz=>?_)
    ·have hb:i.args.zipIdx.any (fS f i)=true:=List.any_eq_true.2 ⟨(a,k),w9 (i:=k) (by rw[List.getElem?_zipIdx,hag];simp),hz.symm.trans cz⟩
     refine ae<|am U<|z2<|zg<|zm (x:=.int _ _) U ?_
     unfold ec;rw[if_neg (fun h=>h c1),if_pos hb]
    ·refine zf<|aW<|aC U U<|aa U<|z2 ?_
     exact ⟨k+1,fC,aL,aE,⟨hk2,fun j b hj hb=>by rcases (by omega:j<k∨j=k) with h|rfl;exact hok j b h hb;rw[hag] at hb;cases hb;exact hz.symm.trans cz⟩,by omega⟩
  ·obtain rfl:k=i.args.length:=by simp at ck;omega
   have hb:¬i.args.zipIdx.any (fS f i)=true:=fun h=>by
    obtain ⟨⟨a,j⟩,hm,hh⟩:=List.any_eq_true.1 h
    obtain ⟨hj,e⟩:=List.mk_mem_zipIdx_iff_getElem?.1 hm |> fun h=>(⟨(List.getElem?_eq_some_iff.1 h).1,h⟩:j<i.args.length∧_)
    rw[hok j a hj e] at hh;cases hh
   refine y4<|zb<|ae<|ak Yp U Yh U U<|aI X3 U<|aj Zm U<|be U U<|z2<|zn U (fun c32=>?_) (fun c32=>?_)
   ·have c32:32<i.arrays.length:=by omega
    refine ae<|am U<|z2<|zg<|zm (x:=.int _ _) U ?_
    unfold ec;rw[if_neg (fun h=>h c1),if_neg hb,if_pos c32]
   ·have c32:¬32<i.arrays.length:=by omega
    refine zf<|zb<|ae<|ak Yp U Yh U U<|aI X3 U<|aj Zm U<|aa U<|z2<|zi<|y5 (γ:=Nat) [50,51] (fun k=>[(52,.i k)]) (fun k=>[]) (fun k=>k≤i.arrays.length∧∀r∈i.arrays.take k,decide (64<r.length)=false) (fun k=>i.arrays.length - k) 0 aL aE (⟨w2 _,fun r h=>by simp at h⟩) ?_
    rintro k ⟨hk,hok⟩
    refine ae<|ap U U<|z2<|zb<|zn U (fun ck=>?_) (fun ck=>?_)
    ·have hk2:k<i.arrays.length:=by simp at ck;omega
     obtain ⟨r,her⟩:∃r,i.arrays[k]=r:=⟨_,rfl⟩
     have hrg:i.arrays[k]?=some r:=by rw[qx hk2,her]
     refine zf<|zb<|zi<|ae<|z8 (bB k Zm Zx U U U hrg)<|aI Ye U<|z8 (oA U)<|z2<|ae<|bd U<|aj Z5 U<|be U U<|z2<|zn U (fun cr=>?_) (fun cr=>?_)
     ·have cr:64<r.length:=by omega
      have hb4:i.arrays.any (fun r=>decide (64<r.length))=true:=List.any_eq_true.2 ⟨r,w9 hrg,we cr⟩
      refine ae<|am U<|z2<|zg<|zm (x:=.int _ _) U ?_
      unfold ec;rw[if_neg (fun h=>h c1),if_neg hb,if_neg c32,if_pos hb4]
     ·have cr:¬64<r.length:=by omega
      refine zf<|aW<|aC U U<|aa U<|z2 ?_
      exact ⟨k+1,b7,aL,aE,⟨hk2,fun q hq=>by rw[qy hk2] at hq;rcases List.mem_append.1 hq with hq|hq;exact hok q hq;rw[List.mem_singleton.1 hq,her];exact wg cr⟩,by omega⟩
    ·obtain rfl:k=i.arrays.length:=by simp at ck;omega
     rw[w4] at hok
     have hb4:¬i.arrays.any (fun r=>decide (64<r.length))=true:=fun h=>by
      obtain ⟨r,hm,hh⟩:=List.any_eq_true.1 h
      rw[hok r hm] at hh;cases hh
     refine y4<|ae<|am U<|z2<|zg<|zm (x:=.int _ _) U ?_
     unfold ec;rw[if_neg (fun h=>h c1),if_neg hb,if_neg c32,if_neg hb4]
end
section
open Go.Proofs.Tryz
open Go.Proofs Go.Lib Go.Shelf Go.RowKit
variable {E:World}
set_option maxRecDepth 20000
def jM (i:uL):Bool:=decide (i.args.length≤20)&&(decide (i.arrays.length≤40)&&i.arrays.all fun r=>decide (r.length≤100))
theorem u6 (i:uL) (hl:i.args.length≤9223372036854775807) (hl2:i.arrays.length≤9223372036854775807):aP prog E 8 [.agg (ue i)] (.bool (jM i)):=by
 refine zp func8 U (by decide) U<|ae<|y6 (cs:=_) U U U<|ad U<|z2<|zb<|ae<|ak Yp U sizeOf27 U U<|aI isAgg27 U<|aj Xb U<|be U U<|aq U<|zt (s:=9) U (fun c1=>?_) (fun c1=>?_)
 ·refine z6 U U c1<|z6 U U c1<|z6 U U c1<|z6 U U c1<|au U c1 U<|z2<|yr U U<|ae<|ad U<|z2<|zg<|zm (x:=.bool _) U ?_
  unfold jM;rw[wg (fun h=>by simp at c1;omega)];rfl
 ·have h1:i.args.length≤20:=by simp at c1;omega
  refine z7 U U c1<|ak Yp U Yh U U<|z7 U U c1<|aI X3 U<|z7 U U c1<|aj Zm U<|z7 U U c1<|be U U<|aw U c1 U<|z2<|zw U (fun c2=>?_) (fun c2=>?_)
  ·refine ae<|ad U<|z2<|zg<|zm (x:=.bool _) U ?_
   unfold jM;rw[we h1,wg (fun h=>by simp at c2;omega)];rfl
  ·have h2:i.arrays.length≤40:=by simp at c2;omega
   refine zf<|zb<|ae<|ak Yp U Yh U U<|aI X3 U<|aj Zm U<|aa U<|z2<|zi<|y5 (γ:=Nat) [16,17] (fun k=>[(18,.i k)]) (fun k=>[]) (fun k=>k≤i.arrays.length∧∀r∈i.arrays.take k,r.length≤100) (fun k=>i.arrays.length - k) 0 aL aE (⟨w2 _,fun _ h=>by cases h⟩) ?_
   rintro k ⟨hk,hall⟩
   refine ae<|ap U U<|z2<|zb<|zn U (fun ck=>?_) (fun ck=>?_)
   ·have hk2:k<i.arrays.length:=by omega
    refine zf<|zb<|zi<|ae<|z8 (bB k Zm Zx U U U (qx hk2))<|aI Ye U<|z8 (oA U)<|z2<|ae<|bd U<|aj Z5 U<|be U U<|z2<|zn U (fun cr=>?_) (fun cr=>?_)
    ·refine ae<|ad U<|z2<|zg<|zm (x:=.bool _) U ?_
     unfold jM;rw[we h1,we h2,Bool.true_and,Bool.true_and];exact jb (List.all_eq_false.2 ⟨i.arrays[k],w3 hk2,by simp;omega⟩).symm
    ·have hall2:∀r∈i.arrays.take (k+1),r.length≤100:=fun r hr=>by
      rw[qy hk2] at hr
      rcases List.mem_append.1 hr with h|h
      ·exact hall r h
      ·rw[List.mem_singleton.1 h];omega
     refine zf<|aW<|aC U U<|aa U<|z2 ?_
     exact ⟨k+1,b7,aL,aE,⟨hk2,hall2⟩,by omega⟩
   ·obtain rfl:k=i.arrays.length:=by omega
    rw[w4] at hall
    refine y4<|ae<|ad U<|z2<|zg<|zm (x:=.bool _) U ?_
    unfold jM;rw[we h1,we h2,Bool.true_and,Bool.true_and];exact jb (List.all_eq_true.2 fun r hr=>we (hall r hr)).symm
end
section
open Go.Proofs.Tryz
open Go.Proofs Go.Lib Go.Shelf Go.RowKit
variable {E:World}
set_option maxRecDepth 20000
end
section
open Go.Proofs.Tryz
open Go.Proofs Go.Lib Go.Shelf Go.RowKit
variable {E:World}
set_option maxRecDepth 20000
theorem Hm {f:ab} (hS:bH f) {b:aK} (hb:b∈f.blocks) {x:aB} (hx:x∈b.insts):x.dst<f.vars.length:=by
 rcases (gh ((hS.2.2.2.2.2 b hb).2.1 x hx)).dst with ⟨h1,h2⟩|⟨h0,_,h3⟩
 ·omega
 ·exact (bN h3).1
theorem wJ {f:ab} (ht:bf f=true) (hs:cT f=true) (h64:∀b∈f.blocks,∀x∈b.insts,bg x.num):bm f:=by
 have hS:=dN ht
 have hE:=dM ht
 have hSg:=(Dj hE).1 hs
 refine ⟨fun b hb=>?_,hS,hE,hSg,Iv hSg.2.2.1 (fun b hb x hx=>Hm hS hb hx) fun b hb p hp=>?_,Bp hS h64⟩
 ·unfold bf at ht
  exact List.all_eq_true.1 (oY ht).2 b hb
 ·have:=bN ((hS.2.2.2.2.2 b hb).1 p hp).1
  exact ⟨this.2,this.1⟩
theorem u7 {f:ab} (h:gZ f=true):small f∧bf f=true∧cT f=true∧LV f=true:=by
 unfold gZ at h
 simp only[wh] at h
 exact ⟨((l8 f).1 h.1.1).small,h.1.2,h.2.1,by unfold LV;rw[h.1.2,h.2.1,h.2.2];rfl⟩
end
section
open Go.Proofs.Tryz
open Go.Proofs Go.Lib Go.Shelf Go.RowKit
variable {E:World}
set_option maxRecDepth 20000
theorem u9 {g:ab} {l:List bh} (ho:∀r∈l,cO r) (h:fL g l=true):(bf g=true∧cT g=true)∧l.length=g.vars.length∧kh g l:=by
 unfold fL at h
 simp only[wh,wm] at h
 refine ⟨h.1.1,h.1.2,Ag (fun u _=>?_) fun v hv=>?_⟩
 ·unfold lv
  cases e:l[u.toNat]? with
  |none=>exact ⟨by unfold fN bg;decide,by unfold fN bg;decide⟩
  |some r=>exact ho r (w9 e)
 ·have:=List.all_eq_true.1 h.2 v (List.mem_range.2 hv)
  unfold Im mq uK at this
  have h2:=wk this
  unfold m0
  exact h2
theorem mJ (f:ab) (hw:ux f) (h64:∀b∈f.blocks,∀x∈b.insts,bg x.num) (hL:bx E) (i:uL) (hi64:Bj i) (hil:i.args.length≤9223372036854775807) (hil2:i.arrays.length≤9223372036854775807) (m:Int) (hm:0≤m∧m≤65535) (l:List bh) (ho:∀r∈l,cO r) (hl:l.length≤9223372036854775807):aP prog E 4 [.agg (bw f),.agg (ue i),.int .u16 m,.fro 2 (l.map bP)] (.bool true):=by
 have hlv:=vJ (E:=E) hL
 refine zp func4 U (by decide) U<|ae<|y6 (cs:=_) U U U<|y6 (cs:=_) U U U<|ad U<|z2<|zb<|ae<|ze (hlv) U<|aJ U<|aq U<|z7 U U U<|ac Z0 ji U U<|z7 U U U<|ze (tO f hw hL) U<|z7 U U U<|aJ U<|aw U U U<|aq U<|zt (s:=17) U (fun c1=>?_) (fun c1=>?_)
 ·refine z6 U U c1<|z6 U U c1<|z6 U U c1<|au U c1 U<|aq U<|z6 U U U<|z6 U U U<|z6 U U U<|z6 U U U<|au U U U<|z2<|yr U U<|ae<|ze (hlv) U<|ad U<|z2<|zg<|zm (x:=.bool _) U ?_
  rfl
 ·have hlp:gZ f=true:=by cases h:gZ f;rw[h] at c1;cases c1;rfl
  have hfew:m9 f:=(l8 f).1 (by unfold gZ at hlp;simp only[wh] at hlp;exact hlp.1.1)
  obtain ⟨hsm,ht,hs,hp⟩:=u7 hlp
  have hS:=dN ht
  have hR:=wJ ht hs h64
  have hpl:=Hl hR hp
  refine z7 U U c1<|ac isAgg30 sizeOf30 U U<|z7 U U c1<|ze (u6 i hil hil2) U<|z7 U U c1<|aJ U<|aw U c1 U<|aq U<|zt (s:=22) U (fun c2=>?_) (fun c2=>?_)
  ·refine z6 U U c2<|z6 U U c2<|z6 U U c2<|z6 U U c2<|au U c2 U<|z2<|yr U U<|ae<|ze (hlv) U<|ad U<|z2<|zg<|zm (x:=.bool _) U ?_
   rfl
  ·have hsi:jM i=true:=by cases h:jM i;rw[h] at c2;cases c2;rfl
   have hsi2:i.args.length≤20∧i.arrays.length≤40:=by unfold jM at hsi;simp only[wh,wm] at hsi;exact ⟨hsi.1,hsi.2.1⟩
   refine z7 U U c2<|ac Z0 ji U U<|z7 U U c2<|ac isAgg30 sizeOf30 U U<|z7 U U c2<|ze (wI f i (pC hS) (by omega) (by omega)) U<|z7 U U c2<|aO U U<|aw U c2 U<|z2<|zw U (fun c3=>?_) (fun c3=>?_)
   ·refine ae<|ze (hlv) U<|ad U<|z2<|zg<|zm (x:=.bool _) U ?_
    rfl
   ·have hri:ec f i=0:=by simpa using c3
    obtain ⟨k,hk⟩:∃k:Nat,m.tmod 301=(k:Int):=⟨(m.tmod 301).toNat,by have:=Int.tmod_nonneg 301 hm.1;omega⟩
    have hk2:k≤300:=by have:=Int.tmod_lt_of_pos m (show (0:Int)<301 by decide);omega
    have hkw:IntKind.i64.wrap (m.tmod 301)=(k:Int):=by rw[hk];unfold IntKind.wrap;simp[IntKind.bits,IntKind.signed];omega
    have hbi:∀b∈f.blocks,b.insts.length≤400:=fun b hb=>(hfew.2.2.2.2.1 b hb).2.2.1
    have hWi:=wG (E:=E) hsm hR hfew.1 hfew.2.1 hbi
    have hWs:=zF hR hsm hbi
    have hWr:=zE hR (ug hR) hri
    have hWn:=D2 hR
    have hWp:=GA hR hpl
    obtain ⟨g,hg⟩:∃g,ly f=g:=⟨_,rfl⟩
    rw[hg] at hWi hWs hWr hWn hWp
    have hRg:=iE (E:=E) g hWs hL l ho hl
    refine zf<|ae<|ac Z0 ji U U<|ze (hWi) U<|zu (cs:=[.n,.n,.n]) zeroValue26 U U<|fun i9=>zj ji U U U U U U .head U<|zd (y8 (t:=9) U .head)<|z2<|zb<|ae<|bd U<|aj Yt U<|ak je U Zn U U<|aI Zz U<|aj Z7 U<|aO U U<|z2<|zw U (fun c4=>?_) (fun c4=>?_)
    ·refine ae<|ad U<|z2<|zg<|zm (x:=.bool _) U ?_
     rfl
    ·refine zf<|ae<|ac Z0 ji U U<|bd U<|ze (hRg) U<|aJ U<|aq U<|zt (s:=41) U (fun c5=>?_) (fun c5=>?_)
     ·refine z6 U U c5<|z6 U U c5<|z6 U U c5<|z6 U U c5<|z6 U U c5<|z6 U U c5<|z6 U U c5<|au U c5 U<|ad U<|z2<|zg<|zm (x:=.bool _) U ?_
      rfl
     ·have hrb:fL g l=true:=by cases h:fL g l;rw[h] at c5;cases c5;rfl
      obtain ⟨⟨gt,gs⟩,hlg,hSd⟩:=u9 ho hrb
      have hWR:=wJ gt gs hWn
      obtain ⟨hgi,hia⟩:=bA.beg hWR.run (pC hWR.hS) (Bq hWR.hS) hWr hi64
      have hho:=wH (E:=E) g i k l hWs hWR.run hgi hia (by omega) hlg
      rw[CN hWR (hWp hWR) hWr hi64 k hSd hlg,←hkw] at hho
      refine z7 U U c5<|ac Z0 ji U U<|z7 U U c5<|ac isAgg30 sizeOf30 U U<|z7 U U c5<|aa U<|z7 U U c5<|z8 (Gv.rem U U (by decide))<|z7 U U c5<|z8 (ql underlying31 X0 U)<|z7 U U c5<|bd U<|z7 U U c5<|ze (hho) U<|aw U c5 U<|ad U<|z2<|zg<|zm (x:=.bool _) U ?_
      rfl
end
section
open Go.Proofs.Tryz
open Go.Proofs Go.Lib Go.Shelf Go.RowKit Go.WideShapes
set_option maxRecDepth 20000
variable {W:World}
theorem CQ:gT prog W 3 bO (fun x=>(Lit.int .i64 x).wf=true):=gT.int X0
theorem BK:gT prog W 23 (fun l:List Int=>[.fro 1 (l.map bO)]) wL:=fun en held fuel cs x h=>by
 obtain ⟨l,hl,r⟩:=gT.slice (k:=1) j7 CQ (by kernel_rfl) (by decide) en held fuel cs x h
 exact ⟨l,hl.2,r⟩
theorem Jl:gT prog W 48 bF (fun _=>True):=fun en held fuel cs x h=>by
 obtain ⟨xs,n,_,_,hl,hxl,hf⟩:=DataW.trod_struct Zt h
 have hl:cs.length=2:=hl.trans (by kernel_rfl)
 have hxl:xs.length=2:=hxl
 obtain ⟨a,_,ra⟩:=qj (o:=0) (k:=1) (hf 0 _ rfl) (gT.str Zy) (by omega) rfl (by kernel_rfl)
 obtain ⟨b,_,rb⟩:=qj (o:=1) (k:=1) (hf 1 _ rfl) (gT.int underlying46) (by omega) rfl (by kernel_rfl)
 exact ⟨⟨a,b⟩,trivial,qc (o:=0) ra (qc rb (RepL.fin hl))⟩
theorem Jm:gT prog W 83 dA Le:=fun en held fuel cs x h=>by
 obtain ⟨xs,n,_,_,hl,hxl,hf⟩:=DataW.trod_struct Z4 h
 have hl:cs.length=3:=hl.trans (by kernel_rfl)
 have hxl:xs.length=3:=hxl
 obtain ⟨a,_,ra⟩:=qj (o:=0) (k:=1) (hf 0 _ rfl) CQ (by omega) rfl (by kernel_rfl)
 obtain ⟨b,hb,rb⟩:=qj (o:=1) (k:=1) (hf 1 _ rfl) BK (by omega) rfl (by kernel_rfl)
 obtain ⟨c,hc,rc⟩:=qj (o:=2) (k:=1) (hf 2 _ rfl) BK (by omega) rfl (by kernel_rfl)
 exact ⟨⟨a,b,c⟩,⟨hb,hc⟩,qc (o:=0) ra (qc rb (qc rc (RepL.fin hl)))⟩
def KU (x:aB):Prop:=wL x.args∧(Lit.int .i64 x.num).wf=true
theorem Hn:gT prog W 51 bq KU:=fun en held fuel cs x h=>by
 obtain ⟨xs,n,_,_,hl,hxl,hf⟩:=DataW.trod_struct jd h
 have hl:cs.length=4:=hl.trans (by kernel_rfl)
 have hxl:xs.length=4:=hxl
 obtain ⟨a,_,ra⟩:=qj (o:=0) (k:=1) (hf 0 _ rfl) (gT.int Xh) (by omega) rfl (by kernel_rfl)
 obtain ⟨b,_,rb⟩:=qj (o:=1) (k:=1) (hf 1 _ rfl) CQ (by omega) rfl (by kernel_rfl)
 obtain ⟨c,hc,rc⟩:=qj (o:=2) (k:=1) (hf 2 _ rfl) BK (by omega) rfl (by kernel_rfl)
 obtain ⟨d,hd,rd⟩:=qj (o:=3) (k:=1) (hf 3 _ rfl) (gT.int Zu) (by omega) rfl (by kernel_rfl)
 exact ⟨⟨a,b,c,d⟩,⟨hc,hd⟩,qc (o:=0) ra (qc rb (qc rc (qc rd (RepL.fin hl))))⟩
theorem Ho:gT prog W 56 p7 (fun _=>True):=fun en held fuel cs x h=>by
 obtain ⟨xs,n,_,_,hl,hxl,hf⟩:=DataW.trod_struct jj h
 have hl:cs.length=4:=hl.trans (by kernel_rfl)
 have hxl:xs.length=3:=hxl
 obtain ⟨a,_,ra⟩:=qj (o:=0) (k:=1) (hf 0 _ rfl) (gT.int underlying53) (by omega) rfl (by kernel_rfl)
 obtain ⟨b,_,rb⟩:=qj (o:=1) (k:=1) (hf 1 _ rfl) CQ (by omega) rfl (by kernel_rfl)
 obtain ⟨c,_,rc⟩:=qj (o:=2) (k:=2) (hf 2 _ rfl) (gT.pair (k:=1) Z9 CQ (by kernel_rfl) (by kernel_rfl)) (by omega) rfl (by kernel_rfl)
 exact ⟨⟨a,b,c.1,c.2⟩,trivial,qc (o:=0) ra (qc rb (qc rc (RepL.fin hl)))⟩
def KV (f:ab):Prop:=∀b∈f.blocks,∀x∈b.insts,bg x.num
def KW (b:aK):Prop:=Lf b∧∀x∈b.insts,-9223372036854775808≤x.num∧x.num≤9223372036854775807
theorem Hp:gT prog W 59 bD KW:=fun en held fuel cs x h=>by
 obtain ⟨xs,n,_,_,hl,hxl,hf⟩:=DataW.trod_struct jr h
 have hl:cs.length=7:=hl.trans (by kernel_rfl)
 have hxl:xs.length=4:=hxl
 obtain ⟨a,_,ra⟩:=qj (o:=0) (k:=1) (hf 0 _ rfl) (gT.str Zy) (by omega) rfl (by kernel_rfl)
 obtain ⟨b,hb,rb⟩:=qj (o:=1) (k:=1) (hf 1 _ rfl) (gT.slice (k:=3) Z8 Jm (by kernel_rfl) (by decide)) (by omega) rfl (by kernel_rfl)
 obtain ⟨c,hc,rc⟩:=qj (o:=2) (k:=1) (hf 2 _ rfl) (gT.slice (k:=4) Z6 Hn (by kernel_rfl) (by decide)) (by omega) rfl (by kernel_rfl)
 obtain ⟨d,_,rd⟩:=qj (o:=3) (k:=4) (hf 3 _ rfl) Ho (by omega) rfl (by kernel_rfl)
 exact ⟨⟨a,b,c,d⟩,⟨⟨hb.2,hc.2,hb.1,fun x hx=>(hc.1 x hx).1⟩,fun x hx=>by simpa [Lit.wf,IntKind.min,IntKind.max,IntKind.signed,IntKind.bits] using (hc.1 x hx).2⟩,qc (o:=0) ra (qc rb (qc rc (qc rd (RepL.fin hl))))⟩
theorem KX:gT prog W 26 bw (fun f=>ux f∧KV f):=fun en held fuel cs x h=>by
 obtain ⟨xs,n,_,_,hl,hxl,hf⟩:=DataW.trod_struct je h
 have hl:cs.length=3:=hl.trans (by kernel_rfl)
 have hxl:xs.length=3:=hxl
 obtain ⟨a,ha,ra⟩:=qj (o:=0) (k:=1) (hf 0 _ rfl) (gT.slice (k:=2) Z7 Jl (by kernel_rfl) (by decide)) (by omega) rfl (by kernel_rfl)
 obtain ⟨b,hb,rb⟩:=qj (o:=1) (k:=1) (hf 1 _ rfl) BK (by omega) rfl (by kernel_rfl)
 obtain ⟨c,hc,rc⟩:=qj (o:=2) (k:=1) (hf 2 _ rfl) (gT.slice (k:=7) ju Hp (by kernel_rfl) (by decide)) (by omega) rfl (by kernel_rfl)
 exact ⟨⟨a,b,c⟩,⟨⟨ha.2,hb,hc.2,fun x hx=>(hc.1 x hx).1⟩,fun x hx=>(hc.1 x hx).2⟩,qc (o:=0) ra (qc rb (qc rc (RepL.fin hl)))⟩
theorem Jn:gT prog W 63 bP cO:=fun en held fuel cs x h=>by
 obtain ⟨xs,n,_,_,hl,hxl,hf⟩:=DataW.trod_struct jz h
 have hl:cs.length=2:=hl.trans (by kernel_rfl)
 have hxl:xs.length=2:=hxl
 obtain ⟨a,ha,ra⟩:=qj (o:=0) (k:=1) (hf 0 _ rfl) (gT.int Zu) (by omega) rfl (by kernel_rfl)
 obtain ⟨b,hb,rb⟩:=qj (o:=1) (k:=1) (hf 1 _ rfl) (gT.int Zu) (by omega) rfl (by kernel_rfl)
 exact ⟨(a,b),⟨by simpa [bg,Lit.wf,IntKind.min,IntKind.max,IntKind.signed,IntKind.bits] using ha,by simpa [bg,Lit.wf,IntKind.min,IntKind.max,IntKind.signed,IntKind.bits] using hb⟩,qc (o:=0) ra (qc rb (RepL.fin hl))⟩
theorem Hq:gT prog W 40 (fun l:List bh=>[.fro 2 (l.map bP)]) (fun l=>(∀r∈l,cO r)∧l.length≤9223372036854775807):=fun en held fuel cs x h=>
 gT.slice (k:=2) Yt Jn (by kernel_rfl) (by decide) en held fuel cs x h
theorem EB {H:Type} {enc:TypeId × Value→H} {held:Bool} {α:Type} {T e:TypeId} {k:Nat} {g:α→List (List AV)} {ok:α→Prop} {base:Nat} {v:Value} {d:DataW H} {p:List MemPlace} (hd:gT prog W T (fun a=>[.fro k (g a)]) ok) (ht:prog.underlying T=some (.slice e))
  (hv:Value.okWide prog W .any base T v) (h:DataW.Trod enc prog W 0 (fun _=>true) held T v d p):∃a,ok a∧cC (I0 W) (.fro k (g a)) v:=by
 obtain ⟨a,len,cap,rfl⟩:=okWide_slice ht hv
 obtain ⟨fuel,h⟩:=h
 obtain ⟨a,h1,v,_,e,h2,h3⟩:=hd enc held fuel _ _ h
 cases e
 exact ⟨a,h1,h2⟩
theorem uh {H:Type} {enc:TypeId × Value→H} {held:Bool} {α:Type} {T:TypeId} {e:α→List AV} {ok:α→Prop} {fs:Array Field} {base:Nat} {v:Value} {d:DataW H} {p:List MemPlace} (hd:gT prog W T e ok) (ht:prog.underlying T=some (.struct fs))
  (hv:Value.okWide prog W .any base T v) (h:DataW.Trod enc prog W 0 (fun _=>true) held T v d p):∃a,ok a∧cC (I0 W) (.agg (e a)) v:=by
 obtain ⟨cs,rfl,_⟩:=okWide_struct ht hv
 obtain ⟨fuel,h⟩:=h
 obtain ⟨a,h1,h2⟩:=hd enc held fuel _ _ h
 exact ⟨a,h1,cs.toList,by simp,h2⟩
theorem L9:RExtra prog Tryz.lays200_ren:=⟨by kernel_rfl,by kernel_rfl,by kernel_rfl,by kernel_rfl,by kernel_rfl,by kernel_rfl,by kernel_rfl,by kernel_rfl⟩
theorem Ah (h:Lib.VarReads prog W "unicode.properties" (Lib.tabData .u8 Lib.propertiesTab)) (h2:Lib.VarReads prog W "unicode.Letter" (Lib.rtabData letterT)):bx W:=
 ⟨qZ (g:=0) (by kernel_rfl) (by kernel_rfl) underlying290 underlying5 (by kernel_rfl) (by kernel_rfl) h,
  rvar_of_reads { Tryz.lays200 with } L9 (name:="unicode.Letter") (g:=1) (by kernel_rfl) (by kernel_rfl) h2⟩
end
section
open Go.Proofs.Tryz
open Go.Proofs
theorem Ma:prog.mayEnter=true:=by kernel_rfl
theorem KY:(Rows.tableRangesHoldRow.lifted == prog.liftsFinal)=true:=by kernel_rfl
theorem KZ:(prog.make == some Rows.tableRangesHoldRow.make)=true:=by kernel_rfl
theorem K0:laidOutB prog=true:=by kernel_rfl
theorem Mb:mapsRowed prog=true:=by kernel_rfl
theorem K1:(prog.stops == [])=true:=by kernel_rfl
theorem K2:(prog.stopKnobs == [])=true:=by kernel_rfl
theorem K3:(Rows.tableRangesHoldRow.plainKeys == prog.plainKeys)=true:=by kernel_rfl
theorem Jo:prog.stopsHeard=true:=by kernel_rfl
theorem ME:(Rows.tableRangesHoldRow.inPlace == prog.inPlace 4)=true:=by kernel_rfl
theorem MF:(Rows.tableRangesHoldRow.unfollowed == prog.unfollowed 4)=true:=by kernel_rfl
theorem Mc:(Rows.tableRangesHoldRow.recurses == prog.recurses 4)=true:=by kernel_rfl
theorem Md:(Rows.tableRangesHoldRow.named == prog.varsNamed 4)=true:=by kernel_rfl
theorem closed:joinedFacts prog 4 Tryz.f4 Rows.tableRangesHoldSpec Rows.tableRangesHoldRow=true:=by
 unfold joinedFacts
 rw[K0,Mb,K1,K2,ME,MF,Mc,Md,K3,Jo,Ma,KY,KZ]
 kernel_rfl
end
section
open Go.Proofs.Tryz
open Go.Proofs Go.Lib Go.Shelf Go.RowKit Go.WideShapes
set_option maxRecDepth 20000
variable {W:World}
theorem IW {n:Int} (h:(Lit.int .i64 n).wf=true):bg n:=by simpa [bg,Lit.wf,IntKind.min,IntKind.max,IntKind.signed,IntKind.bits] using h
theorem Jp:gT prog W 68 Eu (fun a=>bg a.int):=fun en held fuel cs x h=>by
 obtain ⟨xs,n,_,_,hl,hxl,hf⟩:=DataW.trod_struct Xi h
 have hl:cs.length=3:=hl.trans (by kernel_rfl)
 have hxl:xs.length=3:=hxl
 obtain ⟨a,ha,ra⟩:=qj (o:=0) (k:=1) (hf 0 _ rfl) (gT.int Zu) (by omega) rfl (by kernel_rfl)
 obtain ⟨b,_,rb⟩:=qj (o:=1) (k:=1) (hf 1 _ rfl) (gT.bool Yo) (by omega) rfl (by kernel_rfl)
 obtain ⟨c,_,rc⟩:=qj (o:=2) (k:=1) (hf 2 _ rfl) CQ (by omega) rfl (by kernel_rfl)
 exact ⟨⟨a,b,c⟩,IW ha,qc (o:=0) ra (qc rb (qc rc (RepL.fin hl)))⟩
theorem Jq:gT prog W 66 Ev (fun r=>∀x∈r,bg x):=fun en held fuel cs x h=>by
 obtain ⟨l,hl,r⟩:=gT.slice (k:=1) Z5 (gT.int Zu) (by kernel_rfl) (by decide) en held fuel cs x h
 exact ⟨l,fun x hx=>IW (hl.1 x hx),r⟩
theorem K5:gT prog W 30 ue (fun i=>Bj i∧i.args.length≤9223372036854775807∧i.arrays.length≤9223372036854775807):=fun en held fuel cs x h=>by
 obtain ⟨xs,n,_,_,hl,hxl,hf⟩:=DataW.trod_struct Yp h
 have hl:cs.length=2:=hl.trans (by kernel_rfl)
 have hxl:xs.length=2:=hxl
 obtain ⟨a,ha,ra⟩:=qj (o:=0) (k:=1) (hf 0 _ rfl) (gT.slice (k:=3) Xb Jp (by kernel_rfl) (by decide)) (by omega) rfl (by kernel_rfl)
 obtain ⟨b,hb,rb⟩:=qj (o:=1) (k:=1) (hf 1 _ rfl) (gT.slice (k:=1) Zm Jq (by kernel_rfl) (by decide)) (by omega) rfl (by kernel_rfl)
 exact ⟨⟨a,b⟩,⟨⟨ha.1,hb.1⟩,ha.2,hb.2⟩,qc (o:=0) ra (qc rb (RepL.fin hl))⟩
end
section
open Go.Proofs.Tryz
open Go.Proofs Go.Lib Go.Shelf Go.RowKit Go.WideShapes
set_option maxRecDepth 20000
variable {W:World}
theorem Jr {H:Type} {enc:TypeId × Value→H} {held:Bool} {T:TypeId} {base:Nat} {v:Value} {d:DataW H} {p:List MemPlace} (ht:prog.underlying T=some (.int .u16))
  (hv:Value.okWide prog W .any base T v) (h:DataW.Trod enc prog W 0 (fun _=>true) held T v d p):∃n:Int,(0≤n∧n≤65535)∧v=.int .u16 n:=by
 obtain ⟨n,rfl⟩:=okWide_int ht hv
 obtain ⟨fuel,h⟩:=h
 obtain ⟨m,h1,h2⟩:=gT.int ht enc held fuel _ _ h
 obtain ⟨v,_,e,h2,h3⟩:=h2
 cases e
 cases h2
 exact ⟨n,by simpa [Lit.wf,IntKind.min,IntKind.max,IntKind.signed,IntKind.bits] using h1,rfl⟩
end
end Go.Proofs.YtbbonnfjealmpaaGreatDoor
