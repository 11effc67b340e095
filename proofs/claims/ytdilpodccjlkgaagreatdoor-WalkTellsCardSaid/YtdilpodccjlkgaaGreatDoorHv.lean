/- The document's ranges. Of int64s. -/
import Derived.Test.YtdilpodccjlkgaaGreatDoorHu
import Derived.Test.YtdilpodccjlkgaaGreatDoorHd
import Derived.Test.YtdilpodccjlkgaaGreatDoorHn
import Derived.Test.YtdilpodccjlkgaaGreatDoorHj
import Derived.Test.YtdilpodccjlkgaaGreatDoorHo
import Derived.Test.YtdilpodccjlkgaaGreatDoorHs
import Derived.Test.YtdilpodccjlkgaaGreatDoorHm
import Derived.Test.YtdilpodccjlkgaaGreatDoorHc
set_option linter.unusedVariables false
set_option linter.unusedSimpArgs false
set_option linter.unusedSectionVars false
namespace Go.Proofs.YtdilpodccjlkgaaGreatDoor
open Go.Proofs.Tryz
open Go.Proofs Go.Lib Go.Shelf Go.RowKit
theorem He:cX prog 75 #[(0,3),(3,1),(4,1),(5,1),(6,1),(7,1),(8,1),(9,1),(10,1)] [.raw (.slice none 0 0),.raw (.slice none 0 0),.raw (.slice none 0 0),.raw (.pointer none),.raw (.slice none 0 0),.raw (.slice none 0 0),.raw (.pointer none),.int .i64 0,.raw (.slice none 0 0),.raw (.map none),.raw (.slice none 0 0)]:=⟨_,_,je,zeroValue75,fun w=>by kernel_rfl,rfl⟩
variable {E:World}
set_option maxRecDepth 20000
def Ci (f:ad):Bool:=bj f&&(dv f&&ij f)
theorem Cj (f:ad):fx f (fun _=>false)=List.replicate f.blocks.length 0:=by
 unfold fx
 refine List.ext_getElem? fun j=>?_
 rw[qs,List.getElem?_replicate]
 split
 ·rename_i h;rw[e9 h];rfl
 ·rename_i h;rw[List.getElem?_eq_none (by rw[bA];omega)];rfl
theorem sR (f:ad) (hf:small f) (hL:bB E) (hp:Ci f=false):aK prog E 18 [.agg (bD f)] (.tup [.raw (.pointer none),.int .i64 3]):=by
 have h1:=ky (E:=E) f hf hL
 rw[if_neg (by unfold Ci at hp;rw[hp];decide)] at h1
 unfold bD at *
 refine zq func18 U (by decide) U<|ae<|y9 (cs:=_) U U U<|bF U<|ap U<|z6<|zd<|ae<|ac ju jf U U<|ze (h1) U<|ap U<|z6<|ae<|aa U<|aM U U<|z6<|yl U U<|ae<|aa U<|bF U<|ap U<|z6<|zi<|q7 (x:=.raw _) (y:=.int _ _) U U ?_
 rfl
set_option maxHeartbeats 4000000 in
theorem qK (f:ad) (hA:GL f E) (hp:Ci f=true):aR prog E 18 [.agg (bD f)] []
  (fun y O=>∃g:Nat × Nat × Nat × Nat × Nat × Nat × Nat × List (gH × Int),y=.tup [.po g.1 0,.int .i64 0]∧O=CF f g.1 g.2.1 g.2.2.1 g.2.2.2.1 g.2.2.2.2.1 g.2.2.2.2.2.1 g.2.2.2.2.2.2.1 (cT f) [] g.2.2.2.2.2.2.2 (fx f fun j=>er (ah f) f.blocks.length 0 j)∧gh f (fun m=>er (ah f) f.blocks.length 0 m.1) g.2.2.2.2.2.2.2):=by
 obtain ⟨hf,hL,hR,ht,hs⟩:=id hA
 have hf3:=hf.2.2.1
 have hvars:=hf.1
 have hnb:=hR.nblk
 have h1:=ky (E:=E) f hf hL
 rw[if_pos (by unfold Ci at hp;rw[hp])] at h1
 have h2:=uq (E:=E) f hf hL ht
 have h3:=kw (E:=E) f hf hL ht
 have h4:=ng (E:=E) f hf hL ht
 have h5:=zT (E:=E) (f.vars.length+1) (by omega)
 have hpos:=hR.run.pos
 have hE:=hR.hE
 have hG:=hE.grph
 obtain ⟨b0,hb0⟩:∃b,f.blocks[0]?=some b:=⟨_,qk (by omega)⟩
 have hl0:=hR.lev (i:=0) (by omega)
 have hfp:(cT f).p=[]:=sQ (f:=f) (aU f.vars.length) ⟨[],[]⟩
 have hblk:=fun iw js bm jd jl jm jp=>pK (E:=E) f hA iw js bm jd (f.blocks.length+1) 0 b0 (fun _=>false) jl jm jp (cT f) [] [] hb0 (by omega) ⟨fun j hj hne=>absurd (pl hG hj (.root hj.rch)) (by simpa using hne),fun _ _=>rfl⟩ (BW hR).symm KB.first ⟨by rw[hfp];have:=hl0.1;show ((0:Nat):Int)≤1100*_;omega,by rw[hfp];exact fun q hq=>(by cases hq)⟩ (by simpa using hl0.1) (gh.emp f)
 have hfir:=fun iw js jl jm jp bm jd=>uW (E:=E) (f:=f) (t:=gN f) (pr:=sO f) (a9:=dw bm) (a10:=.own jd f.blocks.length) (iw:=iw) (js:=js) (jl:=jl) (jm:=jm) (jp:=jp) (M:=[]) hf
 have hdm:=Cj f
 refine yu (γ:=Nat × Nat × Nat × Nat × Nat × Nat × Nat × List (gH × Int)) (x:=fun g=>.tup [.po g.1 0,.int .i64 0]) (M:=fun g=>CF f g.1 g.2.1 g.2.2.1 g.2.2.2.1 g.2.2.2.2.1 g.2.2.2.2.2.1 g.2.2.2.2.2.2.1 (cT f) [] g.2.2.2.2.2.2.2 (fx f fun j=>er (ah f) f.blocks.length 0 j)) (p:=fun g=>gh f (fun m=>er (ah f) f.blocks.length 0 m.1) g.2.2.2.2.2.2.2) ?_
 unfold CF
 unfold CF at hblk
 unfold iu at hfir
 unfold pV at h5
 unfold bD at *
 refine zq func18 U (by decide) U<|ae<|y9 (cs:=_) U U U<|bF U<|ap U<|z6<|zd<|ae<|ac ju jf U U<|ze (h1) U<|ap U<|z6<|ae<|aa U<|aM U U<|z6<|yg U U<|zg<|ae<|ac ju jf U U<|ze (h2) U<|bR U<|za (yz (v:=.pf _) U U)<|bJ U U<|za (qc (v:=.pf _) U)<|ap U<|z6<|zd<|ae<|aa U<|aM U U<|z6<|yg U U<|zg<|zd<|zw (fun j=>false) (by kernel_rfl) U (zh (.rest _))<|ak 0 U (yr ju jf U U)<|ak 1 U (gD U)<|ak 2 U (yr ju jf U U)<|ak 4 U (yr ju jf U U)<|ak 6 U (bx jg U Y4 U U) ?_
 refine ak 7 U (dx Yb U)<|ak 8 U (Gv.lenM Z7 U)<|ak 9 U (CA U U)<|ak 11 U (bx jg U Y4 U U)<|ak 12 U (dx Yb U)<|ak 13 U (Gv.lenM Z7 U)<|ba 3 U<|ze (h3) U<|z6<|ba 5 U<|ze (h4) U<|z6<|ba 10 U<|zr U (zh (.rest _)) (h5) ?_
 rintro r31 O31 ⟨⟨js,jl,jm⟩,rfl,rfl,_⟩
 refine z6<|ak 14 U (y5 (cps:=[(0,[_,_,_]),(1,[_]),(2,[_]),(3,[_]),(4,[_]),(5,[_])]) (rs:=[_,_,_,_,_,_,_,_,.raw (.slice none 0 0),.raw (.map none),.raw (.slice none 0 0)]) He U U U)<|ba 15 U<|yk (cs:=_) U U U U<|fun i36=>z6<|ak 16 U (gc U)<|bY<|fe (off:=8) (k:=2) (T:=187) (fun _=>.head) U<|fun jp=>zd<|ya (γ:=Nat × Nat) [7] (fun g=>[]) (fun g=>[(i36,.cells 75 (lm f (gN f) (sO f) js jp (cT f).p.length (dw g.1) (.own g.2 f.blocks.length))),(js,.cells 136 [.int .i64 ((f.vars.length+1:Nat):Int),.own jl 0,.own jm 0]),(jl,.grow 3 180 []),(jm,.grow 1 3 []),(jp,.grow 2 187 []),(0,jU m0 g.1 []),(g.2,.grow 1 3 (cI (fx f fun _=>false)))]) (fun g=>True) ?_ (fun _ _ h=>h) ?_
 ·refine zw (fun j=>Nat.beq j 9||Nat.beq j 12) (by kernel_rfl) U (zh (.rest _))<|ak 0 U (ef U)<|yx (i:=1) U (by kernel_rfl) (by kernel_rfl) (by kernel_rfl) (by kernel_rfl) (ef U)<|yx (i:=3) U (by kernel_rfl) (by kernel_rfl) (by kernel_rfl) (by kernel_rfl) (bx jg U Z6 U U)<|yx (i:=4) U (by kernel_rfl) (by kernel_rfl) (by kernel_rfl) (by kernel_rfl) (dx Zd U)<|yx (i:=5) U (by kernel_rfl) (by kernel_rfl) (by kernel_rfl) (by kernel_rfl) (Gv.lenM jk U)<|yq (i:=2) (j:=6) U U (by kernel_rfl) ?_ ?_
  ·refine az.makeMapS (c:=m0)<|fun b39=>z6<|yx (i:=7) U (by kernel_rfl) (by kernel_rfl) (by kernel_rfl) (by kernel_rfl) (yb U)<|ak 8 U (zn je U sizeOf73 (by decide) U U)<|yq (i:=6) (j:=9) U U (by kernel_rfl) ?_ ?_
   ·refine az.makeI (m:=f.blocks.length) wz X8 U U U U U (by simp) (by simp) (by show (8:Int)*_≤_;omega) (by omega)<|fun i43=>zf (zb (zc .head))<|zf (zb (zc .t1))<|zf (zb (zc .t2))<|zf (zb (zc .t6))<|zf (zb (zc .t6))<|zf (zb (zc .t6))<|zf (zb (zc .t6))<|z6<|ym<|yi (i:=9) U (by kernel_rfl) (by kernel_rfl)<|yw (l:=[_]) (new:=[_,_,_,_,_,_,_,_,_,_,_]) sizeOf73 U U U U U U .head U U<|z6<|yi (i:=10) U (by kernel_rfl) (by kernel_rfl)<|aw U<|z6<|yi (i:=11) U (by kernel_rfl) (by kernel_rfl)<|za (zn je U j8 (by decide) U U)<|z6<|yi (i:=12) U (by kernel_rfl) (by kernel_rfl)<|yw (l:=[_]) (new:=[_,_,_,_,_,_,_,_,_,_,_]) j8 U U U U U U .head U U<|z6<|yo (by kernel_rfl) ?_
    exact ⟨(b39,i43),(by repeat (first|with_reducible exact zp _ _|refine zz rfl ?_)),trivial,⟨_,(.refl _),by rw[hdm,hfp];rfl⟩,trivial⟩
   ·refine yw (l:=[_]) (new:=[_,_,_,_,_,_,_,_,_,_,_]) sizeOf73 U U U U U U .t2 U U<|z6<|ba 6 U<|az.makeI (m:=f.blocks.length) wz X8 U U U U U (by simp) (by simp) (by show (8:Int)*_≤_;omega) (by omega)<|fun i43=>zf (zb (zc .head))<|zf (zb (zc .t1))<|zf (zb (zc .t2))<|zf (zb (zc .t6))<|zf (zb (zc .t6))<|zf (zb (zc .t6))<|zf (zb (zc .t6))<|z6<|yx (i:=10) U (by kernel_rfl) (by kernel_rfl) (by kernel_rfl) (by kernel_rfl) (yb U)<|yx (i:=11) U (by kernel_rfl) (by kernel_rfl) (by kernel_rfl) (by kernel_rfl) (zn je U j8 (by decide) U U)<|ym<|yi (i:=12) U (by kernel_rfl) (by kernel_rfl)<|yw (l:=[_]) (new:=[_,_,_,_,_,_,_,_,_,_,_]) j8 U U U U U U .head U U<|z6<|yo (by kernel_rfl) ?_
    exact ⟨(b39,i43),(by repeat (first|with_reducible exact zp _ _|refine zz rfl ?_)),trivial,⟨_,(.refl _),by rw[hdm,hfp];rfl⟩,trivial⟩
  ·refine az.makeI (m:=f.blocks.length) wz X8 U U U U U (by simp) (by simp) (by show (8:Int)*_≤_;omega) (by omega)<|fun i43=>z6<|ba 2 U<|az.makeMapS (c:=m0)<|fun b39=>zf (zb (zc .t1))<|zf (zb (zc .t1))<|zf (zb (zc .t2))<|zf (zb (zc .t6))<|zf (zb (zc .t6))<|zf (zb (zc .t6))<|zf (zb (zc .t6))<|z6<|yx (i:=7) U (by kernel_rfl) (by kernel_rfl) (by kernel_rfl) (by kernel_rfl) (yb U)<|ak 8 U (zn je U sizeOf73 (by decide) U U)<|ym<|yi (i:=9) U (by kernel_rfl) (by kernel_rfl)<|yw (l:=[_]) (new:=[_,_,_,_,_,_,_,_,_,_,_]) sizeOf73 U U U U U U .head U U<|z6<|yi (i:=10) U (by kernel_rfl) (by kernel_rfl)<|aw U<|z6<|yi (i:=11) U (by kernel_rfl) (by kernel_rfl)<|za (zn je U j8 (by decide) U U)<|z6<|yi (i:=12) U (by kernel_rfl) (by kernel_rfl)<|yw (l:=[_]) (new:=[_,_,_,_,_,_,_,_,_,_,_]) j8 U U U U U U .head U U<|z6<|yo (by kernel_rfl) ?_
   exact ⟨(b39,i43),(by repeat (first|with_reducible exact zp _ _|refine zz rfl ?_)),trivial,⟨_,(.refl _),by rw[hdm,hfp];rfl⟩,trivial⟩
 ·rintro ⟨bm,jd⟩ _
  rw[hfp]
  refine ae<|aE U<|zr U (zh (.l (.l (.l (.l (.l (.r (.r (.rest _))))))))) (hfir i36 js jl jm jp bm jd) ?_
  rintro r49 O49 ⟨j1,rfl,rfl,_⟩
  refine z6<|ae<|aE U<|zr U (zh (.l (.l (.l (.l (.l (.l (.l (.rest _))))))))) (hblk i36 js bm jd j1 jm jp) ?_
  rintro r51 O51 ⟨⟨j2,j3,j4,T⟩,rfl,rfl,hT⟩
  refine z6<|ae<|aE U<|za (gc U)<|ap U<|z6<|zi<|q7 (x:=.po _ _) (y:=.int _ _) U U ?_
  exact ⟨(i36,js,bm,jd,j2,j3,j4,T),rfl,⟨_,.refl _,by simp only[qw,Bool.false_or,hfp];rfl⟩,by simpa using hT⟩
end Go.Proofs.YtdilpodccjlkgaaGreatDoor
namespace Go.Proofs.YtdilpodccjlkgaaGreatDoor
open Go.Proofs.Tryz
open Go.Proofs Go.Lib Go.Shelf Go.RowKit
theorem Ck:cU prog 29 4 1 1 [.bool false]:=⟨_,jx,Zc,zeroValue4,by decide,by decide,by kernel_rfl⟩
variable {E:World}
set_option maxRecDepth 20000
theorem xG (l:List Bool) (b:Bool):cB l++[.bool b]=cB (l++[b]):=by unfold cB;rw[qv];rfl
def ip (f:ad) (i:Nat):List Bool:=((aU f.blocks.length).take i).flatMap (CD f)
theorem m5 {f:ad} {i:Nat} (h:i<f.blocks.length):ip f (i+1)=ip f i++CD f (i:Int):=by
 unfold ip
 rw[List.take_add_one,e9 h,List.flatMap_append]
 simp
theorem pL (f:ad):ip f f.blocks.length=Fb f:=by
 unfold ip Fb
 rw[List.take_of_length_le (by rw[bA];exact Nat.le_refl _)]
theorem pM {f:ad}:∀{l:List aF} {K:KS} {k:Nat} {x:aF},l[k]?=some x→pW f K (l.take (k+1))=pW f K (l.take k)++(if kC x=true then[kB f ((l.take k).foldl (dk f) K) x] else[])
 |y::l,K,0,x,h=>by
  cases h
  show pW f K [y]=[]++_
  unfold pW pW
  rw[qw];rfl
 |y::l,K,k+1,x,h=>by
  have ih:=pM (f:=f) (l:=l) (K:=dk f K y) (k:=k) (x:=x) h
  rw[List.take_succ_cons,List.take_succ_cons]
  show (if kC y=true then[kB f K y] else[])++pW f (dk f K y) (l.take (k+1))=((if kC y=true then[kB f K y] else[])++pW f (dk f K y) (l.take k))++_
  rw[ih,qm];rfl
theorem mv {f:ad} (hR:bE f):∀i:Nat,i≤f.blocks.length→(ip f i).length≤i*1024
 |0,_=>by unfold ip;simp
 |i+1,h=>by
  have ih:=mv hR i (by omega)
  have hb:=qk (show i<f.blocks.length by omega)
  have h1:=jE _ _ (qu hb)
  have h2:=hR.hS.2.2.2.2.1
  have h3:Fc (f.blocks[i]'(by omega)).insts≤(f.blocks[i]'(by omega)).insts.length:=List.length_filter_le _ _
  rw[m5 (by omega),qq,xu hb]
  omega
theorem uX (f:ad) (hf:small f) (hL:bB E) (hp:Ci f=false):aK prog E 9 [.agg (bD f)] (.tup [.fro 1 [],.int .i64 3]):=by
 have h1:=sR (E:=E) f hf hL hp
 unfold bD at *
 refine zq func9 U (by decide) U<|ae<|y9 (cs:=_) U U U<|bF U<|ap U<|z6<|ae<|ac ju jf U U<|ze (h1) U<|bR U<|za (yz (v:=.raw _) U U)<|bJ U U<|bF U<|ap U<|z6<|zd<|ae<|aa U<|aM U U<|z6<|yl U U<|ae<|aa U<|bF U<|ap U<|z6<|y3 (aX.slot (t:=2) U (AY 1))<|zi<|q7 (x:=.fro _ _) (y:=.int _ _) U U ?_
 rfl
set_option maxHeartbeats 4000000 in
theorem mw (f:ad) (hA:GL f E) (hp:Ci f=true):aK prog E 9 [.agg (bD f)] (.tup [.fro 1 ((Fb f).map nF),.int .i64 0]):=by
 have h1:=qK (E:=E) f hA hp
 have hR:=hA.hR
 have hf3:=hA.hf.2.2.1
 have hnb:=hR.nblk
 have hG:=hR.hE.grph
 unfold CF at h1
 unfold bD at *
 refine zq func9 U (by decide) U<|ae<|y9 (cs:=_) U U U<|bF U<|ap U<|z6<|ae<|ac ju jf U U<|zr U (zh (.rest _)) (h1) ?_
 rintro r13 O13 ⟨⟨iw,js,bm,jd,jl,jm,jp,T⟩,rfl,rfl,hT⟩
 refine bR U<|za (yz (v:=.po _ _) U U)<|bJ U U<|za (gc U)<|ap U<|z6<|zd<|ae<|aa U<|aM U U<|z6<|yg U U<|zg<|ae<|bF U<|z6<|fo (t:=6) (k:=1) (T:=4) U<|fun i6=>zd<|ae<|ao jg U Z6 U U<|aI Zd U<|ar jk U<|aa U<|z6<|zj<|y8 (γ:=Nat × Nat) [4,20,21] (fun g=>[(22,.int .i64 g.1),(6,.own g.2 (ip f g.1).length)]) (fun g=>[(g.2,.grow 1 4 (cB (ip f g.1))),(iw,.cells 75 (lm f (gN f) (sO f) js jp (cT f).p.length (dw bm) (.own jd f.blocks.length))),(js,.cells 136 [.int .i64 ((f.vars.length+1:Nat):Int),.own jl (cT f).l.length,.own jm ([]:List Int).length]),(jl,.grow 3 180 ((cT f).l.map bf).flatten),(jm,.grow 1 3 (cI ([]:List Int))),(jp,.grow 2 187 ((cT f).p.map cD).flatten),(0,jU m0 bm T),(jd,.grow 1 3 (cI (fx f fun j=>er (ah f) f.blocks.length 0 j)))]) (fun g=>g.1≤f.blocks.length) (fun g=>f.blocks.length - g.1) (0,i6) cV aD (qn _) ?_
 rintro ⟨i,io⟩ hi
 try dsimp only at *
 have hpl:=mv hR i hi
 refine ae<|ax U U<|z6<|zd<|zu U (fun ci=>?_) (fun ci=>?_)
 ·have hi2:i<f.blocks.length:=by simp at ci;omega
  have hb:=qk hi2
  obtain ⟨b,hbe⟩:∃b,f.blocks[i]=b:=⟨_,rfl⟩
  rw[hbe] at hb
  have hbg:=fw hb
  have hbm:=qu hb
  have hsm:=jE _ _ hbm
  have hsh:=hR.hS.2.2.2.2.1
  have hdom:er (ah f) f.blocks.length 0 (i:Int)=true:=(hG.domB_iff _ _).2 (.root (hR.hs.2.1 i hi2))
  refine zg<|zd<|zj<|ae<|aa U<|za (bh i jk Z0 U U U hb)<|ac Yk Z0 U U<|y6 (cs:=[.str ⟨#[]⟩,.raw (.slice none 0 0),.raw (.slice none 0 0),.int .i64 0,.int .i64 0,.int .i64 0,.int .i64 0]) Zn U U<|fun i8=>ap U<|y1 Z0 U U U U U U .head U<|zf (yf (t:=8) U .head)<|z6<|ae<|ao jj U Zo U U<|aI Zx U<|ar jz U<|aa U<|z6 ?_
  have hz:ip f i++pW f (gX f i) (b.insts.take 0)=ip f i:=by rw[List.take_zero];unfold pW;rw[qw]
  refine zj<|y8 (γ:=Nat × Nat) [4,7,20,21,22,28,29] (fun g=>[(30,.int .i64 g.1),(6,.own g.2 (ip f i++pW f (gX f i) (b.insts.take g.1)).length)]) (fun g=>[(g.2,.grow 1 4 (cB (ip f i++pW f (gX f i) (b.insts.take g.1)))),(iw,.cells 75 (lm f (gN f) (sO f) js jp (cT f).p.length (dw bm) (.own jd f.blocks.length))),(js,.cells 136 [.int .i64 ((f.vars.length+1:Nat):Int),.own jl (cT f).l.length,.own jm ([]:List Int).length]),(jl,.grow 3 180 ((cT f).l.map bf).flatten),(jm,.grow 1 3 (cI ([]:List Int))),(jp,.grow 2 187 ((cT f).p.map cD).flatten),(0,jU m0 bm T),(jd,.grow 1 3 (cI (fx f fun j=>er (ah f) f.blocks.length 0 j)))]) (fun g=>g.1≤b.insts.length) (fun g=>b.insts.length - g.1) (0,io) ⟨U,by rw[hz];rfl,trivial⟩ ⟨_,(.refl _),by rw[hz]⟩ (qn _) ?_
  rintro ⟨k,ko⟩ hk
  try dsimp only at *
  have hwl:(pW f (gX f i) (b.insts.take k)).length≤k:=by
   rw[nU]
   exact Nat.le_trans (List.length_filter_le _ _) (by rw[List.length_take];omega)
  refine ae<|ax U U<|z6<|zd<|zu U (fun ck=>?_) (fun ck=>?_)
  ·have hk2:k<b.insts.length:=by simp at ck;omega
   obtain ⟨x,hx⟩:∃x,b.insts[k]?=some x:=⟨_,qk hk2⟩
   have hkat:FA f (i:Int) k=(b.insts.take k).foldl (dk f) (gX f i):=by unfold FA gX;rw[hbg]
   have hstep:=pM (f:=f) (K:=gX f i) hx
   refine zg<|zd<|zj<|ae<|aa U<|za (bh k jz jv U U U hx)<|ac Zk jv U U<|y6 (cs:=[.int .i64 0,.int .i64 0,.raw (.slice none 0 0),.int .i64 0]) Z4 U U<|fun i10=>ap U<|y1 jv U U U U U U .head U<|zf (yf (t:=10) U .head)<|z6<|ae<|ao j5 U jy U U<|ay Z2 U<|ze (pJ x.op) U<|z6<|zy U (fun c=>?_) (fun c=>?_)
   ·have c:18≤x.op∧x.op≤24:=by simpa using c
    have hck:kC x=true:=qx c
    rw[if_pos hck] at hstep
    have hval:decide ((be T ((i:Int),(k:Int))).getD 0=1)=kB f ((b.insts.take k).foldl (dk f) (gX f i)) x:=by
     rw[hT ((i:Int),(k:Int)),uH hb hx,hck,hkat]
     simp only[hdom,Bool.true_and]
     cases kB f ((b.insts.take k).foldl (dk f) (gX f i)) x<;>rfl
    refine aO<|bz U<|aE U<|aw U<|za (zn je U sizeOf73 (by decide) U U)<|za (zt (c:=dw _) isAgg73 U ⟨_,.t1⟩ U)<|aa U<|aa U<|za (y5 (cps:=[(0,[_]),(1,[_])]) (rs:=[_,_]) BB U U U)<|za (Gv.lookup1SK (k:=((i:Int),(k:Int))) B4 underlying73 Zs U U ⟨_,.t6⟩)<|ai U U<|y4 (rows:=[[_]]) Ck U U U U U<|yj (k:=1) jx type4 U U U U U (fun _=>.head) (by rw[aW,Nat.mul_one]) (by decide) U (by show (_+_)*1≤_;simp<;>omega) (by simp<;>omega)<|fun i49=>za (gZ U)<|z6<|aO<|aC U U<|aa U<|z6 ?_
    exact ⟨(k+1,i49),lf,⟨rfl,congrArg (AV.own _) (by rw[hstep];simp only[qq,List.length_cons,List.length_nil];omega),trivial⟩,⟨_,(.refl _),by dsimp only;rw[hstep,←qm,←hval];exact congrArg (·::_) (congrArg (fun l=>(_,bS.grow 1 _ l)) (xG _ _))⟩,hk2,by dsimp only;omega⟩
   ·have c:¬(18≤x.op∧x.op≤24):=by simp at c;omega
    rw[if_neg (by unfold kC;simpa using c),qw] at hstep
    refine zg<|aO<|aC U U<|aa U<|z6 ?_
    exact ⟨(k+1,ko),lf,⟨rfl,congrArg (AV.own _) (by rw[hstep]),trivial⟩,⟨_,(.refl _),by dsimp only;rw[hstep]⟩,hk2,by dsimp only;omega⟩
  ·obtain rfl:k=b.insts.length:=by simp at ck;omega
   have hpb:ip f i++pW f (gX f i) (b.insts.take b.insts.length)=ip f (i+1):=by rw[m5 hi2,qp];unfold CD;rw[hbg]
   refine y7<|aO<|aC U U<|aa U<|z6 ?_
   exact ⟨(i+1,ko),de,⟨rfl,congrArg (AV.own _) (by rw[hpb]),trivial⟩,⟨_,(.refl _),by dsimp only;rw[hpb]⟩,hi2,by dsimp only;omega⟩
 ·obtain rfl:i=f.blocks.length:=by simp at ci;omega
  rw[pL]
  refine y7<|ae<|bz U<|za (gZ U)<|ap U<|z6<|y3 (aX.knowB (t:=2) U .head (by simp))<|zi<|q7 (x:=.fro _ _) (y:=.int _ _) U U ?_
  rfl
def xH (f:ad):List Int:=(aU f.blocks.length).map (iK f)
end Go.Proofs.YtdilpodccjlkgaaGreatDoor
namespace Go.Proofs.YtdilpodccjlkgaaGreatDoor
open Go.Proofs.Tryz
open Go.Proofs Go.Lib Go.Shelf Go.RowKit
variable {E:World}
set_option maxRecDepth 20000
def vh (r:List (Option Int)):List Int:=r.map fun o=>o.getD 0
def vj (r:List (Option Int)):List Bool:=r.map fun o=>o.isSome
theorem nY (r:List (Option Int)):(vh r).length=r.length:=qr ..
theorem nZ (r:List (Option Int)):(vj r).length=r.length:=qr ..
theorem DO {n:Nat} {b:Int} (hb:gj n b):vh (ga n b)=List.replicate n 0:=by
 unfold vh ga
 rw[List.map_set,List.map_replicate]
 refine List.ext_getElem? fun j=>?_
 rw[List.getElem?_set]
 split
 ·rename_i e
  subst e
  unfold gj at hb
  rw[List.length_replicate,if_pos (by omega),List.getElem?_replicate,if_pos (by omega)];rfl
 ·rfl
theorem DP {n:Nat} {b:Int}:vj (ga n b)=(List.replicate n false).set b.toNat true:=by
 unfold vj ga
 rw[List.map_set,List.map_replicate];rfl
theorem sS {r:List (Option Int)} {v:Int} {n:Nat} (hr:r.length=n) (hv:gj n v):(vh r)[v.toNat]?=some ((jn r v).getD 0):=by unfold vh;rw[qs,oq hr hv];rfl
theorem ww {r:List (Option Int)} {v:Int} {n:Nat} (hr:r.length=n) (hv:gj n v):(vj r)[v.toNat]?=some (jn r v).isSome:=by unfold vj;rw[qs,oq hr hv];rfl
theorem DQ (n:Nat):vh (List.replicate n none)=List.replicate n 0:=by unfold vh;rw[List.map_replicate];rfl
theorem DR (n:Nat):vj (List.replicate n none)=List.replicate n false:=by unfold vj;rw[List.map_replicate];rfl
theorem DS (r:List (Option Int)) (i:Nat) (m:Int):(vh r).set i m=vh (r.set i (some m)):=by unfold vh;rw[List.map_set];rfl
theorem DT (r:List (Option Int)) (i:Nat) (m:Int):(vj r).set i true=vj (r.set i (some m)):=by unfold vj;rw[List.map_set];rfl
def nM (l:List eu) (n:Nat) (r:List (Option Int)) (g:Nat):List (Option Int):=(l.take g).foldl (gA r) (List.replicate n none)
theorem xI (l:List eu) (n:Nat) (r:List (Option Int)) (g:Nat):(nM l n r g).length=n:=by unfold nM;rw[kL];simp
theorem pN {l:List eu} {n:Nat} {r:List (Option Int)} {g:Nat} {q:eu} (h:l[g]?=some q):nM l n r (g+1)=gA r (nM l n r g) q:=by unfold nM;rw[List.take_add_one,h,List.foldl_append];rfl
theorem xJ (l:List eu) (n:Nat) (r:List (Option Int)):nM l n r l.length=sB l n r:=by unfold nM sB;rw[qp]
theorem rJ {k:Nat} {r:List (Option Int)} {l:List eu} {n:Nat} (h:lS k r) (hl:∀q∈l,-bo≤q.c∧q.c≤bo):lS (k+1) (sB l n r):=
 lS.fold h l _ (fun v m hm=>by
  unfold jn at hm
  rw[List.getElem?_replicate] at hm
  split at hm<;>cases hm) hl
theorem Cl {now next:List (Option Int)} {q:eu} (h:jn now q.b=none):gA now next q=next:=by unfold gA;rw[h]
theorem xK {now next:List (Option Int)} {q:eu} {u:Bool} (h0:(jn now q.b).isSome=true) (h:u=(!(jn next q.a).isSome||decide ((jn now q.b).getD 0+q.c<(jn next q.a).getD 0))):u=kb now next q:=r3 (by rw[h0,Bool.true_and];exact h)
theorem Cm {l:List eu} {n:Nat} {a:Int} {k:Nat} {q:Option Int × List (Option Int)} (h:k<6):zR l n a (6 - k) q=zR l n a (6 - (k+1)) (zQ q.1 (jn (sB l n q.2) a),sB l n q.2):=by
 obtain ⟨m,hm⟩:∃m,6 - k=m+1:=⟨5 - k,by omega⟩
 rw[hm,show 6 - (k+1)=m by omega];rfl
theorem Fe {o p:Option Int} {s:Int} (hp:p=some s) (h:(!o.isSome||decide (s<o.getD 0))=true):zQ o p=some s:=by
 subst hp
 unfold zQ
 cases o with
 |none=>rfl
 |some m=>simp only[Option.isSome_some,Bool.not_true,Bool.false_or,Option.getD_some,w6] at h;dsimp only;rw[if_pos h]
theorem Gx {o p:Option Int} (h:(p.isSome&&(!o.isSome||decide (p.getD 0<o.getD 0)))=false):zQ o p=o:=by
 unfold zQ
 cases p with
 |none=>rfl
 |some s=>
  cases o with
  |none=>cases h
  |some m=>simp only[Option.isSome_some,Bool.true_and,Bool.not_true,Bool.false_or,Option.getD_some,decide_eq_false_iff_not] at h;dsimp only;rw[if_neg h]
theorem Ff {n:Nat} {b:Int} (hb:gj n b):AV.fro 1 ((List.replicate n (0:Int)).map fun x=>[AV.int .i64 x])=.fro 1 ((vh (ga n b)).map fun x=>[AV.int .i64 x]):=by rw[DO hb]
theorem Fg (n:Nat) (b:Int):AV.fro 1 (((List.replicate n false).set b.toNat true).map fun x=>[AV.bool x])=.fro 1 ((vj (ga n b)).map fun x=>[AV.bool x]):=by rw[DP]
theorem Gy (a b:Int):AV.int .i64 0=.int .i64 ((if a=b then some 0 else none:Option Int).getD 0):=by
 by_cases h:a=b
 ·rw[if_pos h];rfl
 ·rw[if_neg h];rfl
theorem Gz (a b:Int):AV.bool (decide (a=b))=.bool (if a=b then some 0 else none:Option Int).isSome:=by
 by_cases h:a=b
 ·rw[if_pos h,qx h];rfl
 ·rw[if_neg h,qy h];rfl
theorem sT (n:Nat) (l:List eu) (hl:mH n l) {a b:Int} (ha:gj n a) (hb:gj n b):aK prog E 86 [.fro 3 (l.map bf),.int .i64 n,.int .i64 a,.int .i64 b] (.tup [.int .i64 ((BN l n a b).getD 0),.bool (BN l n a b).isSome]):=by
 have hn:=hl.le
 have ha2:=ha
 have hb2:=hb
 unfold gj at ha2 hb2
 have hll:=hl.len
 refine zq func86 U (by decide) U<|ae<|ap U<|ab U<|z6<|ae<|aa U<|aa U<|ai U U<|ap U<|ab U<|z6<|zd<|ya (γ:=Nat × Nat) [0,1,2,3] (fun g=>[(12,.own g.1 n),(13,.own g.2 n),(10,.int .i64 0),(11,.bool (decide (a=b)))]) (fun g=>[(g.1,.grow 1 2 (cI (List.replicate n 0))),(g.2,.grow 1 4 (cB (List.replicate n false)))]) (fun g=>True) ?_ (fun _ _ h=>h) ?_
 ·refine zw (fun j=>false) (by kernel_rfl) U (zh (.rest _))<|ak 0 U (dq U)<|ak 2 U (dq U)<|yq (i:=1) (j:=3) U U (by kernel_rfl) ?_ ?_
  ·refine az.makeI (m:=n) Yl type2 U U U U U (by simp) (by simp) (by show (8:Int)*_≤_;omega) (by omega)<|fun i23=>z6<|ak 4 U (gZ U)<|ba 3 U<|az.makeB (m:=n) jx type4 U U U U U (by simp) (by simp) (by show (1:Int)*_≤_;omega) (by omega)<|fun i25=>zf (zb (zc .head))<|zf (zb (zc .t1))<|z6<|ak 5 U (gZ U)<|bY ?_
   exact ⟨(i23,i25),(by repeat (first|with_reducible exact zp _ _|refine zz rfl ?_|exact fl)),fl,aD,trivial⟩
  ·refine az.makeB (m:=n) jx type4 U U U U U (by simp) (by simp) (by show (1:Int)*_≤_;omega) (by omega)<|fun i25=>z6<|ba 1 U<|az.makeI (m:=n) Yl type2 U U U U U (by simp) (by simp) (by show (8:Int)*_≤_;omega) (by omega)<|fun i23=>z6<|ak 4 U (gZ U)<|ak 5 U (gZ U)<|bY ?_
   exact ⟨(i23,i25),(by repeat (first|with_reducible exact zp _ _|refine zz rfl ?_|exact fl)),fl,aD,trivial⟩
 ·rintro ⟨i12,i13⟩ _
  refine ae<|bz U<|aa U<|za (yp (j:=b.toNat) jx Zc U U (by omega) ⟨_,.t1⟩ (by rw[aW];simp) (by omega))<|qg (j:=b.toNat) Zc U U .t1 (by simp;omega)<|z6<|y3 (aX.knowI (t:=12) U .head (by simp))<|y3 (aX.knowB (t:=13) U .head (by simp))<|zd<|ae<|aa U<|z6<|zj<|y8 (γ:=Nat × List (Option Int) × Option Int) [0,1,2] (fun g=>[(29,.int .i64 g.1),(12,.fro 1 ((vh g.2.1).map fun x=>[AV.int .i64 x])),(13,.fro 1 ((vj g.2.1).map fun x=>[AV.bool x])),(10,.int .i64 (g.2.2.getD 0)),(11,.bool g.2.2.isSome)]) (fun g=>[]) (fun g=>(g.1≤6∧g.2.1.length=n)∧lS g.1 g.2.1∧(zR l n a (6 - g.1) (g.2.2,g.2.1)).1=BN l n a b) (fun g=>6 - g.1) (0,ga n b,if a=b then some 0 else none) ⟨U,Ff hb,Fg n b,Gy a b,Gz a b,trivial⟩ aD (⟨⟨qn _,ka⟩,lS.beg n b,U⟩) ?_
  rintro ⟨k,r,o⟩ ⟨⟨hk,hrl⟩,hsr,hdoc⟩
  try dsimp only at *
  refine ae<|ax U U<|z6<|zd<|zu U (fun ck=>?_) (fun ck=>?_)
  ·have hk2:k<6:=by omega
   refine zg<|zd<|zj<|zd<|ya (γ:=Nat × Nat) [0,1,2,10,11,12,13,29] (fun g=>[(14,.own g.1 n),(15,.own g.2 n)]) (fun g=>[(g.1,.grow 1 2 (cI (List.replicate n 0))),(g.2,.grow 1 4 (cB (List.replicate n false)))]) (fun g=>True) ?_ (fun _ _ h=>h) ?_
   ·refine zw (fun j=>false) (by kernel_rfl) U (zh (.rest _))<|ak 0 U (dq U)<|ak 2 U (dq U)<|yq (i:=1) (j:=3) U U (by kernel_rfl) ?_ ?_
    ·refine az.makeI (m:=n) Yl type2 U U U U U (by simp) (by simp) (by show (8:Int)*_≤_;omega) (by omega)<|fun i32=>z6<|ak 4 U (gZ U)<|ba 3 U<|az.makeB (m:=n) jx type4 U U U U U (by simp) (by simp) (by show (1:Int)*_≤_;omega) (by omega)<|fun i34=>zf (zb (zc .head))<|zf (zb (zc .t1))<|z6<|ak 5 U (gZ U)<|bY ?_
     exact ⟨(i32,i34),(by repeat (first|with_reducible exact zp _ _|refine zz rfl ?_|exact pS)),cV,aD,trivial⟩
    ·refine az.makeB (m:=n) jx type4 U U U U U (by simp) (by simp) (by show (1:Int)*_≤_;omega) (by omega)<|fun i34=>z6<|ba 1 U<|az.makeI (m:=n) Yl type2 U U U U U (by simp) (by simp) (by show (8:Int)*_≤_;omega) (by omega)<|fun i32=>z6<|ak 4 U (gZ U)<|ak 5 U (gZ U)<|bY ?_
     exact ⟨(i32,i34),(by repeat (first|with_reducible exact zp _ _|refine zz rfl ?_|exact pS)),cV,aD,trivial⟩
   ·rintro ⟨i14,i15⟩ _
    refine zd<|ae<|aT U<|ar underlying107 U<|aa U<|z6<|zj<|y8 (γ:=Nat) [0,1,2,10,11,12,13,14,15,29,35,36] (fun m=>[(37,.int .i64 m)]) (fun m=>[(i14,.grow 1 2 (cI (vh (nM l n r m)))),(i15,.grow 1 4 (cB (vj (nM l n r m))))]) (fun m=>m≤l.length) (fun m=>l.length - m) 0 aH ⟨_,(.refl _),by rw[show nM l n r 0=List.replicate n none from rfl,DQ,DR]⟩ (qn _) ?_
    rintro m hm
    refine ae<|ax U U<|z6<|zd<|zu U (fun cm=>?_) (fun cm=>?_)
    ·have hm2:m<l.length:=by omega
     obtain ⟨q,hq⟩:∃q,l[m]=q:=⟨_,rfl⟩
     have hgq:l[m]?=some q:=by rw[qk hm2,hq]
     have hqm:q∈l:=qu hgq
     obtain ⟨⟨hqa,hqb⟩,hqc⟩:=hl.fac q hqm
     have hqa2:=hqa
     have hqb2:=hqb
     unfold gj at hqa2 hqb2
     have hel:=xI l n r m
     have hsl:(vh (nM l n r m)).length=n:=by rw[nY,hel]
     have htl:(vj (nM l n r m)).length=n:=by rw[nZ,hel]
     have hs0:-5764607523034234880≤(jn r q.b).getD 0∧(jn r q.b).getD 0≤5764607523034234880:=tA (by omega) hsr _
     unfold bo at hqc
     refine zg<|zd<|zj<|ae<|za (bh m underlying107 sizeOf145 U U U hgq)<|ac isAgg145 sizeOf145 U U<|y6 (cs:=[.int .i64 0,.int .i64 0,.int .i64 0]) zeroValue145 U U<|fun i17=>y1 sizeOf145 U U U U U U .head U<|z6<|y3 (yf (t:=17) U .head)<|zd<|ae<|aT U<|ao Yp U j6 U U<|ay j7 U<|za (bh q.b.toNat jx Zc U U (by omega) (ww hrl hqb))<|za (yn (c:=.bool _) Y7 U)<|aB U<|z6<|zy U (fun ct=>?_) (fun ct=>?_)
     ·have hno:nM l n r (m+1)=nM l n r m:=by
       rw[pN hgq]
       exact Cl (by cases h:jn r q.b with|none=>rfl|some s=>rw[h] at ct;cases ct)
      refine y7<|aO<|aC U U<|aa U<|z6 ?_
      exact ⟨m+1,iP,aH,⟨_,(.refl _),by rw[hno]⟩,hm2,by omega⟩
     ·have hth:(jn r q.b).isSome=true:=by simpa using ct
      refine zg<|zd<|zw (fun j=>false) (by kernel_rfl) U (zh (.rest _))<|ak 0 U (CN U)<|ak 1 U (bx Yp U j6 U U)<|ak 2 U (b7 j7 U)<|ak 3 U (bh q.b.toNat Yl Za U U (by omega) (sS hrl hqb))<|ak 4 U (b7 Zj U)<|ak 5 U (bx Yp U Za U U)<|ak 6 U (b7 Zj U)<|ak 7 U (CA U U)<|ak 8 U (mA U)<|bY<|zd<|ya (γ:=Bool) [0,1,2,10,11,12,13,14,15,17,18,29,35,36,37] (fun u=>[(69,.bool u)]) (fun u=>[(i14,.grow 1 2 (cI (vh (nM l n r m)))),(i15,.grow 1 4 (cB (vj (nM l n r m))))]) (fun u=>u=kb r (nM l n r m) q) ?_ (fun _ _ h=>h) ?_
      ·refine aO<|bz U<|ao Yp U j6 U U<|ay j7 U<|za (yp (j:=q.a.toNat) jx Zc U U (by omega) ⟨_,.t1⟩ (by rw[aW,nZ,hel]) (by omega))<|za (Gv.loadB (j:=q.a.toNat) Y7 U ⟨_,.t1⟩ (ww hel hqa))<|aB U<|aj U<|zo (s:=61) U (fun c1=>?_) (fun c1=>?_)
       ·refine z7 U U c1<|z7 U U c1<|z7 U U c1<|z7 U U c1<|z7 U U c1<|z7 U U c1<|z7 U U c1<|aq U c1 U<|z6 ?_
        exact ⟨_,(by repeat (first|with_reducible exact zp _ _|refine zz rfl ?_|exact ⟨rfl,rfl,rfl,rfl,rfl,rfl,rfl,rfl,rfl,rfl,rfl,rfl,rfl,rfl,rfl,trivial⟩)),aH,aD,xK hth (by simp_all)⟩
       ·refine z8 U U c1<|aa U<|z8 U U c1<|bz U<|z8 U U c1<|ao Yp U j6 U U<|z8 U U c1<|ay j7 U<|z8 U U c1<|za (yp (j:=q.a.toNat) Yl Za U U (by omega) ⟨_,.head⟩ (by rw[aQ,nY,hel]) (by omega))<|z8 U U c1<|za (q3 (j:=q.a.toNat) Zj U ⟨_,.head⟩ (sS hel hqa))<|z8 U U c1<|ax U U<|au U c1 U<|z6 ?_
        exact ⟨_,(by repeat (first|with_reducible exact zp _ _|refine zz rfl ?_|exact ⟨rfl,rfl,rfl,rfl,rfl,rfl,rfl,rfl,rfl,rfl,rfl,rfl,rfl,rfl,rfl,trivial⟩)),aH,aD,xK hth (by simp_all)⟩
      ·rintro u hu
       refine zy U (fun cu=>?_) (fun cu=>?_)
       ·have hch:kb r (nM l n r m) q=true:=by rw[←hu];exact cu
        obtain ⟨s0,hs0e⟩:=tB hch
        have hnx:nM l n r (m+1)=(nM l n r m).set q.a.toNat (some ((jn r q.b).getD 0+q.c)):=by
         rw[pN hgq,wG hs0e hch,hs0e];rfl
        refine ya (γ:=Nat) [0,1,2,10,11,12,13,14,15,29,35,36,37] (fun z=>[]) (fun z=>[(i14,.grow 1 2 (cI (vh (nM l n r (m+1))))),(i15,.grow 1 4 (cB (vj (nM l n r (m+1)))))]) (fun z=>True) ?_ (fun _ _ h=>h) ?_
        ·refine zw (fun j=>Nat.beq j 8||Nat.beq j 10) (by kernel_rfl) U (zh (.rest _))<|ak 0 U (FE U)<|ak 1 U (bx Yp U j6 U U)<|ak 2 U (b7 j7 U)<|yx (i:=3) U (by kernel_rfl) (by kernel_rfl) (by kernel_rfl) (by kernel_rfl) (FE U)<|yx (i:=4) U (by kernel_rfl) (by kernel_rfl) (by kernel_rfl) (by kernel_rfl) (bx Yp U j6 U U)<|yx (i:=5) U (by kernel_rfl) (by kernel_rfl) (by kernel_rfl) (by kernel_rfl) (b7 j7 U)<|ak 6 U (dq U)<|ba 7 U<|za (yp (j:=q.a.toNat) Yl Za U U (by omega) ⟨_,.head⟩ (by rw[aQ,nY,hel]) (by omega))<|z6<|ym<|yi (i:=8) U (by kernel_rfl) (by kernel_rfl)<|q6 (j:=q.a.toNat) Za U U .head (by first|omega|(simp;omega))<|z6<|yi (i:=9) U (by kernel_rfl) (by kernel_rfl)<|za (yp (j:=q.a.toNat) jx Zc U U (by omega) ⟨_,.t1⟩ (by rw[aW,nZ,hel]) (by omega))<|z6<|yi (i:=10) U (by kernel_rfl) (by kernel_rfl)<|qg (j:=q.a.toNat) Zc U U .t1 (by first|omega|(simp;omega))<|z6<|yo (by kernel_rfl) ?_
         exact ⟨0,(by repeat (first|with_reducible exact zp _ _|refine zz rfl ?_|exact ⟨rfl,rfl,rfl,rfl,rfl,rfl,rfl,rfl,rfl,rfl,rfl,rfl,rfl,trivial⟩)),trivial,⟨_,(.refl _),by rw[hnx,←DS,←DT]⟩,trivial⟩
        ·rintro _ _
         refine aO<|aC U U<|aa U<|z6 ?_
         exact ⟨m+1,iP,aH,aD,hm2,by omega⟩
       ·have hch:kb r (nM l n r m) q=false:=by rw[←hu];simpa using cu
        have hnx:nM l n r (m+1)=nM l n r m:=by rw[pN hgq,rQ hch]
        refine zg<|aO<|aC U U<|aa U<|z6 ?_
        exact ⟨m+1,iP,aH,⟨_,(.refl _),by rw[hnx]⟩,hm2,by omega⟩
    ·obtain rfl:m=l.length:=by omega
     have hxl:(sB l n r).length=n:=by rw[←xJ,xI]
     rw[xJ]
     refine y3 (aX.knowI (t:=14) U .head (by rw[nY,hxl]))<|y3 (aX.knowB (t:=15) U .head (by rw[nZ,hxl]))<|y7<|ae<|aT U<|aT U<|za (kO U)<|za (kO U)<|z6<|zd<|ya (γ:=Bool) [0,1,2,10,11,12,13,29] (fun u=>[(97,.bool u)]) (fun u=>[]) (fun u=>u=((jn (sB l n r) a).isSome&&(!o.isSome||decide ((jn (sB l n r) a).getD 0<o.getD 0)))) ?_ (fun _ _ h=>h) ?_
     ·refine aO<|aT U<|aa U<|za (bh a.toNat jx Zc U U (by omega) (ww hxl ha))<|za (yn (c:=.bool _) Y7 U)<|aj U<|zo (s:=86) U (fun c2=>?_) (fun c2=>?_)
      ·refine z8 U U c2<|aj U<|z8 U U c2<|aB U<|z8 U U c2<|aj U<|zo (s:=89) U (fun c3=>?_) (fun c3=>?_)
       ·refine z7 U U c3<|z7 U U c3<|z7 U U c3<|z7 U U c3<|z7 U U c3<|z7 U U c3<|z8 U U c2<|aq U c3 U<|aq U c2 U<|z6 ?_
        exact ⟨_,(by repeat (first|with_reducible exact zp _ _|refine zz rfl ?_|exact pS)),aH,aD,by simp_all⟩
       ·refine z8 U U c3<|aT U<|z8 U U c3<|aa U<|z8 U U c3<|za (bh a.toNat Yl Za U U (by omega) (sS hxl ha))<|z8 U U c3<|ay Zj U<|z8 U U c3<|aa U<|z8 U U c3<|ax U U<|z8 U U c2<|au U c3 U<|aq U c2 U<|z6 ?_
        exact ⟨_,(by repeat (first|with_reducible exact zp _ _|refine zz rfl ?_|exact pS)),aH,aD,by simp_all⟩
      ·refine z7 U U c2<|z7 U U c2<|z7 U U c2<|zk U U<|zk U U<|zk U U<|zk U U<|zk U U<|zk U U<|z7 U U c2<|au U c2 U<|z6 ?_
       exact ⟨_,(by repeat (first|with_reducible exact zp _ _|refine zz rfl ?_|exact pS)),aH,aD,by simp_all⟩
     ·rintro u hu
      rw[Cm hk2] at hdoc
      dsimp only at hdoc
      refine zy U (fun cu=>?_) (fun cu=>?_)
      ·refine aO<|aT U<|aa U<|za (bh a.toNat Yl Za U U (by omega) (sS hxl ha))<|ay Zj U<|ap U<|ab U<|z6 ?_
       have hmn:zQ o (jn (sB l n r) a)=some ((jn (sB l n r) a).getD 0):=by
        rw[hu] at cu
        simp only[qz] at cu
        obtain ⟨s,hs⟩:=Option.isSome_iff_exists.1 cu.1
        rw[hs] at cu ⊢
        exact Fe rfl cu.2
       rw[hmn] at hdoc
       refine aO<|aC U U<|aa U<|z6 ?_
       exact ⟨(k+1,sB l n r,some ((jn (sB l n r) a).getD 0)),de,iO,aD,⟨⟨by omega,hxl⟩,rJ hsr (fun q hq=>(hl.fac q hq).2),hdoc⟩,by dsimp only;omega⟩
      ·have hmn:zQ o (jn (sB l n r) a)=o:=Gx (by rw[←hu];simpa using cu)
       rw[hmn] at hdoc
       refine zg<|aO<|aC U U<|aa U<|z6 ?_
       exact ⟨(k+1,sB l n r,o),de,iO,aD,⟨⟨by omega,hxl⟩,rJ hsr (fun q hq=>(hl.fac q hq).2),hdoc⟩,by dsimp only;omega⟩
  ·obtain rfl:k=6:=by omega
   have hfin:o=BN l n a b:=hdoc
   rw[←hfin]
   refine y7<|ae<|aa U<|aj U<|ap U<|ab U<|z6<|zi<|q7 (x:=.int _ _) (y:=.bool _) U U ?_
   rfl
end Go.Proofs.YtdilpodccjlkgaaGreatDoor
namespace Go.Proofs.YtdilpodccjlkgaaGreatDoor
open Go.Proofs.Tryz
open Go.Proofs Go.Lib Go.Shelf Go.RowKit
variable {E:World}
set_option maxRecDepth 20000
end Go.Proofs.YtdilpodccjlkgaaGreatDoor
namespace Go.Proofs.YtdilpodccjlkgaaGreatDoor
open Go.Proofs.Tryz
open Go.Proofs Go.Lib Go.Shelf Go.RowKit
variable {E:World}
set_option maxRecDepth 20000
theorem wx (x:aF) (op:Int) (args:List Int) (hx:x.args.length≤100000) (ha:args.length≤100000):aK prog E 84 [.agg (aP x),.int .i64 op,.fro 1 (args.map cW)] (.bool (decide (x.op=op)&&decide (x.args=args))):=by
 refine zq func84 U (by decide) U<|ae<|y9 (cs:=_) U U U<|ab U<|z6<|zd<|zd<|ya (γ:=Bool) [2,3] (fun u=>[(19,.bool u)]) (fun u=>[]) (fun u=>u=!(decide (x.op=op)&&decide (x.args.length=args.length))) ?_ (fun _ _ h=>h) ?_
 ·refine aO<|ao j5 U jy U U<|ay Z2 U<|aa U<|aM U U<|aj U<|zo (s:=12) U (fun c1=>?_) (fun c1=>?_)
  ·refine z7 U U c1<|z7 U U c1<|z7 U U c1<|z7 U U c1<|z7 U U c1<|z7 U U c1<|aq U c1 U<|z6 ?_
   exact ⟨_,cV,aH,aD,by simp_all<;>omega⟩
  ·refine z8 U U c1<|ao j5 U j8 U U<|z8 U U c1<|aI j9 U<|z8 U U c1<|ar wz U<|z8 U U c1<|aT U<|z8 U U c1<|ar wz U<|z8 U U c1<|aM U U<|au U c1 U<|z6 ?_
   exact ⟨_,cV,aH,aD,by simp_all<;>omega⟩
 ·rintro u hu
  subst hu
  refine zy U (fun c0=>?_) (fun c0=>?_)
  ·have h0:(decide (x.op=op)&&decide (x.args.length=args.length))=false:=by rwa [Bool.not_eq_true'] at c0
   refine ae<|ab U<|z6<|zi<|zm (x:=.bool _) U ?_
   exact jb (by
    rcases Bool.and_eq_false_iff.1 h0 with h|h
    ·rw[h];rfl
    ·rw[qy (p:=x.args=args) (fun e=>absurd (congrArg List.length e) (w5 h)),Bool.and_false])
  ·have h0:(decide (x.op=op)&&decide (x.args.length=args.length))=true:=by simpa using c0
   have h1:x.op=op:=by rw[qz,w6,w6] at h0;exact h0.1
   have h2:x.args.length=args.length:=by rw[qz,w6,w6] at h0;exact h0.2
   refine zg<|zd<|ae<|aT U<|ar wz U<|aa U<|z6<|zj<|y8 (γ:=Nat) [2,3,21] (fun k=>[(22,.int .i64 k)]) (fun k=>[]) (fun k=>k≤args.length∧x.args.take k=args.take k) (fun k=>args.length - k) 0 aH aD (⟨qn _,U⟩) ?_
   rintro k ⟨hk,hall⟩
   refine ae<|ax U U<|z6<|zd<|zu U (fun ck=>?_) (fun ck=>?_)
   ·have hk2:k<args.length:=by simp at ck;omega
    have hk3:k<x.args.length:=by omega
    refine zg<|zd<|zj<|ae<|aa U<|ap U<|z6<|zd<|zw (fun j=>false) (by kernel_rfl) U (zh (.rest _))<|ak 0 U (bx j5 U j8 U U)<|ak 1 U (dx j9 U)<|ak 2 U (dq U)<|ak 3 U (bh k wz j6 U U U (qk hk3))<|ak 4 U (b7 j7 U)<|ak 5 U (CN U)<|ak 6 U (dq U)<|ak 7 U (bh k wz j6 U U U (qk hk2))<|ak 8 U (b7 j7 U)<|ak 9 U (Gv.neqI U U)<|bY<|zy U (fun cn=>?_) (fun cn=>?_)
    ·have hne:¬x.args[k]=args[k]:=by simpa using cn
     refine ae<|ab U<|z6<|zi<|zm (x:=.bool _) U ?_
     exact jb (by rw[qy (p:=x.args=args) (fun e=>hne (by simp only[e])),Bool.and_false])
    ·have heq:x.args[k]=args[k]:=by simpa using cn
     refine zg<|aO<|aC U U<|aa U<|z6 ?_
     exact ⟨k+1,de,aH,aD,⟨hk2,by rw[ql hk3,ql hk2,hall,heq]⟩,by omega⟩
   ·have hkn:k=args.length:=by simp at ck;omega
    have he:x.args=args:=by rw[hkn,qp,←h2,qp] at hall;exact hall
    refine y7<|ae<|ab U<|z6<|zi<|zm (x:=.bool _) U ?_
    exact jb (by rw[qx h1,qx he];rfl)
theorem nt (op:Int) (h:0≤op∧op≤26):aK prog E 15 [.int .i64 op] (.int .i64 (if 18≤op∧op≤24 then op - 17 else 0)):=by
 refine zq func15 U (by decide) U<|ae<|ap U<|z6<|zd<|ae<|aa U<|ax U U<|aj U<|zo (s:=5) U (fun c1=>?_) (fun c1=>?_)
 ·have h1:op<18:=by simpa using c1
  refine z7 U U c1<|z7 U U c1<|aq U c1 U<|z6<|yl U U<|ae<|ap U<|z6<|zi<|zm (x:=.int _ _) U ?_
  rw[if_neg (by omega)]
 ·have h1:¬op<18:=by simpa using c1
  refine z8 U U c1<|aa U<|z8 U U c1<|bb U U<|au U c1 U<|z6<|zy U (fun c2=>?_) (fun c2=>?_)
  ·have h2:24<op:=by simpa using c2
   refine ae<|ap U<|z6<|zi<|zm (x:=.int _ _) U ?_
   rw[if_neg (by omega)]
  ·have h2:¬24<op:=by simpa using c2
   refine zg<|ae<|aa U<|za (Gv.sub U U (by unfold lj;omega))<|ap U<|z6<|zi<|zm (x:=.int _ _) U ?_
   rw[if_pos (by omega)]
end Go.Proofs.YtdilpodccjlkgaaGreatDoor
namespace Go.Proofs.YtdilpodccjlkgaaGreatDoor
open Go.Proofs.Tryz
open Go.Proofs
variable {E:World}
set_option maxRecDepth 20000
theorem sU {k:Nat} (hk:k≤2) {x y:Int} (hx:cY x) (hy:cY y):aK prog E 126 [.int .i64 k,.int .i64 x,.int .i64 y] (.bool (decide (dJ k x y))):=by
 have hx1:=hx;have hy1:=hy
 unfold cY at hx1 hy1
 refine zq func126 U (by decide) U<|ae<|ab U<|z6<|zd<|ae<|aa U<|z6<|zj<|ae<|ai U U<|ab U<|z6<|zu U (fun c0=>?_) (fun c0=>?_)
 ·have hk0:k=0:=by omega
  subst hk0
  refine ae<|aa U<|bb U U<|aj U<|zo (s:=16) U (fun c1=>?_) (fun c1=>?_)
  ·refine z8 U U c1<|aa U<|z8 U U c1<|aa U<|z8 U U c1<|za (Gv.sub U U (by unfold lj;simp at *;omega))<|z8 U U c1<|bb U U<|aq U c1 U<|aB U<|aj U<|zo (s:=23) U (fun c2=>?_) (fun c2=>?_)
   ·refine z8 U U c2<|aa U<|z8 U U c2<|ax U U<|z8 U U c2<|aj U<|zo (s:=26) U (fun c3=>?_) (fun c3=>?_)
    ·refine z8 U U c3<|aa U<|z8 U U c3<|aa U<|z8 U U c3<|za (Gv.sub U U (by unfold lj;simp at *;omega))<|z8 U U c3<|ax U U<|z8 U U c2<|aq U c3 U<|z8 U U c2<|aB U<|aq U c2 U<|ab U<|z6<|zi<|zm (x:=.bool _) U ?_
     exact jb (by rw[qt];unfold dJ pT cY;simp at *<;>omega)
    ·refine z7 U U c3<|z7 U U c3<|z7 U U c3<|z7 U U c3<|z8 U U c2<|au U c3 U<|z8 U U c2<|aB U<|aq U c2 U<|ab U<|z6<|zi<|zm (x:=.bool _) U ?_
     exact jb (by rw[qt];unfold dJ pT cY;simp at *<;>omega)
   ·refine z7 U U c2<|z7 U U c2<|z7 U U c2<|zk U U<|zk U U<|zk U U<|zk U U<|z7 U U c2<|z7 U U c2<|au U c2 U<|ab U<|z6<|zi<|zm (x:=.bool _) U ?_
    exact jb (by rw[qt];unfold dJ pT cY;simp at *<;>omega)
  ·refine z7 U U c1<|z7 U U c1<|z7 U U c1<|z7 U U c1<|au U c1 U<|aB U<|aj U<|z8 U U U<|aa U<|z8 U U U<|ax U U<|z8 U U U<|aj U<|zo (s:=26) U (fun c4=>?_) (fun c4=>?_)
   ·refine z8 U U c4<|aa U<|z8 U U c4<|aa U<|z8 U U c4<|za (Gv.sub U U (by unfold lj;simp at *;omega))<|z8 U U c4<|ax U U<|z8 U U U<|aq U c4 U<|z8 U U U<|aB U<|aq U U U<|ab U<|z6<|zi<|zm (x:=.bool _) U ?_
    exact jb (by rw[qt];unfold dJ pT cY;simp at *<;>omega)
   ·refine z7 U U c4<|z7 U U c4<|z7 U U c4<|z7 U U c4<|z8 U U U<|au U c4 U<|z8 U U U<|aB U<|aq U U U<|ab U<|z6<|zi<|zm (x:=.bool _) U ?_
    exact jb (by rw[qt];unfold dJ pT cY;simp at *<;>omega)
 ·refine ae<|ai U U<|ab U<|z6<|zu U (fun c1=>?_) (fun c1=>?_)
  ·have hk1:k=1:=by omega
   subst hk1
   refine ae<|aa U<|ax U U<|aj U<|zo (s:=38) U (fun c5=>?_) (fun c5=>?_)
   ·refine z8 U U c5<|aa U<|z8 U U c5<|aa U<|z8 U U c5<|za (Gv.add U U (by unfold lj;simp at *;omega))<|z8 U U c5<|bb U U<|aq U c5 U<|aB U<|aj U<|zo (s:=45) U (fun c6=>?_) (fun c6=>?_)
    ·refine z8 U U c6<|aa U<|z8 U U c6<|bb U U<|z8 U U c6<|aj U<|zo (s:=48) U (fun c7=>?_) (fun c7=>?_)
     ·refine z8 U U c7<|aa U<|z8 U U c7<|aa U<|z8 U U c7<|za (Gv.add U U (by unfold lj;simp at *;omega))<|z8 U U c7<|ax U U<|z8 U U c6<|aq U c7 U<|z8 U U c6<|aB U<|aq U c6 U<|ab U<|z6<|zi<|zm (x:=.bool _) U ?_
      exact jb (by rw[qt];unfold dJ pT cY;simp at *<;>omega)
     ·refine z7 U U c7<|z7 U U c7<|z7 U U c7<|z7 U U c7<|z8 U U c6<|au U c7 U<|z8 U U c6<|aB U<|aq U c6 U<|ab U<|z6<|zi<|zm (x:=.bool _) U ?_
      exact jb (by rw[qt];unfold dJ pT cY;simp at *<;>omega)
    ·refine z7 U U c6<|z7 U U c6<|z7 U U c6<|zk U U<|zk U U<|zk U U<|zk U U<|z7 U U c6<|z7 U U c6<|au U c6 U<|ab U<|z6<|zi<|zm (x:=.bool _) U ?_
     exact jb (by rw[qt];unfold dJ pT cY;simp at *<;>omega)
   ·refine z7 U U c5<|z7 U U c5<|z7 U U c5<|z7 U U c5<|au U c5 U<|aB U<|aj U<|z8 U U U<|aa U<|z8 U U U<|bb U U<|z8 U U U<|aj U<|zo (s:=48) U (fun c8=>?_) (fun c8=>?_)
    ·refine z8 U U c8<|aa U<|z8 U U c8<|aa U<|z8 U U c8<|za (Gv.add U U (by unfold lj;simp at *;omega))<|z8 U U c8<|ax U U<|z8 U U U<|aq U c8 U<|z8 U U U<|aB U<|aq U U U<|ab U<|z6<|zi<|zm (x:=.bool _) U ?_
     exact jb (by rw[qt];unfold dJ pT cY;simp at *<;>omega)
    ·refine z7 U U c8<|z7 U U c8<|z7 U U c8<|z7 U U c8<|z8 U U U<|au U c8 U<|z8 U U U<|aB U<|aq U U U<|ab U<|z6<|zi<|zm (x:=.bool _) U ?_
     exact jb (by rw[qt];unfold dJ pT cY;simp at *<;>omega)
  ·have hk2:k=2:=by omega
   subst hk2
   refine zg<|zd<|zd<|ya (γ:=Bool) [1,2] (fun u=>[(61,.bool u)]) (fun u=>[]) (fun u=>u=decide (x=0∨y=0)) ?_ (fun _ _ h=>h) ?_
   ·refine aO<|aa U<|ai U U<|aj U<|zo (s:=58) U (fun c9=>?_) (fun c9=>?_)
    ·refine z7 U U c9<|z7 U U c9<|aq U c9 U<|z6 ?_
     exact ⟨_,cV,aH,aD,by simp_all⟩
    ·refine z8 U U c9<|aa U<|z8 U U c9<|ai U U<|au U c9 U<|z6 ?_
     exact ⟨_,cV,aH,aD,by simp_all⟩
   ·rintro u hu
    subst hu
    refine zu U (fun cz=>?_) (fun cz=>?_)
    ·refine ae<|ab U<|z6<|zi<|zm (x:=.bool _) U ?_
     exact jb (by rw[qx];unfold dJ;rw[show pT 2 x y=x*y from rfl];rcases cz with h|h<;>rw[h]<;>simp[cY])
    ·have hx0:x≠0:=fun e=>cz (.inl e)
     have hy0:y≠0:=fun e=>cz (.inr e)
     refine zg<|ae<|aa U<|ax U U<|aa U<|ax U U<|za (Gv.eqlB Y0 U U)<|ab U<|z6<|ae<|aa U<|za (Gv.conv underlying2 Yu U)<|aa U<|za (Gv.conv underlying2 Yu U)<|ap U<|ap U<|z6<|zd<|ae<|aa U<|ax U U<|z6<|ya (γ:=Int) [2,7,9] (fun u=>[(8,.int .u64 u)]) (fun u=>[]) (fun u=>u=(x.natAbs:Int)) ?_ (fun _ _ h=>h) ?_
     ·refine zu U (fun c=>?_) (fun c=>?_)
      ·refine aO<|aa U<|za (Gv.neg U)<|ap U<|z6 ?_
       exact ⟨_,de,aH,aD,by have:=kh hx;rwa [if_pos c] at this⟩
      ·refine zg ?_
       exact ⟨_,de,aH,aD,by have:=kh hx;rwa [if_neg c] at this⟩
     ·rintro u hu
      subst hu
      refine zd<|ae<|aa U<|ax U U<|z6<|ya (γ:=Int) [7,8] (fun u=>[(9,.int .u64 u)]) (fun u=>[]) (fun u=>u=(y.natAbs:Int)) ?_ (fun _ _ h=>h) ?_
      ·refine zu U (fun c=>?_) (fun c=>?_)
       ·refine aO<|aa U<|za (Gv.neg U)<|ap U<|z6 ?_
        exact ⟨_,cV,aH,aD,by have:=kh hy;rwa [if_pos c] at this⟩
       ·refine zg ?_
        exact ⟨_,cV,aH,aD,by have:=kh hy;rwa [if_neg c] at this⟩
      ·rintro u hu
       subst hu
       refine ae<|ap U<|z6<|zd<|ae<|aj U<|aB U<|z6<|ya (γ:=Int) [8,9] (fun u=>[(10,.int .u64 u)]) (fun u=>[]) (fun u=>u=(if (decide (x<0) == decide (y<0))=true then 9223372036854775807 else 9223372036854775808)) ?_ (fun _ _ h=>h) ?_
       ·refine zy U (fun c=>?_) (fun c=>?_)
        ·refine aO<|ap U<|z6 ?_
         exact ⟨_,cV,aH,aD,by rw[if_neg (by simpa using c)]⟩
        ·refine zg ?_
         exact ⟨_,cV,aH,aD,by rw[if_pos (by simpa using c)]⟩
       ·rintro u hu
        subst hu
        refine ae<|aa U<|aa U<|aa U<|za (Gv.quo U U (by omega))<|za (qb U U)<|ab U<|z6<|zi<|zm (x:=.bool _) U ?_
        exact jb (GZ hx hx0 hy0)
theorem GA {k:Nat} (hk:k≤2) {a b:fj} (ha:jW a) (hb:jW b):aK prog E 85 [.int .i64 k,.agg (iy a),.agg (iy b)] (.bool (decide (fF k a b))):=by
 refine zq func85 U (by decide) U<|ae<|y9 (cs:=_) U U U<|y9 (cs:=_) U U U<|ab U<|z6<|ae<|aa U<|ao Yf U Za U U<|ay Zj U<|ao Yf U Za U U<|ay Zj U<|ze (sU hk ha.1 hb.1) U<|aj U<|zo (s:=13) U (fun c10=>?_) (fun c10=>?_)
 ·refine z8 U U c10<|aa U<|z8 U U c10<|ao Yf U Za U U<|z8 U U c10<|ay Zj U<|z8 U U c10<|ao Yf U Za U U<|z8 U U c10<|ay Zj U<|z8 U U c10<|ze (sU hk ha.1 hb.2) U<|aq U c10 U<|aj U<|zo (s:=21) U (fun c11=>?_) (fun c11=>?_)
  ·refine z8 U U c11<|aa U<|z8 U U c11<|ao Yf U Za U U<|z8 U U c11<|ay Zj U<|z8 U U c11<|ao Yf U Za U U<|z8 U U c11<|ay Zj U<|z8 U U c11<|ze (sU hk ha.2 hb.1) U<|aq U c11 U<|aj U<|zo (s:=29) U (fun c12=>?_) (fun c12=>?_)
   ·refine z8 U U c12<|aa U<|z8 U U c12<|ao Yf U Za U U<|z8 U U c12<|ay Zj U<|z8 U U c12<|ao Yf U Za U U<|z8 U U c12<|ay Zj U<|z8 U U c12<|ze (sU hk ha.2 hb.2) U<|aq U c12 U<|ab U<|z6<|zi<|zm (x:=.bool _) U ?_
    exact jb (by unfold fF;simp_all)
   ·refine z7 U U c12<|z7 U U c12<|z7 U U c12<|z7 U U c12<|z7 U U c12<|z7 U U c12<|au U c12 U<|ab U<|z6<|zi<|zm (x:=.bool _) U ?_
    exact jb (by unfold fF;simp_all)
  ·refine z7 U U c11<|z7 U U c11<|z7 U U c11<|z7 U U c11<|z7 U U c11<|z7 U U c11<|au U c11 U<|aj U<|z7 U U U<|z7 U U U<|z7 U U U<|z7 U U U<|z7 U U U<|z7 U U U<|au U U U<|ab U<|z6<|zi<|zm (x:=.bool _) U ?_
   exact jb (by unfold fF;simp_all)
 ·refine z7 U U c10<|z7 U U c10<|z7 U U c10<|z7 U U c10<|z7 U U c10<|z7 U U c10<|au U c10 U<|aj U<|z7 U U U<|z7 U U U<|z7 U U U<|z7 U U U<|z7 U U U<|z7 U U U<|au U U U<|aj U<|z7 U U U<|z7 U U U<|z7 U U U<|z7 U U U<|z7 U U U<|z7 U U U<|au U U U<|ab U<|z6<|zi<|zm (x:=.bool _) U ?_
  exact jb (by unfold fF;simp_all)
end Go.Proofs.YtdilpodccjlkgaaGreatDoor
