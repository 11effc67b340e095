/- An open order in which some of what is owned is only read, while other things are written. No conditions. -/
import Derived.Test.YtbbonnfjealmpaaGreatDoorZv
import Derived.Test.YtbbonnfjealmpaaGreatDoorZp
import Derived.Test.YtbbonnfjealmpaaGreatDoorZw
import Derived.Test.YtbbonnfjealmpaaGreatDoorZf
set_option linter.unusedVariables false
set_option linter.unusedSimpArgs false
set_option linter.unusedSectionVars false
namespace Go.Proofs.YtbbonnfjealmpaaGreatDoor
section
open Go.Proofs.Tryz
open Go.Proofs Go.Lib Go.Shelf Go.RowKit
theorem KA:em prog 73 #[(0,3),(3,3),(6,1),(7,1)] [.n,.n,.n,.n,.n,.n,.n,.int .i64 0]:=⟨_,_,Zj,zeroValue73,fun w=>by kernel_rfl,rfl⟩
theorem MA:em prog 83 #[(0,1),(1,1),(2,1)] [.int .i64 0,.n,.n]:=⟨_,_,Z4,Y1,fun w=>by kernel_rfl,rfl⟩
theorem BB:dn prog 57 83 1 3 [.int .i64 0,.n,.n]:=⟨_,Z8,Ze,Y1,by decide,by decide,by kernel_rfl⟩
variable {E:World}
set_option maxRecDepth 20000
def iK (b:aK):List AV:=[.str b.name,.n,.fro 4 (b.insts.map bq),.int .i64 b.term.kind,.int .i64 b.term.var,.int .i64 b.term.to0,.int .i64 b.term.to1]
def iL (l:List Int):List AV:=[.fro 1 (l.map bO)]
theorem zT (l:List aK):((l.map iK).flatten).length=l.length*7:=d6 (k:=7) (fun _=>rfl) l
theorem ov (l:List (List Int)):((l.map iL).flatten).length=l.length*1:=d6 (k:=1) (fun _=>rfl) l
theorem GZ (n:Nat):nx (List.replicate n [AV.e,.n,.n,.int .i64 0,.int .i64 0,.int .i64 0,.int .i64 0]).flatten ((List.replicate n yL).map iK).flatten:=by
 rw[List.map_replicate]
 exact nx.rep (.cons (.refl _) (.cons (.refl _) (.cons (v8.nil 4) (.cons (.refl _) (.cons (.refl _) (.cons (.refl _) (.cons (.refl _) .nil))))))) n
theorem G0 (n:Nat):nx (List.replicate n [AV.n]).flatten ((List.replicate n ([]:List Int)).map iL).flatten:=by
 rw[List.map_replicate]
 exact nx.rep (.cons (v8.nil 1) .nil) n
theorem Ec {l:List (List Int)} {j:Nat} {r:List Int} (h:l[j]?=some r):((l.map iL).flatten).drop (j*1)=.fro 1 (r.map bO)::((l.drop (j+1)).map iL).flatten:=by
 obtain ⟨h1,h2⟩:=List.getElem?_eq_some_iff.1 h
 have e:l=l.take j++r::l.drop (j+1):=by rw[←h2,←List.drop_eq_getElem_cons h1,List.take_append_drop]
 have e2:(l.map iL).flatten=((l.take j).map iL).flatten++(.fro 1 (r.map bO)::((l.drop (j+1)).map iL).flatten):=by
  conv=>lhs;rw[e,wb,List.flatten_append,List.map_cons,List.flatten_cons]
  rfl
 rw[e2,List.drop_left' (by rw[ov,wd];omega)]
theorem LT (l:List Int):cI l=(l.map bO).flatten:=(kJ l).symm
theorem G1 {l:List aK} {b:Nat} (h:b<l.length) (c:aK):((l.map iK).flatten).take (b*7)++iK c++((l.map iK).flatten).drop (b*7+7)=((l.set b c).map iK).flatten:=by
 rw[zI (k:=7) (r:=iK c) (fun x hx=>by obtain ⟨_,_,rfl⟩:=List.mem_map.1 hx;rfl) (by rw[w6];exact h) rfl,List.map_set]
theorem G2 {l:List (List Int)} {b:Nat} (h:b<l.length) (r:List Int):((l.map iL).flatten).set (b*1) (.fro 1 (r.map bO))=((l.set b r).map iL).flatten:=by
 have e:=uT (rows:=l.map iL) (j:=b) (i:=0) (k:=1) (r:=iL l[b]) (v:=.fro 1 (r.map bO)) (fun x hx=>by obtain ⟨_,_,rfl⟩:=List.mem_map.1 hx;rfl) (by rw[w7,qx h];rfl) (by decide)
 rw[Nat.add_zero] at e
 rw[e,List.map_set];rfl
theorem G3 {f:ab} {b:Int} (h:eX f b=true):0≤b∧b<f.blocks.length:=by
 unfold eX at h
 simp only[wh,wm] at h
 exact h
theorem zU {l:List Int} {v:Int} (h0:0≤v) (h1:v<l.length):l[v.toNat]?=some (vi l v):=by
 unfold vi
 rw[qx (by omega)];rfl
theorem Ed {n k:Nat} (h:k<n):(aY n).take (k+1)=(aY n).take k++[(k:Int)]:=by
 have hg:(aY n)[k]?=some (k:Int):=by unfold aY;rw[w7,List.getElem?_range h];rfl
 rw[List.take_add_one,hg];rfl
def ow (f:ab) (bs:List aK) (k:Nat):List (List AV):=((fu f).blocks.take k).map bD++(bs.drop k).map iK
theorem G4 {f:ab} {bs:List aK} {k:Nat} {c:aK} (h:bs[k]?=some c):(ow f bs k).flatten=(((fu f).blocks.take k).map bD).flatten++(iK c++((bs.drop (k+1)).map iK).flatten):=by
 obtain ⟨h1,h2⟩:=List.getElem?_eq_some_iff.1 h
 unfold ow
 rw[List.flatten_append,List.drop_eq_getElem_cons h1,h2,List.map_cons,List.flatten_cons]
theorem G5 {f:ab} {bs:List aK} {k:Nat} {d:aK} (h:(fu f).blocks[k]?=some d):(ow f bs (k+1)).flatten=(((fu f).blocks.take k).map bD).flatten++(bD d++((bs.drop (k+1)).map iK).flatten):=by
 unfold ow
 rw[List.flatten_append,List.take_add_one,h,wb,List.flatten_append,qz]
 congr 1
set_option maxHeartbeats 16000000 in
theorem BC {f:ab} (hf:small f) (hR:bm f) (hv:f.vars.length≤100) (hn:f.blocks.length≤40) (hi:∀b∈f.blocks,b.insts.length≤400):aP prog E 10 [.agg (bw f)] (.agg (bw (fu f))):=by
 have hnn:f.blocks.length≤1000:=by omega
 have hpos:=hR.hE.pos
 have hol:=zP hR
 have hO:bn prog E 23 [A4 (nq f),.int .i64 0] [] (fun y O=>∃g:Nat,y=.own g (jF f).length∧O=[(g,.grow 1 3 (cI (jF f)))]∧True):=ou (E:=E) hR hnn f.blocks.length 0 hpos (by have:=hR.levL (b:=0) ⟨Int.le_refl _,by omega⟩;show (_:Int)≤_+gi _ 0;omega)
 refine zp func10 U (by decide) U<|ae<|y6 (cs:=_) U U U<|zu (cs:=[.n,.n,.n]) zeroValue26 U U<|fun i2=>z2<|ae<|ac Z0 ji U U<|ze (tL f hR.hE hnn) U<|z8 (oA U)<|z2<|zb<|yb (γ:=Nat × Nat × Nat) [1,2,3] (fun g=>[(4,.po g.1 0)]) (fun g=>[(g.1,.cells 73 [.fro 2 (f.vars.map bF),.fro 1 (f.params.map bO),.fro 7 (f.blocks.map bD),.own g.2.1 (0+(f.vars.map bF).length),.fro 1 (f.params.map bO),.own g.2.2 f.blocks.length,.n,.int .i64 0]),(g.2.1,.grow 2 48 (f.vars.map bF).flatten),(g.2.2,.grow 7 59 (List.replicate f.blocks.length [AV.e,.n,.n,.int .i64 0,.int .i64 0,.int .i64 0,.int .i64 0]).flatten),(i2,.cells 26 [.n,.n,.n])]) (fun g=>True) ?_ (fun _ _ h=>h) ?_
 ·refine zr (fun j=>false) (by kernel_rfl) U (zo (.rest _))<|ai 0 U (yp Z0 ji U U)<|ai 2 U (db je U Zn U U)<|ai 3 U (gd Zz U)<|ai 5 U (db je U jh U U)<|ai 6 U (gd jx U)<|ai 7 U (db je U Zd U U)<|ai 8 U (gd Zf U)<|ai 9 U (Gv.lenM ju U)<|yj (i:=1) (j:=10) U U (by kernel_rfl) ?_ ?_
  ·refine yi (k:=2) Z7 type48<|fun i33=>z2<|yj (i:=4) (j:=10) U U (by kernel_rfl) ?_ ?_
   ·refine yg (k:=2) Z7 type48 U U U U U (fun _=>.head) U (by decide) (lW (fun _=>U) _) (by rw[w6];show (0+_)*24≤_;omega) (by rw[w6];omega)<|fun i36=>z2<|aN 10 U<|ay.makeZ (m:=f.blocks.length) [.string ⟨#[]⟩,.slice none 0 0,.slice none 0 0,.int .i64 0,.int .i64 0,.int .i64 0,.int .i64 0] ju type59 U U U (by decide) (by decide) U U (by simp) (by simp) (by show (96:Int)*_≤_;omega) (by omega)<|fun i42=>z2<|ai 11 U (zz (cps:=[(0,[_]),(1,[_]),(2,[_])]) (rs:=[_,_,_]) Io U U U)<|ai 12 U (zz (cps:=[(0,[_,_,_]),(1,[_,_,_])]) (rs:=[_,_,_,_,_,_,.n,.int .i64 0]) KA U U U)<|aN 13 U<|yl (cs:=_) U U U U<|fun i45=>zd (za (zc .t3))<|zd (za (zc .t2))<|zd (za (zc .t3))<|zd (za (zc .t3))<|z2<|ai 14 U (gu U)<|bI ?_
    exact ⟨(i45,i36,i42),(by repeat (first|with_reducible exact yh _ _|refine yu rfl ?_|exact bW)),aL,aE,trivial⟩
   ·refine ay.makeZ (m:=f.blocks.length) [.string ⟨#[]⟩,.slice none 0 0,.slice none 0 0,.int .i64 0,.int .i64 0,.int .i64 0,.int .i64 0] ju type59 U U U (by decide) (by decide) U U (by simp) (by simp) (by show (96:Int)*_≤_;omega) (by omega)<|fun i42=>z2<|aN 4 U<|yg (k:=2) Z7 type48 U U U U U (fun _=>.t1) U (by decide) (lW (fun _=>U) _) (by rw[w6];show (0+_)*24≤_;omega) (by rw[w6];omega)<|fun i36=>z2<|ai 11 U (zz (cps:=[(0,[_]),(1,[_]),(2,[_])]) (rs:=[_,_,_]) Io U U U)<|ai 12 U (zz (cps:=[(0,[_,_,_]),(1,[_,_,_])]) (rs:=[_,_,_,_,_,_,.n,.int .i64 0]) KA U U U)<|aN 13 U<|yl (cs:=_) U U U U<|fun i45=>zd (za (zc .t3))<|zd (za (zc .t2))<|zd (za (zc .t3))<|zd (za (zc .t3))<|z2<|ai 14 U (gu U)<|bI ?_
    exact ⟨(i45,i36,i42),(by repeat (first|with_reducible exact yh _ _|refine yu rfl ?_|exact bW)),aL,aE,trivial⟩
  ·refine ay.makeZ (m:=f.blocks.length) [.string ⟨#[]⟩,.slice none 0 0,.slice none 0 0,.int .i64 0,.int .i64 0,.int .i64 0,.int .i64 0] ju type59 U U U (by decide) (by decide) U U (by simp) (by simp) (by show (96:Int)*_≤_;omega) (by omega)<|fun i42=>z2<|aN 1 U<|yi (k:=2) Z7 type48<|fun i33=>z2<|aN 4 U<|yg (k:=2) Z7 type48 U U U U U (fun _=>.head) U (by decide) (lW (fun _=>U) _) (by rw[w6];show (0+_)*24≤_;omega) (by rw[w6];omega)<|fun i36=>z2<|ai 11 U (zz (cps:=[(0,[_]),(1,[_]),(2,[_])]) (rs:=[_,_,_]) Io U U U)<|ai 12 U (zz (cps:=[(0,[_,_,_]),(1,[_,_,_])]) (rs:=[_,_,_,_,_,_,.n,.int .i64 0]) KA U U U)<|aN 13 U<|yl (cs:=_) U U U U<|fun i45=>z2<|ai 14 U (gu U)<|bI ?_
   exact ⟨(i45,i36,i42),(by repeat (first|with_reducible exact yh _ _|refine yu rfl ?_|exact bW)),aL,aE,trivial⟩
 ·rintro ⟨i45,i36,i42⟩ _
  refine ae<|ak je U Zd U U<|aI Zf U<|aj ju U<|ay.makeZ (m:=f.blocks.length) [.slice none 0 0] jy Zo U U U (by decide) (by decide) U U (by simp) (by simp) (by show (24:Int)*_≤_;omega) (by omega)<|fun i49=>z8 (ei U)<|z2<|y7 (aR.impO .head (G0 f.blocks.length))<|y7 (aR.impO .t3 (GZ f.blocks.length))<|zb<|ae<|bd U<|y3 U (zo (.r (.r (.r (.r (.r (.rest _))))))) (hO) ?_
  rintro r51 O51 ⟨i51,rfl,rfl,_⟩
  refine zd (aR.knowI (t:=51) U .head U)<|aj j7 U<|aa U<|z2<|y7 (za (zc .head))<|y7 (za (zc .t3))<|y7 (za (zc .t3))<|y7 (za (zc .t3))<|zi<|y5 (γ:=Nat × Nat × AV) [1,2,3,4,5,51,52] (fun g=>[(53,.i g.1)]) (fun g=>[(i45,.cells 73 [.fro 2 (f.vars.map bF),.fro 1 (f.params.map bO),.fro 7 (f.blocks.map bD),.own g.2.1 (pZ f g.1).vars.length,.fro 1 (f.params.map bO),.own i42 f.blocks.length,g.2.2,.int .i64 (pZ f g.1).k]),(g.2.1,.grow 2 48 ((pZ f g.1).vars.map bF).flatten),(i42,.grow 7 59 ((pZ f g.1).blks.map iK).flatten),(i49,.grow 1 23 ((pZ f g.1).ends.map iL).flatten),(i2,.cells 26 [.n,.n,.n])]) (fun g=>g.1≤(jF f).length) (fun g=>(jF f).length - g.1) (0,i36,.n) aL ⟨_,(.refl _),by rw[w6,Nat.zero_add];rfl⟩ (w2 _) ?_
  rintro ⟨m,jv,av⟩ hm
  try dsimp only at *
  refine ae<|ap U U<|z2<|zb<|zn U (fun cm=>?_) (fun cm=>?_)
  ·have hm2:m<(jF f).length:=by simp at cm;omega
   obtain ⟨b,hLb⟩:∃b:Nat,(jF f)[m]?=some (b:Int):=by
    have h:=qx hm2
    have hr:=(hR.ordB.at_ h).1
    exact ⟨((jF f)[m]).toNat,by rw[h];congr 1;omega⟩
   obtain ⟨⟨hb0,hb1⟩,-⟩:=hR.ordB.at_ hLb
   have hbn:b<f.blocks.length:=by omega
   obtain ⟨old,hgb⟩:∃old,f.blocks[b]?=some old:=⟨_,qx hbn⟩
   have hbe:aQ f (b:Int)=old:=dD hgb
   have hbm:old∈f.blocks:=w9 hgb
   have hwo:=vW hR m
   have hwb:=Kw hR hv hn hi hm
   have hcr:=fun i h=>Cz hR hv hn hi hm (b:Int) (i:=i) h
   have hci:=fun i h=>IO hR hv hn hi hm (b:Int) (i:=i) h
   have hSn:=IL hR hLb
   have hnr:=GP hR hLb
   have hsu:=GK hLb
   have hrl:=Cx hR (b:Int)
   have hol2:=hi _ hbm
   obtain ⟨W,hW⟩:∃W,pZ f m=W:=⟨_,rfl⟩
   rw[hW] at hwo hwb hcr hci hSn hnr hsu
   obtain ⟨S,hS⟩:∃S,dz f W b=S:=⟨_,rfl⟩
   have e1:S.vars=W.vars:=by rw[←hS];rfl
   have e2:S.k=W.k:=by rw[←hS];rfl
   have e3:S.now=if 0≤nearD f b then fU W.ends (nearD f b) else aY f.vars.length:=by rw[←hS];rfl
   rw[hS] at hcr hci hSn
   rw[hbe] at hci
   have hel:=hwo.el
   have hbl:=hwo.bl
   rw[hW]
   refine zf<|zb<|zi<|ae<|z8 (bB m j7 j9 U U U hLb)<|aA jg U<|am U<|z2<|ae<|bb U<|ax U<|z8 (zh Zj U jh (by decide) U U)<|yn (l:=[_]) (new:=[_,_,_,_,_,_,_,_]) jh U U U U U U .head U U<|z2<|zb<|ae<|bd U<|aa U<|ze (pH f hnn b hbn) U<|am U<|z2<|ae<|aa U<|z8 (q9 U U)<|z2<|yb (γ:=Nat) [1,2,3,4,5,7,51,52,53] (fun u=>[]) (fun u=>[(u,.grow 1 3 (cI S.now)),(i45,.cells 73 [.fro 2 (f.vars.map bF),.fro 1 (f.params.map bO),.fro 7 (f.blocks.map bD),.own jv W.vars.length,.fro 1 (f.params.map bO),.own i42 f.blocks.length,.own u f.vars.length,.int .i64 W.k]),(jv,.grow 2 48 (W.vars.map bF).flatten),(i42,.grow 7 59 (W.blks.map iK).flatten),(i49,.grow 1 23 (W.ends.map iL).flatten),(i2,.cells 26 [.n,.n,.n])]) (fun u=>True) ?_ (fun _ _ h=>h) ?_
   ·refine zw U (fun cn=>?_) (fun cn=>?_)
    ·have h0:0≤nearD f b:=by simpa using cn
     obtain ⟨hr1,hr2,hr3⟩:=hnr h0
     rw[if_pos h0] at e3
     rw[←e3] at hr2 hr3
     refine fW (off:=6) (k:=1) (T:=3) (fun _=>.head) U<|fun jn=>zr (fun j=>Nat.beq j 12) (by kernel_rfl) U (zo (.l (.r (.l (.l (.r (.rest _)))))))<|ai 0 U (dR U)<|ai 1 U (dR U)<|ai 2 U (zy U)<|ai 3 U (zh Zj U jh (by decide) U U)<|ai 4 U (zq (c:=.own _ _) jx U ⟨_,.head⟩ U)<|ai 5 U (Hd U)<|ai 6 U (dx U)<|ai 7 U (Gv.idxO (j:=(nearD f b).toNat) jy jh U U (by omega) ⟨_,.t1⟩ (fun h=>by have:=ov W.ends;rw[h] at this;simp at this;omega) (by omega))<|ai 8 U (qv (c:=_) jx U ⟨_,.t1⟩ (Ec hr2))<|aN 9 U<|yg (k:=1) j7 Y5 U U U U U (fun _=>.head) U (by decide) (lW (fun _=>U) _) (by rw[w6];show (0+_)*8≤_;omega) (by rw[w6];omega)<|fun i74=>z2<|yv (i:=10) U (by kernel_rfl) (by kernel_rfl) (by kernel_rfl) (by kernel_rfl) (zy U)<|ai 11 U (zh Zj U jh (by decide) U U)<|yc<|yk (i:=12) U (by kernel_rfl) (by kernel_rfl)<|yn (l:=[_]) (new:=[_,_,_,_,_,_,_,_]) jh U U U U U U .head U U<|zd (za (zc .t5))<|zd (za (zc .t2))<|zd (za (zc .t5))<|zd (za (zc .t5))<|zd (za (zc .t4))<|zd (za (zc .t5))<|z2<|yf (by kernel_rfl) ?_
     exact ⟨i74,(by repeat (first|with_reducible exact yh _ _|refine yu rfl ?_|exact pI)),trivial,⟨_,(.refl _),(by show [(_,_),(_,bC.cells _ [_,_,_,_,_,_,.own i74 (0+(S.now.map bO).length),_]),_,_,_,_]=_;rw[w6,hSn,Nat.zero_add,LT];rfl)⟩,trivial⟩
    ·have h0:¬0≤nearD f b:=by simpa using cn
     rw[if_neg h0] at e3
     refine fW (off:=6) (k:=1) (T:=3) (fun _=>.head) U<|fun jn=>ae<|ak je U Zn U U<|aI Zz U<|aj Z7 U<|aa U<|z2<|zi<|y5 (γ:=Nat × Nat) [1,2,3,4,5,7,51,52,53,79] (fun g=>[(80,.i g.1)]) (fun g=>[(g.2,.grow 1 3 (cI ((aY f.vars.length).take g.1))),(i45,.cells 73 [.fro 2 (f.vars.map bF),.fro 1 (f.params.map bO),.fro 7 (f.blocks.map bD),.own jv W.vars.length,.fro 1 (f.params.map bO),.own i42 f.blocks.length,.own g.2 g.1,.int .i64 W.k]),(jv,.grow 2 48 (W.vars.map bF).flatten),(i42,.grow 7 59 (W.blks.map iK).flatten),(i49,.grow 1 23 (W.ends.map iL).flatten),(i2,.cells 26 [.n,.n,.n])]) (fun g=>g.1≤f.vars.length) (fun g=>f.vars.length - g.1) (0,jn) aL aE (w2 _) ?_
     rintro ⟨k,jn⟩ hk
     try dsimp only at *
     refine ae<|ap U U<|z2<|zb<|zn U (fun ck=>?_) (fun ck=>?_)
     ·have hk2:k<f.vars.length:=by simp at ck;omega
      refine zf<|zb<|zi<|ae<|aa U<|am U<|z2<|aW<|bb U<|bb U<|ax U<|z8 (zh Zj U jh (by decide) U U)<|z8 (zq (c:=.own _ _) jx U ⟨_,.t1⟩ U)<|aa U<|zx (rows:=[[_]]) cA U U U U U<|yg (k:=1) j7 Y5 U U U U U (fun _=>.head) (by rw[aF,wd,bR];omega) (by decide) U (by show (_+1)*8≤_;omega) (by show _+1≤_;omega)<|fun i90=>ax U<|z8 (zh Zj U jh (by decide) U U)<|yn (l:=[_]) (new:=[_,_,_,_,_,_,_,_]) jh U U U U U U .t1 U U<|z2<|aW<|aC U U<|aa U<|z2 ?_
      exact ⟨(k+1,i90),iS,aL,⟨_,(.refl _),(by rw[Ed hk2,←kK];rfl)⟩,hk2,by dsimp only;omega⟩
     ·obtain rfl:k=f.vars.length:=by simp at ck;omega
      refine y4 ?_
      exact ⟨jn,(by repeat (first|with_reducible exact yh _ _|refine yu rfl ?_|exact pI)),trivial,⟨_,(.refl _),(by rw[e3,List.take_of_length_le (by rw[bR];omega)])⟩,trivial⟩
   ·rintro jn _
    refine ae<|ak je U Zd U U<|aI Zf U<|aa U<|z8 (bB b ju Z2 U U U hgb)<|ac Yc Z2 U U<|zu (cs:=[.e,.n,.n,.int .i64 0,.int .i64 0,.int .i64 0,.int .i64 0]) Zh U U<|fun i10=>zj Z2 U U U U U U .head U<|zd (y8 (t:=10) U .head)<|z2<|ae<|cE U<|z2<|gc (t:=11) (k:=4) (T:=51) U<|fun i11=>zb<|ae<|ac Z0 ji U U<|aa U<|ze (Eb hf hR b) U<|aj underlying77 U<|aa U<|z2<|y7 (za (zc .t1))<|y7 (za (zc .t3))<|y7 (za (zc .t3))<|zi<|y5 (γ:=Nat × Nat × Nat) [1,2,3,4,5,7,10,51,52,53,101,102] (fun g=>[(103,.i g.1),(11,.own g.2.2 (nB f S b g.1).2.length)]) (fun g=>[(i45,.cells 73 [.fro 2 (f.vars.map bF),.fro 1 (f.params.map bO),.fro 7 (f.blocks.map bD),.own g.2.1 (nB f S b g.1).1.vars.length,.fro 1 (f.params.map bO),.own i42 f.blocks.length,.own jn (nB f S b g.1).1.now.length,.int .i64 (nB f S b g.1).1.k]),(g.2.1,.grow 2 48 ((nB f S b g.1).1.vars.map bF).flatten),(jn,.grow 1 3 (cI (nB f S b g.1).1.now)),(g.2.2,.grow 4 51 ((nB f S b g.1).2.map bq).flatten),(i42,.grow 7 59 (W.blks.map iK).flatten),(i49,.grow 1 23 (W.ends.map iL).flatten),(i2,.cells 26 [.n,.n,.n])]) (fun g=>g.1≤(jJ f b).length) (fun g=>(jJ f b).length - g.1) (0,jv,i11) b7 ⟨_,(.refl _),(by show _=[_,(_,bC.grow _ _ (S.vars.map bF).flatten),_,_,_,_,_];rw[e1];show _=[(_,bC.cells _ [_,_,_,.own _ S.vars.length,_,_,.own _ S.now.length,.int _ S.k]),_,_,_,_,_,_];rw[e1,hSn,e2];rfl)⟩ (w2 _) ?_
    rintro ⟨i,jv,jl⟩ hi2
    try dsimp only at *
    refine ae<|ap U U<|z2<|zb<|zn U (fun ci=>?_) (fun ci=>?_)
    ·have hi3:i<(jJ f b).length:=by simp at ci;omega
     obtain ⟨r,hr⟩:∃r,(jJ f b)[i]?=some r:=⟨_,qx hi3⟩
     obtain ⟨⟨ra0,ra1⟩,rb0,rb1⟩:=hR.inf.rel b r (w9 hr)
     have hps:=D6 (S:=S) hr
     have hpl:=(GM f S b i).trans hSn
     have hM:=(hcr i (by omega)).mid hv hwb.1 (by omega) (by omega)
     have hc1:=hcr i (by omega)
     obtain ⟨p,hp⟩:∃p,nB f S b i=p:=⟨_,rfl⟩
     rw[hp] at hps hpl hM hc1
     rw[hp]
     have hva:p.1.now[r.a.toNat]?=some (vi p.1.now r.a):=zU ra0 (by omega)
     have hvb:p.1.now[r.b.toNat]?=some (vi p.1.now r.b):=zU rb0 (by omega)
     refine zf<|zb<|zi<|ae<|z8 (bB i underlying77 Xd U U U hr)<|ac isAgg80 Xd U U<|zu (cs:=[.int .i64 0,.int .i64 0,.int .i64 0]) zeroValue80 U U<|fun i13=>zj Xd U U U U U U .head U<|zd (y8 (t:=13) U .head)<|z2<|zb<|zr (fun j=>false) (by kernel_rfl) U (zo (.r (.l (.r (.rest _)))))<|ai 0 U (dR U)<|ai 1 U (zy U)<|ai 2 U (zh Zj U jh (by decide) U U)<|ai 3 U (zq (c:=.own _ _) jx U ⟨_,.head⟩ U)<|ai 4 U (db Yv U j9 U U)<|ai 5 U (dQ jg U)<|ai 6 U (yd (j:=r.a.toNat) j7 j9 U U (by omega) ⟨_,.t1⟩ (aF _) (by omega))<|ai 7 U (yw (j:=r.a.toNat) jg U ⟨_,.t1⟩ hva)<|ai 8 U (dR U)<|ai 9 U (zy U)<|ai 10 U (zh Zj U jh (by decide) U U)<|ai 11 U (zq (c:=.own _ _) jx U ⟨_,.head⟩ U)<|ai 12 U (db Yv U j9 U U)<|ai 13 U (dQ jg U)<|ai 14 U (yd (j:=r.b.toNat) j7 j9 U U (by omega) ⟨_,.t1⟩ (aF _) (by omega))<|ai 15 U (yw (j:=r.b.toNat) jg U ⟨_,.t1⟩ hvb)<|ai 16 U (BI U)<|ai 17 U (BI U)<|bI<|y7 (za (zc .t2))<|y7 (za (zc .t1))<|ae<|am U<|z2<|zb<|ae<|ak Yv U Z1 U U<|aA Zc U ?_
     refine z2<|yb (γ:=Int) [1,2,3,4,5,7,10,11,13,14,15,51,52,53,101,102,103] (fun u=>[(16,.i u)]) (fun u=>[(i45,.cells 73 [.fro 2 (f.vars.map bF),.fro 1 (f.params.map bO),.fro 7 (f.blocks.map bD),.own jv p.1.vars.length,.fro 1 (f.params.map bO),.own i42 f.blocks.length,.own jn p.1.now.length,.int .i64 p.1.k]),(jv,.grow 2 48 (p.1.vars.map bF).flatten),(jn,.grow 1 3 (cI p.1.now)),(jl,.grow 4 51 (p.2.map bq).flatten),(i42,.grow 7 59 (W.blks.map iK).flatten),(i49,.grow 1 23 (W.ends.map iL).flatten),(i2,.cells 26 [.n,.n,.n])]) (fun u=>u=kz r.n) ?_ (fun _ _ h=>h) ?_
     ·refine zi<|ae<|ao U U<|ad U<|z2<|zw U (fun c1=>?_) (fun c1=>?_)
      ·refine aW<|am U<|z2 ?_
       exact ⟨_,(by repeat (first|with_reducible exact yh _ _|refine yu rfl ?_|exact ⟨rfl,rfl,rfl,rfl,rfl,rfl,rfl,rfl,rfl,rfl,rfl,rfl,rfl,rfl,rfl,rfl,rfl,trivial⟩)),aL,aE,by unfold kz;simp_all⟩
      ·refine ae<|ao U U<|ad U<|z2<|zw U (fun c2=>?_) (fun c2=>?_)
       ·refine aW<|am U<|z2 ?_
        exact ⟨_,(by repeat (first|with_reducible exact yh _ _|refine yu rfl ?_|exact ⟨rfl,rfl,rfl,rfl,rfl,rfl,rfl,rfl,rfl,rfl,rfl,rfl,rfl,rfl,rfl,rfl,rfl,trivial⟩)),aL,aE,by unfold kz;simp_all⟩
       ·refine zf ?_
        exact ⟨_,(by repeat (first|with_reducible exact yh _ _|refine yu rfl ?_|exact ⟨rfl,rfl,rfl,rfl,rfl,rfl,rfl,rfl,rfl,rfl,rfl,rfl,rfl,rfl,rfl,rfl,rfl,trivial⟩)),aL,aE,by unfold kz;simp_all⟩
     ·rintro u hu
      subst hu
      obtain ⟨a,ha⟩:=Int.eq_ofNat_of_zero_le ra0
      obtain ⟨c,hc⟩:=Int.eq_ofNat_of_zero_le rb0
      have hq1:=ot f p r.a ⟨25,0,[vi p.1.now r.a,vi p.1.now r.b],r.n⟩
      have hM1:=(hc1.put r.a ⟨25,0,[vi p.1.now r.a,vi p.1.now r.b],r.n⟩).mid hv hwb.1 (by omega) (by omega)
      have hP1:=GJ (E:=E) f hf i42 f.blocks.length i45 jn p jv jl r.a ra0 (by omega) ⟨25,0,[vi p.1.now r.a,vi p.1.now r.b],r.n⟩ (by have:=hM.k;omega) (by have:=hM.vars;omega) (by have:=hM.ins;omega)
      obtain ⟨q,hq⟩:∃q,eR f p r.a ⟨25,0,[vi p.1.now r.a,vi p.1.now r.b],r.n⟩=q:=⟨_,rfl⟩
      rw[hq] at hP1 hq1 hM1
      have hP2:=fun jv jl=>GJ (E:=E) f hf i42 f.blocks.length i45 jn q jv jl r.b rb0 (by omega) ⟨25,0,[vi p.1.now r.b,vi p.1.now r.a],kz r.n⟩ (by have:=hM1.k;omega) (by have:=hM1.vars;omega) (by have:=hM1.ins;omega)
      have hre:gx f p r=eR f q r.b ⟨25,0,[vi p.1.now r.b,vi p.1.now r.a],kz r.n⟩:=by unfold gx;rw[hq]
      rw[←hre] at hP2
      unfold zM LO at hP1 hP2
      refine ae<|bb U<|bL U<|ak Yv U j9 U U<|aA jg U<|aa U<|aa U<|zx (rows:=[[_],[_]]) vp U U U U U<|ak Yv U Z1 U U<|aA Zc U<|z8 (zz (cps:=[(0,[_]),(2,[_]),(3,[_])]) (rs:=[_,.int .i64 0,_,_]) DQ U U U)<|y3 U (zo (.l (.l (.l (.l (.r (.r (.r (.rest _))))))))) (hP1) ?_
      rintro r139 O139 ⟨⟨jv1,jl1⟩,rfl,rfl,_⟩
      refine z8 (ei U)<|z2<|aW<|bb U<|bL U<|ak Yv U j9 U U<|aA jg U<|aa U<|aa U<|zx (rows:=[[_],[_]]) vp U U U U U<|aa U<|z8 (zz (cps:=[(0,[_]),(2,[_]),(3,[_])]) (rs:=[_,.int .i64 0,_,_]) DQ U U U)<|y3 U (zo (.l (.l (.l (.l (.r (.r (.r (.rest _))))))))) (hP2 jv1 jl1) ?_
      rintro r149 O149 ⟨⟨jv2,jl2⟩,rfl,rfl,_⟩
      refine z8 (ei U)<|z2<|aW<|aC U U<|aa U<|z2 ?_
      exact ⟨(i+1,jv2,jl2),kF,⟨rfl,(congrArg (AV.own jl2) (by dsimp only;rw[hps])),trivial⟩,⟨_,(.refl _),(by dsimp only;rw[hps];rfl)⟩,hi3,by dsimp only;omega⟩
    ·obtain rfl:i=(jJ f b).length:=by simp at ci;omega
     rw[GN]
     refine y4<|zb<|ae<|ak jr U Zw U U<|aI Y3 U<|aj Z6 U<|aa U<|z2<|zi<|y5 (γ:=Nat × Nat × Nat) [1,2,3,4,5,7,10,51,52,53,152,153] (fun g=>[(154,.i g.1),(11,.own g.2.2 (mi f S b g.1).2.length)]) (fun g=>[(i45,.cells 73 [.fro 2 (f.vars.map bF),.fro 1 (f.params.map bO),.fro 7 (f.blocks.map bD),.own g.2.1 (mi f S b g.1).1.vars.length,.fro 1 (f.params.map bO),.own i42 f.blocks.length,.own jn (mi f S b g.1).1.now.length,.int .i64 (mi f S b g.1).1.k]),(g.2.1,.grow 2 48 ((mi f S b g.1).1.vars.map bF).flatten),(jn,.grow 1 3 (cI (mi f S b g.1).1.now)),(g.2.2,.grow 4 51 ((mi f S b g.1).2.map bq).flatten),(i42,.grow 7 59 (W.blks.map iK).flatten),(i49,.grow 1 23 (W.ends.map iL).flatten),(i2,.cells 26 [.n,.n,.n])]) (fun g=>g.1≤old.insts.length) (fun g=>old.insts.length - g.1) (0,jv,jl) b7 aE (w2 _) ?_
     rintro ⟨i,jv,jl⟩ hi4
     try dsimp only at *
     refine ae<|ap U U<|z2<|zb<|zn U (fun cx=>?_) (fun cx=>?_)
     ·have hi5:i<old.insts.length:=by simp at cx;omega
      obtain ⟨x,hx⟩:∃x,old.insts[i]?=some x:=⟨_,qx hi5⟩
      have hxm:=w9 hx
      have hxa:=hR.inf.args old hbm x hxm
      have hx2:=hR.inf.two old hbm x hxm
      have hxl:x.args.length≤1000:=(hf.2.2.2.2 old hbm).2.2.2.2 x hxm
      have hps:=D7 (S:=S) (b:=(b:Int)) (by rw[hbe];exact hx)
      have hpl:=(zO f S b i).trans hSn
      have hc1:=hci i (by omega)
      have hM:=hc1.mid hv hwb.1 (by omega) (by omega)
      obtain ⟨p,hp⟩:∃p,mi f S b i=p:=⟨_,rfl⟩
      rw[hp] at hps hpl hM hc1
      rw[hp]
      have hM1:=hM.vars
      have hM2:=hM.k
      have hM3:=hM.ins
      refine zf<|zb<|zi<|ae<|z8 (bB i Z6 Za U U U hx)<|ac Yj Za U U<|zu (cs:=[.int .i64 0,.int .i64 0,.n,.int .i64 0]) Zr U U<|fun i18=>zj Za U U U U U U .head U<|zd (y8 (t:=18) U .head)<|z2<|ae<|ak jd U Zs U U<|aA Y2 U<|ak jd U j9 U U<|aA jg U<|ak jd U Z1 U U<|aA Zc U<|z8 (zz (cps:=[(0,[_]),(1,[_]),(3,[_])]) (rs:=[_,_,.n,_]) DQ U U U)<|zu (cs:=[.int .i64 0,.int .i64 0,.n,.int .i64 0]) Zr U U<|fun i19=>zj Za U U U U U U .head U<|z2<|fW (off:=2) (k:=1) (T:=3) (fun _=>.head) U<|fun ja=>zb<|ae<|ak jd U jh U U<|aI jx U<|aj j7 U<|aa U<|z2<|y7 (za (zc .t1))<|zi<|y5 (γ:=Nat × Nat) [1,2,3,4,5,7,10,11,18,19,51,52,53,152,153,154,166,167] (fun g=>[(168,.i g.1)]) (fun g=>[(i19,.cells 51 [.int .i64 x.op,.int .i64 x.dst,.own g.2 g.1,.int .i64 x.num]),(g.2,.grow 1 3 (cI ((x.args.map (vi p.1.now)).take g.1))),(i45,.cells 73 [.fro 2 (f.vars.map bF),.fro 1 (f.params.map bO),.fro 7 (f.blocks.map bD),.own jv p.1.vars.length,.fro 1 (f.params.map bO),.own i42 f.blocks.length,.own jn p.1.now.length,.int .i64 p.1.k]),(jv,.grow 2 48 (p.1.vars.map bF).flatten),(jn,.grow 1 3 (cI p.1.now)),(jl,.grow 4 51 (p.2.map bq).flatten),(i42,.grow 7 59 (W.blks.map iK).flatten),(i49,.grow 1 23 (W.ends.map iL).flatten),(i2,.cells 26 [.n,.n,.n])]) (fun g=>g.1≤x.args.length) (fun g=>x.args.length - g.1) (0,ja) aL aE (w2 _) ?_
      rintro ⟨k,ja⟩ hk
      try dsimp only at *
      refine ae<|ap U U<|z2<|zb<|zn U (fun ca=>?_) (fun ca=>?_)
      ·have hk2:k<x.args.length:=by simp at ca;omega
       obtain ⟨a,ha⟩:∃a,x.args[k]?=some a:=⟨_,qx hk2⟩
       obtain ⟨a0,a1⟩:=hxa a (w9 ha)
       have hva:=zU (l:=p.1.now) a0 (by omega)
       have htk:(x.args.map (vi p.1.now)).take (k+1)=(x.args.map (vi p.1.now)).take k++[vi p.1.now a]:=by rw[List.take_add_one,w7,ha];rfl
       refine zf<|zb<|zi<|ae<|z8 (bB k j7 j9 U U U ha)<|aA jg U<|am U<|z2<|zr (fun j=>Nat.beq j 12) (by kernel_rfl) U (zo (.r (.l (.r (.l (.r (.rest _)))))))<|ai 0 U (zh jd U jh (by decide) U U)<|ai 1 U (zq (c:=.own _ _) jx U ⟨_,.head⟩ U)<|ai 2 U (dR U)<|ai 3 U (zy U)<|ai 4 U (zh Zj U jh (by decide) U U)<|ai 5 U (zq (c:=.own _ _) jx U ⟨_,.t1⟩ U)<|ai 6 U (dx U)<|ai 7 U (yd (j:=a.toNat) j7 j9 U U (by omega) ⟨_,.t2⟩ (aF _) (by omega))<|ai 8 U (yw (j:=a.toNat) jg U ⟨_,.t2⟩ hva)<|aN 9 U<|zx (rows:=[[_]]) cA U U U U U<|z2<|aN 10 U<|yg (k:=1) j7 Y5 U U U U U (fun _=>.head) (by rw[aF,wd,w6];omega) (by decide) U (by show (_+1)*8≤_;omega) (by show _+1≤_;omega)<|fun i182=>z2<|ai 11 U (zh jd U jh (by decide) U U)<|yc<|yk (i:=12) U (by kernel_rfl) (by kernel_rfl)<|yn (l:=[_]) (new:=[_,_,_,_]) jh U U U U U U .head U U<|zd (za (zc .t8))<|zd (za (zc .t8))<|zd (za (zc .t8))<|zd (za (zc .t8))<|zd (za (zc .t6))<|zd (za (zc .t8))<|zd (za (zc .t7))<|zd (za (zc .t8))<|zd (za (zc .t8))<|z2<|yf (by kernel_rfl)<|aW ?_
       refine aC U U<|aa U<|z2 ?_
       exact ⟨(k+1,i182),⟨rfl,rfl,rfl,rfl,rfl,rfl,rfl,rfl,rfl,rfl,rfl,rfl,rfl,rfl,rfl,rfl,rfl,rfl,trivial⟩,aL,⟨_,(.refl _),(by dsimp only;rw[htk,←kK];rfl)⟩,hk2,by dsimp only;omega⟩
      ·obtain rfl:k=x.args.length:=by simp at ca;omega
       have hal:(x.args.map (vi p.1.now)).length=x.args.length:=w6 ..
       rw[List.take_of_length_le (by rw[hal];exact Nat.le_refl _)]
       refine y7 (aR.knowIC (off:=2) .t1 .head U hal)<|y4<|zb<|yb (γ:=Nat) [1,2,3,4,5,7,10,18,19,51,52,53,152,153,154] (fun u=>[(11,.own u (p.2++[f9 p.1 x]).length)]) (fun u=>[(i19,.cells 51 [.int .i64 x.op,.int .i64 x.dst,.fro 1 ((x.args.map (vi p.1.now)).map bO),.int .i64 x.num]),(i45,.cells 73 [.fro 2 (f.vars.map bF),.fro 1 (f.params.map bO),.fro 7 (f.blocks.map bD),.own jv ((p.1,p.2++[f9 p.1 x]):f8).1.vars.length,.fro 1 (f.params.map bO),.own i42 f.blocks.length,.own jn ((p.1,p.2++[f9 p.1 x]):f8).1.now.length,.int .i64 ((p.1,p.2++[f9 p.1 x]):f8).1.k]),(jv,.grow 2 48 (((p.1,p.2++[f9 p.1 x]):f8).1.vars.map bF).flatten),(jn,.grow 1 3 (cI ((p.1,p.2++[f9 p.1 x]):f8).1.now)),(u,.grow 4 51 (((p.1,p.2++[f9 p.1 x]):f8).2.map bq).flatten),(i42,.grow 7 59 (W.blks.map iK).flatten),(i49,.grow 1 23 (W.ends.map iL).flatten),(i2,.cells 26 [.n,.n,.n])]) (fun u=>True) ?_ (fun _ _ h=>h) ?_
       ·refine aW<|bL U<|z8 (qu Yj Za U ⟨_,.head⟩ U)<|zx (rows:=[[_,_,_,_]]) Be U U U U U<|yg (k:=4) Z6 type51 U U U U U (fun _=>.t4) (d6 (k:=4) (fun _=>U) _) (by decide) U (by show (_+1)*48≤_;omega) (by show _+1≤_;omega)<|fun i188=>z8 (ei U)<|z2 ?_
        exact ⟨i188,(by repeat (first|with_reducible exact yh _ _|refine yu rfl ?_|exact ⟨rfl,rfl,rfl,rfl,rfl,rfl,rfl,rfl,rfl,rfl,rfl,rfl,rfl,rfl,rfl,trivial⟩)),⟨congrArg (AV.own i188) (by rw[w5];rfl),trivial⟩,⟨_,(.refl _),(by dsimp only;rw[←eS (enc:=bq) rfl];rfl)⟩,trivial⟩
       ·rintro jl _
        refine ae<|ak jd U Zs U U<|aA Y2 U<|ao U U<|z2<|zn U (fun c18=>?_) (fun c18=>?_)
        ·have c18:x.op=18:=by simpa using c18
         obtain ⟨u,w,huw⟩:=hx2 c18
         obtain ⟨w0,w1⟩:=hxa w (by rw[huw];exact .tail _ (.head _))
         have hq1:((p.1,p.2++[f9 p.1 x]):f8).2.length≤1000000:=by show (p.2++_).length≤_;rw[w5];show _+1≤_;omega
         have hP1:=GJ (E:=E) f hf i42 f.blocks.length i45 jn (p.1,p.2++[f9 p.1 x]) jv jl w w0 (by show w<p.1.now.length;omega) ⟨26,0,[vi p.1.now w,vi p.1.now u],0⟩ (by show p.1.k≤_;omega) (by show p.1.vars.length≤_;omega) hq1
         have hre:fT f p x=eR f (p.1,p.2++[f9 p.1 x]) w ⟨26,0,[vi p.1.now w,vi p.1.now u],0⟩:=by unfold fT;rw[if_pos c18];unfold dq eU;rw[huw];rfl
         rw[←hre] at hP1
         unfold zM LO at hP1
         refine zr (fun j=>false) (by kernel_rfl) U (zo (.r (.rest _)))<|ai 0 U (dR U)<|ai 1 U (Hd U)<|ai 2 U (db jd U jh U U)<|ai 3 U (gd jx U)<|ai 4 U (bB 1 j7 j9 U U U (show x.args[1]?=some w by rw[huw];rfl))<|ai 5 U (dQ jg U)<|ai 6 U (zh jd U jh (by decide) U U)<|ai 7 U (zq (c:=.fro _ _) jx U ⟨_,.head⟩ U)<|ai 8 U (bB 1 j7 j9 U U U (show (x.args.map (vi p.1.now))[1]?=some (vi p.1.now w) by rw[huw];rfl))<|ai 9 U (dQ jg U)<|ai 10 U (zh jd U jh (by decide) U U)<|ai 11 U (zq (c:=.fro _ _) jx U ⟨_,.head⟩ U)<|ai 12 U (bB 0 j7 j9 U U U (show (x.args.map (vi p.1.now))[0]?=some (vi p.1.now u) by rw[huw];rfl))<|ai 13 U (dQ jg U)<|aN 14 U<|zx (rows:=[[_],[_]]) vp U U U U U<|z2<|ai 15 U (zz (cps:=[(0,[_]),(2,[_])]) (rs:=[_,.int .i64 0,_,.int .i64 0]) DQ U U U)<|aN 16 U<|y3 U (zo (.l (.l (.l (.l (.r (.r (.r (.rest _))))))))) (hP1) ?_
         rintro r208 O208 ⟨⟨jv1,jl1⟩,rfl,rfl,_⟩
         refine z2<|ai 17 U (ei U)<|bI<|y7 (qf .head)<|aW<|aC U U<|aa U<|z2 ?_
         exact ⟨(i+1,jv1,jl1),kF,⟨rfl,(congrArg (AV.own jl1) (by dsimp only;rw[hps])),trivial⟩,⟨_,(.refl _),(by dsimp only;rw[hps];rfl)⟩,hi5,by dsimp only;omega⟩
        ·have c18:¬x.op=18:=by simpa using c18
         have hre:fT f p x=(p.1,p.2++[f9 p.1 x]):=by unfold fT;rw[if_neg c18]
         refine y7 (qf .head)<|zf<|aW<|aC U U<|aa U<|z2 ?_
         exact ⟨(i+1,jv,jl),kF,⟨rfl,(congrArg (AV.own jl) (by dsimp only;rw[hps,hre])),trivial⟩,⟨_,(.refl _),(by dsimp only;rw[hps,hre])⟩,hi5,by dsimp only;omega⟩
     ·obtain rfl:i=old.insts.length:=by simp at cx;omega
      have hpa:mi f S b old.insts.length=dE f S b:=by rw[←hbe];exact GO f S b
      have hpl:=(zO f S b old.insts.length).trans hSn
      have hM:=(hci old.insts.length (Nat.le_refl _)).mid hv hwb.1 (by omega) (by omega)
      have hwe:ke f W b=⟨(dE f S b).1.vars,(dE f S b).1.rts,(dE f S b).1.k,W.ends.set b (dE f S b).1.now,W.blks.set b ⟨old.name,[],(dE f S b).2,fy (dE f S b).1 old.term⟩⟩:=by unfold ke;rw[hS,hbe];rfl
      rw[hpa] at hpl hM
      rw[hpa]
      obtain ⟨p,hp⟩:∃p,dE f S b=p:=⟨_,rfl⟩
      rw[hp] at hpl hM hwe
      rw[hp]
      refine y7 (aR.know (t:=11) (rows:=p.2.map bq) U .t3 (by intro r hr;obtain ⟨z,_,rfl⟩:=List.mem_map.1 hr;rfl) (by decide) (by rw[w6]))<|y4<|ae<|ak jr U Y6 U U<|z8 (qe (c:=.str _) Yk U)<|bd U<|ak jr U Zp U U<|ac Xk Zp U U<|z8 (zz (cps:=[(0,[_]),(2,[_]),(3,[_,_,_,_])]) (rs:=[_,.n,_,_,_,_,_]) Ly U U U)<|zu (cs:=[.e,.n,.n,.int .i64 0,.int .i64 0,.int .i64 0,.int .i64 0]) Zh U U<|fun i22=>zj Z2 U U U U U U .head U<|z2<|zb<|ae<|ak jr U Zp U U<|ak jj U Y4 U U<|aA Yi U<|aO U U<|z2<|yb (γ:=Int) [1,2,3,4,5,7,22,51,52,53] (fun u=>[]) (fun u=>[(i22,.cells 59 [.str old.name,.n,.fro 4 (p.2.map bq),.int .i64 old.term.kind,.int .i64 u,.int .i64 old.term.to0,.int .i64 old.term.to1]),(i45,.cells 73 [.fro 2 (f.vars.map bF),.fro 1 (f.params.map bO),.fro 7 (f.blocks.map bD),.own jv p.1.vars.length,.fro 1 (f.params.map bO),.own i42 f.blocks.length,.own jn p.1.now.length,.int .i64 p.1.k]),(jv,.grow 2 48 (p.1.vars.map bF).flatten),(jn,.grow 1 3 (cI p.1.now)),(i42,.grow 7 59 (W.blks.map iK).flatten),(i49,.grow 1 23 (W.ends.map iL).flatten),(i2,.cells 26 [.n,.n,.n])]) (fun u=>u=(fy p.1 old.term).var) ?_ (fun _ _ h=>h) ?_
      ·refine zw U (fun ct=>?_) (fun ct=>?_)
       ·have ct:¬old.term.kind=0:=by simpa using ct
        obtain ⟨t0,t1⟩:=hR.inf.term old hbm ct
        refine zr (fun j=>Nat.beq j 11) (by kernel_rfl) U (zo (.l (.r (.l (.r (.rest _))))))<|ai 0 U (dR U)<|ai 1 U (zy U)<|ai 2 U (zh Zj U jh (by decide) U U)<|ai 3 U (zq (c:=.own _ _) jx U ⟨_,.head⟩ U)<|ai 4 U (db jr U Zp U U)<|ai 5 U (db jj U j9 U U)<|ai 6 U (dQ jg U)<|ai 7 U (yd (j:=old.term.var.toNat) j7 j9 U U (by omega) ⟨_,.t1⟩ (aF _) (by omega))<|ai 8 U (yw (j:=old.term.var.toNat) jg U ⟨_,.t1⟩ (zU t0 (by omega)))<|yv (i:=9) U (by kernel_rfl) (by kernel_rfl) (by kernel_rfl) (by kernel_rfl) (zh jr U Zp (by decide) U U)<|ai 10 U (zh jj U j9 (by decide) U U)<|yc<|yk (i:=11) U (by kernel_rfl) (by kernel_rfl)<|yn (l:=[_]) (new:=[_,_,_,_,_,_,_]) j9 U U U U U U .t2 U U<|zd (za (zc .t6))<|zd (za (zc .t6))<|zd (za (zc .t6))<|zd (za (zc .t4))<|zd (za (zc .t6))<|zd (za (zc .t5))<|zd (za (zc .t6))<|z2<|yf (by kernel_rfl) ?_
        exact ⟨_,(by repeat (first|with_reducible exact yh _ _|refine yu rfl ?_|exact iS)),trivial,aE,(by unfold fy;rw[if_neg ct])⟩
       ·have ct:old.term.kind=0:=by simpa using ct
        refine zf ?_
        exact ⟨_,(by repeat (first|with_reducible exact yh _ _|refine yu rfl ?_|exact iS)),trivial,aE,(by unfold fy;rw[if_pos ct])⟩
      ·rintro u hu
       subst hu
       have hWs:=G1 (l:=W.blks) (b:=b) (by omega) ⟨old.name,[],p.2,fy p.1 old.term⟩
       rw[show iK ⟨old.name,[],p.2,fy p.1 old.term⟩=[.str old.name,.n,.fro 4 (p.2.map bq),.int .i64 old.term.kind,.int .i64 (fy p.1 old.term).var,.int .i64 old.term.to0,.int .i64 old.term.to1] by unfold iK fy;split<;>rfl] at hWs
       refine zb<|zr (fun j=>Nat.beq j 8) (by kernel_rfl) U (zo (.r (.r (.rest _))))<|ai 0 U (dR U)<|ai 1 U (zy U)<|ai 2 U (zh Zj U ji (by decide) U U)<|ai 3 U (zh je U Zd (by decide) U U)<|ai 4 U (zq (c:=.own _ _) Zf U ⟨_,.t1⟩ U)<|ai 5 U (dx U)<|ai 6 U (qu Yc Z2 U ⟨_,.head⟩ U)<|aN 7 U<|z8 (Gv.idxO (j:=b) ju Z2 U U U ⟨_,.t2⟩ (fun h=>by have:=zT W.blks;rw[h] at this;simp at this;omega) (by omega))<|z2<|yc<|yk (i:=8) U (by kernel_rfl) (by kernel_rfl)<|ay.storeG (l:=[_,_,_,_,_,_,_]) (new:=((W.blks.set b ⟨old.name,[],p.2,fy p.1 old.term⟩).map iK).flatten) Z2 U U U U U U .t4 (by rw[zT];show b*7+7≤_;omega) (by decide) hWs<|z2<|yf (by kernel_rfl) ?_
       have hNs:=G2 (l:=W.ends) (b:=b) (by omega) p.1.now
       refine y7 (aR.knowIC (off:=6) .t3 .t1 U U)<|aW<|bL U<|aa U<|bb U<|ax U<|z8 (zh Zj U jh (by decide) U U)<|z8 (zq (c:=.fro _ _) jx U ⟨_,.t1⟩ U)<|z8 (Gv.idxO (j:=b) jy jh U U U ⟨_,.t4⟩ (fun h=>by have:=ov W.ends;rw[h] at this;simp at this;omega) (by omega))<|ay.storeGN (new:=((W.ends.set b p.1.now).map iL).flatten) jh U U U U U .t4 (by rw[ov];show b*1<_;omega) hNs<|z2<|y7 (qf .head)<|aW<|aC U U<|aa U<|z2 ?_
       exact ⟨(m+1,jv,.fro 1 (p.1.now.map fun x=>[.int .i64 x])),lg,aL,⟨_,(.refl _),(by dsimp only;rw[hsu,hwe];rfl)⟩,hm2,by dsimp only;omega⟩
  ·obtain rfl:m=(jF f).length:=by simp at cm;omega
   have hwo:=qI hR
   have hwb:=Kw hR hv hn hi (Nat.le_refl (jF f).length)
   have her:=fun b h=>IM hR (b:=b) h
   have hig:=ol hR
   have hib:(fu f).blocks.length=f.blocks.length:=by
    show ((f.blocks.zip _).map _).length=_
    rw[w6,List.length_zip,hwo.bl,Nat.min_self]
   have hiv:(fu f).vars=(gl f).vars:=rfl
   have hip:(fu f).params=f.params:=rfl
   rw[vV] at hwb
   rw[vV]
   obtain ⟨W,hW⟩:∃W,gl f=W:=⟨_,rfl⟩
   rw[hW] at hwo hwb her hig hiv
   rw[hW]
   have hel:=hwo.el
   have hbl:=hwo.bl
   refine y7 (aR.know (t:=5) (rows:=W.ends.map iL) U .t3 (by intro r hr;obtain ⟨z,_,rfl⟩:=List.mem_map.1 hr;rfl) (by decide) (by rw[w6];exact hel))<|y4<|zb<|ae<|ak je U Zd U U<|aI Zf U<|aj ju U<|aa U<|z2<|zi<|y5 (γ:=Nat) [2,4,5,248,249] (fun k=>[(250,.i k)]) (fun k=>[(i45,.cells 73 [.fro 2 (f.vars.map bF),.fro 1 (f.params.map bO),.fro 7 (f.blocks.map bD),.own jv W.vars.length,.fro 1 (f.params.map bO),.own i42 f.blocks.length,av,.int .i64 W.k]),(jv,.grow 2 48 (W.vars.map bF).flatten),(i42,.grow 7 59 (ow f W.blks k).flatten),(i2,.cells 26 [.n,.n,.n])]) (fun k=>k≤f.blocks.length) (fun k=>f.blocks.length - k) 0 aL aE (w2 _) ?_
   rintro k hk
   refine ae<|ap U U<|z2<|zb<|zn U (fun cb=>?_) (fun cb=>?_)
   ·have hk2:k<f.blocks.length:=by simp at cb;omega
    obtain ⟨b,hb⟩:∃b,f.blocks[k]?=some b:=⟨_,qx hk2⟩
    obtain ⟨c,hc⟩:∃c,W.blks[k]?=some c:=⟨_,qx (by omega)⟩
    have hbm:=w9 hb
    have hpb:=(hf.2.2.2.2 b hbm).2.1
    have hgk:(fu f).blocks[k]?=some { c with phis:=b.phis.map (mc W.ends) }:=by rw[hig,hb,hc];rfl
    obtain ⟨P,hP⟩:∃P,(((fu f).blocks.take k).map bD).flatten=P:=⟨_,rfl⟩
    obtain ⟨Z,hZ⟩:∃Z,((W.blks.drop (k+1)).map iK).flatten=Z:=⟨_,rfl⟩
    have hPl:P.length=k*7:=by rw[←hP,d6 (k:=7) (fun _=>rfl),wd];omega
    have hcell:(ow f W.blks k).flatten=P++(([.str c.name,.n,.fro 4 (c.insts.map bq),.int .i64 c.term.kind,.int .i64 c.term.var,.int .i64 c.term.to0,.int .i64 c.term.to1]:List AV)++Z):=by
     rw[←hP,←hZ];exact G4 hc
    have hlen:∀r:List AV,r.length=7→(P++(r++Z)).length=f.blocks.length*7:=fun r hr=>by
     rw[←hZ,w5,w5,hPl,hr,d6 (k:=7) (fun _=>rfl),List.length_drop];omega
    have hne:∀r:List AV,r.length=7→P++(r++Z)≠[]:=fun r hr h=>by
     have h2:=hlen r hr
     rw[h,List.length_nil] at h2
     omega
    have hnext:∀r,r=bD { c with phis:=b.phis.map (mc W.ends) }→P++(r++Z)=(ow f W.blks (k+1)).flatten:=fun r hr=>by
     rw[hr,←hP,←hZ];exact (G5 hgk).symm
    rw[hcell]
    refine zf<|zb<|zi<|ae<|aa U<|z8 (bB k ju Z2 U U U hb)<|ac Yc Z2 U U<|zu (cs:=[.e,.n,.n,.int .i64 0,.int .i64 0,.int .i64 0,.int .i64 0]) Zh U U<|fun i24=>am U<|zj Z2 U U U U U U .head U<|zd (y8 (t:=24) U .head)<|z2<|ae<|ak jr U Zv U U<|aI Yd U<|aj Z8 U<|aa U<|z2<|D3 (off:=k*7+1) (k:=3) (T:=83) (fun _=>.tail .t1) (fun _=>GG hPl 1 _) (LN hPl 1)<|fun ip=>zi<|y5 (γ:=Nat × Nat) [2,4,5,23,248,249,250,256,257] (fun g=>[(258,.i g.1)]) (fun g=>[(g.2,.grow 3 83 (((b.phis.map (mc W.ends)).take g.1).map dA).flatten),(i45,.cells 73 [.fro 2 (f.vars.map bF),.fro 1 (f.params.map bO),.fro 7 (f.blocks.map bD),.own jv W.vars.length,.fro 1 (f.params.map bO),.own i42 f.blocks.length,av,.int .i64 W.k]),(jv,.grow 2 48 (W.vars.map bF).flatten),(i42,.grow 7 59 (P++(([.str c.name,.own g.2 g.1,.fro 4 (c.insts.map bq),.int .i64 c.term.kind,.int .i64 c.term.var,.int .i64 c.term.to0,.int .i64 c.term.to1]:List AV)++Z))),(i2,.cells 26 [.n,.n,.n])]) (fun g=>g.1≤b.phis.length) (fun g=>b.phis.length - g.1) (0,ip) aL aE (w2 _) ?_
    rintro ⟨j,ip⟩ hj
    try dsimp only at *
    refine ae<|ap U U<|z2<|zb<|zn U (fun cj=>?_) (fun cj=>?_)
    ·have hj2:j<b.phis.length:=by simp at cj;omega
     obtain ⟨ph,hph⟩:∃ph,b.phis[j]?=some ph:=⟨_,qx hj2⟩
     have hphm:=w9 hph
     obtain ⟨-,hpl,-,hpa,hpf⟩:=hR.run.phis b hbm ph hphm
     have hal:=((hf.2.2.2.2 b hbm).2.2.2.1 ph hphm).1
     have htk:(b.phis.map (mc W.ends)).take (j+1)=(b.phis.map (mc W.ends)).take j++[mc W.ends ph]:=by rw[List.take_add_one,w7,hph];rfl
     obtain ⟨A,hA⟩:∃A,(mc W.ends ph).args=A:=⟨_,rfl⟩
     have hAl:A.length=ph.args.length:=by rw[←hA];show ((ph.args.zip ph.from_).map _).length=_;rw[w6,List.length_zip,hpl,Nat.min_self]
     have hAg:∀(q:Nat) (a fr:Int),ph.args[q]?=some a→ph.from_[q]?=some fr→A[q]?=some (vi (fU W.ends fr) a):=fun q a fr h1 h2=>by
      rw[←hA]
      show ((ph.args.zip ph.from_).map _)[q]?=_
      rw[w7,show (ph.args.zip ph.from_)[q]?=some (a,fr) from List.getElem?_zip_eq_some.2 ⟨h1,h2⟩];rfl
     refine zf<|zb<|zi<|ae<|z8 (bB j Z8 Ze U U U hph)<|ac Ys Ze U U<|zu (cs:=[.int .i64 0,.n,.n]) Y1 U U<|fun i26=>zj Ze U U U U U U .head U<|zd (y8 (t:=26) U .head)<|z2<|ae<|ak Z4 U j9 U U<|aA jg U<|ak Z4 U jh U U<|aI jx U<|z8 (zz (cps:=[(0,[_]),(2,[_])]) (rs:=[_,.n,_]) MA U U U)<|zu (cs:=[.int .i64 0,.n,.n]) Y1 U U<|fun i27=>zj Ze U U U U U U .head U<|z2<|fW (off:=1) (k:=1) (T:=3) (fun _=>.head) U<|fun jq=>zb<|ae<|ak Z4 U jh U U<|aI jx U<|aj j7 U<|aa U<|z2<|y7 (za (zc .t1))<|zi<|y5 (γ:=Nat × Nat) [2,4,5,23,26,27,248,249,250,256,257,258,268,269] (fun g=>[(270,.i g.1)]) (fun g=>[(i27,.cells 83 [.int .i64 ph.dst,.own g.2 g.1,.fro 1 (ph.from_.map bO)]),(g.2,.grow 1 3 (cI (A.take g.1))),(ip,.grow 3 83 (((b.phis.map (mc W.ends)).take j).map dA).flatten),(i45,.cells 73 [.fro 2 (f.vars.map bF),.fro 1 (f.params.map bO),.fro 7 (f.blocks.map bD),.own jv W.vars.length,.fro 1 (f.params.map bO),.own i42 f.blocks.length,av,.int .i64 W.k]),(jv,.grow 2 48 (W.vars.map bF).flatten),(i42,.grow 7 59 (P++(([.str c.name,.own ip j,.fro 4 (c.insts.map bq),.int .i64 c.term.kind,.int .i64 c.term.var,.int .i64 c.term.to0,.int .i64 c.term.to1]:List AV)++Z))),(i2,.cells 26 [.n,.n,.n])]) (fun g=>g.1≤ph.args.length) (fun g=>ph.args.length - g.1) (0,jq) aL aE (w2 _) ?_
     rintro ⟨q,jq⟩ hq
     try dsimp only at *
     refine ae<|ap U U<|z2<|zb<|zn U (fun cq=>?_) (fun cq=>?_)
     ·have hq2:q<ph.args.length:=by simp at cq;omega
      obtain ⟨a,ha⟩:∃a,ph.args[q]?=some a:=⟨_,qx hq2⟩
      obtain ⟨fr,hfr⟩:∃fr,ph.from_[q]?=some fr:=⟨_,qx (by omega)⟩
      obtain ⟨a1,a0⟩:=bN (List.all_eq_true.1 hpa a (w9 ha))
      obtain ⟨f0,f1⟩:=G3 (List.all_eq_true.1 hpf fr (w9 hfr))
      obtain ⟨hr1,hr2⟩:=her fr ⟨f0,f1⟩
      have hAq:=hAg q a fr ha hfr
      have hva:=zU (l:=fU W.ends fr) a0 (by omega)
      have htq:A.take (q+1)=A.take q++[vi (fU W.ends fr) a]:=by rw[List.take_add_one,hAq];rfl
      refine zf<|zb<|zi<|ae<|aa U<|z8 (bB q j7 j9 U U U ha)<|aA jg U<|am U<|am U<|z2<|zr (fun j=>Nat.beq j 16) (by kernel_rfl) U (zo (.r (.l (.l (.r (.rest _))))))<|ai 0 U (zh Z4 U jh (by decide) U U)<|ai 1 U (zq (c:=.own _ _) jx U ⟨_,.head⟩ U)<|ai 2 U (vZ U)<|ai 3 U (db Z4 U jh U U)<|ai 4 U (gd jx U)<|ai 5 U (dx U)<|ai 6 U (bB q j7 j9 U U U hfr)<|ai 7 U (dQ jg U)<|ai 8 U (Gv.idxF (j:=fr.toNat) jy jh U U (by omega) (show (W.ends.map iL)[fr.toNat]?=some (iL (fU W.ends fr)) by rw[w7,hr1];rfl))<|ai 9 U (gd jx U)<|ai 10 U (dx U)<|ai 11 U (bB a.toNat j7 j9 U U (by omega) hva)<|ai 12 U (dQ jg U)<|aN 13 U<|zx (rows:=[[_]]) cA U U U U U<|z2<|aN 14 U<|yg (k:=1) j7 Y5 U U U U U (fun _=>.head) (by rw[aF,wd];omega) (by decide) U (by show (_+1)*8≤_;omega) (by show _+1≤_;omega)<|fun i289=>z2<|ai 15 U (zh Z4 U jh (by decide) U U)<|yc<|yk (i:=16) U (by kernel_rfl) (by kernel_rfl)<|yn (l:=[_]) (new:=[_,_,_]) jh U U U U U U .head U U<|zd (za (zc .t6))<|zd (za (zc .t6))<|zd (za (zc .t6))<|zd (za (zc .t4))<|zd (za (zc .t6))<|zd (za (zc .t6)) ?_
      refine zd (za (zc .t6))<|z2<|yf (by kernel_rfl)<|aW<|aC U U<|aa U<|z2 ?_
      exact ⟨(q+1,i289),⟨rfl,rfl,rfl,rfl,rfl,rfl,rfl,rfl,rfl,rfl,rfl,rfl,rfl,rfl,trivial⟩,aL,⟨_,(.refl _),(by dsimp only;rw[htq,←kK];rfl)⟩,hq2,by dsimp only;omega⟩
     ·obtain rfl:q=ph.args.length:=by simp at cq;omega
      rw[show A.take ph.args.length=A from List.take_of_length_le (by omega)]
      refine y7 (aR.knowIC (off:=1) .t1 .head U hAl)<|y4<|yb (γ:=Nat) [2,4,5,23,248,249,250,256,257,258] (fun u=>[]) (fun u=>[(i27,.cells 83 [.int .i64 ph.dst,.fro 1 (A.map bO),.fro 1 (ph.from_.map bO)]),(u,.grow 3 83 (((b.phis.map (mc W.ends)).take (j+1)).map dA).flatten),(i45,.cells 73 [.fro 2 (f.vars.map bF),.fro 1 (f.params.map bO),.fro 7 (f.blocks.map bD),.own jv W.vars.length,.fro 1 (f.params.map bO),.own i42 f.blocks.length,av,.int .i64 W.k]),(jv,.grow 2 48 (W.vars.map bF).flatten),(i42,.grow 7 59 (P++(([.str c.name,.own u (j+1),.fro 4 (c.insts.map bq),.int .i64 c.term.kind,.int .i64 c.term.var,.int .i64 c.term.to0,.int .i64 c.term.to1]:List AV)++Z))),(i2,.cells 26 [.n,.n,.n])]) (fun u=>True) ?_ (fun _ _ h=>h) ?_
      ·refine zr (fun j=>Nat.beq j 20) (by kernel_rfl) U (zo (.r (.l (.r (.rest _)))))<|ai 0 U (dR U)<|ai 1 U (zy U)<|ai 2 U (zh Zj U ji (by decide) U U)<|ai 3 U (zh je U Zd (by decide) U U)<|ai 4 U (zq (c:=.own _ _) Zf U ⟨_,.t1⟩ U)<|ai 5 U (dx U)<|ai 6 U (dR U)<|ai 7 U (zy U)<|ai 8 U (zh Zj U ji (by decide) U U)<|ai 9 U (zh je U Zd (by decide) U U)<|ai 10 U (zq (c:=.own _ _) Zf U ⟨_,.t1⟩ U)<|ai 11 U (dx U)<|ai 15 U (qu Ys Ze U ⟨_,.head⟩ U)<|yj (i:=12) (j:=16) U U (by kernel_rfl) ?_ ?_
       ·refine z8 (Gv.idxO (j:=k) ju Z2 U U U ⟨_,.t2⟩ (hne _ U) (by omega))<|z2<|ai 13 U (zh jr U Zv (by decide) U U)<|yj (i:=14) (j:=16) U U (by kernel_rfl) ?_ ?_
        ·refine z8 (qv (c:=_) Yd U ⟨_,.t2⟩ (GF hPl 1))<|z2<|aN 16 U<|zx (rows:=[[_,_,_]]) BB U U U U U<|z2<|aN 17 U<|yg (k:=3) Z8 type83 U U U U U (fun _=>.head) (by rw[d6 (k:=3) (fun _=>rfl),wd,w6];omega) (by decide) U (by show (_+1)*56≤_;omega) (by show _+1≤_;omega)<|fun i309=>z2<|aN 18 U<|z8 (Gv.idxO (j:=k) ju Z2 U U U ⟨_,.t2⟩ (hne _ U) (by omega))<|z2<|ai 19 U (zh jr U Zv (by decide) U U)<|yc<|yk (i:=20) U (by kernel_rfl) (by kernel_rfl)<|ay.storeGN (new:=P++(([.str c.name,.own i309 (j+1),.fro 4 (c.insts.map bq),.int .i64 c.term.kind,.int .i64 c.term.var,.int .i64 c.term.to0,.int .i64 c.term.to1]:List AV)++Z)) Zv U U U U U .t4 (by rw[hlen [_,_,_,_,_,_,_] rfl];show k*7+1<_;omega) (GG hPl 1 _)<|zd (za (zc .t5))<|zd (za (zc .t5))<|zd (za (zc .t5))<|zd (za (zc .t4))<|zd (za (zc .t5))<|zd (za (zc .t5))<|z2<|yf (by kernel_rfl) ?_
         exact ⟨i309,(by repeat (first|with_reducible exact yh _ _|refine yu rfl ?_|exact iS)),trivial,⟨_,(.refl _),(by rw[htk,←eS (enc:=dA) rfl,←hA];rfl)⟩,trivial⟩
        ·refine zx (rows:=[[_,_,_]]) BB U U U U U<|z2<|aN 14 U<|z8 (qv (c:=_) Yd U ⟨_,.t2⟩ (GF hPl 1))<|z2<|aN 17 U<|yg (k:=3) Z8 type83 U U U U U (fun _=>.head) (by rw[d6 (k:=3) (fun _=>rfl),wd,w6];omega) (by decide) U (by show (_+1)*56≤_;omega) (by show _+1≤_;omega)<|fun i309=>z2<|aN 18 U<|z8 (Gv.idxO (j:=k) ju Z2 U U U ⟨_,.t2⟩ (hne _ U) (by omega))<|z2<|ai 19 U (zh jr U Zv (by decide) U U)<|yc<|yk (i:=20) U (by kernel_rfl) (by kernel_rfl)<|ay.storeGN (new:=P++(([.str c.name,.own i309 (j+1),.fro 4 (c.insts.map bq),.int .i64 c.term.kind,.int .i64 c.term.var,.int .i64 c.term.to0,.int .i64 c.term.to1]:List AV)++Z)) Zv U U U U U .t4 (by rw[hlen [_,_,_,_,_,_,_] rfl];show k*7+1<_;omega) (GG hPl 1 _)<|zd (za (zc .t5))<|zd (za (zc .t5))<|zd (za (zc .t5))<|zd (za (zc .t4))<|zd (za (zc .t5))<|zd (za (zc .t5))<|z2<|yf (by kernel_rfl) ?_
         exact ⟨i309,(by repeat (first|with_reducible exact yh _ _|refine yu rfl ?_|exact iS)),trivial,⟨_,(.refl _),(by rw[htk,←eS (enc:=dA) rfl,←hA];rfl)⟩,trivial⟩
       ·refine zx (rows:=[[_,_,_]]) BB U U U U U<|z2<|aN 12 U<|z8 (Gv.idxO (j:=k) ju Z2 U U U ⟨_,.t2⟩ (hne _ U) (by omega))<|z2<|ai 13 U (zh jr U Zv (by decide) U U)<|aN 14 U<|z8 (qv (c:=_) Yd U ⟨_,.t2⟩ (GF hPl 1))<|z2<|aN 17 U<|yg (k:=3) Z8 type83 U U U U U (fun _=>.head) (by rw[d6 (k:=3) (fun _=>rfl),wd,w6];omega) (by decide) U (by show (_+1)*56≤_;omega) (by show _+1≤_;omega)<|fun i309=>z2<|aN 18 U<|z8 (Gv.idxO (j:=k) ju Z2 U U U ⟨_,.t2⟩ (hne _ U) (by omega))<|z2<|ai 19 U (zh jr U Zv (by decide) U U)<|yc<|yk (i:=20) U (by kernel_rfl) (by kernel_rfl)<|ay.storeGN (new:=P++(([.str c.name,.own i309 (j+1),.fro 4 (c.insts.map bq),.int .i64 c.term.kind,.int .i64 c.term.var,.int .i64 c.term.to0,.int .i64 c.term.to1]:List AV)++Z)) Zv U U U U U .t4 (by rw[hlen [_,_,_,_,_,_,_] rfl];show k*7+1<_;omega) (GG hPl 1 _)<|zd (za (zc .t5))<|zd (za (zc .t5))<|zd (za (zc .t5))<|zd (za (zc .t4))<|zd (za (zc .t5))<|zd (za (zc .t5))<|z2<|yf (by kernel_rfl) ?_
        exact ⟨i309,(by repeat (first|with_reducible exact yh _ _|refine yu rfl ?_|exact iS)),trivial,⟨_,(.refl _),(by rw[htk,←eS (enc:=dA) rfl,←hA];rfl)⟩,trivial⟩
      ·rintro ip _
       refine y7 (qf .head)<|aW<|aC U U<|aa U<|z2 ?_
       exact ⟨(j+1,ip),pI,aL,aE,hj2,by dsimp only;omega⟩
    ·obtain rfl:j=b.phis.length:=by simp at cj;omega
     rw[List.take_of_length_le (by rw[w6];exact Nat.le_refl _)]
     refine y7 (aR.knowG (j:=i42) (off:=k*7+1) (rows:=(b.phis.map (mc W.ends)).map dA) .head .t2 (LN hPl 1) (GG hPl 1 _) (fun r hr=>by obtain ⟨z,_,rfl⟩:=List.mem_map.1 hr;rfl) (by decide) (by rw[w6,w6]))<|y4<|aW<|aC U U<|aa U<|z2 ?_
     exact ⟨k+1,mI,aL,⟨_,(.refl _),(by rw[←hnext _ rfl];rfl)⟩,hk2,by omega⟩
   ·obtain rfl:k=f.blocks.length:=by simp at cb;omega
    have hall:ow f W.blks f.blocks.length=(fu f).blocks.map bD:=by
     unfold ow
     rw[List.take_of_length_le (by omega),List.drop_of_length_le (by omega)];simp
    rw[hall]
    refine y7 (aR.knowC (off:=3) (rows:=W.vars.map bF) .t1 .head U (by intro r hr;obtain ⟨z,_,rfl⟩:=List.mem_map.1 hr;rfl) (by decide) (by rw[w6]))<|y7 (aR.knowC (off:=5) (rows:=(fu f).blocks.map bD) .t1 .head U (by intro r hr;obtain ⟨z,_,rfl⟩:=List.mem_map.1 hr;rfl) (by decide) (by rw[w6];exact hib))<|y4<|ae<|bb U<|ax U<|z8 (zh Zj U ji (by decide) U U)<|z8 (yo (l:=[_,_,_]) Z0 ji U ⟨_,.head⟩ U U)<|zj ji U U U U U U .t1 U<|z2<|zg<|ym U ⟨_,.t1⟩ Z0 ji U ?_
    unfold bw;rw[hiv,hip];rfl
end
section
open Go.Proofs.Tryz
def kD (P:Program) (E:World) (l:List Oper) (Q:aT→OL→Prop) (fuel:Nat) (listed:Array Bool) (env:aT) (R Om:OL):Prop:=
 ∀I F ρ w Lr,eW I env ρ→cD I R Lr→iB I Om (Lr++F) E w→cV P l.toArray (eD I.k Lr E) (eD I.k Lr E) (fun _=>false) (lc I F E Q) fuel listed ρ w
section
variable {E:World} {P:Program} {n:Nat} {l:List Oper} {Q:aT→OL→Prop} {fuel:Nat} {listed:Array Bool} {env:aT} {O R Om:OL}
variable {d ty:Nat} {op:Op} {pos:String} {af:Array Edge}
theorem dV.regionDrawR {Q:Exit→aT→OL→Prop} {id:Nat} (hm:P.follows .mixedOrders=true) (hd:ic n l=true) (hO:O.Perm (Om++R)) (h:kD P E l (Q .normal) l.length (Array.replicate l.length false) env R Om):dV P E n (.region id l.toArray true) Q env O:=fun I F ρ w h1 h2=>by
 obtain ⟨Lr,hLr,h3⟩:=h2.split hO
 refine WP.regionDraw (eD I.k Lr E) (eD I.k Lr E) (fun _=>false) hm hd fun w' hw=>?_
 subst hw
 refine h I F ρ _ Lr h1 hLr ?_
 obtain ⟨ht,L,hL,hS⟩:=h3
 exact ⟨ht,L,hL,hS.drew⟩
theorem kD.takeK {i:Nat} {x:AV} (hi:l[i]?=some (Oper.mk (some d) op ty pos af none)) (hs:Region.noSelect l.toArray=true) (hf:Region.free .any l.toArray listed i=true)
  (hr:(Region.ready .any l.toArray listed).contains i=true) (hg:Gv P env R (Oper.mk (some d) op ty pos af none) x)
  (h:kD P E l Q fuel (listed.setIfInBounds i true) (bz env d x) R Om):kD P E l Q (fuel+1) listed env R Om:=fun I F ρ w Lr h1 hLr h2=>by
 obtain ⟨v,hv,hrun⟩:=hg I Lr E ρ h1 hLr
 exact cV.takeK hi hs hf hr rfl h2.here (.inr h2.here) (fun w ⟨J,L',a,b,c⟩=>hrun w J L' a b c) (h I F _ w Lr (h1.upd d hv) hLr h2)
theorem kD.one {i:Nat} {o:Oper} (hi:l[i]?=some o) (hr:Region.ready .any l.toArray listed=[i])
  (h:ay P E l.toArray (fun env' Om'=>kD P E l Q fuel (listed.setIfInBounds i true) env' R Om') [o] env Om):kD P E l Q (fuel+1) listed env R Om:=fun I F ρ w Lr h1 hLr h2=>
 cV.one hi hr (qa (fun ρ' w' ⟨J,env',Om',a,b,c,d⟩=>by
  have hst:eD I.k Lr E w':=by
   obtain ⟨J',L',h3,h4,h5⟩:=c.here
   exact ⟨J',L',a.k.trans h3,h4,h5⟩
  refine ⟨⟨hst,.inr hst⟩,cV.mono ?_ ?_ (fun _ _=>qb a) _ _ _ _ (d J F ρ' w' Lr b (hLr.mono a) c)⟩
  ·rintro w ⟨J',L',h3,h4⟩;exact ⟨J',L',a.k.trans h3,h4⟩
  ·rintro w ⟨J',L',h3,h4⟩;exact ⟨J',L',a.k.trans h3,h4⟩) _ _ _ (h I (Lr++F) ρ w h1 h2))
theorem kD.done (hr:Region.ready .any l.toArray listed=[]) (h:Q env (R++Om)):kD P E l Q fuel listed env R Om:=fun I F ρ w Lr h1 hLr h2=>
 cV.done hr ⟨I,env,R++Om,.refl _,h1,iB.together hLr h2,h⟩
end
set_option linter.defProp false
def ya:=@kD.takeK
def qw:=@kD.one
end
end Go.Proofs.YtbbonnfjealmpaaGreatDoor
