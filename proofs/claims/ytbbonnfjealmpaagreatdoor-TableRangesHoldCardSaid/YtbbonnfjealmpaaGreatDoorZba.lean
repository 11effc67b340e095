/- A step of the document's machine, how it begins, and runs. Of programs as they are run. -/
import Derived.Test.YtbbonnfjealmpaaGreatDoorZc
import Derived.Test.YtbbonnfjealmpaaGreatDoorZz
set_option linter.unusedVariables false
set_option linter.unusedSimpArgs false
set_option linter.unusedSectionVars false
namespace Go.Proofs.YtbbonnfjealmpaaGreatDoor
section
open Go.Proofs.Tryz
section
variable {E:World} {P:Program} {ops:Array Oper} {K:aT→OL→Prop} {env:aT} {O O':OL} {rest:List Oper}
variable {d ty:Nat} {pos:String} {af:Array Edge} {x y z:Operand} {t u e:TypeId}
theorem ay.appendO {ti:TypeInfo} {zv:Value} {k n m i j:Nat} {T2:TypeId} {cs ds:List AV} {f:Nat→OL} (ht:P.underlying t=some (.slice e)) (hi:P.info? e=some ti) (hz:ti.zero=some zv) (hk:ti.size=k) (hzc:zv.cells.size=k)
  (hx:bc env x=.own i n) (hy:bc env y=.own j m) (hO:∀i',p5 O i (.grow k e cs) i' (.grow k e (cs++ds)) (f i')) (hj:tj O j (.grow k T2 ds)) (hn:cs.length=n*k) (hm:ds.length=m*k) (hne:ds≠[]) (hk0:0<k) (hc1:ds.all AV.cell=true) (hb:(n+m)*ti.bytes≤140737488355328) (hb2:n+m≤140737488355328)
  (kk:∀i',ay P E ops K rest (bz env d (.own i' (n+m))) (f i')) :
  ay P E ops K (Oper.mk (some d) (.call { callee:=.builtin .append,args:=#[x,y],argTypes:=#[t,t] }) ty pos af none::rest) env O:=fun I F ρ w h1 h2=>by
 obtain ⟨htop,L,hL,hS⟩:=id h2
 have h3:=h1.ev x
 rw[hx] at h3
 obtain ⟨b,cap,e1,ex⟩:=h3
 have h4:=h1.ev y
 rw[hy] at h4
 obtain ⟨b4,c4,e4,ey⟩:=h4
 obtain ⟨b2,c2,us2,junk,e5,hus2,hmem⟩:=hj.grow hL hne
 rw[e4] at e5
 simp only[Option.some.injEq,Prod.mk.injEq] at e5
 obtain ⟨rfl,rfl⟩:=e5
 obtain ⟨j',hj'⟩:=h2.name
 obtain ⟨A,B,hp,⟨b',cap',n',us,e2,hus,huc,hown⟩,hback⟩:=(hO j').rep hL
 simp only at e2
 rw[e1] at e2
 simp only[Option.some.injEq,Prod.mk.injEq] at e2
 obtain ⟨rfl,rfl⟩:=e2
 have hnn:n'=n:=by
  have h5:=hown.1
  have h6:=hus.length
  have:n'*k=n*k:=by omega
  exact Nat.eq_of_mul_eq_mul_right hk0 this
 subst hnn
 have hS2:SL I.k (A++(B++F)) E w:=hS.perm (by rw[←qz];exact (hp.append_right F).symm)
 have hmem2:(b2,Obj.cells (us2++junk).toArray T2 (0,0))∈A++(B++F):=by rw[←qz];exact List.mem_append_left _ (hp.mem_iff.1 hmem)
 have hsrc:KR I.k (A++(B++F)) k (some ⟨b2,0,none⟩) m us2:=⟨by rw[hus2.length,hm],hus2.cell1 hc1,.inr ⟨_,rfl,fun q u hq=>⟨b2,0,rfl,.inr ⟨_,_,_,hmem2,by
  rw[Nat.zero_add,List.getElem?_toArray,List.getElem?_append_left (List.getElem?_eq_some_iff.1 hq).1];exact hq⟩⟩⟩⟩
 refine bY.append ht hi hz hk hzc ex ey hS2 hown hsrc hb hb2 fun a' c' A' w' h5 h6 h7=>?_
 have hb':∃b'',a'=adr b'':=by
  rcases h5.2.2 with ⟨e,_⟩|⟨b'',junk,e,_⟩
  ·exact ⟨none,e⟩
  ·exact ⟨some b'',e⟩
 obtain ⟨b'',rfl⟩:=hb'
 obtain ⟨J,ek,hle,e3,htop'⟩:=hj' (b'',c')
 obtain ⟨L',h8,h9⟩:=hback hle (A':=A') ⟨b'',c',_,us++us2,e3,RepL.mono hle _ _ (hus.append hus2),(by
  intro u hu
  rcases List.mem_append.1 hu with hu|hu
  ·exact huc u hu
  ·exact hus2.cell1 hc1 u hu),h5⟩
 exact qa (fun _ _=>qb hle) _ _ _ (kk j' J F _ _ ((h1.mono hle).upd d ⟨b'',c',e3,rfl⟩) ⟨htop',L',h8,by rw[ek];exact h6.perm (by rw[←qz];exact h9.append_right F)⟩)
end
end
section
open Go.Proofs.Tryz
section
variable {E:World} {P:Program} {ops:Array Oper} {K:aT→OL→Prop} {env:aT} {O O':OL} {rest:List Oper}
variable {d ty:Nat} {pos:String} {af:Array Edge} {x y z:Operand} {t u e:TypeId}
theorem ay.appendOZ {ti:TypeInfo} {zv:Value} {k n m i j:Nat} {T2:TypeId} {cs ds:List AV} {f:Nat→OL} (ht:P.underlying t=some (.slice e)) (hi:P.info? e=some ti) (hz:ti.zero=some zv) (hk:ti.size=k) (hzc:zv.cells.size=k)
  (hx:bc env x=.own i n) (hy:bc env y=.own j m) (hO:∀i',p5 O i (.grow k e cs) i' (.grow k e (cs++ds)) (f i')) (hj:tj O j (.grow k T2 ds)) (hn:cs.length=n*k) (hm:ds.length=m*k) (hk0:0<k) (hc1:ds.all AV.cell=true) (hb:(n+m)*ti.bytes≤140737488355328) (hb2:n+m≤140737488355328)
  (kk:∀i',ay P E ops K rest (bz env d (.own i' (n+m))) (f i')) :
  ay P E ops K (Oper.mk (some d) (.call { callee:=.builtin .append,args:=#[x,y],argTypes:=#[t,t] }) ty pos af none::rest) env O:=by
 by_cases hne:ds=[]
 ·subst hne
  have hm0:m=0:=by
   have:m*k=0:=hm.symm
   rcases Nat.mul_eq_zero.1 this with h|h
   ·exact h
   ·omega
  subst hm0
  intro I F ρ w h1 h2
  obtain ⟨htop,L,hL,hS⟩:=id h2
  have h3:=h1.ev x
  rw[hx] at h3
  obtain ⟨b,cap,e1,ex⟩:=h3
  have h4:=h1.ev y
  rw[hy] at h4
  obtain ⟨b4,c4,e4,ey⟩:=h4
  obtain ⟨j',hj'⟩:=h2.name
  obtain ⟨A,B,hp,⟨b',cap',n',us,e2,hus,huc,hown⟩,hback⟩:=(hO j').rep hL
  simp only at e2
  rw[e1] at e2
  simp only[Option.some.injEq,Prod.mk.injEq] at e2
  obtain ⟨rfl,rfl⟩:=e2
  have hnn:n'=n:=by
   have h5:=hown.1
   have h6:=hus.length
   have:n'*k=n*k:=by omega
   exact Nat.eq_of_mul_eq_mul_right hk0 this
  subst hnn
  have hS2:SL I.k (A++(B++F)) E w:=hS.perm (by rw[←qz];exact (hp.append_right F).symm)
  have hsrc:KR I.k (A++(B++F)) k (adr b4) 0 []:=⟨by simp,by simp,by cases b4 with|none=>exact .inl ⟨rfl,rfl⟩|some b4=>exact .inr ⟨_,rfl,by simp⟩⟩
  refine bY.append ht hi hz hk hzc ex ey hS2 hown hsrc hb hb2 fun a' c' A' w' h5 h6 h7=>?_
  have hb':∃b'',a'=adr b'':=by
   rcases h5.2.2 with ⟨e,_⟩|⟨b'',junk,e,_⟩
   ·exact ⟨none,e⟩
   ·exact ⟨some b'',e⟩
  obtain ⟨b'',rfl⟩:=hb'
  obtain ⟨J,ek,hle,e3,htop'⟩:=hj' (b'',c')
  obtain ⟨L',h8,h9⟩:=hback hle (A':=A') ⟨b'',c',_,us++[],e3,RepL.mono hle _ _ (hus.append rfl),(by rw[wc];exact huc),h5⟩
  exact qa (fun _ _=>qb hle) _ _ _ (kk j' J F _ _ ((h1.mono hle).upd d ⟨b'',c',e3,rfl⟩) ⟨htop',L',h8,by rw[ek];exact h6.perm (by rw[←qz];exact h9.append_right F)⟩)
 ·exact ay.appendO ht hi hz hk hzc hx hy hO hj hn hm hne hk0 hc1 hb hb2 kk
end
end
section
open Go.Proofs.Tryz
open Go.Proofs Go.Lib Go.Shelf Go.RowKit
variable {E:World}
set_option maxRecDepth 20000
def wA (fr ar:List Int) (b:Int):Int:=((fr.zip ar).find? fun q=>decide (q.1=b)).elim (-1) (·.2)
theorem Eq {fr ar:List Int} {b:Int} {j:Nat} (h:j<fr.length) (h2:j<ar.length):wA (fr.drop j) (ar.drop j) b=if fr[j]=b then ar[j] else wA (fr.drop (j+1)) (ar.drop (j+1)) b:=by
 rw[List.drop_eq_getElem_cons h,List.drop_eq_getElem_cons h2]
 unfold wA
 rw[List.zip_cons_cons,List.find?_cons]
 by_cases e:fr[j]=b
 ·rw[if_pos e];simp[e]
 ·rw[if_neg e];simp[e]
def pJ (l:List cZ) (b:Int) (k:Nat):List Int:=(l.take k).map fun p=>da p b
theorem Er {l:List cZ} {b:Int} {k:Nat} (h:k<l.length):pJ l b k++[da l[k] b]=pJ l b (k+1):=by
 unfold pJ;rw[qy h,wb];rfl
theorem He {l:List cZ} {b:Int} {k:Nat} (h:k<l.length):(pJ l b l.length)[k]?=some (da l[k] b):=by
 unfold pJ;rw[w4,w7,qx h];rfl
theorem p6 {l:List cZ} {b:Int} {k:Nat} (h:k≤l.length):(pJ l b k).length=k:=by
 unfold pJ;rw[w6,wd];omega
def Eh (l:List cZ) (s:GS) (k:Nat):GS:=(l.take k).foldl (assign s) s
theorem Hf {l:List cZ} {s:GS} {k:Nat} (h:k<l.length):Eh l s (k+1)=assign s (Eh l s k) l[k]:=by
 unfold Eh;rw[qy h,List.foldl_append];rfl
theorem CJ (l:List cZ) (s:GS) (k:Nat):(Eh l s k).arrays=s.arrays:=by
 unfold Eh
 suffices h:∀(l:List cZ) (t:GS),(l.foldl (assign s) t).arrays=t.arrays from h _ s
 intro l
 induction l with
 |nil=>intro t;rfl
 |cons p l ih=>intro t;exact ih _
set_option maxHeartbeats 16000000 in
theorem lM (f:ab) (iw ja jb jc jo jt:Nat) (ids:List Nat) (s:GS) (dst_:Int) (hids:ids.length=s.arrays.length) (hg:bA f s) (hR:o6 f) (hv:f.vars.length≤1000) (hs:small f) (h0:0≤dst_) (h1:dst_<f.blocks.length):bn prog E 65 [.po iw 0,.int .i64 dst_] (wO f iw ja jb jc jo jt ids s) (fun y O=>ids.length=(fa f s dst_).arrays.length∧y=.tup []∧O=wO f iw ja jb jc jo jt ids (fa f s dst_)):=by
 have hB:=eO h0 h1
 have hBm:=w9 hB
 have hph:=hR.phis _ hBm
 have hsm:=(hs.2.2.2.2 _ hBm).2.1
 have hsp:=(hs.2.2.2.2 _ hBm).2.2.2.1
 obtain ⟨B,hBe⟩:∃B,aQ f dst_=B:=⟨_,rfl⟩
 have hgo:fa f s dst_=if B.phis.all (fun p=>decide (0≤da p s.blk))=true then goG (Eh B.phis s B.phis.length) dst_ else dO (goG s dst_) 2:=by unfold fa Eh;rw[hBe,w4]
 rw[hBe] at hB hph hsm hsp
 have hl1:=hg.li
 have hl2:=hg.lb
 have hl3:=hg.la
 refine zp func65 U (by decide) U<|ae<|cE U<|z2<|gc (t:=4) (k:=1) (T:=3) U<|fun i4=>y7 (za (zc .t1))<|zb<|ae<|bb U<|ax U<|z8 (zh jf U ji (by decide) U U)<|z8 (zh je U Zd (by decide) U U)<|z8 (zq (c:=.fro _ _) Zf U ⟨_,.head⟩ U)<|aa U<|z8 (bB dst_.toNat ju Z2 U U (by omega) hB)<|ak jr U Zv U U<|aI Yd U<|aj Z8 U<|aa U<|z2<|zi<|y5 (γ:=Nat × Nat) [0,1,22,23] (fun g=>[(24,.i g.1),(4,.own g.2 g.1)]) (fun g=>(iw,.cells 99 (IR f ja jb jc jo jt s))::(g.2,.grow 1 3 (cI (pJ B.phis s.blk g.1)))::wR ja jb jc jo jt ids s) (fun g=>g.1≤B.phis.length∧∀p∈B.phis.take g.1,0≤da p s.blk) (fun g=>B.phis.length - g.1) (0,i4) b7 aE (⟨w2 _,fun p hp=>by simp at hp⟩) ?_
 rintro ⟨k,i4⟩ ⟨hk,hok⟩
 try dsimp only at *
 refine ae<|ap U U<|z2<|zb<|zn U (fun ck=>?_) (fun ck=>?_)
 ·have hk2:k<B.phis.length:=by simp at ck;omega
  obtain ⟨p,hp⟩:∃p,B.phis[k]=p:=⟨_,rfl⟩
  have hpg:B.phis[k]?=some p:=by rw[qx hk2,hp]
  have hpm:=w9 hpg
  obtain ⟨_,hal,_,_,_⟩:=hph p hpm
  have hfl:=(hsp p hpm).2
  refine zf<|zb<|zi<|ae<|z8 (bB k Z8 Ze U U U hpg)<|ac Ys Ze U U<|zu (cs:=[.int .i64 0,.n,.n]) Y1 U U<|fun i6=>zj Ze U U U U U U .head U<|zd (y8 (t:=6) U .head)<|z2<|ae<|am U<|z2<|zb<|ae<|ak Z4 U jh U U<|aI jx U<|aj j7 U<|z8 (Gv.sub U U (by unfold lz;omega))<|am U<|z2<|zi<|y5 (γ:=Nat) [0,1,4,6,22,23,24] (fun m=>[(8,.i ((m:Int) - 1)),(7,.i (wA (p.from_.drop m) (p.args.drop m) s.blk))]) (fun m=>(iw,.cells 99 (IR f ja jb jc jo jt s))::(i4,.grow 1 3 (cI (pJ B.phis s.blk k)))::wR ja jb jc jo jt ids s) (fun m=>m≤p.from_.length) (fun m=>m) p.from_.length ⟨congrArg (AV.int .i64) (by simp),congrArg (AV.int .i64) (by rw[List.drop_length];rfl),trivial⟩ aE (Nat.le_refl _) ?_
  rintro m hm
  refine zb<|ae<|aa U<|z8 (q9 U U)<|z2<|zn U (fun c8=>?_) (fun c8=>?_)
  ·have hm1:m - 1<p.from_.length:=by omega
   have hm2:m - 1<p.args.length:=by omega
   have hst:=Eq (b:=s.blk) hm1 hm2
   rw[show m - 1+1=m by omega] at hst
   refine zf<|zb<|zi<|zb<|zr (fun j=>false) (by kernel_rfl) U (zo (.r (.rest _)))<|ai 0 U (db Z4 U jh U U)<|ai 1 U (gd jx U)<|ai 2 U (dx U)<|ai 3 U (bB (m - 1) j7 j9 U U (by omega) (qx hm1))<|ai 4 U (dQ jg U)<|ai 5 U (dR U)<|ai 6 U (zy U)<|ai 7 U (zh jf U j9 (by decide) U U)<|ai 8 U (zq (c:=.int _ _) jg U ⟨_,.head⟩ U)<|ai 9 U (Gv.eqlI U U)<|bI<|zn U (fun ce=>?_) (fun ce=>?_)
   ·have ce:p.from_[m - 1]=s.blk:=by simpa using ce
    rw[if_pos ce] at hst
    refine aW<|ak Z4 U jh U U<|aI jx U<|aa U<|z8 (bB (m - 1) j7 j9 U U (by omega) (qx hm2))<|aA jg U<|am U<|z2<|aW<|aa U<|z8 (Gv.sub U U (by unfold lz;omega))<|am U<|z2 ?_
    exact ⟨m - 1,lg,⟨congrArg (AV.int .i64) (by omega),congrArg (AV.int .i64) hst.symm,trivial⟩,aE,by omega,by omega⟩
   ·have ce:¬p.from_[m - 1]=s.blk:=by simpa using ce
    rw[if_neg ce] at hst
    refine zf<|aW<|aa U<|z8 (Gv.sub U U (by unfold lz;omega))<|am U<|z2 ?_
    exact ⟨m - 1,lg,⟨congrArg (AV.int .i64) (by omega),congrArg (AV.int .i64) hst.symm,trivial⟩,aE,by omega,by omega⟩
  ·obtain rfl:m=0:=by omega
   have hat:wA (p.from_.drop 0) (p.args.drop 0) s.blk=da p s.blk:=rfl
   rw[hat]
   refine y4<|zb<|ae<|aa U<|ap U U<|z2<|zn U (fun cn=>?_) (fun cn=>?_)
   ·have cn:da p s.blk<0:=by simpa using cn
    have hE:fa f s dst_=dO (goG s dst_) 2:=by
     rw[hgo,if_neg]
     intro h
     have:=wk (List.all_eq_true.1 h p hpm)
     omega
    refine y7 (qf .t1)<|ae<|bb U<|bb U<|aa U<|ax U<|z8 (zh jf U j9 (by decide) U U)<|yn (l:=[_]) (new:=[_,_,_,_,_,_,_,_,_,_,_,_,_,_,_,_,_,_,_,_,_,_,_]) j9 U U U U U U .head U U<|ax U<|z8 (zh jf U j9 (by decide) U U)<|yn (l:=[_]) (new:=[_,_,_,_,_,_,_,_,_,_,_,_,_,_,_,_,_,_,_,_,_,_,_]) j9 U U U U U U .head U U<|z2<|ae<|bb U<|y3 U (zo (.l (.l (.l (.l (.l (.l (.l (.rest _))))))))) (eV f iw ja jb jc jo jt ids (goG s dst_) 2) ?_
    rintro r61 O61 ⟨rfl,rfl⟩
    refine z2<|zg<|yy ?_
    exact ⟨by rw[hE];exact hids,rfl,by rw[hE];rfl⟩
   ·have cn:0≤da p s.blk:=by simpa using cn
    refine zf<|aW<|bL U<|aa U<|zx (rows:=[[_]]) cA U U U U U<|yg (k:=1) j7 Y5 U U U U U (fun _=>.t1) (by rw[aF,p6 hk];omega) (by decide) U (by show (_+1)*8≤_;omega) (by show _+1≤_;omega)<|fun i65=>z8 (ei U)<|z2<|aW<|aC U U<|aa U<|z2 ?_
    exact ⟨(k+1,i65),fC,b7,⟨_,(.refl _),by rw[←Er hk2,hp,←kK];rfl⟩,⟨hk2,fun q hq=>by rw[qy hk2] at hq;rcases List.mem_append.1 hq with hq|hq;exact hok q hq;rw[List.mem_singleton.1 hq,hp];exact cn⟩,by dsimp only;omega⟩
 ·obtain rfl:k=B.phis.length:=by simp at ck;omega
  rw[w4] at hok
  have hE:fa f s dst_=goG (Eh B.phis s B.phis.length) dst_:=by
   rw[hgo,if_pos (List.all_eq_true.2 fun p hp=>we (hok p hp))]
  have hT:∀k,bA f (Eh B.phis s k):=fun k=>hg.assigns _ s hg rfl fun p hp=>⟨hph p (List.mem_of_mem_take hp),hok p (List.mem_of_mem_take hp)⟩
  refine y4<|zb<|yb (γ:=Nat × Nat × Nat) [0,1,4] (fun g=>[(9,.own g.1 f.vars.length),(10,.own g.2.1 f.vars.length),(11,.own g.2.2 f.vars.length)]) (fun g=>(iw,.cells 99 (IR f ja jb jc jo jt s))::(g.1,.grow 1 2 (cI s.ints))::(g.2.1,.grow 1 4 (cB s.bools))::(g.2.2,.grow 1 3 (cI s.arrs))::(i4,.grow 1 3 (cI (pJ B.phis s.blk B.phis.length)))::wR ja jb jc jo jt ids s) (fun g=>True) ?_ (fun _ _ h=>h) ?_
  ·refine zr (fun j=>false) (by kernel_rfl) U (zo (.r (.rest _)))<|ai 1 U (dR U)<|ai 2 U (zy U)<|ai 3 U (zh jf U Zx (by decide) U U)<|ai 4 U (zq (c:=.own _ _) Ye U ⟨_,.head⟩ U)<|ai 7 U (dR U)<|ai 8 U (zy U)<|ai 9 U (zh jf U Yg (by decide) U U)<|ai 10 U (zq (c:=.own _ _) Yu U ⟨_,.head⟩ U)<|ai 13 U (dR U)<|ai 14 U (zy U)<|ai 15 U (zh jf U jh (by decide) U U)<|ai 16 U (zq (c:=.own _ _) jx U ⟨_,.head⟩ U)<|qk (i:=0) (j:=6) (m:=12) U U U (by kernel_rfl) ?_ ?_ ?_
   ·refine yi (k:=1) Z5 X8<|fun i67=>z2<|qk (i:=5) (j:=6) (m:=12) U U U (by kernel_rfl) ?_ ?_ ?_
    ·refine ay.appendOZ (k:=1) Z5 X8 U U U U U (fun _=>.head) ⟨_,.t2⟩ U (by rw[aF,hl1];omega) (by decide) (bX _) (by show (_+_)*8≤_;omega) (by omega)<|fun i72=>z2<|yj (i:=6) (j:=12) U U (by kernel_rfl) ?_ ?_
     ·refine yi (k:=1) jw Yq<|fun i73=>z2<|yj (i:=11) (j:=12) U U (by kernel_rfl) ?_ ?_
      ·refine ay.appendOZ (k:=1) jw Yq U U U U U (fun _=>.head) ⟨_,.t4⟩ U (by rw[aM,hl2];omega) (by decide) (eL _) (by show (_+_)*1≤_;omega) (by omega)<|fun i78=>z2<|aN 12 U<|yi (k:=1) j7 Y5<|fun i79=>z2<|aN 17 U<|ay.appendOZ (k:=1) j7 Y5 U U U U U (fun _=>.head) ⟨_,.t6⟩ U (by rw[aF,hl3];omega) (by decide) (bX _) (by show (_+_)*8≤_;omega) (by omega)<|fun i84=>zd (za (zc .head))<|zd (za (zc .t1))<|zd (za (zc .t2))<|z2<|ai 18 U (ei U)<|ai 19 U (ei U)<|ai 20 U (ei U)<|bI ?_
       exact ⟨(i72,i78,i84),bW,⟨congrArg (AV.own i72) (Nat.zero_add _),congrArg (AV.own i78) (Nat.zero_add _),congrArg (AV.own i84) (Nat.zero_add _),trivial⟩,aE,trivial⟩
      ·refine yi (k:=1) j7 Y5<|fun i79=>z2<|aN 11 U<|ay.appendOZ (k:=1) jw Yq U U U U U (fun _=>.t1) ⟨_,.t5⟩ U (by rw[aM,hl2];omega) (by decide) (eL _) (by show (_+_)*1≤_;omega) (by omega)<|fun i78=>z2<|aN 17 U<|ay.appendOZ (k:=1) j7 Y5 U U U U U (fun _=>.head) ⟨_,.t6⟩ U (by rw[aF,hl3];omega) (by decide) (bX _) (by show (_+_)*8≤_;omega) (by omega)<|fun i84=>zd (za (zc .head))<|zd (za (zc .t1))<|zd (za (zc .t2))<|z2<|ai 18 U (ei U)<|ai 19 U (ei U)<|ai 20 U (ei U)<|bI ?_
       exact ⟨(i72,i78,i84),bW,⟨congrArg (AV.own i72) (Nat.zero_add _),congrArg (AV.own i78) (Nat.zero_add _),congrArg (AV.own i84) (Nat.zero_add _),trivial⟩,aE,trivial⟩
     ·refine yi (k:=1) j7 Y5<|fun i79=>z2<|aN 6 U<|yi (k:=1) jw Yq<|fun i73=>z2<|aN 11 U<|ay.appendOZ (k:=1) jw Yq U U U U U (fun _=>.head) ⟨_,.t5⟩ U (by rw[aM,hl2];omega) (by decide) (eL _) (by show (_+_)*1≤_;omega) (by omega)<|fun i78=>z2<|aN 17 U<|ay.appendOZ (k:=1) j7 Y5 U U U U U (fun _=>.t1) ⟨_,.t6⟩ U (by rw[aF,hl3];omega) (by decide) (bX _) (by show (_+_)*8≤_;omega) (by omega)<|fun i84=>zd (za (zc .t1))<|zd (za (zc .t1))<|zd (za (zc .t2))<|z2<|ai 18 U (ei U)<|ai 19 U (ei U)<|ai 20 U (ei U)<|bI ?_
      exact ⟨(i72,i78,i84),bW,⟨congrArg (AV.own i72) (Nat.zero_add _),congrArg (AV.own i78) (Nat.zero_add _),congrArg (AV.own i84) (Nat.zero_add _),trivial⟩,aE,trivial⟩
    ·refine yi (k:=1) jw Yq<|fun i73=>z2<|yj (i:=5) (j:=12) U U (by kernel_rfl) ?_ ?_
     ·refine ay.appendOZ (k:=1) Z5 X8 U U U U U (fun _=>.t1) ⟨_,.t3⟩ U (by rw[aF,hl1];omega) (by decide) (bX _) (by show (_+_)*8≤_;omega) (by omega)<|fun i72=>z2<|yj (i:=11) (j:=12) U U (by kernel_rfl) ?_ ?_
      ·refine ay.appendOZ (k:=1) jw Yq U U U U U (fun _=>.head) ⟨_,.t4⟩ U (by rw[aM,hl2];omega) (by decide) (eL _) (by show (_+_)*1≤_;omega) (by omega)<|fun i78=>z2<|aN 12 U<|yi (k:=1) j7 Y5<|fun i79=>z2<|aN 17 U<|ay.appendOZ (k:=1) j7 Y5 U U U U U (fun _=>.head) ⟨_,.t6⟩ U (by rw[aF,hl3];omega) (by decide) (bX _) (by show (_+_)*8≤_;omega) (by omega)<|fun i84=>zd (za (zc .head))<|zd (za (zc .t1))<|zd (za (zc .t2))<|z2<|ai 18 U (ei U)<|ai 19 U (ei U)<|ai 20 U (ei U)<|bI ?_
       exact ⟨(i72,i78,i84),bW,⟨congrArg (AV.own i72) (Nat.zero_add _),congrArg (AV.own i78) (Nat.zero_add _),congrArg (AV.own i84) (Nat.zero_add _),trivial⟩,aE,trivial⟩
      ·refine yi (k:=1) j7 Y5<|fun i79=>z2<|aN 11 U<|ay.appendOZ (k:=1) jw Yq U U U U U (fun _=>.t1) ⟨_,.t5⟩ U (by rw[aM,hl2];omega) (by decide) (eL _) (by show (_+_)*1≤_;omega) (by omega)<|fun i78=>z2<|aN 17 U<|ay.appendOZ (k:=1) j7 Y5 U U U U U (fun _=>.head) ⟨_,.t6⟩ U (by rw[aF,hl3];omega) (by decide) (bX _) (by show (_+_)*8≤_;omega) (by omega)<|fun i84=>zd (za (zc .head))<|zd (za (zc .t1))<|zd (za (zc .t2))<|z2<|ai 18 U (ei U)<|ai 19 U (ei U)<|ai 20 U (ei U)<|bI ?_
       exact ⟨(i72,i78,i84),bW,⟨congrArg (AV.own i72) (Nat.zero_add _),congrArg (AV.own i78) (Nat.zero_add _),congrArg (AV.own i84) (Nat.zero_add _),trivial⟩,aE,trivial⟩
     ·refine yi (k:=1) j7 Y5<|fun i79=>z2<|aN 5 U<|ay.appendOZ (k:=1) Z5 X8 U U U U U (fun _=>.t2) ⟨_,.t4⟩ U (by rw[aF,hl1];omega) (by decide) (bX _) (by show (_+_)*8≤_;omega) (by omega)<|fun i72=>z2<|aN 11 U<|ay.appendOZ (k:=1) jw Yq U U U U U (fun _=>.t1) ⟨_,.t5⟩ U (by rw[aM,hl2];omega) (by decide) (eL _) (by show (_+_)*1≤_;omega) (by omega)<|fun i78=>z2<|aN 17 U<|ay.appendOZ (k:=1) j7 Y5 U U U U U (fun _=>.head) ⟨_,.t6⟩ U (by rw[aF,hl3];omega) (by decide) (bX _) (by show (_+_)*8≤_;omega) (by omega)<|fun i84=>zd (za (zc .head))<|zd (za (zc .t1))<|zd (za (zc .t2))<|z2<|ai 18 U (ei U)<|ai 19 U (ei U)<|ai 20 U (ei U)<|bI ?_
      exact ⟨(i72,i78,i84),bW,⟨congrArg (AV.own i72) (Nat.zero_add _),congrArg (AV.own i78) (Nat.zero_add _),congrArg (AV.own i84) (Nat.zero_add _),trivial⟩,aE,trivial⟩
    ·refine yi (k:=1) j7 Y5<|fun i79=>z2<|yj (i:=5) (j:=6) U U (by kernel_rfl) ?_ ?_
     ·refine ay.appendOZ (k:=1) Z5 X8 U U U U U (fun _=>.t1) ⟨_,.t3⟩ U (by rw[aF,hl1];omega) (by decide) (bX _) (by show (_+_)*8≤_;omega) (by omega)<|fun i72=>z2<|aN 6 U<|yi (k:=1) jw Yq<|fun i73=>z2<|aN 11 U<|ay.appendOZ (k:=1) jw Yq U U U U U (fun _=>.head) ⟨_,.t5⟩ U (by rw[aM,hl2];omega) (by decide) (eL _) (by show (_+_)*1≤_;omega) (by omega)<|fun i78=>z2<|aN 17 U<|ay.appendOZ (k:=1) j7 Y5 U U U U U (fun _=>.t1) ⟨_,.t6⟩ U (by rw[aF,hl3];omega) (by decide) (bX _) (by show (_+_)*8≤_;omega) (by omega)<|fun i84=>zd (za (zc .t1))<|zd (za (zc .t1))<|zd (za (zc .t2))<|z2<|ai 18 U (ei U)<|ai 19 U (ei U)<|ai 20 U (ei U)<|bI ?_
      exact ⟨(i72,i78,i84),bW,⟨congrArg (AV.own i72) (Nat.zero_add _),congrArg (AV.own i78) (Nat.zero_add _),congrArg (AV.own i84) (Nat.zero_add _),trivial⟩,aE,trivial⟩
     ·refine yi (k:=1) jw Yq<|fun i73=>z2<|aN 5 U<|ay.appendOZ (k:=1) Z5 X8 U U U U U (fun _=>.t2) ⟨_,.t4⟩ U (by rw[aF,hl1];omega) (by decide) (bX _) (by show (_+_)*8≤_;omega) (by omega)<|fun i72=>z2<|aN 11 U<|ay.appendOZ (k:=1) jw Yq U U U U U (fun _=>.head) ⟨_,.t5⟩ U (by rw[aM,hl2];omega) (by decide) (eL _) (by show (_+_)*1≤_;omega) (by omega)<|fun i78=>z2<|aN 17 U<|ay.appendOZ (k:=1) j7 Y5 U U U U U (fun _=>.t1) ⟨_,.t6⟩ U (by rw[aF,hl3];omega) (by decide) (bX _) (by show (_+_)*8≤_;omega) (by omega)<|fun i84=>zd (za (zc .t1))<|zd (za (zc .t1))<|zd (za (zc .t2))<|z2<|ai 18 U (ei U)<|ai 19 U (ei U)<|ai 20 U (ei U)<|bI ?_
      exact ⟨(i72,i78,i84),bW,⟨congrArg (AV.own i72) (Nat.zero_add _),congrArg (AV.own i78) (Nat.zero_add _),congrArg (AV.own i84) (Nat.zero_add _),trivial⟩,aE,trivial⟩
   ·refine yi (k:=1) jw Yq<|fun i73=>z2<|yj (i:=0) (j:=12) U U (by kernel_rfl) ?_ ?_
    ·refine yi (k:=1) Z5 X8<|fun i67=>z2<|yj (i:=5) (j:=12) U U (by kernel_rfl) ?_ ?_
     ·refine ay.appendOZ (k:=1) Z5 X8 U U U U U (fun _=>.head) ⟨_,.t3⟩ U (by rw[aF,hl1];omega) (by decide) (bX _) (by show (_+_)*8≤_;omega) (by omega)<|fun i72=>z2<|yj (i:=11) (j:=12) U U (by kernel_rfl) ?_ ?_
      ·refine ay.appendOZ (k:=1) jw Yq U U U U U (fun _=>.t1) ⟨_,.t4⟩ U (by rw[aM,hl2];omega) (by decide) (eL _) (by show (_+_)*1≤_;omega) (by omega)<|fun i78=>z2<|aN 12 U<|yi (k:=1) j7 Y5<|fun i79=>z2<|aN 17 U<|ay.appendOZ (k:=1) j7 Y5 U U U U U (fun _=>.head) ⟨_,.t6⟩ U (by rw[aF,hl3];omega) (by decide) (bX _) (by show (_+_)*8≤_;omega) (by omega)<|fun i84=>zd (za (zc .head))<|zd (za (zc .t2))<|zd (za (zc .t2))<|z2<|ai 18 U (ei U)<|ai 19 U (ei U)<|ai 20 U (ei U)<|bI ?_
       exact ⟨(i72,i78,i84),bW,⟨congrArg (AV.own i72) (Nat.zero_add _),congrArg (AV.own i78) (Nat.zero_add _),congrArg (AV.own i84) (Nat.zero_add _),trivial⟩,aE,trivial⟩
      ·refine yi (k:=1) j7 Y5<|fun i79=>z2<|aN 11 U<|ay.appendOZ (k:=1) jw Yq U U U U U (fun _=>.t2) ⟨_,.t5⟩ U (by rw[aM,hl2];omega) (by decide) (eL _) (by show (_+_)*1≤_;omega) (by omega)<|fun i78=>z2<|aN 17 U<|ay.appendOZ (k:=1) j7 Y5 U U U U U (fun _=>.head) ⟨_,.t6⟩ U (by rw[aF,hl3];omega) (by decide) (bX _) (by show (_+_)*8≤_;omega) (by omega)<|fun i84=>zd (za (zc .head))<|zd (za (zc .t2))<|zd (za (zc .t2))<|z2<|ai 18 U (ei U)<|ai 19 U (ei U)<|ai 20 U (ei U)<|bI ?_
       exact ⟨(i72,i78,i84),bW,⟨congrArg (AV.own i72) (Nat.zero_add _),congrArg (AV.own i78) (Nat.zero_add _),congrArg (AV.own i84) (Nat.zero_add _),trivial⟩,aE,trivial⟩
     ·refine yi (k:=1) j7 Y5<|fun i79=>z2<|aN 5 U<|ay.appendOZ (k:=1) Z5 X8 U U U U U (fun _=>.t1) ⟨_,.t4⟩ U (by rw[aF,hl1];omega) (by decide) (bX _) (by show (_+_)*8≤_;omega) (by omega)<|fun i72=>z2<|aN 11 U<|ay.appendOZ (k:=1) jw Yq U U U U U (fun _=>.t2) ⟨_,.t5⟩ U (by rw[aM,hl2];omega) (by decide) (eL _) (by show (_+_)*1≤_;omega) (by omega)<|fun i78=>z2<|aN 17 U<|ay.appendOZ (k:=1) j7 Y5 U U U U U (fun _=>.head) ⟨_,.t6⟩ U (by rw[aF,hl3];omega) (by decide) (bX _) (by show (_+_)*8≤_;omega) (by omega)<|fun i84=>zd (za (zc .head))<|zd (za (zc .t2))<|zd (za (zc .t2))<|z2<|ai 18 U (ei U)<|ai 19 U (ei U)<|ai 20 U (ei U)<|bI ?_
      exact ⟨(i72,i78,i84),bW,⟨congrArg (AV.own i72) (Nat.zero_add _),congrArg (AV.own i78) (Nat.zero_add _),congrArg (AV.own i84) (Nat.zero_add _),trivial⟩,aE,trivial⟩
    ·refine yi (k:=1) j7 Y5<|fun i79=>z2<|aN 0 U<|yi (k:=1) Z5 X8<|fun i67=>z2<|aN 5 U<|ay.appendOZ (k:=1) Z5 X8 U U U U U (fun _=>.head) ⟨_,.t4⟩ U (by rw[aF,hl1];omega) (by decide) (bX _) (by show (_+_)*8≤_;omega) (by omega)<|fun i72=>z2<|aN 11 U<|ay.appendOZ (k:=1) jw Yq U U U U U (fun _=>.t2) ⟨_,.t5⟩ U (by rw[aM,hl2];omega) (by decide) (eL _) (by show (_+_)*1≤_;omega) (by omega)<|fun i78=>z2<|aN 17 U<|ay.appendOZ (k:=1) j7 Y5 U U U U U (fun _=>.t1) ⟨_,.t6⟩ U (by rw[aF,hl3];omega) (by decide) (bX _) (by show (_+_)*8≤_;omega) (by omega)<|fun i84=>zd (za (zc .t1))<|zd (za (zc .t2))<|zd (za (zc .t2))<|z2<|ai 18 U (ei U)<|ai 19 U (ei U)<|ai 20 U (ei U)<|bI ?_
     exact ⟨(i72,i78,i84),bW,⟨congrArg (AV.own i72) (Nat.zero_add _),congrArg (AV.own i78) (Nat.zero_add _),congrArg (AV.own i84) (Nat.zero_add _),trivial⟩,aE,trivial⟩
   ·refine yi (k:=1) j7 Y5<|fun i79=>z2<|yj (i:=0) (j:=6) U U (by kernel_rfl) ?_ ?_
    ·refine yi (k:=1) Z5 X8<|fun i67=>z2<|yj (i:=5) (j:=6) U U (by kernel_rfl) ?_ ?_
     ·refine ay.appendOZ (k:=1) Z5 X8 U U U U U (fun _=>.head) ⟨_,.t3⟩ U (by rw[aF,hl1];omega) (by decide) (bX _) (by show (_+_)*8≤_;omega) (by omega)<|fun i72=>z2<|aN 6 U<|yi (k:=1) jw Yq<|fun i73=>z2<|aN 11 U<|ay.appendOZ (k:=1) jw Yq U U U U U (fun _=>.head) ⟨_,.t5⟩ U (by rw[aM,hl2];omega) (by decide) (eL _) (by show (_+_)*1≤_;omega) (by omega)<|fun i78=>z2<|aN 17 U<|ay.appendOZ (k:=1) j7 Y5 U U U U U (fun _=>.t2) ⟨_,.t6⟩ U (by rw[aF,hl3];omega) (by decide) (bX _) (by show (_+_)*8≤_;omega) (by omega)<|fun i84=>zd (za (zc .t2))<|zd (za (zc .t1))<|zd (za (zc .t2))<|z2<|ai 18 U (ei U)<|ai 19 U (ei U)<|ai 20 U (ei U)<|bI ?_
      exact ⟨(i72,i78,i84),bW,⟨congrArg (AV.own i72) (Nat.zero_add _),congrArg (AV.own i78) (Nat.zero_add _),congrArg (AV.own i84) (Nat.zero_add _),trivial⟩,aE,trivial⟩
     ·refine yi (k:=1) jw Yq<|fun i73=>z2<|aN 5 U<|ay.appendOZ (k:=1) Z5 X8 U U U U U (fun _=>.t1) ⟨_,.t4⟩ U (by rw[aF,hl1];omega) (by decide) (bX _) (by show (_+_)*8≤_;omega) (by omega)<|fun i72=>z2<|aN 11 U<|ay.appendOZ (k:=1) jw Yq U U U U U (fun _=>.head) ⟨_,.t5⟩ U (by rw[aM,hl2];omega) (by decide) (eL _) (by show (_+_)*1≤_;omega) (by omega)<|fun i78=>z2<|aN 17 U<|ay.appendOZ (k:=1) j7 Y5 U U U U U (fun _=>.t2) ⟨_,.t6⟩ U (by rw[aF,hl3];omega) (by decide) (bX _) (by show (_+_)*8≤_;omega) (by omega)<|fun i84=>zd (za (zc .t2))<|zd (za (zc .t1))<|zd (za (zc .t2))<|z2<|ai 18 U (ei U)<|ai 19 U (ei U)<|ai 20 U (ei U)<|bI ?_
      exact ⟨(i72,i78,i84),bW,⟨congrArg (AV.own i72) (Nat.zero_add _),congrArg (AV.own i78) (Nat.zero_add _),congrArg (AV.own i84) (Nat.zero_add _),trivial⟩,aE,trivial⟩
    ·refine yi (k:=1) jw Yq<|fun i73=>z2<|aN 0 U<|yi (k:=1) Z5 X8<|fun i67=>z2<|aN 5 U<|ay.appendOZ (k:=1) Z5 X8 U U U U U (fun _=>.head) ⟨_,.t4⟩ U (by rw[aF,hl1];omega) (by decide) (bX _) (by show (_+_)*8≤_;omega) (by omega)<|fun i72=>z2<|aN 11 U<|ay.appendOZ (k:=1) jw Yq U U U U U (fun _=>.t1) ⟨_,.t5⟩ U (by rw[aM,hl2];omega) (by decide) (eL _) (by show (_+_)*1≤_;omega) (by omega)<|fun i78=>z2<|aN 17 U<|ay.appendOZ (k:=1) j7 Y5 U U U U U (fun _=>.t2) ⟨_,.t6⟩ U (by rw[aF,hl3];omega) (by decide) (bX _) (by show (_+_)*8≤_;omega) (by omega)<|fun i84=>z2<|ai 18 U (ei U)<|ai 19 U (ei U)<|ai 20 U (ei U)<|bI ?_
     exact ⟨(i72,i78,i84),bW,⟨congrArg (AV.own i72) (Nat.zero_add _),congrArg (AV.own i78) (Nat.zero_add _),congrArg (AV.own i84) (Nat.zero_add _),trivial⟩,aE,trivial⟩
  ·rintro ⟨i72,i78,i84⟩ _
   refine zb<|ae<|bb U<|ax U<|z8 (zh jf U ji (by decide) U U)<|z8 (zh je U Zd (by decide) U U)<|z8 (zq (c:=.fro _ _) Zf U ⟨_,.head⟩ U)<|aa U<|z8 (bB dst_.toNat ju Z2 U U (by omega) hB)<|ak jr U Zv U U<|aI Yd U<|aj Z8 U<|aa U<|z2<|zi<|y5 (γ:=Nat) [0,1,4,9,10,11,93,94] (fun k=>[(95,.i k)]) (fun k=>(iw,.cells 99 (IR f ja jb jc jo jt (Eh B.phis s k)))::(i72,.grow 1 2 (cI s.ints))::(i78,.grow 1 4 (cB s.bools))::(i84,.grow 1 3 (cI s.arrs))::(i4,.grow 1 3 (cI (pJ B.phis s.blk B.phis.length)))::wR ja jb jc jo jt ids (Eh B.phis s k)) (fun k=>k≤B.phis.length) (fun k=>B.phis.length - k) 0 aL aE (w2 _) ?_
   rintro k hk
   refine ae<|ap U U<|z2<|zb<|zn U (fun ck=>?_) (fun ck=>?_)
   ·have hk2:k<B.phis.length:=by simp at ck;omega
    obtain ⟨p,hp⟩:∃p,B.phis[k]=p:=⟨_,rfl⟩
    have hpg:B.phis[k]?=some p:=by rw[qx hk2,hp]
    have hpm:=w9 hpg
    have hp0:=hok p hpm
    obtain ⟨hd,_,_,ha,_⟩:=hph p hpm
    obtain ⟨d1,d0⟩:=bN hd
    obtain ⟨v1,v0⟩:=bN (List.all_eq_true.1 ha _ (o7 hp0))
    have hgg:(pJ B.phis s.blk B.phis.length)[k]?=some (da p s.blk):=by rw[He hk2,hp]
    have t1:=(hT k).li
    have t2:=(hT k).lb
    have t3:=(hT k).la
    refine zf<|zb<|zi<|ae<|aa U<|z8 (bB k Z8 Ze U U U hpg)<|ac Ys Ze U U<|zu (cs:=[.int .i64 0,.n,.n]) Y1 U U<|fun i13=>am U<|zj Ze U U U U U U .head U<|zd (y8 (t:=13) U .head)<|z2<|dV.regionDrawR (by kernel_rfl) U (zo (.r (.r (.r (.r (.r (.l (.l (.l (.l (.l (.l (.rest _)))))))))))))<|ya (i:=0) U (by kernel_rfl) (by kernel_rfl) (by kernel_rfl) (dR U)<|ya (i:=1) U (by kernel_rfl) (by kernel_rfl) (by kernel_rfl) (zy U)<|ya (i:=2) U (by kernel_rfl) (by kernel_rfl) (by kernel_rfl) (zh jf U Zx (by decide) U U)<|ya (i:=3) U (by kernel_rfl) (by kernel_rfl) (by kernel_rfl) (zq (c:=.own _ _) Ye U ⟨_,.head⟩ U)<|ya (i:=4) U (by kernel_rfl) (by kernel_rfl) (by kernel_rfl) (db Z4 U j9 U U)<|ya (i:=5) U (by kernel_rfl) (by kernel_rfl) (by kernel_rfl) (dQ jg U)<|ya (i:=6) U (by kernel_rfl) (by kernel_rfl) (by kernel_rfl) (dR U)<|ya (i:=7) U (by kernel_rfl) (by kernel_rfl) (by kernel_rfl) (zy U)<|ya (i:=8) U (by kernel_rfl) (by kernel_rfl) (by kernel_rfl) (zh jf U Yg (by decide) U U)<|ya (i:=9) U (by kernel_rfl) (by kernel_rfl) (by kernel_rfl) (zq (c:=.own _ _) Yu U ⟨_,.head⟩ U)<|ya (i:=10) U (by kernel_rfl) (by kernel_rfl) (by kernel_rfl) (db Z4 U j9 U U)<|ya (i:=11) U (by kernel_rfl) (by kernel_rfl) (by kernel_rfl) (dQ jg U)<|ya (i:=12) U (by kernel_rfl) (by kernel_rfl) (by kernel_rfl) (dR U)<|ya (i:=13) U (by kernel_rfl) (by kernel_rfl) (by kernel_rfl) (zy U)<|ya (i:=14) U (by kernel_rfl) (by kernel_rfl) (by kernel_rfl) (zh jf U jh (by decide) U U)<|ya (i:=15) U (by kernel_rfl) (by kernel_rfl) (by kernel_rfl) (zq (c:=.own _ _) jx U ⟨_,.head⟩ U)<|ya (i:=16) U (by kernel_rfl) (by kernel_rfl) (by kernel_rfl) (db Z4 U j9 U U)<|ya (i:=17) U (by kernel_rfl) (by kernel_rfl) (by kernel_rfl) (dQ jg U)<|ya (i:=18) U (by kernel_rfl) (by kernel_rfl) (by kernel_rfl) (Hd U)<|ya (i:=19) U (by kernel_rfl) (by kernel_rfl) (by kernel_rfl) (Hd U)<|ya (i:=20) U (by kernel_rfl) (by kernel_rfl) (by kernel_rfl) (dx U)<|ya (i:=21) U (by kernel_rfl) (by kernel_rfl) (by kernel_rfl) (yd (j:=k) j7 j9 U U U ⟨_,.t4⟩ ((aF _).trans (p6 (Nat.le_refl _))) hk2)<|ya (i:=22) U (by kernel_rfl) (by kernel_rfl) (by kernel_rfl) (yw (j:=k) jg U ⟨_,.t4⟩ hgg)<|ya (i:=23) U (by kernel_rfl) (by kernel_rfl) (by kernel_rfl) (yd (j:=(da p s.blk).toNat) Z5 Z1 U U (wj v0).symm ⟨_,.t1⟩ ((aF _).trans hl1) (by omega))<|ya (i:=24) U (by kernel_rfl) (by kernel_rfl) (by kernel_rfl) (yw (j:=(da p s.blk).toNat) Zc U ⟨_,.t1⟩ (fR (by omega) v0))<|ya (i:=25) U (by kernel_rfl) (by kernel_rfl) (by kernel_rfl) (Hd U)<|ya (i:=26) U (by kernel_rfl) (by kernel_rfl) (by kernel_rfl) (Hd U) ?_
    refine ya (i:=27) U (by kernel_rfl) (by kernel_rfl) (by kernel_rfl) (dx U)<|ya (i:=28) U (by kernel_rfl) (by kernel_rfl) (by kernel_rfl) (yd (j:=k) j7 j9 U U U ⟨_,.t4⟩ ((aF _).trans (p6 (Nat.le_refl _))) hk2)<|ya (i:=29) U (by kernel_rfl) (by kernel_rfl) (by kernel_rfl) (yw (j:=k) jg U ⟨_,.t4⟩ hgg)<|ya (i:=30) U (by kernel_rfl) (by kernel_rfl) (by kernel_rfl) (yd (j:=(da p s.blk).toNat) jw Zb U U (wj v0).symm ⟨_,.t2⟩ ((aM _).trans hl2) (by omega))<|ya (i:=31) U (by kernel_rfl) (by kernel_rfl) (by kernel_rfl) (Gv.loadB (j:=(da p s.blk).toNat) Yn U ⟨_,.t2⟩ (ml (by omega) v0))<|ya (i:=32) U (by kernel_rfl) (by kernel_rfl) (by kernel_rfl) (Hd U)<|ya (i:=33) U (by kernel_rfl) (by kernel_rfl) (by kernel_rfl) (Hd U)<|ya (i:=34) U (by kernel_rfl) (by kernel_rfl) (by kernel_rfl) (dx U)<|ya (i:=35) U (by kernel_rfl) (by kernel_rfl) (by kernel_rfl) (yd (j:=k) j7 j9 U U U ⟨_,.t4⟩ ((aF _).trans (p6 (Nat.le_refl _))) hk2)<|ya (i:=36) U (by kernel_rfl) (by kernel_rfl) (by kernel_rfl) (yw (j:=k) jg U ⟨_,.t4⟩ hgg)<|ya (i:=37) U (by kernel_rfl) (by kernel_rfl) (by kernel_rfl) (yd (j:=(da p s.blk).toNat) j7 j9 U U (wj v0).symm ⟨_,.t3⟩ ((aF _).trans hl3) (by omega))<|ya (i:=38) U (by kernel_rfl) (by kernel_rfl) (by kernel_rfl) (yw (j:=(da p s.blk).toNat) jg U ⟨_,.t3⟩ (fR (by omega) v0))<|qw (i:=39) U (by kernel_rfl)<|z8 (yd (j:=p.dst.toNat) Z5 Z1 U U (wj d0).symm ⟨_,.head⟩ ((aF _).trans t1) (by omega))<|z2<|qw (i:=40) U (by kernel_rfl)<|q5 (j:=p.dst.toNat) Z1 U U .head (by first|omega|(simp;omega))<|z2<|qw (i:=41) U (by kernel_rfl)<|z8 (yd (j:=p.dst.toNat) jw Zb U U (wj d0).symm ⟨_,.t1⟩ ((aM _).trans t2) (by omega))<|z2<|qw (i:=42) U (by kernel_rfl)<|q6 (j:=p.dst.toNat) Zb U U .t1 (by first|omega|(simp;omega))<|z2<|qw (i:=43) U (by kernel_rfl)<|z8 (yd (j:=p.dst.toNat) j7 j9 U U (wj d0).symm ⟨_,.t2⟩ ((aF _).trans t3) (by omega))<|z2<|qw (i:=44) U (by kernel_rfl)<|q5 (j:=p.dst.toNat) j9 U U .t2 (by first|omega|(simp;omega))<|z2<|kD.done (by kernel_rfl)<|aW<|aC U U<|aa U<|z2 ?_
    exact ⟨k+1,tk,aL,⟨_,(.refl _),by rw[Hf hk2,hp];rfl⟩,hk2,by omega⟩
   ·obtain rfl:k=B.phis.length:=by simp at ck;omega
    refine y7 (qf .t1)<|y7 (qf .t1)<|y7 (qf .t1)<|y7 (qf .t1)<|y4<|aW<|bb U<|bb U<|aa U<|ax U<|z8 (zh jf U j9 (by decide) U U)<|yn (l:=[_]) (new:=[_,_,_,_,_,_,_,_,_,_,_,_,_,_,_,_,_,_,_,_,_,_,_]) j9 U U U U U U .head U U<|ax U<|z8 (zh jf U j9 (by decide) U U)<|yn (l:=[_]) (new:=[_,_,_,_,_,_,_,_,_,_,_,_,_,_,_,_,_,_,_,_,_,_,_]) j9 U U U U U U .head U U<|z2<|yy ?_
    exact ⟨by rw[hE];show _=(Eh B.phis s B.phis.length).arrays.length;rw[CJ];exact hids,rfl,by rw[hE];rfl⟩
end
section
open Go.Proofs.Tryz
open Go.Proofs Go.Lib Go.Shelf Go.RowKit
variable {E:World}
set_option maxRecDepth 20000
theorem CK {f:ab} {s:GS} {x:aB} (h:(aQ f s.blk).insts[s.pc]?=some x):bu f s=ba { s with pc:=s.pc+1,st:=s.st+1 } x:=by unfold bu;rw[h]
theorem Es {f:ab} {s:GS} (h:(aQ f s.blk).insts[s.pc]?=none):bu f s=if (aQ f s.blk).term.kind=2 then dO { s with st:=s.st+1,val:=vi s.ints (aQ f s.blk).term.var } 0 else fa f { s with st:=s.st+1 } (fJ f s):=by unfold bu;rw[h]
theorem Ad {f:ab} {t:fg} (h:bJ f t=true) (hk:¬t.kind=0):t.var<f.vars.length∧0≤t.var:=bN (fI h hk)
set_option maxHeartbeats 8000000 in
theorem Ae (f:ab) (iw ja jb jc jo jt:Nat) (ids:List Nat) (s:GS) (hids:ids.length=s.arrays.length) (hg:bA f s) (hR:o6 f) (hv:f.vars.length≤1000) (hs:small f) (hst:s.st≤1000000000) (hck:∀i,s.ck i≤1000000000):bn prog E 34 [.po iw 0] (wO f iw ja jb jc jo jt ids s) (fun y O=>∃jo' jt' ids',ids'.length=(bu f s).arrays.length∧y=.tup []∧O=wO f iw ja jb jc jo' jt' ids' (bu f s)):=by
 have hB:=eO hg.b0 hg.b1
 have hBm:=w9 hB
 have hsm:=(hs.2.2.2.2 _ hBm).2.2.1
 have hpc:=hg.pc
 have hin:=hR.insts _ hBm
 have htm:=hR.term _ hBm
 have hi:=@CK f s
 have he:=@Es f s
 obtain ⟨B,hBe⟩:∃B,aQ f s.blk=B:=⟨_,rfl⟩
 have hnx:fJ f s=if B.term.kind=0∨gb s.bools B.term.var=true then B.term.to0 else B.term.to1:=by rw[←hBe];rfl
 have hnt:=kZ hR hg
 rw[hBe] at hB hsm hpc hin htm hi he hnt
 have hl1:=hg.li
 have hl2:=hg.lb
 have hgu:bA f { s with st:=s.st+1 }:=hg.up _ s.val
 refine zp func34 U (by decide) U<|ae<|bb U<|ax U<|z8 (zh jf U Yb (by decide) U U)<|z8 (zh Zk U j9 (by decide) U U)<|z8 (zq (c:=.int _ _) jg U ⟨_,.head⟩ U)<|aC U U<|ax U<|z8 (zh jf U Yb (by decide) U U)<|z8 (zh Zk U j9 (by decide) U U)<|yn (l:=[_]) (new:=[_,_,_,_,_,_,_,_,_,_,_,_,_,_,_,_,_,_,_,_,_,_,_]) j9 U U U U U U .head U U<|z2<|zb<|zr (fun j=>Nat.beq j 12) (by kernel_rfl) U (zo (.r (.rest _)))<|ai 0 U (dR U)<|ai 1 U (zy U)<|ai 2 U (zh jf U ji (by decide) U U)<|ai 3 U (zh je U Zd (by decide) U U)<|ai 4 U (zq (c:=.fro _ _) Zf U ⟨_,.head⟩ U)<|ai 5 U (dR U)<|ai 6 U (zy U)<|ai 7 U (zh jf U j9 (by decide) U U)<|ai 8 U (zq (c:=.int _ _) jg U ⟨_,.head⟩ U)<|ai 9 U (bB s.blk.toNat ju Z2 U U (wj hg.b0).symm hB)<|ai 10 U (yp Yc Z2 U U)<|aN 11 U<|zu (cs:=[.e,.n,.n,.int .i64 0,.int .i64 0,.int .i64 0,.int .i64 0]) Zh U U<|fun i2=>z2<|yc<|yk (i:=12) U (by kernel_rfl) (by kernel_rfl)<|zj Z2 U U U U U U .t1 U<|z2<|yf (by kernel_rfl)<|y7 (y8 (t:=2) U .t1)<|zb<|zb<|zr (fun j=>false) (by kernel_rfl) U (zo (.r (.rest _)))<|ai 0 U (dR U)<|ai 1 U (zy U) ?_
 refine ai 2 U (zh jf U j9 (by decide) U U)<|ai 3 U (zq (c:=.int _ _) jg U ⟨_,.head⟩ U)<|ai 4 U (db jr U Zw U U)<|ai 5 U (gd Y3 U)<|ai 6 U (Gv.lenM Z6 U)<|ai 7 U (Gv.lss U U)<|bI<|zn U (fun cp=>?_) (fun cp=>?_)
 ·have hp:s.pc<B.insts.length:=by simp at cp;omega
  obtain ⟨x,hx⟩:∃x,B.insts[s.pc]=x:=⟨_,rfl⟩
  have hxg:B.insts[s.pc]?=some x:=by rw[qx hp,hx]
  obtain ⟨hix,h64⟩:=hin x (w9 hxg)
  have hS:=hi hxg
  have hg2:bA f { s with pc:=s.pc+1,st:=s.st+1 }:=⟨hg.li,hg.lb,hg.la,hg.i64,hg.arr,hg.ls,hg.lr,hg.r64,hg.lt,hg.b0,hg.b1,by show s.pc+1≤(aQ f s.blk).insts.length;rw[hBe];exact hp⟩
  refine ae<|bb U<|ax U<|z8 (zh jf U j9 (by decide) U U)<|z8 (zq (c:=.int _ _) jg U ⟨_,.head⟩ U)<|aC U U<|ax U<|z8 (zh jf U j9 (by decide) U U)<|yn (l:=[_]) (new:=[_,_,_,_,_,_,_,_,_,_,_,_,_,_,_,_,_,_,_,_,_,_,_]) j9 U U U U U U .head U U<|z2<|zb<|zr (fun j=>false) (by kernel_rfl) U (zo (.rest _))<|ai 0 U (dR U)<|ai 1 U (db jr U Zw U U)<|ai 2 U (gd Y3 U)<|ai 3 U (dR U)<|ai 4 U (zy U)<|ai 5 U (zh jf U j9 (by decide) U U)<|aN 6 U<|z8 (zq (c:=.int _ _) jg U ⟨_,.head⟩ U)<|z2<|ai 7 U (Gv.sub U U (by unfold lz;omega))<|ai 8 U (bB s.pc Z6 Za U U (by omega) hxg)<|ai 9 U (yp Yj Za U U)<|aN 10 U<|y3 U (zo (.l (.l (.l (.l (.l (.l (.l (.rest _))))))))) (BE f iw ja jb jc jo jt ids { s with pc:=s.pc+1,st:=s.st+1 } x hids hg2 hix hv hck) ?_
  rintro r49 O49 ⟨jo',jt',ids',hl',rfl,rfl⟩
  refine z2<|bI<|zg<|yy ?_
  exact ⟨jo',jt',ids',by rw[hS];exact hl',rfl,by rw[hS];rfl⟩
 ·have hp:B.insts[s.pc]?=none:=by rw[List.getElem?_eq_none];simp at cp;omega
  have hS:=he hp
  refine zf<|ae<|ak jr U Zp U U<|ac Xk Zp U U<|zu (cs:=[.int .i64 0,.int .i64 0,.int .i64 0,.int .i64 0]) Xf U U<|fun i3=>zj Zp U U U U U U .head U<|zd (y8 (t:=3) U .head)<|z2<|zi<|ae<|ak jj U Y4 U U<|aA Yi U<|ao U U<|ad U<|z2<|zn U (fun ck=>?_) (fun ck=>?_)
  ·have ck:B.term.kind=2:=by simpa using ck
   rw[if_pos ck] at hS
   obtain ⟨v1,v0⟩:=Ad htm (by omega)
   refine zb<|zr (fun j=>Nat.beq j 12) (by kernel_rfl) U (zo (.r (.r (.r (.rest _)))))<|ai 0 U (dR U)<|ai 1 U (dR U)<|ai 2 U (zy U)<|ai 3 U (zh jf U Zx (by decide) U U)<|ai 4 U (zq (c:=.own _ _) Ye U ⟨_,.head⟩ U)<|ai 5 U (db jj U j9 U U)<|ai 6 U (dQ jg U)<|ai 7 U (yd (j:=B.term.var.toNat) Z5 Z1 U U (wj v0).symm ⟨_,.t1⟩ ((aF _).trans hl1) (by omega))<|ai 8 U (yw (j:=B.term.var.toNat) Zc U ⟨_,.t1⟩ (fR (by omega) v0))<|yv (i:=9) U (by kernel_rfl) (by kernel_rfl) (by kernel_rfl) (by kernel_rfl) (zy U)<|yv (i:=10) U (by kernel_rfl) (by kernel_rfl) (by kernel_rfl) (by kernel_rfl) (zh jf U Yb (by decide) U U)<|ai 11 U (zh Zk U Z1 (by decide) U U)<|yc<|yk (i:=12) U (by kernel_rfl) (by kernel_rfl)<|yn (l:=[_]) (new:=[_,_,_,_,_,_,_,_,_,_,_,_,_,_,_,_,_,_,_,_,_,_,_]) Z1 U U U U U U .head U U<|z2<|yf (by kernel_rfl)<|aW<|bb U<|y3 U (zo (.l (.l (.l (.l (.l (.l (.l (.rest _))))))))) (eV f iw ja jb jc jo jt ids { s with st:=s.st+1,val:=vi s.ints B.term.var } 0) ?_
   rintro r74 O74 ⟨rfl,rfl⟩
   refine z2<|yy ?_
   exact ⟨jo,jt,ids,by rw[hS];exact hids,rfl,by rw[hS];rfl⟩
  ·have ck:¬B.term.kind=2:=by simpa using ck
   rw[if_neg ck] at hS
   obtain ⟨g0,g1⟩:=hnt ck
   refine zb<|zr (fun j=>false) (by kernel_rfl) U (zo (.r (.r (.r (.rest _)))))<|ai 0 U (db jj U Y4 U U)<|ai 1 U (dQ Yi U)<|ai 2 U (Gv.eqlI U U)<|ai 3 U (zX U)<|bT.case (s:=79) U (fun c0=>?_) (fun c0=>?_)
   ·have d0:B.term.kind=0:=by simpa using c0
    rw[if_pos (.inl d0)] at hnx
    rw[hnx] at hS g0 g1
    refine fv 4 U U U c0<|fv 5 U U U c0<|fv 6 U U U c0<|fv 7 U U U c0<|fv 8 U U U c0<|fv 9 U U U c0<|fv 10 U U U c0<|fv 11 U U U c0<|ai 12 U (Ep U c0 U)<|ai 13 U (qO U)<|bI<|yr U U<|aW<|bb U<|ak jj U Zg U U<|z8 (yx (j:=0) Z9 j9 U U U (by decide) U)<|aA jg U<|y3 U (zo (.l (.l (.l (.l (.l (.l (.l (.rest _))))))))) (lM f iw ja jb jc jo jt ids { s with st:=s.st+1 } B.term.to0 hids hgu hR hv hs g0 g1) ?_
    rintro r93 O93 ⟨hl',rfl,rfl⟩
    refine z2<|yy ?_
    exact ⟨jo,jt,ids,by rw[hS];exact hl',rfl,by rw[hS];rfl⟩
   ·have d0:¬B.term.kind=0:=by simpa using c0
    obtain ⟨v1,v0⟩:=Ad htm d0
    refine ie 4 U U U c0 (dR U)<|ie 5 U U U c0 (zy U)<|ie 6 U U U c0 (zh jf U Yg (by decide) U U)<|ie 7 U U U c0 (zq (c:=.own _ _) Yu U ⟨_,.head⟩ U)<|ie 8 U U U c0 (db jj U j9 U U)<|ie 9 U U U c0 (dQ jg U)<|ie 10 U U U c0 (yd (j:=B.term.var.toNat) jw Zb U U (wj v0).symm ⟨_,.t2⟩ ((aM _).trans hl2) (by omega))<|ie 11 U U U c0 (Gv.loadB (j:=B.term.var.toNat) Yn U ⟨_,.t2⟩ (ml (by omega) v0))<|ai 12 U (Eg U c0 U)<|ai 13 U (qO U)<|bI<|zw U (fun cw=>?_) (fun cw=>?_)
    ·have cw:gb s.bools B.term.var=true:=cw
     rw[if_pos (.inr cw)] at hnx
     rw[hnx] at hS g0 g1
     refine aW<|bb U<|ak jj U Zg U U<|z8 (yx (j:=0) Z9 j9 U U U (by decide) U)<|aA jg U<|y3 U (zo (.l (.l (.l (.l (.l (.l (.l (.rest _))))))))) (lM f iw ja jb jc jo jt ids { s with st:=s.st+1 } B.term.to0 hids hgu hR hv hs g0 g1) ?_
     rintro r93 O93 ⟨hl',rfl,rfl⟩
     refine z2<|yy ?_
     exact ⟨jo,jt,ids,by rw[hS];exact hl',rfl,by rw[hS];rfl⟩
    ·have cw:gb s.bools B.term.var=false:=cw
     rw[if_neg (by rintro (h|h);exact d0 h;rw[cw] at h;cases h)] at hnx
     rw[hnx] at hS g0 g1
     refine aW<|bb U<|ak jj U Zg U U<|z8 (yx (j:=1) Z9 j9 U U U (by decide) U)<|aA jg U<|y3 U (zo (.l (.l (.l (.l (.l (.l (.l (.rest _))))))))) (lM f iw ja jb jc jo jt ids { s with st:=s.st+1 } B.term.to1 hids hgu hR hv hs g0 g1) ?_
     rintro r56 O56 ⟨hl',rfl,rfl⟩
     refine z2<|yy ?_
     exact ⟨jo,jt,ids,by rw[hS];exact hl',rfl,by rw[hS];rfl⟩
end
end Go.Proofs.YtbbonnfjealmpaaGreatDoor
