/- A step of the document's machine, how it begins, and runs. Of programs as they are run. -/
import Derived.Test.YtdilpodccjlkgaaGreatDoorZc
import Derived.Test.YtdilpodccjlkgaaGreatDoorZx
set_option linter.unusedVariables false
set_option linter.unusedSimpArgs false
set_option linter.unusedSectionVars false
namespace Go.Proofs.YtdilpodccjlkgaaGreatDoor
open Go.Proofs.Tryz
section
variable {E:World} {P:Program} {ops:Array Oper} {K:aR→OL→Prop} {env:aR} {O O':OL} {rest:List Oper}
variable {d ty:Nat} {pos:String} {af:Array Edge} {x y z:Operand} {t u e:TypeId}
theorem az.appendO {ti:TypeInfo} {zv:Value} {k n m i j:Nat} {T2:TypeId} {cs ds:List AV} {f:Nat→OL} (ht:P.underlying t=some (.slice e)) (hi:P.info? e=some ti) (hz:ti.zero=some zv) (hk:ti.size=k) (hzc:zv.cells.size=k)
  (hx:aV env x=.own i n) (hy:aV env y=.own j m) (hO:∀i',oE O i (.grow k e cs) i' (.grow k e (cs++ds)) (f i')) (hj:nF O j (.grow k T2 ds)) (hn:cs.length=n*k) (hm:ds.length=m*k) (hne:ds≠[]) (hk0:0<k) (hc1:ds.all qs=true) (hb:(n+m)*ti.bytes≤140737488355328) (hb2:n+m≤140737488355328)
  (kk:∀i',az P E ops K rest (bq env d (.own i' (n+m))) (f i')) :
  az P E ops K (Oper.mk (some d) (.call { callee:=.builtin .append,args:=#[x,y],argTypes:=#[t,t] }) ty pos af none::rest) env O:=fun I F ρ w h1 h2=>by
 obtain ⟨htop,L,hL,hS⟩:=id h2
 have h3:=h1.ev x
 rw[hx] at h3
 obtain ⟨b,cap,e1,ex⟩:=h3
 have h4:=h1.ev y
 rw[hy] at h4
 obtain ⟨b4,c4,e4,ey⟩:=h4
 obtain ⟨b2,c2,us2,junk,e5,hus2,hmem⟩:=hj.grow hL hne
 rw[e4] at e5
 simp only[Option.some.injEq,Prod.mk.injEq] at e5
 obtain ⟨rfl,rfl⟩:=e5
 obtain ⟨j',hj'⟩:=h2.name
 obtain ⟨A,B,hp,⟨b',cap',n',us,e2,hus,huc,hown⟩,hback⟩:=(hO j').rep hL
 simp only at e2
 rw[e1] at e2
 simp only[Option.some.injEq,Prod.mk.injEq] at e2
 obtain ⟨rfl,rfl⟩:=e2
 have hnn:n'=n:=by
  have h5:=hown.1
  have h6:=hus.length
  have:n'*k=n*k:=by omega
  exact Nat.eq_of_mul_eq_mul_right hk0 this
 subst hnn
 have hS2:SL I.k (A++(B++F)) E w:=hS.perm (by rw[←qv];exact (hp.append_right F).symm)
 have hmem2:(b2,Obj.cells (us2++junk).toArray T2 (0,0))∈A++(B++F):=by rw[←qv];exact List.mem_append_left _ (hp.mem_iff.1 hmem)
 have hsrc:Hm I.k (A++(B++F)) k (some ⟨b2,0,none⟩) m us2:=⟨by rw[hus2.length,hm],hus2.cell1 hc1,.inr ⟨_,rfl,fun q u hq=>⟨b2,0,rfl,.inr ⟨_,_,_,hmem2,by
  rw[Nat.zero_add,List.getElem?_toArray,List.getElem?_append_left (List.getElem?_eq_some_iff.1 hq).1];exact hq⟩⟩⟩⟩
 refine bZ.append ht hi hz hk hzc ex ey hS2 hown hsrc hb hb2 fun a' c' A' w' h5 h6 h7=>?_
 have hb':∃b'',a'=adr b'':=by
  rcases h5.2.2 with ⟨e,_⟩|⟨b'',junk,e,_⟩
  ·exact ⟨none,e⟩
  ·exact ⟨some b'',e⟩
 obtain ⟨b'',rfl⟩:=hb'
 obtain ⟨J,ek,hle,e3,htop'⟩:=hj' (b'',c')
 obtain ⟨L',h8,h9⟩:=hback hle (A':=A') ⟨b'',c',_,us++us2,e3,ql hle _ _ (hus.append hus2),(by
  intro u hu
  rcases List.mem_append.1 hu with hu|hu
  ·exact huc u hu
  ·exact hus2.cell1 hc1 u hu),h5⟩
 exact q6 (fun _ _=>q7 hle) _ _ _ (kk j' J F _ _ ((h1.mono hle).upd d ⟨b'',c',e3,rfl⟩) ⟨htop',L',h8,by rw[ek];exact h6.perm (by rw[←qv];exact h9.append_right F)⟩)
end
end Go.Proofs.YtdilpodccjlkgaaGreatDoor
namespace Go.Proofs.YtdilpodccjlkgaaGreatDoor
open Go.Proofs.Tryz
section
variable {E:World} {P:Program} {ops:Array Oper} {K:aR→OL→Prop} {env:aR} {O O':OL} {rest:List Oper}
variable {d ty:Nat} {pos:String} {af:Array Edge} {x y z:Operand} {t u e:TypeId}
theorem az.appendOZ {ti:TypeInfo} {zv:Value} {k n m i j:Nat} {T2:TypeId} {cs ds:List AV} {f:Nat→OL} (ht:P.underlying t=some (.slice e)) (hi:P.info? e=some ti) (hz:ti.zero=some zv) (hk:ti.size=k) (hzc:zv.cells.size=k)
  (hx:aV env x=.own i n) (hy:aV env y=.own j m) (hO:∀i',oE O i (.grow k e cs) i' (.grow k e (cs++ds)) (f i')) (hj:nF O j (.grow k T2 ds)) (hn:cs.length=n*k) (hm:ds.length=m*k) (hk0:0<k) (hc1:ds.all qs=true) (hb:(n+m)*ti.bytes≤140737488355328) (hb2:n+m≤140737488355328)
  (kk:∀i',az P E ops K rest (bq env d (.own i' (n+m))) (f i')) :
  az P E ops K (Oper.mk (some d) (.call { callee:=.builtin .append,args:=#[x,y],argTypes:=#[t,t] }) ty pos af none::rest) env O:=by
 by_cases hne:ds=[]
 ·subst hne
  have hm0:m=0:=by
   have:m*k=0:=hm.symm
   rcases Nat.mul_eq_zero.1 this with h|h
   ·exact h
   ·omega
  subst hm0
  intro I F ρ w h1 h2
  obtain ⟨htop,L,hL,hS⟩:=id h2
  have h3:=h1.ev x
  rw[hx] at h3
  obtain ⟨b,cap,e1,ex⟩:=h3
  have h4:=h1.ev y
  rw[hy] at h4
  obtain ⟨b4,c4,e4,ey⟩:=h4
  obtain ⟨j',hj'⟩:=h2.name
  obtain ⟨A,B,hp,⟨b',cap',n',us,e2,hus,huc,hown⟩,hback⟩:=(hO j').rep hL
  simp only at e2
  rw[e1] at e2
  simp only[Option.some.injEq,Prod.mk.injEq] at e2
  obtain ⟨rfl,rfl⟩:=e2
  have hnn:n'=n:=by
   have h5:=hown.1
   have h6:=hus.length
   have:n'*k=n*k:=by omega
   exact Nat.eq_of_mul_eq_mul_right hk0 this
  subst hnn
  have hS2:SL I.k (A++(B++F)) E w:=hS.perm (by rw[←qv];exact (hp.append_right F).symm)
  have hsrc:Hm I.k (A++(B++F)) k (adr b4) 0 []:=⟨by simp,by simp,by cases b4 with|none=>exact .inl ⟨rfl,rfl⟩|some b4=>exact .inr ⟨_,rfl,by simp⟩⟩
  refine bZ.append ht hi hz hk hzc ex ey hS2 hown hsrc hb hb2 fun a' c' A' w' h5 h6 h7=>?_
  have hb':∃b'',a'=adr b'':=by
   rcases h5.2.2 with ⟨e,_⟩|⟨b'',junk,e,_⟩
   ·exact ⟨none,e⟩
   ·exact ⟨some b'',e⟩
  obtain ⟨b'',rfl⟩:=hb'
  obtain ⟨J,ek,hle,e3,htop'⟩:=hj' (b'',c')
  obtain ⟨L',h8,h9⟩:=hback hle (A':=A') ⟨b'',c',_,us++[],e3,ql hle _ _ (hus.append rfl),(by rw[w6];exact huc),h5⟩
  exact q6 (fun _ _=>q7 hle) _ _ _ (kk j' J F _ _ ((h1.mono hle).upd d ⟨b'',c',e3,rfl⟩) ⟨htop',L',h8,by rw[ek];exact h6.perm (by rw[←qv];exact h9.append_right F)⟩)
 ·exact az.appendO ht hi hz hk hzc hx hy hO hj hn hm hne hk0 hc1 hb hb2 kk
end
end Go.Proofs.YtdilpodccjlkgaaGreatDoor
namespace Go.Proofs.YtdilpodccjlkgaaGreatDoor
open Go.Proofs.Tryz
open Go.Proofs Go.Lib Go.Shelf Go.RowKit
variable {E:World}
set_option maxRecDepth 20000
def wn (fr ar:List Int) (b:Int):Int:=((fr.zip ar).find? fun q=>decide (q.1=b)).elim (-1) (·.2)
theorem D0 {fr ar:List Int} {b:Int} {j:Nat} (h:j<fr.length) (h2:j<ar.length):wn (fr.drop j) (ar.drop j) b=if fr[j]=b then ar[j] else wn (fr.drop (j+1)) (ar.drop (j+1)) b:=by
 rw[List.drop_eq_getElem_cons h,List.drop_eq_getElem_cons h2]
 unfold wn
 rw[List.zip_cons_cons,List.find?_cons]
 by_cases e:fr[j]=b
 ·rw[if_pos e];simp[e]
 ·rw[if_neg e];simp[e]
def oB (l:List dG) (b:Int) (k:Nat):List Int:=(l.take k).map fun p=>el p b
theorem D1 {l:List dG} {b:Int} {k:Nat} (h:k<l.length):oB l b k++[el l[k] b]=oB l b (k+1):=by
 unfold oB;rw[qu h,w5];rfl
theorem FC {l:List dG} {b:Int} {k:Nat} (h:k<l.length):(oB l b l.length)[k]?=some (el l[k] b):=by
 unfold oB;rw[qy,w2,qt h];rfl
theorem oP {l:List dG} {b:Int} {k:Nat} (h:k≤l.length):(oB l b k).length=k:=by
 unfold oB;rw[w1,w7];omega
def B7 (l:List dG) (s:GS) (k:Nat):GS:=(l.take k).foldl (assign s) s
theorem FD {l:List dG} {s:GS} {k:Nat} (h:k<l.length):B7 l s (k+1)=assign s (B7 l s k) l[k]:=by
 unfold B7;rw[qu h,List.foldl_append];rfl
theorem BV (l:List dG) (s:GS) (k:Nat):(B7 l s k).arrays=s.arrays:=by
 unfold B7
 suffices h:∀(l:List dG) (t:GS),(l.foldl (assign s) t).arrays=t.arrays from h _ s
 intro l
 induction l with
 |nil=>intro t;rfl
 |cons p l ih=>intro t;exact ih _
set_option maxHeartbeats 16000000 in
theorem k9 (f:ac) (iw ja jb jc jo jt:Nat) (ids:List Nat) (s:GS) (to:Int) (hids:ids.length=s.arrays.length) (hg:bn f s) (hR:vx f) (hv:f.vars.length≤1000) (hs:small f) (h0:0≤to) (h1:to<f.blocks.length):aY prog E 54 [.po iw 0,.int .i64 to] (wO f iw ja jb jc jo jt ids s) (fun y O=>ids.length=(fv f s to).arrays.length∧y=.tup []∧O=wO f iw ja jb jc jo jt ids (fv f s to)):=by
 have hB:=tC h0 h1
 have hBm:=w4 hB
 have hph:=hR.phis _ hBm
 have hsm:=(hs.2.2.2.2 _ hBm).2.1
 have hsp:=(hs.2.2.2.2 _ hBm).2.2.2.1
 obtain ⟨B,hBe⟩:∃B,bT f to=B:=⟨_,rfl⟩
 have hgo:fv f s to=if B.phis.all (fun p=>decide (0≤el p s.blk))=true then goG (B7 B.phis s B.phis.length) to else dw (goG s to) 2:=by unfold fv B7;rw[hBe,qy]
 rw[hBe] at hB hph hsm hsp
 have hl1:=hg.li
 have hl2:=hg.lb
 have hl3:=hg.la
 refine zp func54 Z (by decide) Z<|ai<|za (jI Z)<|z6<|gU (t:=4) (k:=1) (T:=3) Z<|fun i4=>zz (zb (zc .t1))<|zd<|ai<|aJ Z<|ap Z<|za (zf j8 Z jj (by decide) Z Z)<|za (zf jg Z Z8 (by decide) Z Z)<|za (zo (c:=.fro _ _) Zg Z ⟨_,.head⟩ Z)<|aa Z<|za (bv to.toNat ju jx Z Z (by omega) hB)<|au ji Z Yl Z Z<|aI Yv Z<|aq Z3 Z<|aa Z<|z6<|zm<|y8 (γ:=Nat × Nat) [0,1,22,23] (fun g=>[(24,.int .i64 g.1),(4,.own g.2 g.1)]) (fun g=>(iw,.cells 99 (FB f ja jb jc jo jt s))::(g.2,.grow 1 3 (cI (oB B.phis s.blk g.1)))::wR ja jb jc jo jt ids s) (fun g=>g.1≤B.phis.length∧∀p∈B.phis.take g.1,0≤el p s.blk) (fun g=>B.phis.length - g.1) (0,i4) eo aH (⟨qw _,fun p hp=>by simp at hp⟩) ?_
 rintro ⟨k,i4⟩ ⟨hk,hok⟩
 try dsimp only at *
 refine ai<|ay Z Z<|z6<|zd<|zt Z (fun ck=>?_) (fun ck=>?_)
 ·have hk2:k<B.phis.length:=by simp at ck;omega
  obtain ⟨p,hp⟩:∃p,B.phis[k]=p:=⟨_,rfl⟩
  have hpg:B.phis[k]?=some p:=by rw[qt hk2,hp]
  have hpm:=w4 hpg
  obtain ⟨_,hal,_,_,_⟩:=hph p hpm
  have hfl:=(hsp p hpm).2
  refine zi<|zd<|zm<|ai<|za (bv k Z3 Zb Z Z Z hpg)<|ae X1 Zb Z Z<|y7 (cs:=[.int .i64 0,.raw (.slice none 0 0),.raw (.slice none 0 0)]) Yg Z Z<|fun i6=>y1 Zb Z Z Z Z Z Z .head Z<|ze (yd (t:=6) Z .head)<|z6<|ai<|ao Z<|z6<|zd<|ai<|au jz Z j7 Z Z<|aI jf Z<|aq wy Z<|za (Gv.sub Z Z (by unfold lE;omega))<|ao Z<|z6<|zm<|y8 (γ:=Nat) [0,1,4,6,22,23,24] (fun m=>[(8,.int .i64 ((m:Int) - 1)),(7,.int .i64 (wn (p.from_.drop m) (p.args.drop m) s.blk))]) (fun m=>(iw,.cells 99 (FB f ja jb jc jo jt s))::(i4,.grow 1 3 (cI (oB B.phis s.blk k)))::wR ja jb jc jo jt ids s) (fun m=>m≤p.from_.length) (fun m=>m) p.from_.length ⟨congrArg (AV.int .i64) (by simp),congrArg (AV.int .i64) (by rw[List.drop_length];rfl),trivial⟩ aH (Nat.le_refl _) ?_
  rintro m hm
  refine zd<|ai<|aa Z<|za (q5 Z Z)<|z6<|zt Z (fun c8=>?_) (fun c8=>?_)
  ·have hm1:m - 1<p.from_.length:=by omega
   have hm2:m - 1<p.args.length:=by omega
   have hst:=D0 (b:=s.blk) hm1 hm2
   rw[show m - 1+1=m by omega] at hst
   refine zi<|zd<|zm<|zd<|zr (fun j=>false) (by kernel_rfl) Z (zj (.r (.rest _)))<|ad 0 Z (bK jz Z j7 Z Z)<|ad 1 Z (e9 jf Z)<|ad 2 Z (cD Z)<|ad 3 Z (bv (m - 1) wy wz Z Z (by omega) (qt hm1))<|ad 4 Z (cQ j6 Z)<|ad 5 Z (cJ Z)<|ad 6 Z (zw Z)<|ad 7 Z (zf j8 Z wz (by decide) Z Z)<|ad 8 Z (zo (c:=.int _ _) j6 Z ⟨_,.head⟩ Z)<|ad 9 Z (Gv.eqlI Z Z)<|bI<|zt Z (fun ce=>?_) (fun ce=>?_)
   ·have ce:p.from_[m - 1]=s.blk:=by simpa using ce
    rw[if_pos ce] at hst
    refine aW<|au jz Z j7 Z Z<|aI jf Z<|aa Z<|za (bv (m - 1) wy wz Z Z (by omega) (qt hm2))<|aA j6 Z<|ao Z<|z6<|aW<|aa Z<|za (Gv.sub Z Z (by unfold lE;omega))<|ao Z<|z6 ?_
    exact ⟨m - 1,lf,⟨congrArg (AV.int .i64) (by omega),congrArg (AV.int .i64) hst.symm,trivial⟩,aH,by omega,by omega⟩
   ·have ce:¬p.from_[m - 1]=s.blk:=by simpa using ce
    rw[if_neg ce] at hst
    refine zi<|aW<|aa Z<|za (Gv.sub Z Z (by unfold lE;omega))<|ao Z<|z6 ?_
    exact ⟨m - 1,lf,⟨congrArg (AV.int .i64) (by omega),congrArg (AV.int .i64) hst.symm,trivial⟩,aH,by omega,by omega⟩
  ·obtain rfl:m=0:=by omega
   have hat:wn (p.from_.drop 0) (p.args.drop 0) s.blk=el p s.blk:=rfl
   rw[hat]
   refine y6<|zd<|ai<|aa Z<|ay Z Z<|z6<|zt Z (fun cn=>?_) (fun cn=>?_)
   ·have cn:el p s.blk<0:=by simpa using cn
    have hE:fv f s to=dw (goG s to) 2:=by
     rw[hgo,if_neg]
     intro h
     have:=wd (List.all_eq_true.1 h p hpm)
     omega
    refine zz (aS.drop .t1)<|ai<|aJ Z<|aJ Z<|aa Z<|ap Z<|za (zf j8 Z wz (by decide) Z Z)<|yq (l:=[_]) (new:=[_,_,_,_,_,_,_,_,_,_,_,_,_,_,_,_,_,_,_,_,_,_,_]) wz Z Z Z Z Z Z .head Z Z<|ap Z<|za (zf j8 Z wz (by decide) Z Z)<|yq (l:=[_]) (new:=[_,_,_,_,_,_,_,_,_,_,_,_,_,_,_,_,_,_,_,_,_,_,_]) wz Z Z Z Z Z Z .head Z Z<|z6<|ai<|aJ Z<|zu Z (zj (.l (.l (.l (.l (.l (.l (.l (.rest _))))))))) (eu f iw ja jb jc jo jt ids (goG s to) 2) ?_
    rintro r61 O61 ⟨rfl,rfl⟩
    refine z6<|zg<|yl ?_
    exact ⟨by rw[hE];exact hids,rfl,by rw[hE];rfl⟩
   ·have cn:0≤el p s.blk:=by simpa using cn
    refine zi<|aW<|za (im Z)<|aa Z<|y4 (rows:=[[_]]) cS Z Z Z Z Z<|yu (k:=1) wy Y1 Z Z Z Z Z (fun _=>.t1) (by rw[aD,oP hk];omega) (by decide) Z (by show (_+1)*8≤_;omega) (by show _+1≤_;omega)<|fun i65=>za (eD Z)<|z6<|aW<|aE Z Z<|aa Z<|z6 ?_
    exact ⟨(k+1,i65),gH,eo,⟨_,(.refl _),by rw[←D1 hk2,hp,←oZ];rfl⟩,⟨hk2,fun q hq=>by rw[qu hk2] at hq;rcases List.mem_append.1 hq with hq|hq;exact hok q hq;rw[List.mem_singleton.1 hq,hp];exact cn⟩,by dsimp only;omega⟩
 ·obtain rfl:k=B.phis.length:=by simp at ck;omega
  rw[qy] at hok
  have hE:fv f s to=goG (B7 B.phis s B.phis.length) to:=by
   rw[hgo,if_pos (List.all_eq_true.2 fun p hp=>w8 (hok p hp))]
  have hT:∀k,bn f (B7 B.phis s k):=fun k=>hg.assigns _ s hg rfl fun p hp=>⟨hph p (List.mem_of_mem_take hp),hok p (List.mem_of_mem_take hp)⟩
  refine y6<|zd<|ye (γ:=Nat × Nat × Nat) [0,1,4] (fun g=>[(9,.own g.1 f.vars.length),(10,.own g.2.1 f.vars.length),(11,.own g.2.2 f.vars.length)]) (fun g=>(iw,.cells 99 (FB f ja jb jc jo jt s))::(g.1,.grow 1 2 (cI s.ints))::(g.2.1,.grow 1 4 (cB s.bools))::(g.2.2,.grow 1 3 (cI s.arrs))::(i4,.grow 1 3 (cI (oB B.phis s.blk B.phis.length)))::wR ja jb jc jo jt ids s) (fun g=>True) ?_ (fun _ _ h=>h) ?_
  ·refine zr (fun j=>false) (by kernel_rfl) Z (zj (.r (.rest _)))<|ad 1 Z (cJ Z)<|ad 2 Z (zw Z)<|ad 3 Z (zf j8 Z Zu (by decide) Z Z)<|ad 4 Z (zo (c:=.own _ _) Yf Z ⟨_,.head⟩ Z)<|ad 7 Z (cJ Z)<|ad 8 Z (zw Z)<|ad 9 Z (zf j8 Z X3 (by decide) Z Z)<|ad 10 Z (zo (c:=.own _ _) Xf Z ⟨_,.head⟩ Z)<|ad 13 Z (cJ Z)<|ad 14 Z (zw Z)<|ad 15 Z (zf j8 Z j7 (by decide) Z Z)<|ad 16 Z (zo (c:=.own _ _) jf Z ⟨_,.head⟩ Z)<|bN.three (i:=0) (j:=6) (m:=12) Z Z Z (by kernel_rfl) ?_ ?_ ?_
   ·refine yj (k:=1) jw X8<|fun i67=>z6<|bN.three (i:=5) (j:=6) (m:=12) Z Z Z (by kernel_rfl) ?_ ?_ ?_
    ·refine az.appendOZ (k:=1) jw X8 Z Z Z Z Z (fun _=>.head) ⟨_,.t2⟩ Z (by rw[aD,hl1];omega) (by decide) (bV _) (by show (_+_)*8≤_;omega) (by omega)<|fun i72=>z6<|yr (i:=6) (j:=12) Z Z (by kernel_rfl) ?_ ?_
     ·refine yj (k:=1) jk Yp<|fun i73=>z6<|yr (i:=11) (j:=12) Z Z (by kernel_rfl) ?_ ?_
      ·refine az.appendOZ (k:=1) jk Yp Z Z Z Z Z (fun _=>.head) ⟨_,.t4⟩ Z (by rw[aN,hl2];omega) (by decide) (eg _) (by show (_+_)*1≤_;omega) (by omega)<|fun i78=>z6<|aQ 12 Z<|yj (k:=1) wy Y1<|fun i79=>z6<|aQ 17 Z<|az.appendOZ (k:=1) wy Y1 Z Z Z Z Z (fun _=>.head) ⟨_,.t6⟩ Z (by rw[aD,hl3];omega) (by decide) (bV _) (by show (_+_)*8≤_;omega) (by omega)<|fun i84=>ze (zb (zc .head))<|ze (zb (zc .t1))<|ze (zb (zc .t2))<|z6<|ad 18 Z (eD Z)<|ad 19 Z (eD Z)<|ad 20 Z (eD Z)<|bI ?_
       exact ⟨(i72,i78,i84),db,⟨congrArg (AV.own i72) (Nat.zero_add _),congrArg (AV.own i78) (Nat.zero_add _),congrArg (AV.own i84) (Nat.zero_add _),trivial⟩,aH,trivial⟩
      ·refine yj (k:=1) wy Y1<|fun i79=>z6<|aQ 11 Z<|az.appendOZ (k:=1) jk Yp Z Z Z Z Z (fun _=>.t1) ⟨_,.t5⟩ Z (by rw[aN,hl2];omega) (by decide) (eg _) (by show (_+_)*1≤_;omega) (by omega)<|fun i78=>z6<|aQ 17 Z<|az.appendOZ (k:=1) wy Y1 Z Z Z Z Z (fun _=>.head) ⟨_,.t6⟩ Z (by rw[aD,hl3];omega) (by decide) (bV _) (by show (_+_)*8≤_;omega) (by omega)<|fun i84=>ze (zb (zc .head))<|ze (zb (zc .t1))<|ze (zb (zc .t2))<|z6<|ad 18 Z (eD Z)<|ad 19 Z (eD Z)<|ad 20 Z (eD Z)<|bI ?_
       exact ⟨(i72,i78,i84),db,⟨congrArg (AV.own i72) (Nat.zero_add _),congrArg (AV.own i78) (Nat.zero_add _),congrArg (AV.own i84) (Nat.zero_add _),trivial⟩,aH,trivial⟩
     ·refine yj (k:=1) wy Y1<|fun i79=>z6<|aQ 6 Z<|yj (k:=1) jk Yp<|fun i73=>z6<|aQ 11 Z<|az.appendOZ (k:=1) jk Yp Z Z Z Z Z (fun _=>.head) ⟨_,.t5⟩ Z (by rw[aN,hl2];omega) (by decide) (eg _) (by show (_+_)*1≤_;omega) (by omega)<|fun i78=>z6<|aQ 17 Z<|az.appendOZ (k:=1) wy Y1 Z Z Z Z Z (fun _=>.t1) ⟨_,.t6⟩ Z (by rw[aD,hl3];omega) (by decide) (bV _) (by show (_+_)*8≤_;omega) (by omega)<|fun i84=>ze (zb (zc .t1))<|ze (zb (zc .t1))<|ze (zb (zc .t2))<|z6<|ad 18 Z (eD Z)<|ad 19 Z (eD Z)<|ad 20 Z (eD Z)<|bI ?_
      exact ⟨(i72,i78,i84),db,⟨congrArg (AV.own i72) (Nat.zero_add _),congrArg (AV.own i78) (Nat.zero_add _),congrArg (AV.own i84) (Nat.zero_add _),trivial⟩,aH,trivial⟩
    ·refine yj (k:=1) jk Yp<|fun i73=>z6<|yr (i:=5) (j:=12) Z Z (by kernel_rfl) ?_ ?_
     ·refine az.appendOZ (k:=1) jw X8 Z Z Z Z Z (fun _=>.t1) ⟨_,.t3⟩ Z (by rw[aD,hl1];omega) (by decide) (bV _) (by show (_+_)*8≤_;omega) (by omega)<|fun i72=>z6<|yr (i:=11) (j:=12) Z Z (by kernel_rfl) ?_ ?_
      ·refine az.appendOZ (k:=1) jk Yp Z Z Z Z Z (fun _=>.head) ⟨_,.t4⟩ Z (by rw[aN,hl2];omega) (by decide) (eg _) (by show (_+_)*1≤_;omega) (by omega)<|fun i78=>z6<|aQ 12 Z<|yj (k:=1) wy Y1<|fun i79=>z6<|aQ 17 Z<|az.appendOZ (k:=1) wy Y1 Z Z Z Z Z (fun _=>.head) ⟨_,.t6⟩ Z (by rw[aD,hl3];omega) (by decide) (bV _) (by show (_+_)*8≤_;omega) (by omega)<|fun i84=>ze (zb (zc .head))<|ze (zb (zc .t1))<|ze (zb (zc .t2))<|z6<|ad 18 Z (eD Z)<|ad 19 Z (eD Z)<|ad 20 Z (eD Z)<|bI ?_
       exact ⟨(i72,i78,i84),db,⟨congrArg (AV.own i72) (Nat.zero_add _),congrArg (AV.own i78) (Nat.zero_add _),congrArg (AV.own i84) (Nat.zero_add _),trivial⟩,aH,trivial⟩
      ·refine yj (k:=1) wy Y1<|fun i79=>z6<|aQ 11 Z<|az.appendOZ (k:=1) jk Yp Z Z Z Z Z (fun _=>.t1) ⟨_,.t5⟩ Z (by rw[aN,hl2];omega) (by decide) (eg _) (by show (_+_)*1≤_;omega) (by omega)<|fun i78=>z6<|aQ 17 Z<|az.appendOZ (k:=1) wy Y1 Z Z Z Z Z (fun _=>.head) ⟨_,.t6⟩ Z (by rw[aD,hl3];omega) (by decide) (bV _) (by show (_+_)*8≤_;omega) (by omega)<|fun i84=>ze (zb (zc .head))<|ze (zb (zc .t1))<|ze (zb (zc .t2))<|z6<|ad 18 Z (eD Z)<|ad 19 Z (eD Z)<|ad 20 Z (eD Z)<|bI ?_
       exact ⟨(i72,i78,i84),db,⟨congrArg (AV.own i72) (Nat.zero_add _),congrArg (AV.own i78) (Nat.zero_add _),congrArg (AV.own i84) (Nat.zero_add _),trivial⟩,aH,trivial⟩
     ·refine yj (k:=1) wy Y1<|fun i79=>z6<|aQ 5 Z<|az.appendOZ (k:=1) jw X8 Z Z Z Z Z (fun _=>.t2) ⟨_,.t4⟩ Z (by rw[aD,hl1];omega) (by decide) (bV _) (by show (_+_)*8≤_;omega) (by omega)<|fun i72=>z6<|aQ 11 Z<|az.appendOZ (k:=1) jk Yp Z Z Z Z Z (fun _=>.t1) ⟨_,.t5⟩ Z (by rw[aN,hl2];omega) (by decide) (eg _) (by show (_+_)*1≤_;omega) (by omega)<|fun i78=>z6<|aQ 17 Z<|az.appendOZ (k:=1) wy Y1 Z Z Z Z Z (fun _=>.head) ⟨_,.t6⟩ Z (by rw[aD,hl3];omega) (by decide) (bV _) (by show (_+_)*8≤_;omega) (by omega)<|fun i84=>ze (zb (zc .head))<|ze (zb (zc .t1))<|ze (zb (zc .t2))<|z6<|ad 18 Z (eD Z)<|ad 19 Z (eD Z)<|ad 20 Z (eD Z)<|bI ?_
      exact ⟨(i72,i78,i84),db,⟨congrArg (AV.own i72) (Nat.zero_add _),congrArg (AV.own i78) (Nat.zero_add _),congrArg (AV.own i84) (Nat.zero_add _),trivial⟩,aH,trivial⟩
    ·refine yj (k:=1) wy Y1<|fun i79=>z6<|yr (i:=5) (j:=6) Z Z (by kernel_rfl) ?_ ?_
     ·refine az.appendOZ (k:=1) jw X8 Z Z Z Z Z (fun _=>.t1) ⟨_,.t3⟩ Z (by rw[aD,hl1];omega) (by decide) (bV _) (by show (_+_)*8≤_;omega) (by omega)<|fun i72=>z6<|aQ 6 Z<|yj (k:=1) jk Yp<|fun i73=>z6<|aQ 11 Z<|az.appendOZ (k:=1) jk Yp Z Z Z Z Z (fun _=>.head) ⟨_,.t5⟩ Z (by rw[aN,hl2];omega) (by decide) (eg _) (by show (_+_)*1≤_;omega) (by omega)<|fun i78=>z6<|aQ 17 Z<|az.appendOZ (k:=1) wy Y1 Z Z Z Z Z (fun _=>.t1) ⟨_,.t6⟩ Z (by rw[aD,hl3];omega) (by decide) (bV _) (by show (_+_)*8≤_;omega) (by omega)<|fun i84=>ze (zb (zc .t1))<|ze (zb (zc .t1))<|ze (zb (zc .t2))<|z6<|ad 18 Z (eD Z)<|ad 19 Z (eD Z)<|ad 20 Z (eD Z)<|bI ?_
      exact ⟨(i72,i78,i84),db,⟨congrArg (AV.own i72) (Nat.zero_add _),congrArg (AV.own i78) (Nat.zero_add _),congrArg (AV.own i84) (Nat.zero_add _),trivial⟩,aH,trivial⟩
     ·refine yj (k:=1) jk Yp<|fun i73=>z6<|aQ 5 Z<|az.appendOZ (k:=1) jw X8 Z Z Z Z Z (fun _=>.t2) ⟨_,.t4⟩ Z (by rw[aD,hl1];omega) (by decide) (bV _) (by show (_+_)*8≤_;omega) (by omega)<|fun i72=>z6<|aQ 11 Z<|az.appendOZ (k:=1) jk Yp Z Z Z Z Z (fun _=>.head) ⟨_,.t5⟩ Z (by rw[aN,hl2];omega) (by decide) (eg _) (by show (_+_)*1≤_;omega) (by omega)<|fun i78=>z6<|aQ 17 Z<|az.appendOZ (k:=1) wy Y1 Z Z Z Z Z (fun _=>.t1) ⟨_,.t6⟩ Z (by rw[aD,hl3];omega) (by decide) (bV _) (by show (_+_)*8≤_;omega) (by omega)<|fun i84=>ze (zb (zc .t1))<|ze (zb (zc .t1))<|ze (zb (zc .t2))<|z6<|ad 18 Z (eD Z)<|ad 19 Z (eD Z)<|ad 20 Z (eD Z)<|bI ?_
      exact ⟨(i72,i78,i84),db,⟨congrArg (AV.own i72) (Nat.zero_add _),congrArg (AV.own i78) (Nat.zero_add _),congrArg (AV.own i84) (Nat.zero_add _),trivial⟩,aH,trivial⟩
   ·refine yj (k:=1) jk Yp<|fun i73=>z6<|yr (i:=0) (j:=12) Z Z (by kernel_rfl) ?_ ?_
    ·refine yj (k:=1) jw X8<|fun i67=>z6<|yr (i:=5) (j:=12) Z Z (by kernel_rfl) ?_ ?_
     ·refine az.appendOZ (k:=1) jw X8 Z Z Z Z Z (fun _=>.head) ⟨_,.t3⟩ Z (by rw[aD,hl1];omega) (by decide) (bV _) (by show (_+_)*8≤_;omega) (by omega)<|fun i72=>z6<|yr (i:=11) (j:=12) Z Z (by kernel_rfl) ?_ ?_
      ·refine az.appendOZ (k:=1) jk Yp Z Z Z Z Z (fun _=>.t1) ⟨_,.t4⟩ Z (by rw[aN,hl2];omega) (by decide) (eg _) (by show (_+_)*1≤_;omega) (by omega)<|fun i78=>z6<|aQ 12 Z<|yj (k:=1) wy Y1<|fun i79=>z6<|aQ 17 Z<|az.appendOZ (k:=1) wy Y1 Z Z Z Z Z (fun _=>.head) ⟨_,.t6⟩ Z (by rw[aD,hl3];omega) (by decide) (bV _) (by show (_+_)*8≤_;omega) (by omega)<|fun i84=>ze (zb (zc .head))<|ze (zb (zc .t2))<|ze (zb (zc .t2))<|z6<|ad 18 Z (eD Z)<|ad 19 Z (eD Z)<|ad 20 Z (eD Z)<|bI ?_
       exact ⟨(i72,i78,i84),db,⟨congrArg (AV.own i72) (Nat.zero_add _),congrArg (AV.own i78) (Nat.zero_add _),congrArg (AV.own i84) (Nat.zero_add _),trivial⟩,aH,trivial⟩
      ·refine yj (k:=1) wy Y1<|fun i79=>z6<|aQ 11 Z<|az.appendOZ (k:=1) jk Yp Z Z Z Z Z (fun _=>.t2) ⟨_,.t5⟩ Z (by rw[aN,hl2];omega) (by decide) (eg _) (by show (_+_)*1≤_;omega) (by omega)<|fun i78=>z6<|aQ 17 Z<|az.appendOZ (k:=1) wy Y1 Z Z Z Z Z (fun _=>.head) ⟨_,.t6⟩ Z (by rw[aD,hl3];omega) (by decide) (bV _) (by show (_+_)*8≤_;omega) (by omega)<|fun i84=>ze (zb (zc .head))<|ze (zb (zc .t2))<|ze (zb (zc .t2))<|z6<|ad 18 Z (eD Z)<|ad 19 Z (eD Z)<|ad 20 Z (eD Z)<|bI ?_
       exact ⟨(i72,i78,i84),db,⟨congrArg (AV.own i72) (Nat.zero_add _),congrArg (AV.own i78) (Nat.zero_add _),congrArg (AV.own i84) (Nat.zero_add _),trivial⟩,aH,trivial⟩
     ·refine yj (k:=1) wy Y1<|fun i79=>z6<|aQ 5 Z<|az.appendOZ (k:=1) jw X8 Z Z Z Z Z (fun _=>.t1) ⟨_,.t4⟩ Z (by rw[aD,hl1];omega) (by decide) (bV _) (by show (_+_)*8≤_;omega) (by omega)<|fun i72=>z6<|aQ 11 Z<|az.appendOZ (k:=1) jk Yp Z Z Z Z Z (fun _=>.t2) ⟨_,.t5⟩ Z (by rw[aN,hl2];omega) (by decide) (eg _) (by show (_+_)*1≤_;omega) (by omega)<|fun i78=>z6<|aQ 17 Z<|az.appendOZ (k:=1) wy Y1 Z Z Z Z Z (fun _=>.head) ⟨_,.t6⟩ Z (by rw[aD,hl3];omega) (by decide) (bV _) (by show (_+_)*8≤_;omega) (by omega)<|fun i84=>ze (zb (zc .head))<|ze (zb (zc .t2))<|ze (zb (zc .t2))<|z6<|ad 18 Z (eD Z)<|ad 19 Z (eD Z)<|ad 20 Z (eD Z)<|bI ?_
      exact ⟨(i72,i78,i84),db,⟨congrArg (AV.own i72) (Nat.zero_add _),congrArg (AV.own i78) (Nat.zero_add _),congrArg (AV.own i84) (Nat.zero_add _),trivial⟩,aH,trivial⟩
    ·refine yj (k:=1) wy Y1<|fun i79=>z6<|aQ 0 Z<|yj (k:=1) jw X8<|fun i67=>z6<|aQ 5 Z<|az.appendOZ (k:=1) jw X8 Z Z Z Z Z (fun _=>.head) ⟨_,.t4⟩ Z (by rw[aD,hl1];omega) (by decide) (bV _) (by show (_+_)*8≤_;omega) (by omega)<|fun i72=>z6<|aQ 11 Z<|az.appendOZ (k:=1) jk Yp Z Z Z Z Z (fun _=>.t2) ⟨_,.t5⟩ Z (by rw[aN,hl2];omega) (by decide) (eg _) (by show (_+_)*1≤_;omega) (by omega)<|fun i78=>z6<|aQ 17 Z<|az.appendOZ (k:=1) wy Y1 Z Z Z Z Z (fun _=>.t1) ⟨_,.t6⟩ Z (by rw[aD,hl3];omega) (by decide) (bV _) (by show (_+_)*8≤_;omega) (by omega)<|fun i84=>ze (zb (zc .t1))<|ze (zb (zc .t2))<|ze (zb (zc .t2))<|z6<|ad 18 Z (eD Z)<|ad 19 Z (eD Z)<|ad 20 Z (eD Z)<|bI ?_
     exact ⟨(i72,i78,i84),db,⟨congrArg (AV.own i72) (Nat.zero_add _),congrArg (AV.own i78) (Nat.zero_add _),congrArg (AV.own i84) (Nat.zero_add _),trivial⟩,aH,trivial⟩
   ·refine yj (k:=1) wy Y1<|fun i79=>z6<|yr (i:=0) (j:=6) Z Z (by kernel_rfl) ?_ ?_
    ·refine yj (k:=1) jw X8<|fun i67=>z6<|yr (i:=5) (j:=6) Z Z (by kernel_rfl) ?_ ?_
     ·refine az.appendOZ (k:=1) jw X8 Z Z Z Z Z (fun _=>.head) ⟨_,.t3⟩ Z (by rw[aD,hl1];omega) (by decide) (bV _) (by show (_+_)*8≤_;omega) (by omega)<|fun i72=>z6<|aQ 6 Z<|yj (k:=1) jk Yp<|fun i73=>z6<|aQ 11 Z<|az.appendOZ (k:=1) jk Yp Z Z Z Z Z (fun _=>.head) ⟨_,.t5⟩ Z (by rw[aN,hl2];omega) (by decide) (eg _) (by show (_+_)*1≤_;omega) (by omega)<|fun i78=>z6<|aQ 17 Z<|az.appendOZ (k:=1) wy Y1 Z Z Z Z Z (fun _=>.t2) ⟨_,.t6⟩ Z (by rw[aD,hl3];omega) (by decide) (bV _) (by show (_+_)*8≤_;omega) (by omega)<|fun i84=>ze (zb (zc .t2))<|ze (zb (zc .t1))<|ze (zb (zc .t2))<|z6<|ad 18 Z (eD Z)<|ad 19 Z (eD Z)<|ad 20 Z (eD Z)<|bI ?_
      exact ⟨(i72,i78,i84),db,⟨congrArg (AV.own i72) (Nat.zero_add _),congrArg (AV.own i78) (Nat.zero_add _),congrArg (AV.own i84) (Nat.zero_add _),trivial⟩,aH,trivial⟩
     ·refine yj (k:=1) jk Yp<|fun i73=>z6<|aQ 5 Z<|az.appendOZ (k:=1) jw X8 Z Z Z Z Z (fun _=>.t1) ⟨_,.t4⟩ Z (by rw[aD,hl1];omega) (by decide) (bV _) (by show (_+_)*8≤_;omega) (by omega)<|fun i72=>z6<|aQ 11 Z<|az.appendOZ (k:=1) jk Yp Z Z Z Z Z (fun _=>.head) ⟨_,.t5⟩ Z (by rw[aN,hl2];omega) (by decide) (eg _) (by show (_+_)*1≤_;omega) (by omega)<|fun i78=>z6<|aQ 17 Z<|az.appendOZ (k:=1) wy Y1 Z Z Z Z Z (fun _=>.t2) ⟨_,.t6⟩ Z (by rw[aD,hl3];omega) (by decide) (bV _) (by show (_+_)*8≤_;omega) (by omega)<|fun i84=>ze (zb (zc .t2))<|ze (zb (zc .t1))<|ze (zb (zc .t2))<|z6<|ad 18 Z (eD Z)<|ad 19 Z (eD Z)<|ad 20 Z (eD Z)<|bI ?_
      exact ⟨(i72,i78,i84),db,⟨congrArg (AV.own i72) (Nat.zero_add _),congrArg (AV.own i78) (Nat.zero_add _),congrArg (AV.own i84) (Nat.zero_add _),trivial⟩,aH,trivial⟩
    ·refine yj (k:=1) jk Yp<|fun i73=>z6<|aQ 0 Z<|yj (k:=1) jw X8<|fun i67=>z6<|aQ 5 Z<|az.appendOZ (k:=1) jw X8 Z Z Z Z Z (fun _=>.head) ⟨_,.t4⟩ Z (by rw[aD,hl1];omega) (by decide) (bV _) (by show (_+_)*8≤_;omega) (by omega)<|fun i72=>z6<|aQ 11 Z<|az.appendOZ (k:=1) jk Yp Z Z Z Z Z (fun _=>.t1) ⟨_,.t5⟩ Z (by rw[aN,hl2];omega) (by decide) (eg _) (by show (_+_)*1≤_;omega) (by omega)<|fun i78=>z6<|aQ 17 Z<|az.appendOZ (k:=1) wy Y1 Z Z Z Z Z (fun _=>.t2) ⟨_,.t6⟩ Z (by rw[aD,hl3];omega) (by decide) (bV _) (by show (_+_)*8≤_;omega) (by omega)<|fun i84=>z6<|ad 18 Z (eD Z)<|ad 19 Z (eD Z)<|ad 20 Z (eD Z)<|bI ?_
     exact ⟨(i72,i78,i84),db,⟨congrArg (AV.own i72) (Nat.zero_add _),congrArg (AV.own i78) (Nat.zero_add _),congrArg (AV.own i84) (Nat.zero_add _),trivial⟩,aH,trivial⟩
  ·rintro ⟨i72,i78,i84⟩ _
   refine zd<|ai<|aJ Z<|ap Z<|za (zf j8 Z jj (by decide) Z Z)<|za (zf jg Z Z8 (by decide) Z Z)<|za (zo (c:=.fro _ _) Zg Z ⟨_,.head⟩ Z)<|aa Z<|za (bv to.toNat ju jx Z Z (by omega) hB)<|au ji Z Yl Z Z<|aI Yv Z<|aq Z3 Z<|aa Z<|z6<|zm<|y8 (γ:=Nat) [0,1,4,9,10,11,93,94] (fun k=>[(95,.int .i64 k)]) (fun k=>(iw,.cells 99 (FB f ja jb jc jo jt (B7 B.phis s k)))::(i72,.grow 1 2 (cI s.ints))::(i78,.grow 1 4 (cB s.bools))::(i84,.grow 1 3 (cI s.arrs))::(i4,.grow 1 3 (cI (oB B.phis s.blk B.phis.length)))::wR ja jb jc jo jt ids (B7 B.phis s k)) (fun k=>k≤B.phis.length) (fun k=>B.phis.length - k) 0 aK aH (qw _) ?_
   rintro k hk
   refine ai<|ay Z Z<|z6<|zd<|zt Z (fun ck=>?_) (fun ck=>?_)
   ·have hk2:k<B.phis.length:=by simp at ck;omega
    obtain ⟨p,hp⟩:∃p,B.phis[k]=p:=⟨_,rfl⟩
    have hpg:B.phis[k]?=some p:=by rw[qt hk2,hp]
    have hpm:=w4 hpg
    have hp0:=hok p hpm
    obtain ⟨hd,_,_,ha,_⟩:=hph p hpm
    obtain ⟨d1,d0⟩:=eG hd
    obtain ⟨v1,v0⟩:=eG (List.all_eq_true.1 ha _ (sE hp0))
    have hgg:(oB B.phis s.blk B.phis.length)[k]?=some (el p s.blk):=by rw[FC hk2,hp]
    have t1:=(hT k).li
    have t2:=(hT k).lb
    have t3:=(hT k).la
    refine zi<|zd<|zm<|ai<|aa Z<|za (bv k Z3 Zb Z Z Z hpg)<|ae X1 Zb Z Z<|y7 (cs:=[.int .i64 0,.raw (.slice none 0 0),.raw (.slice none 0 0)]) Yg Z Z<|fun i13=>ao Z<|y1 Zb Z Z Z Z Z Z .head Z<|ze (yd (t:=13) Z .head)<|z6<|dJ.regionDrawR (by kernel_rfl) Z (zj (.r (.r (.r (.r (.r (.l (.l (.l (.l (.l (.l (.rest _)))))))))))))<|yc (i:=0) Z (by kernel_rfl) (by kernel_rfl) (by kernel_rfl) (cJ Z)<|yc (i:=1) Z (by kernel_rfl) (by kernel_rfl) (by kernel_rfl) (zw Z)<|yc (i:=2) Z (by kernel_rfl) (by kernel_rfl) (by kernel_rfl) (zf j8 Z Zu (by decide) Z Z)<|yc (i:=3) Z (by kernel_rfl) (by kernel_rfl) (by kernel_rfl) (zo (c:=.own _ _) Yf Z ⟨_,.head⟩ Z)<|yc (i:=4) Z (by kernel_rfl) (by kernel_rfl) (by kernel_rfl) (bK jz Z wz Z Z)<|yc (i:=5) Z (by kernel_rfl) (by kernel_rfl) (by kernel_rfl) (cQ j6 Z)<|yc (i:=6) Z (by kernel_rfl) (by kernel_rfl) (by kernel_rfl) (cJ Z)<|yc (i:=7) Z (by kernel_rfl) (by kernel_rfl) (by kernel_rfl) (zw Z)<|yc (i:=8) Z (by kernel_rfl) (by kernel_rfl) (by kernel_rfl) (zf j8 Z X3 (by decide) Z Z)<|yc (i:=9) Z (by kernel_rfl) (by kernel_rfl) (by kernel_rfl) (zo (c:=.own _ _) Xf Z ⟨_,.head⟩ Z)<|yc (i:=10) Z (by kernel_rfl) (by kernel_rfl) (by kernel_rfl) (bK jz Z wz Z Z)<|yc (i:=11) Z (by kernel_rfl) (by kernel_rfl) (by kernel_rfl) (cQ j6 Z)<|yc (i:=12) Z (by kernel_rfl) (by kernel_rfl) (by kernel_rfl) (cJ Z)<|yc (i:=13) Z (by kernel_rfl) (by kernel_rfl) (by kernel_rfl) (zw Z)<|yc (i:=14) Z (by kernel_rfl) (by kernel_rfl) (by kernel_rfl) (zf j8 Z j7 (by decide) Z Z)<|yc (i:=15) Z (by kernel_rfl) (by kernel_rfl) (by kernel_rfl) (zo (c:=.own _ _) jf Z ⟨_,.head⟩ Z)<|yc (i:=16) Z (by kernel_rfl) (by kernel_rfl) (by kernel_rfl) (bK jz Z wz Z Z)<|yc (i:=17) Z (by kernel_rfl) (by kernel_rfl) (by kernel_rfl) (cQ j6 Z)<|yc (i:=18) Z (by kernel_rfl) (by kernel_rfl) (by kernel_rfl) (im Z)<|yc (i:=19) Z (by kernel_rfl) (by kernel_rfl) (by kernel_rfl) (im Z)<|yc (i:=20) Z (by kernel_rfl) (by kernel_rfl) (by kernel_rfl) (cD Z)<|yc (i:=21) Z (by kernel_rfl) (by kernel_rfl) (by kernel_rfl) (yi (j:=k) wy wz Z Z Z ⟨_,.t4⟩ ((aD _).trans (oP (Nat.le_refl _))) hk2)<|yc (i:=22) Z (by kernel_rfl) (by kernel_rfl) (by kernel_rfl) (yz (j:=k) j6 Z ⟨_,.t4⟩ hgg)<|yc (i:=23) Z (by kernel_rfl) (by kernel_rfl) (by kernel_rfl) (yi (j:=(el p s.blk).toNat) jw Z5 Z Z (wc v0).symm ⟨_,.t1⟩ ((aD _).trans hl1) (by omega))<|yc (i:=24) Z (by kernel_rfl) (by kernel_rfl) (by kernel_rfl) (yz (j:=(el p s.blk).toNat) Zx Z ⟨_,.t1⟩ (gf (by omega) v0))<|yc (i:=25) Z (by kernel_rfl) (by kernel_rfl) (by kernel_rfl) (im Z)<|yc (i:=26) Z (by kernel_rfl) (by kernel_rfl) (by kernel_rfl) (im Z) ?_
    refine yc (i:=27) Z (by kernel_rfl) (by kernel_rfl) (by kernel_rfl) (cD Z)<|yc (i:=28) Z (by kernel_rfl) (by kernel_rfl) (by kernel_rfl) (yi (j:=k) wy wz Z Z Z ⟨_,.t4⟩ ((aD _).trans (oP (Nat.le_refl _))) hk2)<|yc (i:=29) Z (by kernel_rfl) (by kernel_rfl) (by kernel_rfl) (yz (j:=k) j6 Z ⟨_,.t4⟩ hgg)<|yc (i:=30) Z (by kernel_rfl) (by kernel_rfl) (by kernel_rfl) (yi (j:=(el p s.blk).toNat) jk Z6 Z Z (wc v0).symm ⟨_,.t2⟩ ((aN _).trans hl2) (by omega))<|yc (i:=31) Z (by kernel_rfl) (by kernel_rfl) (by kernel_rfl) (Gv.loadB (j:=(el p s.blk).toNat) Ym Z ⟨_,.t2⟩ (ub (by omega) v0))<|yc (i:=32) Z (by kernel_rfl) (by kernel_rfl) (by kernel_rfl) (im Z)<|yc (i:=33) Z (by kernel_rfl) (by kernel_rfl) (by kernel_rfl) (im Z)<|yc (i:=34) Z (by kernel_rfl) (by kernel_rfl) (by kernel_rfl) (cD Z)<|yc (i:=35) Z (by kernel_rfl) (by kernel_rfl) (by kernel_rfl) (yi (j:=k) wy wz Z Z Z ⟨_,.t4⟩ ((aD _).trans (oP (Nat.le_refl _))) hk2)<|yc (i:=36) Z (by kernel_rfl) (by kernel_rfl) (by kernel_rfl) (yz (j:=k) j6 Z ⟨_,.t4⟩ hgg)<|yc (i:=37) Z (by kernel_rfl) (by kernel_rfl) (by kernel_rfl) (yi (j:=(el p s.blk).toNat) wy wz Z Z (wc v0).symm ⟨_,.t3⟩ ((aD _).trans hl3) (by omega))<|yc (i:=38) Z (by kernel_rfl) (by kernel_rfl) (by kernel_rfl) (yz (j:=(el p s.blk).toNat) j6 Z ⟨_,.t3⟩ (gf (by omega) v0))<|qr (i:=39) Z (by kernel_rfl)<|za (yi (j:=p.dst.toNat) jw Z5 Z Z (wc d0).symm ⟨_,.head⟩ ((aD _).trans t1) (by omega))<|z6<|qr (i:=40) Z (by kernel_rfl)<|yy (j:=p.dst.toNat) Z5 Z Z .head (by first|omega|(simp;omega))<|z6<|qr (i:=41) Z (by kernel_rfl)<|za (yi (j:=p.dst.toNat) jk Z6 Z Z (wc d0).symm ⟨_,.t1⟩ ((aN _).trans t2) (by omega))<|z6<|qr (i:=42) Z (by kernel_rfl)<|qb (j:=p.dst.toNat) Z6 Z Z .t1 (by first|omega|(simp;omega))<|z6<|qr (i:=43) Z (by kernel_rfl)<|za (yi (j:=p.dst.toNat) wy wz Z Z (wc d0).symm ⟨_,.t2⟩ ((aD _).trans t3) (by omega))<|z6<|qr (i:=44) Z (by kernel_rfl)<|yy (j:=p.dst.toNat) wz Z Z .t2 (by first|omega|(simp;omega))<|z6<|jD.done (by kernel_rfl)<|aW<|aE Z Z<|aa Z<|z6 ?_
    exact ⟨k+1,wH,aK,⟨_,(.refl _),by rw[FD hk2,hp];rfl⟩,hk2,by omega⟩
   ·obtain rfl:k=B.phis.length:=by simp at ck;omega
    refine zz (aS.drop .t1)<|zz (aS.drop .t1)<|zz (aS.drop .t1)<|zz (aS.drop .t1)<|y6<|aW<|aJ Z<|aJ Z<|aa Z<|ap Z<|za (zf j8 Z wz (by decide) Z Z)<|yq (l:=[_]) (new:=[_,_,_,_,_,_,_,_,_,_,_,_,_,_,_,_,_,_,_,_,_,_,_]) wz Z Z Z Z Z Z .head Z Z<|ap Z<|za (zf j8 Z wz (by decide) Z Z)<|yq (l:=[_]) (new:=[_,_,_,_,_,_,_,_,_,_,_,_,_,_,_,_,_,_,_,_,_,_,_]) wz Z Z Z Z Z Z .head Z Z<|z6<|yl ?_
    exact ⟨by rw[hE];show _=(B7 B.phis s B.phis.length).arrays.length;rw[BV];exact hids,rfl,by rw[hE];rfl⟩
end Go.Proofs.YtdilpodccjlkgaaGreatDoor
namespace Go.Proofs.YtdilpodccjlkgaaGreatDoor
open Go.Proofs.Tryz
open Go.Proofs Go.Lib Go.Shelf Go.RowKit
variable {E:World}
set_option maxRecDepth 20000
theorem BW {f:ac} {s:GS} {x:aF} (h:(bT f s.blk).insts[s.pc]?=some x):dn f s=ba { s with pc:=s.pc+1,st:=s.st+1 } x:=by unfold dn;rw[h]
theorem D2 {f:ac} {s:GS} (h:(bT f s.blk).insts[s.pc]?=none):dn f s=if (bT f s.blk).term.kind=2 then dw { s with st:=s.st+1,val:=vi s.ints (bT f s.blk).term.var } 0 else fv f { s with st:=s.st+1 } (nV f s):=by unfold dn;rw[h]
theorem D3 {f:ac} {t:fi} (h:bC f t=true) (hk:¬t.kind=0):t.var<f.vars.length∧0≤t.var:=eG (hZ h hk)
set_option maxHeartbeats 8000000 in
theorem yA (f:ac) (iw ja jb jc jo jt:Nat) (ids:List Nat) (s:GS) (hids:ids.length=s.arrays.length) (hg:bn f s) (hR:vx f) (hv:f.vars.length≤1000) (hs:small f) (hst:s.st≤1000000000) (hck:∀i,s.ck i≤1000000000):aY prog E 31 [.po iw 0] (wO f iw ja jb jc jo jt ids s) (fun y O=>∃jo' jt' ids',ids'.length=(dn f s).arrays.length∧y=.tup []∧O=wO f iw ja jb jc jo' jt' ids' (dn f s)):=by
 have hB:=tC hg.b0 hg.b1
 have hBm:=w4 hB
 have hsm:=(hs.2.2.2.2 _ hBm).2.2.1
 have hpc:=hg.pc
 have hin:=hR.insts _ hBm
 have htm:=hR.term _ hBm
 have hi:=@BW f s
 have he:=@D2 f s
 obtain ⟨B,hBe⟩:∃B,bT f s.blk=B:=⟨_,rfl⟩
 have hnx:nV f s=if B.term.kind=0∨gb s.bools B.term.var=true then B.term.to0 else B.term.to1:=by rw[←hBe];rfl
 have hnt:=tD hR hg
 rw[hBe] at hB hsm hpc hin htm hi he hnt
 have hl1:=hg.li
 have hl2:=hg.lb
 have hgu:bn f { s with st:=s.st+1 }:=hg.up _ s.val
 refine zp func31 Z (by decide) Z<|ai<|aJ Z<|ap Z<|za (zf j8 Z Y6 (by decide) Z Z)<|za (zf Ze Z wz (by decide) Z Z)<|za (zo (c:=.int _ _) j6 Z ⟨_,.head⟩ Z)<|aE Z Z<|ap Z<|za (zf j8 Z Y6 (by decide) Z Z)<|za (zf Ze Z wz (by decide) Z Z)<|yq (l:=[_]) (new:=[_,_,_,_,_,_,_,_,_,_,_,_,_,_,_,_,_,_,_,_,_,_,_]) wz Z Z Z Z Z Z .head Z Z<|z6<|zd<|zr (fun j=>Nat.beq j 12) (by kernel_rfl) Z (zj (.r (.rest _)))<|ad 0 Z (cJ Z)<|ad 1 Z (zw Z)<|ad 2 Z (zf j8 Z jj (by decide) Z Z)<|ad 3 Z (zf jg Z Z8 (by decide) Z Z)<|ad 4 Z (zo (c:=.fro _ _) Zg Z ⟨_,.head⟩ Z)<|ad 5 Z (cJ Z)<|ad 6 Z (zw Z)<|ad 7 Z (zf j8 Z wz (by decide) Z Z)<|ad 8 Z (zo (c:=.int _ _) j6 Z ⟨_,.head⟩ Z)<|ad 9 Z (bv s.blk.toNat ju jx Z Z (wc hg.b0).symm hB)<|ad 10 Z (yw Yo jx Z Z)<|aQ 11 Z<|y7 (cs:=[.str ⟨#[]⟩,.raw (.slice none 0 0),.raw (.slice none 0 0),.int .i64 0,.int .i64 0,.int .i64 0,.int .i64 0]) Zl Z Z<|fun i2=>z6<|yf<|yh (i:=12) Z (by kernel_rfl) (by kernel_rfl)<|y1 jx Z Z Z Z Z Z .t1 Z<|z6<|ym (by kernel_rfl)<|zz (yd (t:=2) Z .t1)<|zd<|zd<|zr (fun j=>false) (by kernel_rfl) Z (zj (.r (.rest _)))<|ad 0 Z (cJ Z)<|ad 1 Z (zw Z) ?_
 refine ad 2 Z (zf j8 Z wz (by decide) Z Z)<|ad 3 Z (zo (c:=.int _ _) j6 Z ⟨_,.head⟩ Z)<|ad 4 Z (bK ji Z Zt Z Z)<|ad 5 Z (e9 Y9 Z)<|ad 6 Z (Gv.lenM Z0 Z)<|ad 7 Z (Gv.lss Z Z)<|bI<|zt Z (fun cp=>?_) (fun cp=>?_)
 ·have hp:s.pc<B.insts.length:=by simp at cp;omega
  obtain ⟨x,hx⟩:∃x,B.insts[s.pc]=x:=⟨_,rfl⟩
  have hxg:B.insts[s.pc]?=some x:=by rw[qt hp,hx]
  obtain ⟨hix,h64⟩:=hin x (w4 hxg)
  have hS:=hi hxg
  have hg2:bn f { s with pc:=s.pc+1,st:=s.st+1 }:=⟨hg.li,hg.lb,hg.la,hg.i64,hg.arr,hg.ls,hg.lr,hg.r64,hg.lt,hg.b0,hg.b1,by show s.pc+1≤(bT f s.blk).insts.length;rw[hBe];exact hp⟩
  refine ai<|aJ Z<|ap Z<|za (zf j8 Z wz (by decide) Z Z)<|za (zo (c:=.int _ _) j6 Z ⟨_,.head⟩ Z)<|aE Z Z<|ap Z<|za (zf j8 Z wz (by decide) Z Z)<|yq (l:=[_]) (new:=[_,_,_,_,_,_,_,_,_,_,_,_,_,_,_,_,_,_,_,_,_,_,_]) wz Z Z Z Z Z Z .head Z Z<|z6<|zd<|zr (fun j=>false) (by kernel_rfl) Z (zj (.rest _))<|ad 0 Z (cJ Z)<|ad 1 Z (bK ji Z Zt Z Z)<|ad 2 Z (e9 Y9 Z)<|ad 3 Z (cJ Z)<|ad 4 Z (zw Z)<|ad 5 Z (zf j8 Z wz (by decide) Z Z)<|aQ 6 Z<|za (zo (c:=.int _ _) j6 Z ⟨_,.head⟩ Z)<|z6<|ad 7 Z (Gv.sub Z Z (by unfold lE;omega))<|ad 8 Z (bv s.pc Z0 jy Z Z (by omega) hxg)<|ad 9 Z (yw Zz jy Z Z)<|aQ 10 Z<|zu Z (zj (.l (.l (.l (.l (.l (.l (.l (.rest _))))))))) (x9 f iw ja jb jc jo jt ids { s with pc:=s.pc+1,st:=s.st+1 } x hids hg2 hix hv hck) ?_
  rintro r49 O49 ⟨jo',jt',ids',hl',rfl,rfl⟩
  refine z6<|bI<|zg<|yl ?_
  exact ⟨jo',jt',ids',by rw[hS];exact hl',rfl,by rw[hS];rfl⟩
 ·have hp:B.insts[s.pc]?=none:=by rw[List.getElem?_eq_none];simp at cp;omega
  have hS:=he hp
  refine zi<|ai<|au ji Z Zo Z Z<|ae isAgg49 Zo Z Z<|y7 (cs:=[.int .i64 0,.int .i64 0,.int .i64 0,.int .i64 0]) zeroValue49 Z Z<|fun i3=>y1 Zo Z Z Z Z Z Z .head Z<|ze (yd (t:=3) Z .head)<|z6<|zm<|ai<|au je Z Y0 Z Z<|aA Ye Z<|ak Z Z<|ab Z<|z6<|zt Z (fun ck=>?_) (fun ck=>?_)
  ·have ck:B.term.kind=2:=by simpa using ck
   rw[if_pos ck] at hS
   obtain ⟨v1,v0⟩:=D3 htm (by omega)
   refine zd<|zr (fun j=>Nat.beq j 12) (by kernel_rfl) Z (zj (.r (.r (.r (.rest _)))))<|ad 0 Z (cJ Z)<|ad 1 Z (cJ Z)<|ad 2 Z (zw Z)<|ad 3 Z (zf j8 Z Zu (by decide) Z Z)<|ad 4 Z (zo (c:=.own _ _) Yf Z ⟨_,.head⟩ Z)<|ad 5 Z (bK je Z wz Z Z)<|ad 6 Z (cQ j6 Z)<|ad 7 Z (yi (j:=B.term.var.toNat) jw Z5 Z Z (wc v0).symm ⟨_,.t1⟩ ((aD _).trans hl1) (by omega))<|ad 8 Z (yz (j:=B.term.var.toNat) Zx Z ⟨_,.t1⟩ (gf (by omega) v0))<|yp (i:=9) Z (by kernel_rfl) (by kernel_rfl) (by kernel_rfl) (by kernel_rfl) (zw Z)<|yp (i:=10) Z (by kernel_rfl) (by kernel_rfl) (by kernel_rfl) (by kernel_rfl) (zf j8 Z Y6 (by decide) Z Z)<|ad 11 Z (zf Ze Z Z5 (by decide) Z Z)<|yf<|yh (i:=12) Z (by kernel_rfl) (by kernel_rfl)<|yq (l:=[_]) (new:=[_,_,_,_,_,_,_,_,_,_,_,_,_,_,_,_,_,_,_,_,_,_,_]) Z5 Z Z Z Z Z Z .head Z Z<|z6<|ym (by kernel_rfl)<|aW<|aJ Z<|zu Z (zj (.l (.l (.l (.l (.l (.l (.l (.rest _))))))))) (eu f iw ja jb jc jo jt ids { s with st:=s.st+1,val:=vi s.ints B.term.var } 0) ?_
   rintro r74 O74 ⟨rfl,rfl⟩
   refine z6<|yl ?_
   exact ⟨jo,jt,ids,by rw[hS];exact hids,rfl,by rw[hS];rfl⟩
  ·have ck:¬B.term.kind=2:=by simpa using ck
   rw[if_neg ck] at hS
   obtain ⟨g0,g1⟩:=hnt ck
   refine zd<|zr (fun j=>false) (by kernel_rfl) Z (zj (.r (.r (.r (.rest _)))))<|ad 0 Z (bK je Z Y0 Z Z)<|ad 1 Z (cQ Ye Z)<|ad 2 Z (Gv.eqlI Z Z)<|ad 3 Z (m5 Z)<|qj (s:=79) Z (fun c0=>?_) (fun c0=>?_)
   ·have d0:B.term.kind=0:=by simpa using c0
    rw[if_pos (.inl d0)] at hnx
    rw[hnx] at hS g0 g1
    refine bX 4 Z Z Z c0<|bX 5 Z Z Z c0<|bX 6 Z Z Z c0<|bX 7 Z Z Z c0<|bX 8 Z Z Z c0<|bX 9 Z Z Z c0<|bX 10 Z Z Z c0<|bX 11 Z Z Z c0<|ad 12 Z (sX Z c0 Z)<|ad 13 Z (ms Z)<|bI<|yt Z Z<|aW<|aJ Z<|au je Z Zd Z Z<|za (q3 (j:=0) Z1 wz Z Z Z (by decide) Z)<|aA j6 Z<|zu Z (zj (.l (.l (.l (.l (.l (.l (.l (.rest _))))))))) (k9 f iw ja jb jc jo jt ids { s with st:=s.st+1 } B.term.to0 hids hgu hR hv hs g0 g1) ?_
    rintro r93 O93 ⟨hl',rfl,rfl⟩
    refine z6<|yl ?_
    exact ⟨jo,jt,ids,by rw[hS];exact hl',rfl,by rw[hS];rfl⟩
   ·have d0:¬B.term.kind=0:=by simpa using c0
    obtain ⟨v1,v0⟩:=D3 htm d0
    refine cG 4 Z Z Z c0 (cJ Z)<|cG 5 Z Z Z c0 (zw Z)<|cG 6 Z Z Z c0 (zf j8 Z X3 (by decide) Z Z)<|cG 7 Z Z Z c0 (zo (c:=.own _ _) Xf Z ⟨_,.head⟩ Z)<|cG 8 Z Z Z c0 (bK je Z wz Z Z)<|cG 9 Z Z Z c0 (cQ j6 Z)<|cG 10 Z Z Z c0 (yi (j:=B.term.var.toNat) jk Z6 Z Z (wc v0).symm ⟨_,.t2⟩ ((aN _).trans hl2) (by omega))<|cG 11 Z Z Z c0 (Gv.loadB (j:=B.term.var.toNat) Ym Z ⟨_,.t2⟩ (ub (by omega) v0))<|ad 12 Z (rz Z c0 Z)<|ad 13 Z (ms Z)<|bI<|zy Z (fun cw=>?_) (fun cw=>?_)
    ·have cw:gb s.bools B.term.var=true:=cw
     rw[if_pos (.inr cw)] at hnx
     rw[hnx] at hS g0 g1
     refine aW<|aJ Z<|au je Z Zd Z Z<|za (q3 (j:=0) Z1 wz Z Z Z (by decide) Z)<|aA j6 Z<|zu Z (zj (.l (.l (.l (.l (.l (.l (.l (.rest _))))))))) (k9 f iw ja jb jc jo jt ids { s with st:=s.st+1 } B.term.to0 hids hgu hR hv hs g0 g1) ?_
     rintro r93 O93 ⟨hl',rfl,rfl⟩
     refine z6<|yl ?_
     exact ⟨jo,jt,ids,by rw[hS];exact hl',rfl,by rw[hS];rfl⟩
    ·have cw:gb s.bools B.term.var=false:=cw
     rw[if_neg (by rintro (h|h);exact d0 h;rw[cw] at h;cases h)] at hnx
     rw[hnx] at hS g0 g1
     refine aW<|aJ Z<|au je Z Zd Z Z<|za (q3 (j:=1) Z1 wz Z Z Z (by decide) Z)<|aA j6 Z<|zu Z (zj (.l (.l (.l (.l (.l (.l (.l (.rest _))))))))) (k9 f iw ja jb jc jo jt ids { s with st:=s.st+1 } B.term.to1 hids hgu hR hv hs g0 g1) ?_
     rintro r56 O56 ⟨hl',rfl,rfl⟩
     refine z6<|yl ?_
     exact ⟨jo,jt,ids,by rw[hS];exact hl',rfl,by rw[hS];rfl⟩
end Go.Proofs.YtdilpodccjlkgaaGreatDoor
