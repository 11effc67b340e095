/- A step of the document's machine, how it begins, and runs. Of programs as they are run. -/
import Derived.Test.YtdilpodccjlkgaaGreatDoorJc
import Derived.Test.YtdilpodccjlkgaaGreatDoorJx
set_option linter.unusedVariables false
set_option linter.unusedSimpArgs false
set_option linter.unusedSectionVars false
namespace Go.Proofs.YtdilpodccjlkgaaGreatDoor
open Go.Proofs.Tryz
section
variable {E:World} {P:Program} {ops:Array Oper} {K:aR→OL→Prop} {env:aR} {O O':OL} {rest:List Oper}
variable {d ty:Nat} {pos:String} {af:Array Edge} {x y z:Operand} {t u e:TypeId}
theorem az.appendO {ti:TypeInfo} {zv:Value} {k n m i j:Nat} {T2:TypeId} {cs ds:List AV} {f:Nat→OL} (ht:P.underlying t=some (.slice e)) (hi:P.info? e=some ti) (hz:ti.zero=some zv) (hk:ti.size=k) (hzc:zv.cells.size=k)
  (hx:aW env x=.own i n) (hy:aW env y=.own j m) (hO:∀i',oM O i (.grow k e cs) i' (.grow k e (cs++ds)) (f i')) (hj:nQ O j (.grow k T2 ds)) (hn:cs.length=n*k) (hm:ds.length=m*k) (hne:ds≠[]) (hk0:0<k) (hc1:ds.all qs=true) (hb:(n+m)*ti.bytes≤140737488355328) (hb2:n+m≤140737488355328)
  (kk:∀i',az P E ops K rest (bq env d (.own i' (n+m))) (f i')) :
  az P E ops K (Oper.mk (some d) (.call { callee:=.builtin .append,args:=#[x,y],argTypes:=#[t,t] }) ty pos af none::rest) env O:=fun I F ρ w h1 h2=>by
 obtain ⟨htop,L,hL,hS⟩:=id h2
 have h3:=h1.ev x
 rw[hx] at h3
 obtain ⟨b,cap,e1,ex⟩:=h3
 have h4:=h1.ev y
 rw[hy] at h4
 obtain ⟨b4,c4,e4,ey⟩:=h4
 obtain ⟨b2,c2,us2,junk,e5,hus2,hmem⟩:=hj.grow hL hne
 rw[e4] at e5
 simp only[Option.some.injEq,Prod.mk.injEq] at e5
 obtain ⟨rfl,rfl⟩:=e5
 obtain ⟨j',hj'⟩:=h2.name
 obtain ⟨A,B,hp,⟨b',cap',n',us,e2,hus,huc,hown⟩,hback⟩:=(hO j').rep hL
 simp only at e2
 rw[e1] at e2
 simp only[Option.some.injEq,Prod.mk.injEq] at e2
 obtain ⟨rfl,rfl⟩:=e2
 have hnn:n'=n:=by
  have h5:=hown.1
  have h6:=hus.length
  have:n'*k=n*k:=by omega
  exact Nat.eq_of_mul_eq_mul_right hk0 this
 subst hnn
 have hS2:SL I.k (A++(B++F)) E w:=hS.perm (by rw[←qv];exact (hp.append_right F).symm)
 have hmem2:(b2,Obj.cells (us2++junk).toArray T2 (0,0))∈A++(B++F):=by rw[←qv];exact List.mem_append_left _ (hp.mem_iff.1 hmem)
 have hsrc:HA I.k (A++(B++F)) k (some ⟨b2,0,none⟩) m us2:=⟨by rw[hus2.length,hm],hus2.cell1 hc1,.inr ⟨_,rfl,fun q u hq=>⟨b2,0,rfl,.inr ⟨_,_,_,hmem2,by
  rw[Nat.zero_add,List.getElem?_toArray,List.getElem?_append_left (List.getElem?_eq_some_iff.1 hq).1];exact hq⟩⟩⟩⟩
 refine bZ.append ht hi hz hk hzc ex ey hS2 hown hsrc hb hb2 fun a' c' A' w' h5 h6 h7=>?_
 have hb':∃b'',a'=adr b'':=by
  rcases h5.2.2 with ⟨e,_⟩|⟨b'',junk,e,_⟩
  ·exact ⟨none,e⟩
  ·exact ⟨some b'',e⟩
 obtain ⟨b'',rfl⟩:=hb'
 obtain ⟨J,ek,hle,e3,htop'⟩:=hj' (b'',c')
 obtain ⟨L',h8,h9⟩:=hback hle (A':=A') ⟨b'',c',_,us++us2,e3,qk hle _ _ (hus.append hus2),(by
  intro u hu
  rcases List.mem_append.1 hu with hu|hu
  ·exact huc u hu
  ·exact hus2.cell1 hc1 u hu),h5⟩
 exact q6 (fun _ _=>q7 hle) _ _ _ (kk j' J F _ _ ((h1.mono hle).upd d ⟨b'',c',e3,rfl⟩) ⟨htop',L',h8,by rw[ek];exact h6.perm (by rw[←qv];exact h9.append_right F)⟩)
end
end Go.Proofs.YtdilpodccjlkgaaGreatDoor
namespace Go.Proofs.YtdilpodccjlkgaaGreatDoor
open Go.Proofs.Tryz
section
variable {E:World} {P:Program} {ops:Array Oper} {K:aR→OL→Prop} {env:aR} {O O':OL} {rest:List Oper}
variable {d ty:Nat} {pos:String} {af:Array Edge} {x y z:Operand} {t u e:TypeId}
theorem az.appendOZ {ti:TypeInfo} {zv:Value} {k n m i j:Nat} {T2:TypeId} {cs ds:List AV} {f:Nat→OL} (ht:P.underlying t=some (.slice e)) (hi:P.info? e=some ti) (hz:ti.zero=some zv) (hk:ti.size=k) (hzc:zv.cells.size=k)
  (hx:aW env x=.own i n) (hy:aW env y=.own j m) (hO:∀i',oM O i (.grow k e cs) i' (.grow k e (cs++ds)) (f i')) (hj:nQ O j (.grow k T2 ds)) (hn:cs.length=n*k) (hm:ds.length=m*k) (hk0:0<k) (hc1:ds.all qs=true) (hb:(n+m)*ti.bytes≤140737488355328) (hb2:n+m≤140737488355328)
  (kk:∀i',az P E ops K rest (bq env d (.own i' (n+m))) (f i')) :
  az P E ops K (Oper.mk (some d) (.call { callee:=.builtin .append,args:=#[x,y],argTypes:=#[t,t] }) ty pos af none::rest) env O:=by
 by_cases hne:ds=[]
 ·subst hne
  have hm0:m=0:=by
   have:m*k=0:=hm.symm
   rcases Nat.mul_eq_zero.1 this with h|h
   ·exact h
   ·omega
  subst hm0
  intro I F ρ w h1 h2
  obtain ⟨htop,L,hL,hS⟩:=id h2
  have h3:=h1.ev x
  rw[hx] at h3
  obtain ⟨b,cap,e1,ex⟩:=h3
  have h4:=h1.ev y
  rw[hy] at h4
  obtain ⟨b4,c4,e4,ey⟩:=h4
  obtain ⟨j',hj'⟩:=h2.name
  obtain ⟨A,B,hp,⟨b',cap',n',us,e2,hus,huc,hown⟩,hback⟩:=(hO j').rep hL
  simp only at e2
  rw[e1] at e2
  simp only[Option.some.injEq,Prod.mk.injEq] at e2
  obtain ⟨rfl,rfl⟩:=e2
  have hnn:n'=n:=by
   have h5:=hown.1
   have h6:=hus.length
   have:n'*k=n*k:=by omega
   exact Nat.eq_of_mul_eq_mul_right hk0 this
  subst hnn
  have hS2:SL I.k (A++(B++F)) E w:=hS.perm (by rw[←qv];exact (hp.append_right F).symm)
  have hsrc:HA I.k (A++(B++F)) k (adr b4) 0 []:=⟨by simp,by simp,by cases b4 with|none=>exact .inl ⟨rfl,rfl⟩|some b4=>exact .inr ⟨_,rfl,by simp⟩⟩
  refine bZ.append ht hi hz hk hzc ex ey hS2 hown hsrc hb hb2 fun a' c' A' w' h5 h6 h7=>?_
  have hb':∃b'',a'=adr b'':=by
   rcases h5.2.2 with ⟨e,_⟩|⟨b'',junk,e,_⟩
   ·exact ⟨none,e⟩
   ·exact ⟨some b'',e⟩
  obtain ⟨b'',rfl⟩:=hb'
  obtain ⟨J,ek,hle,e3,htop'⟩:=hj' (b'',c')
  obtain ⟨L',h8,h9⟩:=hback hle (A':=A') ⟨b'',c',_,us++[],e3,qk hle _ _ (hus.append rfl),(by rw[w6];exact huc),h5⟩
  exact q6 (fun _ _=>q7 hle) _ _ _ (kk j' J F _ _ ((h1.mono hle).upd d ⟨b'',c',e3,rfl⟩) ⟨htop',L',h8,by rw[ek];exact h6.perm (by rw[←qv];exact h9.append_right F)⟩)
 ·exact az.appendO ht hi hz hk hzc hx hy hO hj hn hm hne hk0 hc1 hb hb2 kk
end
end Go.Proofs.YtdilpodccjlkgaaGreatDoor
namespace Go.Proofs.YtdilpodccjlkgaaGreatDoor
open Go.Proofs.Tryz
open Go.Proofs Go.Lib Go.Shelf Go.RowKit
variable {E:World}
set_option maxRecDepth 20000
def wA (fr ar:List Int) (b:Int):Int:=((fr.zip ar).find? fun q=>decide (q.1=b)).elim (-1) (·.2)
theorem Ec {fr ar:List Int} {b:Int} {j:Nat} (h:j<fr.length) (h2:j<ar.length):wA (fr.drop j) (ar.drop j) b=if fr[j]=b then ar[j] else wA (fr.drop (j+1)) (ar.drop (j+1)) b:=by
 rw[List.drop_eq_getElem_cons h,List.drop_eq_getElem_cons h2]
 unfold wA
 rw[List.zip_cons_cons,List.find?_cons]
 by_cases e:fr[j]=b
 ·rw[if_pos e];simp[e]
 ·rw[if_neg e];simp[e]
def oJ (l:List dF) (b:Int) (k:Nat):List Int:=(l.take k).map fun p=>er p b
theorem Ed {l:List dF} {b:Int} {k:Nat} (h:k<l.length):oJ l b k++[er l[k] b]=oJ l b (k+1):=by
 unfold oJ;rw[qu h,w5];rfl
theorem FQ {l:List dF} {b:Int} {k:Nat} (h:k<l.length):(oJ l b l.length)[k]?=some (er l[k] b):=by
 unfold oJ;rw[qy,w2,qt h];rfl
theorem oX {l:List dF} {b:Int} {k:Nat} (h:k≤l.length):(oJ l b k).length=k:=by
 unfold oJ;rw[w1,w7];omega
def Cj (l:List dF) (s:GS) (k:Nat):GS:=(l.take k).foldl (assign s) s
theorem FR {l:List dF} {s:GS} {k:Nat} (h:k<l.length):Cj l s (k+1)=assign s (Cj l s k) l[k]:=by
 unfold Cj;rw[qu h,List.foldl_append];rfl
theorem Cd (l:List dF) (s:GS) (k:Nat):(Cj l s k).arrays=s.arrays:=by
 unfold Cj
 suffices h:∀(l:List dF) (t:GS),(l.foldl (assign s) t).arrays=t.arrays from h _ s
 intro l
 induction l with
 |nil=>intro t;rfl
 |cons p l ih=>intro t;exact ih _
set_option maxHeartbeats 16000000 in
theorem ll (f:ac) (iw ja jb jc jo jt:Nat) (ids:List Nat) (s:GS) (to:Int) (hids:ids.length=s.arrays.length) (hg:bl f s) (hR:vG f) (hv:f.vars.length≤1000) (hs:small f) (h0:0≤to) (h1:to<f.blocks.length):aZ prog E 54 [.po iw 0,.int .i64 to] (wO f iw ja jb jc jo jt ids s) (fun y O=>ids.length=(ep f s to).arrays.length∧y=.tup []∧O=wO f iw ja jb jc jo jt ids (ep f s to)):=by
 have hB:=tL h0 h1
 have hBm:=w4 hB
 have hph:=hR.phis _ hBm
 have hsm:=(hs.2.2.2.2 _ hBm).2.1
 have hsp:=(hs.2.2.2.2 _ hBm).2.2.2.1
 obtain ⟨B,hBe⟩:∃B,cA f to=B:=⟨_,rfl⟩
 have hgo:ep f s to=if B.phis.all (fun p=>decide (0≤er p s.blk))=true then goG (Cj B.phis s B.phis.length) to else dq (goG s to) 2:=by unfold ep Cj;rw[hBe,qy]
 rw[hBe] at hB hph hsm hsp
 have hl1:=hg.li
 have hl2:=hg.lb
 have hl3:=hg.la
 refine zp func54 Z (by decide) Z<|ai<|za (jK Z)<|z6<|gm (t:=4) (k:=1) (T:=3) Z<|fun i4=>zz (zb (zc .t1))<|zd<|ai<|aJ Z<|aq Z<|za (zf j9 Z jj (by decide) Z Z)<|za (zf jg Z Z8 (by decide) Z Z)<|za (zo (c:=.fro _ _) Zh Z ⟨_,.head⟩ Z)<|aa Z<|za (bv to.toNat ju jy Z Z (by omega) hB)<|au ji Z Yl Z Z<|aI Yv Z<|ap Z4 Z<|aa Z<|z6<|zk<|y7 (γ:=Nat × Nat) [0,1,22,23] (fun g=>[(24,.int .i64 g.1),(4,.own g.2 g.1)]) (fun g=>(iw,.cells 99 (FP f ja jb jc jo jt s))::(g.2,.grow 1 3 (cI (oJ B.phis s.blk g.1)))::wR ja jb jc jo jt ids s) (fun g=>g.1≤B.phis.length∧∀p∈B.phis.take g.1,0≤er p s.blk) (fun g=>B.phis.length - g.1) (0,i4) eh aH (⟨qw _,fun p hp=>by simp at hp⟩) ?_
 rintro ⟨k,i4⟩ ⟨hk,hok⟩
 try dsimp only at *
 refine ai<|ax Z Z<|z6<|zd<|zt Z (fun ck=>?_) (fun ck=>?_)
 ·have hk2:k<B.phis.length:=by simp at ck;omega
  obtain ⟨p,hp⟩:∃p,B.phis[k]=p:=⟨_,rfl⟩
  have hpg:B.phis[k]?=some p:=by rw[qt hk2,hp]
  have hpm:=w4 hpg
  obtain ⟨_,hal,_,_,_⟩:=hph p hpm
  have hfl:=(hsp p hpm).2
  refine zh<|zd<|zk<|ai<|za (bv k Z4 Zb Z Z Z hpg)<|ae X1 Zb Z Z<|y6 (cs:=[.int .i64 0,.raw (.slice none 0 0),.raw (.slice none 0 0)]) Yf Z Z<|fun i6=>y1 Zb Z Z Z Z Z Z .head Z<|ze (yc (t:=6) Z .head)<|z6<|ai<|ak Z<|z6<|zd<|ai<|au Z0 Z j7 Z Z<|aI je Z<|ap wy Z<|za (Gv.sub Z Z (by unfold kJ;omega))<|ak Z<|z6<|zk<|y7 (γ:=Nat) [0,1,4,6,22,23,24] (fun m=>[(8,.int .i64 ((m:Int) - 1)),(7,.int .i64 (wA (p.from_.drop m) (p.args.drop m) s.blk))]) (fun m=>(iw,.cells 99 (FP f ja jb jc jo jt s))::(i4,.grow 1 3 (cI (oJ B.phis s.blk k)))::wR ja jb jc jo jt ids s) (fun m=>m≤p.from_.length) (fun m=>m) p.from_.length ⟨congrArg (AV.int .i64) (by simp),congrArg (AV.int .i64) (by rw[List.drop_length];rfl),trivial⟩ aH (Nat.le_refl _) ?_
  rintro m hm
  refine zd<|ai<|aa Z<|za (q5 Z Z)<|z6<|zt Z (fun c8=>?_) (fun c8=>?_)
  ·have hm1:m - 1<p.from_.length:=by omega
   have hm2:m - 1<p.args.length:=by omega
   have hst:=Ec (b:=s.blk) hm1 hm2
   rw[show m - 1+1=m by omega] at hst
   refine zh<|zd<|zk<|zd<|zr (fun j=>false) (by kernel_rfl) Z (zj (.r (.rest _)))<|ad 0 Z (bM Z0 Z j7 Z Z)<|ad 1 Z (fa je Z)<|ad 2 Z (cD Z)<|ad 3 Z (bv (m - 1) wy wz Z Z (by omega) (qt hm1))<|ad 4 Z (cR j6 Z)<|ad 5 Z (cP Z)<|ad 6 Z (zw Z)<|ad 7 Z (zf j9 Z wz (by decide) Z Z)<|ad 8 Z (zo (c:=.int _ _) j6 Z ⟨_,.head⟩ Z)<|ad 9 Z (Gv.eqlI Z Z)<|bJ<|zt Z (fun ce=>?_) (fun ce=>?_)
   ·have ce:p.from_[m - 1]=s.blk:=by simpa using ce
    rw[if_pos ce] at hst
    refine aT<|au Z0 Z j7 Z Z<|aI je Z<|aa Z<|za (bv (m - 1) wy wz Z Z (by omega) (qt hm2))<|aA j6 Z<|ak Z<|z6<|aT<|aa Z<|za (Gv.sub Z Z (by unfold kJ;omega))<|ak Z<|z6 ?_
    exact ⟨m - 1,lu,⟨congrArg (AV.int .i64) (by omega),congrArg (AV.int .i64) hst.symm,trivial⟩,aH,by omega,by omega⟩
   ·have ce:¬p.from_[m - 1]=s.blk:=by simpa using ce
    rw[if_neg ce] at hst
    refine zh<|aT<|aa Z<|za (Gv.sub Z Z (by unfold kJ;omega))<|ak Z<|z6 ?_
    exact ⟨m - 1,lu,⟨congrArg (AV.int .i64) (by omega),congrArg (AV.int .i64) hst.symm,trivial⟩,aH,by omega,by omega⟩
  ·obtain rfl:m=0:=by omega
   have hat:wA (p.from_.drop 0) (p.args.drop 0) s.blk=er p s.blk:=rfl
   rw[hat]
   refine y5<|zd<|ai<|aa Z<|ax Z Z<|z6<|zt Z (fun cn=>?_) (fun cn=>?_)
   ·have cn:er p s.blk<0:=by simpa using cn
    have hE:ep f s to=dq (goG s to) 2:=by
     rw[hgo,if_neg]
     intro h
     have:=wd (List.all_eq_true.1 h p hpm)
     omega
    refine zz (aS.drop .t1)<|ai<|aJ Z<|aJ Z<|aa Z<|aq Z<|za (zf j9 Z wz (by decide) Z Z)<|yp (l:=[_]) (new:=[_,_,_,_,_,_,_,_,_,_,_,_,_,_,_,_,_,_,_,_,_,_,_]) wz Z Z Z Z Z Z .head Z Z<|aq Z<|za (zf j9 Z wz (by decide) Z Z)<|yp (l:=[_]) (new:=[_,_,_,_,_,_,_,_,_,_,_,_,_,_,_,_,_,_,_,_,_,_,_]) wz Z Z Z Z Z Z .head Z Z<|z6<|ai<|aJ Z<|zu Z (zj (.l (.l (.l (.l (.l (.l (.l (.rest _))))))))) (eF f iw ja jb jc jo jt ids (goG s to) 2) ?_
    rintro r61 O61 ⟨rfl,rfl⟩
    refine z6<|zi<|yl ?_
    exact ⟨by rw[hE];exact hids,rfl,by rw[hE];rfl⟩
   ·have cn:0≤er p s.blk:=by simpa using cn
    refine zh<|aT<|za (gQ Z)<|aa Z<|y3 (rows:=[[_]]) cF Z Z Z Z Z<|yq (k:=1) wy Zz Z Z Z Z Z (fun _=>.t1) (by rw[aE,oX hk];omega) (by decide) Z (by show (_+1)*8≤_;omega) (by show _+1≤_;omega)<|fun i65=>za (eu Z)<|z6<|aT<|aC Z Z<|aa Z<|z6 ?_
    exact ⟨(k+1,i65),gn,eh,⟨_,(.refl _),by rw[←Ed hk2,hp,←l6];rfl⟩,⟨hk2,fun q hq=>by rw[qu hk2] at hq;rcases List.mem_append.1 hq with hq|hq;exact hok q hq;rw[List.mem_singleton.1 hq,hp];exact cn⟩,by dsimp only;omega⟩
 ·obtain rfl:k=B.phis.length:=by simp at ck;omega
  rw[qy] at hok
  have hE:ep f s to=goG (Cj B.phis s B.phis.length) to:=by
   rw[hgo,if_pos (List.all_eq_true.2 fun p hp=>w8 (hok p hp))]
  have hT:∀k,bl f (Cj B.phis s k):=fun k=>hg.assigns _ s hg rfl fun p hp=>⟨hph p (List.mem_of_mem_take hp),hok p (List.mem_of_mem_take hp)⟩
  refine y5<|zd<|ye (γ:=Nat × Nat × Nat) [0,1,4] (fun g=>[(9,.own g.1 f.vars.length),(10,.own g.2.1 f.vars.length),(11,.own g.2.2 f.vars.length)]) (fun g=>(iw,.cells 99 (FP f ja jb jc jo jt s))::(g.1,.grow 1 2 (cI s.ints))::(g.2.1,.grow 1 4 (cB s.bools))::(g.2.2,.grow 1 3 (cI s.arrs))::(i4,.grow 1 3 (cI (oJ B.phis s.blk B.phis.length)))::wR ja jb jc jo jt ids s) (fun g=>True) ?_ (fun _ _ h=>h) ?_
  ·refine zr (fun j=>false) (by kernel_rfl) Z (zj (.r (.rest _)))<|ad 1 Z (cP Z)<|ad 2 Z (zw Z)<|ad 3 Z (zf j9 Z Zu (by decide) Z Z)<|ad 4 Z (zo (c:=.own _ _) Ye Z ⟨_,.head⟩ Z)<|ad 7 Z (cP Z)<|ad 8 Z (zw Z)<|ad 9 Z (zf j9 Z X8 (by decide) Z Z)<|ad 10 Z (zo (c:=.own _ _) Xk Z ⟨_,.head⟩ Z)<|ad 13 Z (cP Z)<|ad 14 Z (zw Z)<|ad 15 Z (zf j9 Z j7 (by decide) Z Z)<|ad 16 Z (zo (c:=.own _ _) je Z ⟨_,.head⟩ Z)<|bO.three (i:=0) (j:=6) (m:=12) Z Z Z (by kernel_rfl) ?_ ?_ ?_
   ·refine yh (k:=1) jw X7<|fun i67=>z6<|bO.three (i:=5) (j:=6) (m:=12) Z Z Z (by kernel_rfl) ?_ ?_ ?_
    ·refine az.appendOZ (k:=1) jw X7 Z Z Z Z Z (fun _=>.head) ⟨_,.t2⟩ Z (by rw[aE,hl1];omega) (by decide) (bU _) (by show (_+_)*8≤_;omega) (by omega)<|fun i72=>z6<|yr (i:=6) (j:=12) Z Z (by kernel_rfl) ?_ ?_
     ·refine yh (k:=1) jk Yp<|fun i73=>z6<|yr (i:=11) (j:=12) Z Z (by kernel_rfl) ?_ ?_
      ·refine az.appendOZ (k:=1) jk Yp Z Z Z Z Z (fun _=>.head) ⟨_,.t4⟩ Z (by rw[aN,hl2];omega) (by decide) (ei _) (by show (_+_)*1≤_;omega) (by omega)<|fun i78=>z6<|aQ 12 Z<|yh (k:=1) wy Zz<|fun i79=>z6<|aQ 17 Z<|az.appendOZ (k:=1) wy Zz Z Z Z Z Z (fun _=>.head) ⟨_,.t6⟩ Z (by rw[aE,hl3];omega) (by decide) (bU _) (by show (_+_)*8≤_;omega) (by omega)<|fun i84=>ze (zb (zc .head))<|ze (zb (zc .t1))<|ze (zb (zc .t2))<|z6<|ad 18 Z (eu Z)<|ad 19 Z (eu Z)<|ad 20 Z (eu Z)<|bJ ?_
       exact ⟨(i72,i78,i84),de,⟨congrArg (AV.own i72) (Nat.zero_add _),congrArg (AV.own i78) (Nat.zero_add _),congrArg (AV.own i84) (Nat.zero_add _),trivial⟩,aH,trivial⟩
      ·refine yh (k:=1) wy Zz<|fun i79=>z6<|aQ 11 Z<|az.appendOZ (k:=1) jk Yp Z Z Z Z Z (fun _=>.t1) ⟨_,.t5⟩ Z (by rw[aN,hl2];omega) (by decide) (ei _) (by show (_+_)*1≤_;omega) (by omega)<|fun i78=>z6<|aQ 17 Z<|az.appendOZ (k:=1) wy Zz Z Z Z Z Z (fun _=>.head) ⟨_,.t6⟩ Z (by rw[aE,hl3];omega) (by decide) (bU _) (by show (_+_)*8≤_;omega) (by omega)<|fun i84=>ze (zb (zc .head))<|ze (zb (zc .t1))<|ze (zb (zc .t2))<|z6<|ad 18 Z (eu Z)<|ad 19 Z (eu Z)<|ad 20 Z (eu Z)<|bJ ?_
       exact ⟨(i72,i78,i84),de,⟨congrArg (AV.own i72) (Nat.zero_add _),congrArg (AV.own i78) (Nat.zero_add _),congrArg (AV.own i84) (Nat.zero_add _),trivial⟩,aH,trivial⟩
     ·refine yh (k:=1) wy Zz<|fun i79=>z6<|aQ 6 Z<|yh (k:=1) jk Yp<|fun i73=>z6<|aQ 11 Z<|az.appendOZ (k:=1) jk Yp Z Z Z Z Z (fun _=>.head) ⟨_,.t5⟩ Z (by rw[aN,hl2];omega) (by decide) (ei _) (by show (_+_)*1≤_;omega) (by omega)<|fun i78=>z6<|aQ 17 Z<|az.appendOZ (k:=1) wy Zz Z Z Z Z Z (fun _=>.t1) ⟨_,.t6⟩ Z (by rw[aE,hl3];omega) (by decide) (bU _) (by show (_+_)*8≤_;omega) (by omega)<|fun i84=>ze (zb (zc .t1))<|ze (zb (zc .t1))<|ze (zb (zc .t2))<|z6<|ad 18 Z (eu Z)<|ad 19 Z (eu Z)<|ad 20 Z (eu Z)<|bJ ?_
      exact ⟨(i72,i78,i84),de,⟨congrArg (AV.own i72) (Nat.zero_add _),congrArg (AV.own i78) (Nat.zero_add _),congrArg (AV.own i84) (Nat.zero_add _),trivial⟩,aH,trivial⟩
    ·refine yh (k:=1) jk Yp<|fun i73=>z6<|yr (i:=5) (j:=12) Z Z (by kernel_rfl) ?_ ?_
     ·refine az.appendOZ (k:=1) jw X7 Z Z Z Z Z (fun _=>.t1) ⟨_,.t3⟩ Z (by rw[aE,hl1];omega) (by decide) (bU _) (by show (_+_)*8≤_;omega) (by omega)<|fun i72=>z6<|yr (i:=11) (j:=12) Z Z (by kernel_rfl) ?_ ?_
      ·refine az.appendOZ (k:=1) jk Yp Z Z Z Z Z (fun _=>.head) ⟨_,.t4⟩ Z (by rw[aN,hl2];omega) (by decide) (ei _) (by show (_+_)*1≤_;omega) (by omega)<|fun i78=>z6<|aQ 12 Z<|yh (k:=1) wy Zz<|fun i79=>z6<|aQ 17 Z<|az.appendOZ (k:=1) wy Zz Z Z Z Z Z (fun _=>.head) ⟨_,.t6⟩ Z (by rw[aE,hl3];omega) (by decide) (bU _) (by show (_+_)*8≤_;omega) (by omega)<|fun i84=>ze (zb (zc .head))<|ze (zb (zc .t1))<|ze (zb (zc .t2))<|z6<|ad 18 Z (eu Z)<|ad 19 Z (eu Z)<|ad 20 Z (eu Z)<|bJ ?_
       exact ⟨(i72,i78,i84),de,⟨congrArg (AV.own i72) (Nat.zero_add _),congrArg (AV.own i78) (Nat.zero_add _),congrArg (AV.own i84) (Nat.zero_add _),trivial⟩,aH,trivial⟩
      ·refine yh (k:=1) wy Zz<|fun i79=>z6<|aQ 11 Z<|az.appendOZ (k:=1) jk Yp Z Z Z Z Z (fun _=>.t1) ⟨_,.t5⟩ Z (by rw[aN,hl2];omega) (by decide) (ei _) (by show (_+_)*1≤_;omega) (by omega)<|fun i78=>z6<|aQ 17 Z<|az.appendOZ (k:=1) wy Zz Z Z Z Z Z (fun _=>.head) ⟨_,.t6⟩ Z (by rw[aE,hl3];omega) (by decide) (bU _) (by show (_+_)*8≤_;omega) (by omega)<|fun i84=>ze (zb (zc .head))<|ze (zb (zc .t1))<|ze (zb (zc .t2))<|z6<|ad 18 Z (eu Z)<|ad 19 Z (eu Z)<|ad 20 Z (eu Z)<|bJ ?_
       exact ⟨(i72,i78,i84),de,⟨congrArg (AV.own i72) (Nat.zero_add _),congrArg (AV.own i78) (Nat.zero_add _),congrArg (AV.own i84) (Nat.zero_add _),trivial⟩,aH,trivial⟩
     ·refine yh (k:=1) wy Zz<|fun i79=>z6<|aQ 5 Z<|az.appendOZ (k:=1) jw X7 Z Z Z Z Z (fun _=>.t2) ⟨_,.t4⟩ Z (by rw[aE,hl1];omega) (by decide) (bU _) (by show (_+_)*8≤_;omega) (by omega)<|fun i72=>z6<|aQ 11 Z<|az.appendOZ (k:=1) jk Yp Z Z Z Z Z (fun _=>.t1) ⟨_,.t5⟩ Z (by rw[aN,hl2];omega) (by decide) (ei _) (by show (_+_)*1≤_;omega) (by omega)<|fun i78=>z6<|aQ 17 Z<|az.appendOZ (k:=1) wy Zz Z Z Z Z Z (fun _=>.head) ⟨_,.t6⟩ Z (by rw[aE,hl3];omega) (by decide) (bU _) (by show (_+_)*8≤_;omega) (by omega)<|fun i84=>ze (zb (zc .head))<|ze (zb (zc .t1))<|ze (zb (zc .t2))<|z6<|ad 18 Z (eu Z)<|ad 19 Z (eu Z)<|ad 20 Z (eu Z)<|bJ ?_
      exact ⟨(i72,i78,i84),de,⟨congrArg (AV.own i72) (Nat.zero_add _),congrArg (AV.own i78) (Nat.zero_add _),congrArg (AV.own i84) (Nat.zero_add _),trivial⟩,aH,trivial⟩
    ·refine yh (k:=1) wy Zz<|fun i79=>z6<|yr (i:=5) (j:=6) Z Z (by kernel_rfl) ?_ ?_
     ·refine az.appendOZ (k:=1) jw X7 Z Z Z Z Z (fun _=>.t1) ⟨_,.t3⟩ Z (by rw[aE,hl1];omega) (by decide) (bU _) (by show (_+_)*8≤_;omega) (by omega)<|fun i72=>z6<|aQ 6 Z<|yh (k:=1) jk Yp<|fun i73=>z6<|aQ 11 Z<|az.appendOZ (k:=1) jk Yp Z Z Z Z Z (fun _=>.head) ⟨_,.t5⟩ Z (by rw[aN,hl2];omega) (by decide) (ei _) (by show (_+_)*1≤_;omega) (by omega)<|fun i78=>z6<|aQ 17 Z<|az.appendOZ (k:=1) wy Zz Z Z Z Z Z (fun _=>.t1) ⟨_,.t6⟩ Z (by rw[aE,hl3];omega) (by decide) (bU _) (by show (_+_)*8≤_;omega) (by omega)<|fun i84=>ze (zb (zc .t1))<|ze (zb (zc .t1))<|ze (zb (zc .t2))<|z6<|ad 18 Z (eu Z)<|ad 19 Z (eu Z)<|ad 20 Z (eu Z)<|bJ ?_
      exact ⟨(i72,i78,i84),de,⟨congrArg (AV.own i72) (Nat.zero_add _),congrArg (AV.own i78) (Nat.zero_add _),congrArg (AV.own i84) (Nat.zero_add _),trivial⟩,aH,trivial⟩
     ·refine yh (k:=1) jk Yp<|fun i73=>z6<|aQ 5 Z<|az.appendOZ (k:=1) jw X7 Z Z Z Z Z (fun _=>.t2) ⟨_,.t4⟩ Z (by rw[aE,hl1];omega) (by decide) (bU _) (by show (_+_)*8≤_;omega) (by omega)<|fun i72=>z6<|aQ 11 Z<|az.appendOZ (k:=1) jk Yp Z Z Z Z Z (fun _=>.head) ⟨_,.t5⟩ Z (by rw[aN,hl2];omega) (by decide) (ei _) (by show (_+_)*1≤_;omega) (by omega)<|fun i78=>z6<|aQ 17 Z<|az.appendOZ (k:=1) wy Zz Z Z Z Z Z (fun _=>.t1) ⟨_,.t6⟩ Z (by rw[aE,hl3];omega) (by decide) (bU _) (by show (_+_)*8≤_;omega) (by omega)<|fun i84=>ze (zb (zc .t1))<|ze (zb (zc .t1))<|ze (zb (zc .t2))<|z6<|ad 18 Z (eu Z)<|ad 19 Z (eu Z)<|ad 20 Z (eu Z)<|bJ ?_
      exact ⟨(i72,i78,i84),de,⟨congrArg (AV.own i72) (Nat.zero_add _),congrArg (AV.own i78) (Nat.zero_add _),congrArg (AV.own i84) (Nat.zero_add _),trivial⟩,aH,trivial⟩
   ·refine yh (k:=1) jk Yp<|fun i73=>z6<|yr (i:=0) (j:=12) Z Z (by kernel_rfl) ?_ ?_
    ·refine yh (k:=1) jw X7<|fun i67=>z6<|yr (i:=5) (j:=12) Z Z (by kernel_rfl) ?_ ?_
     ·refine az.appendOZ (k:=1) jw X7 Z Z Z Z Z (fun _=>.head) ⟨_,.t3⟩ Z (by rw[aE,hl1];omega) (by decide) (bU _) (by show (_+_)*8≤_;omega) (by omega)<|fun i72=>z6<|yr (i:=11) (j:=12) Z Z (by kernel_rfl) ?_ ?_
      ·refine az.appendOZ (k:=1) jk Yp Z Z Z Z Z (fun _=>.t1) ⟨_,.t4⟩ Z (by rw[aN,hl2];omega) (by decide) (ei _) (by show (_+_)*1≤_;omega) (by omega)<|fun i78=>z6<|aQ 12 Z<|yh (k:=1) wy Zz<|fun i79=>z6<|aQ 17 Z<|az.appendOZ (k:=1) wy Zz Z Z Z Z Z (fun _=>.head) ⟨_,.t6⟩ Z (by rw[aE,hl3];omega) (by decide) (bU _) (by show (_+_)*8≤_;omega) (by omega)<|fun i84=>ze (zb (zc .head))<|ze (zb (zc .t2))<|ze (zb (zc .t2))<|z6<|ad 18 Z (eu Z)<|ad 19 Z (eu Z)<|ad 20 Z (eu Z)<|bJ ?_
       exact ⟨(i72,i78,i84),de,⟨congrArg (AV.own i72) (Nat.zero_add _),congrArg (AV.own i78) (Nat.zero_add _),congrArg (AV.own i84) (Nat.zero_add _),trivial⟩,aH,trivial⟩
      ·refine yh (k:=1) wy Zz<|fun i79=>z6<|aQ 11 Z<|az.appendOZ (k:=1) jk Yp Z Z Z Z Z (fun _=>.t2) ⟨_,.t5⟩ Z (by rw[aN,hl2];omega) (by decide) (ei _) (by show (_+_)*1≤_;omega) (by omega)<|fun i78=>z6<|aQ 17 Z<|az.appendOZ (k:=1) wy Zz Z Z Z Z Z (fun _=>.head) ⟨_,.t6⟩ Z (by rw[aE,hl3];omega) (by decide) (bU _) (by show (_+_)*8≤_;omega) (by omega)<|fun i84=>ze (zb (zc .head))<|ze (zb (zc .t2))<|ze (zb (zc .t2))<|z6<|ad 18 Z (eu Z)<|ad 19 Z (eu Z)<|ad 20 Z (eu Z)<|bJ ?_
       exact ⟨(i72,i78,i84),de,⟨congrArg (AV.own i72) (Nat.zero_add _),congrArg (AV.own i78) (Nat.zero_add _),congrArg (AV.own i84) (Nat.zero_add _),trivial⟩,aH,trivial⟩
     ·refine yh (k:=1) wy Zz<|fun i79=>z6<|aQ 5 Z<|az.appendOZ (k:=1) jw X7 Z Z Z Z Z (fun _=>.t1) ⟨_,.t4⟩ Z (by rw[aE,hl1];omega) (by decide) (bU _) (by show (_+_)*8≤_;omega) (by omega)<|fun i72=>z6<|aQ 11 Z<|az.appendOZ (k:=1) jk Yp Z Z Z Z Z (fun _=>.t2) ⟨_,.t5⟩ Z (by rw[aN,hl2];omega) (by decide) (ei _) (by show (_+_)*1≤_;omega) (by omega)<|fun i78=>z6<|aQ 17 Z<|az.appendOZ (k:=1) wy Zz Z Z Z Z Z (fun _=>.head) ⟨_,.t6⟩ Z (by rw[aE,hl3];omega) (by decide) (bU _) (by show (_+_)*8≤_;omega) (by omega)<|fun i84=>ze (zb (zc .head))<|ze (zb (zc .t2))<|ze (zb (zc .t2))<|z6<|ad 18 Z (eu Z)<|ad 19 Z (eu Z)<|ad 20 Z (eu Z)<|bJ ?_
      exact ⟨(i72,i78,i84),de,⟨congrArg (AV.own i72) (Nat.zero_add _),congrArg (AV.own i78) (Nat.zero_add _),congrArg (AV.own i84) (Nat.zero_add _),trivial⟩,aH,trivial⟩
    ·refine yh (k:=1) wy Zz<|fun i79=>z6<|aQ 0 Z<|yh (k:=1) jw X7<|fun i67=>z6<|aQ 5 Z<|az.appendOZ (k:=1) jw X7 Z Z Z Z Z (fun _=>.head) ⟨_,.t4⟩ Z (by rw[aE,hl1];omega) (by decide) (bU _) (by show (_+_)*8≤_;omega) (by omega)<|fun i72=>z6<|aQ 11 Z<|az.appendOZ (k:=1) jk Yp Z Z Z Z Z (fun _=>.t2) ⟨_,.t5⟩ Z (by rw[aN,hl2];omega) (by decide) (ei _) (by show (_+_)*1≤_;omega) (by omega)<|fun i78=>z6<|aQ 17 Z<|az.appendOZ (k:=1) wy Zz Z Z Z Z Z (fun _=>.t1) ⟨_,.t6⟩ Z (by rw[aE,hl3];omega) (by decide) (bU _) (by show (_+_)*8≤_;omega) (by omega)<|fun i84=>ze (zb (zc .t1))<|ze (zb (zc .t2))<|ze (zb (zc .t2))<|z6<|ad 18 Z (eu Z)<|ad 19 Z (eu Z)<|ad 20 Z (eu Z)<|bJ ?_
     exact ⟨(i72,i78,i84),de,⟨congrArg (AV.own i72) (Nat.zero_add _),congrArg (AV.own i78) (Nat.zero_add _),congrArg (AV.own i84) (Nat.zero_add _),trivial⟩,aH,trivial⟩
   ·refine yh (k:=1) wy Zz<|fun i79=>z6<|yr (i:=0) (j:=6) Z Z (by kernel_rfl) ?_ ?_
    ·refine yh (k:=1) jw X7<|fun i67=>z6<|yr (i:=5) (j:=6) Z Z (by kernel_rfl) ?_ ?_
     ·refine az.appendOZ (k:=1) jw X7 Z Z Z Z Z (fun _=>.head) ⟨_,.t3⟩ Z (by rw[aE,hl1];omega) (by decide) (bU _) (by show (_+_)*8≤_;omega) (by omega)<|fun i72=>z6<|aQ 6 Z<|yh (k:=1) jk Yp<|fun i73=>z6<|aQ 11 Z<|az.appendOZ (k:=1) jk Yp Z Z Z Z Z (fun _=>.head) ⟨_,.t5⟩ Z (by rw[aN,hl2];omega) (by decide) (ei _) (by show (_+_)*1≤_;omega) (by omega)<|fun i78=>z6<|aQ 17 Z<|az.appendOZ (k:=1) wy Zz Z Z Z Z Z (fun _=>.t2) ⟨_,.t6⟩ Z (by rw[aE,hl3];omega) (by decide) (bU _) (by show (_+_)*8≤_;omega) (by omega)<|fun i84=>ze (zb (zc .t2))<|ze (zb (zc .t1))<|ze (zb (zc .t2))<|z6<|ad 18 Z (eu Z)<|ad 19 Z (eu Z)<|ad 20 Z (eu Z)<|bJ ?_
      exact ⟨(i72,i78,i84),de,⟨congrArg (AV.own i72) (Nat.zero_add _),congrArg (AV.own i78) (Nat.zero_add _),congrArg (AV.own i84) (Nat.zero_add _),trivial⟩,aH,trivial⟩
     ·refine yh (k:=1) jk Yp<|fun i73=>z6<|aQ 5 Z<|az.appendOZ (k:=1) jw X7 Z Z Z Z Z (fun _=>.t1) ⟨_,.t4⟩ Z (by rw[aE,hl1];omega) (by decide) (bU _) (by show (_+_)*8≤_;omega) (by omega)<|fun i72=>z6<|aQ 11 Z<|az.appendOZ (k:=1) jk Yp Z Z Z Z Z (fun _=>.head) ⟨_,.t5⟩ Z (by rw[aN,hl2];omega) (by decide) (ei _) (by show (_+_)*1≤_;omega) (by omega)<|fun i78=>z6<|aQ 17 Z<|az.appendOZ (k:=1) wy Zz Z Z Z Z Z (fun _=>.t2) ⟨_,.t6⟩ Z (by rw[aE,hl3];omega) (by decide) (bU _) (by show (_+_)*8≤_;omega) (by omega)<|fun i84=>ze (zb (zc .t2))<|ze (zb (zc .t1))<|ze (zb (zc .t2))<|z6<|ad 18 Z (eu Z)<|ad 19 Z (eu Z)<|ad 20 Z (eu Z)<|bJ ?_
      exact ⟨(i72,i78,i84),de,⟨congrArg (AV.own i72) (Nat.zero_add _),congrArg (AV.own i78) (Nat.zero_add _),congrArg (AV.own i84) (Nat.zero_add _),trivial⟩,aH,trivial⟩
    ·refine yh (k:=1) jk Yp<|fun i73=>z6<|aQ 0 Z<|yh (k:=1) jw X7<|fun i67=>z6<|aQ 5 Z<|az.appendOZ (k:=1) jw X7 Z Z Z Z Z (fun _=>.head) ⟨_,.t4⟩ Z (by rw[aE,hl1];omega) (by decide) (bU _) (by show (_+_)*8≤_;omega) (by omega)<|fun i72=>z6<|aQ 11 Z<|az.appendOZ (k:=1) jk Yp Z Z Z Z Z (fun _=>.t1) ⟨_,.t5⟩ Z (by rw[aN,hl2];omega) (by decide) (ei _) (by show (_+_)*1≤_;omega) (by omega)<|fun i78=>z6<|aQ 17 Z<|az.appendOZ (k:=1) wy Zz Z Z Z Z Z (fun _=>.t2) ⟨_,.t6⟩ Z (by rw[aE,hl3];omega) (by decide) (bU _) (by show (_+_)*8≤_;omega) (by omega)<|fun i84=>z6<|ad 18 Z (eu Z)<|ad 19 Z (eu Z)<|ad 20 Z (eu Z)<|bJ ?_
     exact ⟨(i72,i78,i84),de,⟨congrArg (AV.own i72) (Nat.zero_add _),congrArg (AV.own i78) (Nat.zero_add _),congrArg (AV.own i84) (Nat.zero_add _),trivial⟩,aH,trivial⟩
  ·rintro ⟨i72,i78,i84⟩ _
   refine zd<|ai<|aJ Z<|aq Z<|za (zf j9 Z jj (by decide) Z Z)<|za (zf jg Z Z8 (by decide) Z Z)<|za (zo (c:=.fro _ _) Zh Z ⟨_,.head⟩ Z)<|aa Z<|za (bv to.toNat ju jy Z Z (by omega) hB)<|au ji Z Yl Z Z<|aI Yv Z<|ap Z4 Z<|aa Z<|z6<|zk<|y7 (γ:=Nat) [0,1,4,9,10,11,93,94] (fun k=>[(95,.int .i64 k)]) (fun k=>(iw,.cells 99 (FP f ja jb jc jo jt (Cj B.phis s k)))::(i72,.grow 1 2 (cI s.ints))::(i78,.grow 1 4 (cB s.bools))::(i84,.grow 1 3 (cI s.arrs))::(i4,.grow 1 3 (cI (oJ B.phis s.blk B.phis.length)))::wR ja jb jc jo jt ids (Cj B.phis s k)) (fun k=>k≤B.phis.length) (fun k=>B.phis.length - k) 0 aK aH (qw _) ?_
   rintro k hk
   refine ai<|ax Z Z<|z6<|zd<|zt Z (fun ck=>?_) (fun ck=>?_)
   ·have hk2:k<B.phis.length:=by simp at ck;omega
    obtain ⟨p,hp⟩:∃p,B.phis[k]=p:=⟨_,rfl⟩
    have hpg:B.phis[k]?=some p:=by rw[qt hk2,hp]
    have hpm:=w4 hpg
    have hp0:=hok p hpm
    obtain ⟨hd,_,_,ha,_⟩:=hph p hpm
    obtain ⟨d1,d0⟩:=eV hd
    obtain ⟨v1,v0⟩:=eV (List.all_eq_true.1 ha _ (sP hp0))
    have hgg:(oJ B.phis s.blk B.phis.length)[k]?=some (er p s.blk):=by rw[FQ hk2,hp]
    have t1:=(hT k).li
    have t2:=(hT k).lb
    have t3:=(hT k).la
    refine zh<|zd<|zk<|ai<|aa Z<|za (bv k Z4 Zb Z Z Z hpg)<|ae X1 Zb Z Z<|y6 (cs:=[.int .i64 0,.raw (.slice none 0 0),.raw (.slice none 0 0)]) Yf Z Z<|fun i13=>ak Z<|y1 Zb Z Z Z Z Z Z .head Z<|ze (yc (t:=13) Z .head)<|z6<|dN.regionDrawR (by kernel_rfl) Z (zj (.r (.r (.r (.r (.r (.l (.l (.l (.l (.l (.l (.rest _)))))))))))))<|yd (i:=0) Z (by kernel_rfl) (by kernel_rfl) (by kernel_rfl) (cP Z)<|yd (i:=1) Z (by kernel_rfl) (by kernel_rfl) (by kernel_rfl) (zw Z)<|yd (i:=2) Z (by kernel_rfl) (by kernel_rfl) (by kernel_rfl) (zf j9 Z Zu (by decide) Z Z)<|yd (i:=3) Z (by kernel_rfl) (by kernel_rfl) (by kernel_rfl) (zo (c:=.own _ _) Ye Z ⟨_,.head⟩ Z)<|yd (i:=4) Z (by kernel_rfl) (by kernel_rfl) (by kernel_rfl) (bM Z0 Z wz Z Z)<|yd (i:=5) Z (by kernel_rfl) (by kernel_rfl) (by kernel_rfl) (cR j6 Z)<|yd (i:=6) Z (by kernel_rfl) (by kernel_rfl) (by kernel_rfl) (cP Z)<|yd (i:=7) Z (by kernel_rfl) (by kernel_rfl) (by kernel_rfl) (zw Z)<|yd (i:=8) Z (by kernel_rfl) (by kernel_rfl) (by kernel_rfl) (zf j9 Z X8 (by decide) Z Z)<|yd (i:=9) Z (by kernel_rfl) (by kernel_rfl) (by kernel_rfl) (zo (c:=.own _ _) Xk Z ⟨_,.head⟩ Z)<|yd (i:=10) Z (by kernel_rfl) (by kernel_rfl) (by kernel_rfl) (bM Z0 Z wz Z Z)<|yd (i:=11) Z (by kernel_rfl) (by kernel_rfl) (by kernel_rfl) (cR j6 Z)<|yd (i:=12) Z (by kernel_rfl) (by kernel_rfl) (by kernel_rfl) (cP Z)<|yd (i:=13) Z (by kernel_rfl) (by kernel_rfl) (by kernel_rfl) (zw Z)<|yd (i:=14) Z (by kernel_rfl) (by kernel_rfl) (by kernel_rfl) (zf j9 Z j7 (by decide) Z Z)<|yd (i:=15) Z (by kernel_rfl) (by kernel_rfl) (by kernel_rfl) (zo (c:=.own _ _) je Z ⟨_,.head⟩ Z)<|yd (i:=16) Z (by kernel_rfl) (by kernel_rfl) (by kernel_rfl) (bM Z0 Z wz Z Z)<|yd (i:=17) Z (by kernel_rfl) (by kernel_rfl) (by kernel_rfl) (cR j6 Z)<|yd (i:=18) Z (by kernel_rfl) (by kernel_rfl) (by kernel_rfl) (gQ Z)<|yd (i:=19) Z (by kernel_rfl) (by kernel_rfl) (by kernel_rfl) (gQ Z)<|yd (i:=20) Z (by kernel_rfl) (by kernel_rfl) (by kernel_rfl) (cD Z)<|yd (i:=21) Z (by kernel_rfl) (by kernel_rfl) (by kernel_rfl) (yj (j:=k) wy wz Z Z Z ⟨_,.t4⟩ ((aE _).trans (oX (Nat.le_refl _))) hk2)<|yd (i:=22) Z (by kernel_rfl) (by kernel_rfl) (by kernel_rfl) (yz (j:=k) j6 Z ⟨_,.t4⟩ hgg)<|yd (i:=23) Z (by kernel_rfl) (by kernel_rfl) (by kernel_rfl) (yj (j:=(er p s.blk).toNat) jw Z5 Z Z (wc v0).symm ⟨_,.t1⟩ ((aE _).trans hl1) (by omega))<|yd (i:=24) Z (by kernel_rfl) (by kernel_rfl) (by kernel_rfl) (yz (j:=(er p s.blk).toNat) Zx Z ⟨_,.t1⟩ (gd (by omega) v0))<|yd (i:=25) Z (by kernel_rfl) (by kernel_rfl) (by kernel_rfl) (gQ Z)<|yd (i:=26) Z (by kernel_rfl) (by kernel_rfl) (by kernel_rfl) (gQ Z) ?_
    refine yd (i:=27) Z (by kernel_rfl) (by kernel_rfl) (by kernel_rfl) (cD Z)<|yd (i:=28) Z (by kernel_rfl) (by kernel_rfl) (by kernel_rfl) (yj (j:=k) wy wz Z Z Z ⟨_,.t4⟩ ((aE _).trans (oX (Nat.le_refl _))) hk2)<|yd (i:=29) Z (by kernel_rfl) (by kernel_rfl) (by kernel_rfl) (yz (j:=k) j6 Z ⟨_,.t4⟩ hgg)<|yd (i:=30) Z (by kernel_rfl) (by kernel_rfl) (by kernel_rfl) (yj (j:=(er p s.blk).toNat) jk Z6 Z Z (wc v0).symm ⟨_,.t2⟩ ((aN _).trans hl2) (by omega))<|yd (i:=31) Z (by kernel_rfl) (by kernel_rfl) (by kernel_rfl) (Gv.loadB (j:=(er p s.blk).toNat) Ym Z ⟨_,.t2⟩ (uk (by omega) v0))<|yd (i:=32) Z (by kernel_rfl) (by kernel_rfl) (by kernel_rfl) (gQ Z)<|yd (i:=33) Z (by kernel_rfl) (by kernel_rfl) (by kernel_rfl) (gQ Z)<|yd (i:=34) Z (by kernel_rfl) (by kernel_rfl) (by kernel_rfl) (cD Z)<|yd (i:=35) Z (by kernel_rfl) (by kernel_rfl) (by kernel_rfl) (yj (j:=k) wy wz Z Z Z ⟨_,.t4⟩ ((aE _).trans (oX (Nat.le_refl _))) hk2)<|yd (i:=36) Z (by kernel_rfl) (by kernel_rfl) (by kernel_rfl) (yz (j:=k) j6 Z ⟨_,.t4⟩ hgg)<|yd (i:=37) Z (by kernel_rfl) (by kernel_rfl) (by kernel_rfl) (yj (j:=(er p s.blk).toNat) wy wz Z Z (wc v0).symm ⟨_,.t3⟩ ((aE _).trans hl3) (by omega))<|yd (i:=38) Z (by kernel_rfl) (by kernel_rfl) (by kernel_rfl) (yz (j:=(er p s.blk).toNat) j6 Z ⟨_,.t3⟩ (gd (by omega) v0))<|qr (i:=39) Z (by kernel_rfl)<|za (yj (j:=p.dst.toNat) jw Z5 Z Z (wc d0).symm ⟨_,.head⟩ ((aE _).trans t1) (by omega))<|z6<|qr (i:=40) Z (by kernel_rfl)<|yy (j:=p.dst.toNat) Z5 Z Z .head (by first|omega|(simp;omega))<|z6<|qr (i:=41) Z (by kernel_rfl)<|za (yj (j:=p.dst.toNat) jk Z6 Z Z (wc d0).symm ⟨_,.t1⟩ ((aN _).trans t2) (by omega))<|z6<|qr (i:=42) Z (by kernel_rfl)<|qb (j:=p.dst.toNat) Z6 Z Z .t1 (by first|omega|(simp;omega))<|z6<|qr (i:=43) Z (by kernel_rfl)<|za (yj (j:=p.dst.toNat) wy wz Z Z (wc d0).symm ⟨_,.t2⟩ ((aE _).trans t3) (by omega))<|z6<|qr (i:=44) Z (by kernel_rfl)<|yy (j:=p.dst.toNat) wz Z Z .t2 (by first|omega|(simp;omega))<|z6<|jG.done (by kernel_rfl)<|aT<|aC Z Z<|aa Z<|z6 ?_
    exact ⟨k+1,wU,aK,⟨_,(.refl _),by rw[FR hk2,hp];rfl⟩,hk2,by omega⟩
   ·obtain rfl:k=B.phis.length:=by simp at ck;omega
    refine zz (aS.drop .t1)<|zz (aS.drop .t1)<|zz (aS.drop .t1)<|zz (aS.drop .t1)<|y5<|aT<|aJ Z<|aJ Z<|aa Z<|aq Z<|za (zf j9 Z wz (by decide) Z Z)<|yp (l:=[_]) (new:=[_,_,_,_,_,_,_,_,_,_,_,_,_,_,_,_,_,_,_,_,_,_,_]) wz Z Z Z Z Z Z .head Z Z<|aq Z<|za (zf j9 Z wz (by decide) Z Z)<|yp (l:=[_]) (new:=[_,_,_,_,_,_,_,_,_,_,_,_,_,_,_,_,_,_,_,_,_,_,_]) wz Z Z Z Z Z Z .head Z Z<|z6<|yl ?_
    exact ⟨by rw[hE];show _=(Cj B.phis s B.phis.length).arrays.length;rw[Cd];exact hids,rfl,by rw[hE];rfl⟩
end Go.Proofs.YtdilpodccjlkgaaGreatDoor
namespace Go.Proofs.YtdilpodccjlkgaaGreatDoor
open Go.Proofs.Tryz
open Go.Proofs Go.Lib Go.Shelf Go.RowKit
variable {E:World}
set_option maxRecDepth 20000
theorem Ce {f:ac} {s:GS} {x:aF} (h:(cA f s.blk).insts[s.pc]?=some x):cQ f s=ba { s with pc:=s.pc+1,st:=s.st+1 } x:=by unfold cQ;rw[h]
theorem Ee {f:ac} {s:GS} (h:(cA f s.blk).insts[s.pc]?=none):cQ f s=if (cA f s.blk).term.kind=2 then dq { s with st:=s.st+1,val:=vi s.ints (cA f s.blk).term.var } 0 else ep f { s with st:=s.st+1 } (lU f s):=by unfold cQ;rw[h]
theorem Ef {f:ac} {t:fk} (h:bH f t=true) (hk:¬t.kind=0):t.var<f.vars.length∧0≤t.var:=eV (ia h hk)
set_option maxHeartbeats 8000000 in
theorem yM (f:ac) (iw ja jb jc jo jt:Nat) (ids:List Nat) (s:GS) (hids:ids.length=s.arrays.length) (hg:bl f s) (hR:vG f) (hv:f.vars.length≤1000) (hs:small f) (hst:s.st≤1000000000) (hck:∀i,s.ck i≤1000000000):aZ prog E 31 [.po iw 0] (wO f iw ja jb jc jo jt ids s) (fun y O=>∃jo' jt' ids',ids'.length=(cQ f s).arrays.length∧y=.tup []∧O=wO f iw ja jb jc jo' jt' ids' (cQ f s)):=by
 have hB:=tL hg.b0 hg.b1
 have hBm:=w4 hB
 have hsm:=(hs.2.2.2.2 _ hBm).2.2.1
 have hpc:=hg.pc
 have hin:=hR.insts _ hBm
 have htm:=hR.term _ hBm
 have hi:=@Ce f s
 have he:=@Ee f s
 obtain ⟨B,hBe⟩:∃B,cA f s.blk=B:=⟨_,rfl⟩
 have hnx:lU f s=if B.term.kind=0∨gb s.bools B.term.var=true then B.term.to0 else B.term.to1:=by rw[←hBe];rfl
 have hnt:=tM hR hg
 rw[hBe] at hB hsm hpc hin htm hi he hnt
 have hl1:=hg.li
 have hl2:=hg.lb
 have hgu:bl f { s with st:=s.st+1 }:=hg.up _ s.val
 refine zp func31 Z (by decide) Z<|ai<|aJ Z<|aq Z<|za (zf j9 Z Y1 (by decide) Z Z)<|za (zf Ze Z wz (by decide) Z Z)<|za (zo (c:=.int _ _) j6 Z ⟨_,.head⟩ Z)<|aC Z Z<|aq Z<|za (zf j9 Z Y1 (by decide) Z Z)<|za (zf Ze Z wz (by decide) Z Z)<|yp (l:=[_]) (new:=[_,_,_,_,_,_,_,_,_,_,_,_,_,_,_,_,_,_,_,_,_,_,_]) wz Z Z Z Z Z Z .head Z Z<|z6<|zd<|zr (fun j=>Nat.beq j 12) (by kernel_rfl) Z (zj (.r (.rest _)))<|ad 0 Z (cP Z)<|ad 1 Z (zw Z)<|ad 2 Z (zf j9 Z jj (by decide) Z Z)<|ad 3 Z (zf jg Z Z8 (by decide) Z Z)<|ad 4 Z (zo (c:=.fro _ _) Zh Z ⟨_,.head⟩ Z)<|ad 5 Z (cP Z)<|ad 6 Z (zw Z)<|ad 7 Z (zf j9 Z wz (by decide) Z Z)<|ad 8 Z (zo (c:=.int _ _) j6 Z ⟨_,.head⟩ Z)<|ad 9 Z (bv s.blk.toNat ju jy Z Z (wc hg.b0).symm hB)<|ad 10 Z (yx Yo jy Z Z)<|aQ 11 Z<|y6 (cs:=[.str ⟨#[]⟩,.raw (.slice none 0 0),.raw (.slice none 0 0),.int .i64 0,.int .i64 0,.int .i64 0,.int .i64 0]) Zl Z Z<|fun i2=>z6<|yf<|yi (i:=12) Z (by kernel_rfl) (by kernel_rfl)<|y1 jy Z Z Z Z Z Z .t1 Z<|z6<|ym (by kernel_rfl)<|zz (yc (t:=2) Z .t1)<|zd<|zd<|zr (fun j=>false) (by kernel_rfl) Z (zj (.r (.rest _)))<|ad 0 Z (cP Z)<|ad 1 Z (zw Z) ?_
 refine ad 2 Z (zf j9 Z wz (by decide) Z Z)<|ad 3 Z (zo (c:=.int _ _) j6 Z ⟨_,.head⟩ Z)<|ad 4 Z (bM ji Z Zq Z Z)<|ad 5 Z (fa Y4 Z)<|ad 6 Z (Gv.lenM jz Z)<|ad 7 Z (Gv.lss Z Z)<|bJ<|zt Z (fun cp=>?_) (fun cp=>?_)
 ·have hp:s.pc<B.insts.length:=by simp at cp;omega
  obtain ⟨x,hx⟩:∃x,B.insts[s.pc]=x:=⟨_,rfl⟩
  have hxg:B.insts[s.pc]?=some x:=by rw[qt hp,hx]
  obtain ⟨hix,h64⟩:=hin x (w4 hxg)
  have hS:=hi hxg
  have hg2:bl f { s with pc:=s.pc+1,st:=s.st+1 }:=⟨hg.li,hg.lb,hg.la,hg.i64,hg.arr,hg.ls,hg.lr,hg.r64,hg.lt,hg.b0,hg.b1,by show s.pc+1≤(cA f s.blk).insts.length;rw[hBe];exact hp⟩
  refine ai<|aJ Z<|aq Z<|za (zf j9 Z wz (by decide) Z Z)<|za (zo (c:=.int _ _) j6 Z ⟨_,.head⟩ Z)<|aC Z Z<|aq Z<|za (zf j9 Z wz (by decide) Z Z)<|yp (l:=[_]) (new:=[_,_,_,_,_,_,_,_,_,_,_,_,_,_,_,_,_,_,_,_,_,_,_]) wz Z Z Z Z Z Z .head Z Z<|z6<|zd<|zr (fun j=>false) (by kernel_rfl) Z (zj (.rest _))<|ad 0 Z (cP Z)<|ad 1 Z (bM ji Z Zq Z Z)<|ad 2 Z (fa Y4 Z)<|ad 3 Z (cP Z)<|ad 4 Z (zw Z)<|ad 5 Z (zf j9 Z wz (by decide) Z Z)<|aQ 6 Z<|za (zo (c:=.int _ _) j6 Z ⟨_,.head⟩ Z)<|z6<|ad 7 Z (Gv.sub Z Z (by unfold kJ;omega))<|ad 8 Z (bv s.pc jz jx Z Z (by omega) hxg)<|ad 9 Z (yx Y0 jx Z Z)<|aQ 10 Z<|zu Z (zj (.l (.l (.l (.l (.l (.l (.l (.rest _))))))))) (yL f iw ja jb jc jo jt ids { s with pc:=s.pc+1,st:=s.st+1 } x hids hg2 hix hv hck) ?_
  rintro r49 O49 ⟨jo',jt',ids',hl',rfl,rfl⟩
  refine z6<|bJ<|zi<|yl ?_
  exact ⟨jo',jt',ids',by rw[hS];exact hl',rfl,by rw[hS];rfl⟩
 ·have hp:B.insts[s.pc]?=none:=by rw[List.getElem?_eq_none];simp at cp;omega
  have hS:=he hp
  refine zh<|ai<|au ji Z Zo Z Z<|ae isAgg49 Zo Z Z<|y6 (cs:=[.int .i64 0,.int .i64 0,.int .i64 0,.int .i64 0]) zeroValue49 Z Z<|fun i3=>y1 Zo Z Z Z Z Z Z .head Z<|ze (yc (t:=3) Z .head)<|z6<|zk<|ai<|au jf Z Y7 Z Z<|aA Yh Z<|ao Z Z<|ab Z<|z6<|zt Z (fun ck=>?_) (fun ck=>?_)
  ·have ck:B.term.kind=2:=by simpa using ck
   rw[if_pos ck] at hS
   obtain ⟨v1,v0⟩:=Ef htm (by omega)
   refine zd<|zr (fun j=>Nat.beq j 12) (by kernel_rfl) Z (zj (.r (.r (.r (.rest _)))))<|ad 0 Z (cP Z)<|ad 1 Z (cP Z)<|ad 2 Z (zw Z)<|ad 3 Z (zf j9 Z Zu (by decide) Z Z)<|ad 4 Z (zo (c:=.own _ _) Ye Z ⟨_,.head⟩ Z)<|ad 5 Z (bM jf Z wz Z Z)<|ad 6 Z (cR j6 Z)<|ad 7 Z (yj (j:=B.term.var.toNat) jw Z5 Z Z (wc v0).symm ⟨_,.t1⟩ ((aE _).trans hl1) (by omega))<|ad 8 Z (yz (j:=B.term.var.toNat) Zx Z ⟨_,.t1⟩ (gd (by omega) v0))<|yo (i:=9) Z (by kernel_rfl) (by kernel_rfl) (by kernel_rfl) (by kernel_rfl) (zw Z)<|yo (i:=10) Z (by kernel_rfl) (by kernel_rfl) (by kernel_rfl) (by kernel_rfl) (zf j9 Z Y1 (by decide) Z Z)<|ad 11 Z (zf Ze Z Z5 (by decide) Z Z)<|yf<|yi (i:=12) Z (by kernel_rfl) (by kernel_rfl)<|yp (l:=[_]) (new:=[_,_,_,_,_,_,_,_,_,_,_,_,_,_,_,_,_,_,_,_,_,_,_]) Z5 Z Z Z Z Z Z .head Z Z<|z6<|ym (by kernel_rfl)<|aT<|aJ Z<|zu Z (zj (.l (.l (.l (.l (.l (.l (.l (.rest _))))))))) (eF f iw ja jb jc jo jt ids { s with st:=s.st+1,val:=vi s.ints B.term.var } 0) ?_
   rintro r74 O74 ⟨rfl,rfl⟩
   refine z6<|yl ?_
   exact ⟨jo,jt,ids,by rw[hS];exact hids,rfl,by rw[hS];rfl⟩
  ·have ck:¬B.term.kind=2:=by simpa using ck
   rw[if_neg ck] at hS
   obtain ⟨g0,g1⟩:=hnt ck
   refine zd<|zr (fun j=>false) (by kernel_rfl) Z (zj (.r (.r (.r (.rest _)))))<|ad 0 Z (bM jf Z Y7 Z Z)<|ad 1 Z (cR Yh Z)<|ad 2 Z (Gv.eqlI Z Z)<|ad 3 Z (nT Z)<|ql (s:=79) Z (fun c0=>?_) (fun c0=>?_)
   ·have d0:B.term.kind=0:=by simpa using c0
    rw[if_pos (.inl d0)] at hnx
    rw[hnx] at hS g0 g1
    refine b5 4 Z Z Z c0<|b5 5 Z Z Z c0<|b5 6 Z Z Z c0<|b5 7 Z Z Z c0<|b5 8 Z Z Z c0<|b5 9 Z Z Z c0<|b5 10 Z Z Z c0<|b5 11 Z Z Z c0<|ad 12 Z (uo Z c0 Z)<|ad 13 Z (m9 Z)<|bJ<|yu Z Z<|aT<|aJ Z<|au jf Z Zd Z Z<|za (q3 (j:=0) Z1 wz Z Z Z (by decide) Z)<|aA j6 Z<|zu Z (zj (.l (.l (.l (.l (.l (.l (.l (.rest _))))))))) (ll f iw ja jb jc jo jt ids { s with st:=s.st+1 } B.term.to0 hids hgu hR hv hs g0 g1) ?_
    rintro r93 O93 ⟨hl',rfl,rfl⟩
    refine z6<|yl ?_
    exact ⟨jo,jt,ids,by rw[hS];exact hl',rfl,by rw[hS];rfl⟩
   ·have d0:¬B.term.kind=0:=by simpa using c0
    obtain ⟨v1,v0⟩:=Ef htm d0
    refine cO 4 Z Z Z c0 (cP Z)<|cO 5 Z Z Z c0 (zw Z)<|cO 6 Z Z Z c0 (zf j9 Z X8 (by decide) Z Z)<|cO 7 Z Z Z c0 (zo (c:=.own _ _) Xk Z ⟨_,.head⟩ Z)<|cO 8 Z Z Z c0 (bM jf Z wz Z Z)<|cO 9 Z Z Z c0 (cR j6 Z)<|cO 10 Z Z Z c0 (yj (j:=B.term.var.toNat) jk Z6 Z Z (wc v0).symm ⟨_,.t2⟩ ((aN _).trans hl2) (by omega))<|cO 11 Z Z Z c0 (Gv.loadB (j:=B.term.var.toNat) Ym Z ⟨_,.t2⟩ (uk (by omega) v0))<|ad 12 Z (si Z c0 Z)<|ad 13 Z (m9 Z)<|bJ<|zy Z (fun cw=>?_) (fun cw=>?_)
    ·have cw:gb s.bools B.term.var=true:=cw
     rw[if_pos (.inr cw)] at hnx
     rw[hnx] at hS g0 g1
     refine aT<|aJ Z<|au jf Z Zd Z Z<|za (q3 (j:=0) Z1 wz Z Z Z (by decide) Z)<|aA j6 Z<|zu Z (zj (.l (.l (.l (.l (.l (.l (.l (.rest _))))))))) (ll f iw ja jb jc jo jt ids { s with st:=s.st+1 } B.term.to0 hids hgu hR hv hs g0 g1) ?_
     rintro r93 O93 ⟨hl',rfl,rfl⟩
     refine z6<|yl ?_
     exact ⟨jo,jt,ids,by rw[hS];exact hl',rfl,by rw[hS];rfl⟩
    ·have cw:gb s.bools B.term.var=false:=cw
     rw[if_neg (by rintro (h|h);exact d0 h;rw[cw] at h;cases h)] at hnx
     rw[hnx] at hS g0 g1
     refine aT<|aJ Z<|au jf Z Zd Z Z<|za (q3 (j:=1) Z1 wz Z Z Z (by decide) Z)<|aA j6 Z<|zu Z (zj (.l (.l (.l (.l (.l (.l (.l (.rest _))))))))) (ll f iw ja jb jc jo jt ids { s with st:=s.st+1 } B.term.to1 hids hgu hR hv hs g0 g1) ?_
     rintro r56 O56 ⟨hl',rfl,rfl⟩
     refine z6<|yl ?_
     exact ⟨jo,jt,ids,by rw[hS];exact hl',rfl,by rw[hS];rfl⟩
end Go.Proofs.YtdilpodccjlkgaaGreatDoor
