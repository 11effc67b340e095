/- A step of the document's machine, how it begins, and runs. Of programs as they are run. -/
import Derived.Test.YtbconpmnckokoaaGreatDoorZf
import Derived.Test.YtbconpmnckokoaaGreatDoorZj
set_option linter.unusedVariables false
set_option linter.unusedSimpArgs false
set_option linter.unusedSectionVars false
namespace Go.Proofs.YtbconpmnckokoaaGreatDoor
section
open Go.Proofs.Tryz
section
variable {E:World} {P:Program} {ops:Array Oper} {K:aH→OL→Prop} {env:aH} {O O':OL} {rest:List Oper}
variable {d ty:Nat} {pos:String} {af:Array Edge} {x y z:Operand} {t u e:TypeId}
theorem ak.appendO {ti:TypeInfo} {zv:Value} {k n m i j:Nat} {T2:TypeId} {cs ds:List AV} {f:Nat→OL} (ht:P.underlying t=some (.slice e)) (hi:P.info? e=some ti) (hz:ti.zero=some zv) (hk:ti.size=k) (hzc:zv.cells.size=k)
  (hx:aU env x=.own i n) (hy:aU env y=.own j m) (hO:∀i',jY O i (.grow k e cs) i' (.grow k e (cs++ds)) (f i')) (hj:mV O j (.grow k T2 ds)) (hn:cs.length=n*k) (hm:ds.length=m*k) (hne:ds≠[]) (hk0:0<k) (hc1:ds.all AV.cell=true) (hb:(n+m)*ti.bytes≤140737488355328) (hb2:n+m≤140737488355328)
  (kk:∀i',ak P E ops K rest (bz env d (.own i' (n+m))) (f i')) :
  ak P E ops K (Oper.mk (some d) (.call { callee:=.builtin .append,args:=#[x,y],argTypes:=#[t,t] }) ty pos af none::rest) env O:=fun I F ρ w h1 h2=>by
 obtain ⟨htop,L,hL,hS⟩:=id h2
 have h3:=h1.ev x
 rw[hx] at h3
 obtain ⟨b,cap,e1,ex⟩:=h3
 have h4:=h1.ev y
 rw[hy] at h4
 obtain ⟨b4,c4,e4,ey⟩:=h4
 obtain ⟨b2,c2,us2,junk,e5,hus2,hmem⟩:=hj.grow hL hne
 rw[e4] at e5
 simp only[Option.some.injEq,Prod.mk.injEq] at e5
 obtain ⟨rfl,rfl⟩:=e5
 obtain ⟨j',hj'⟩:=h2.name
 obtain ⟨A,B,hp,⟨b',cap',n',us,e2,hus,huc,hown⟩,hback⟩:=(hO j').rep hL
 simp only at e2
 rw[e1] at e2
 simp only[Option.some.injEq,Prod.mk.injEq] at e2
 obtain ⟨rfl,rfl⟩:=e2
 have hnn:n'=n:=by
  have h5:=hown.1
  have h6:=hus.length
  have:n'*k=n*k:=by omega
  exact Nat.eq_of_mul_eq_mul_right hk0 this
 subst hnn
 have hS2:SL I.k (A++(B++F)) E w:=hS.perm (by rw[←qq];exact (hp.append_right F).symm)
 have hmem2:(b2,Obj.cells (us2++junk).toArray T2 (0,0))∈A++(B++F):=by rw[←qq];exact List.mem_append_left _ (hp.mem_iff.1 hmem)
 have hsrc:Dm I.k (A++(B++F)) k (some ⟨b2,0,none⟩) m us2:=⟨by rw[hus2.length,hm],hus2.cell1 hc1,.inr ⟨_,rfl,fun q u hq=>⟨b2,0,rfl,.inr ⟨_,_,_,hmem2,by
  rw[Nat.zero_add,List.getElem?_toArray,List.getElem?_append_left (List.getElem?_eq_some_iff.1 hq).1];exact hq⟩⟩⟩⟩
 refine bx.append ht hi hz hk hzc ex ey hS2 hown hsrc hb hb2 fun a' c' A' w' h5 h6 h7=>?_
 have hb':∃b'',a'=mn b'':=by
  rcases h5.2.2 with ⟨e,_⟩|⟨b'',junk,e,_⟩
  ·exact ⟨none,e⟩
  ·exact ⟨some b'',e⟩
 obtain ⟨b'',rfl⟩:=hb'
 obtain ⟨J,ek,hle,e3,htop'⟩:=hj' (b'',c')
 obtain ⟨L',h8,h9⟩:=hback hle (A':=A') ⟨b'',c',_,us++us2,e3,RepL.mono hle _ _ (hus.append hus2),(by
  intro u hu
  rcases List.mem_append.1 hu with hu|hu
  ·exact huc u hu
  ·exact hus2.cell1 hc1 u hu),h5⟩
 exact q4 (fun _ _=>q9 hle) _ _ _ (kk j' J F _ _ ((h1.mono hle).upd d ⟨b'',c',e3,rfl⟩) ⟨htop',L',h8,by rw[ek];exact h6.perm (by rw[←qq];exact h9.append_right F)⟩)
end
end
section
open Go.Proofs.Tryz
section
variable {E:World} {P:Program} {ops:Array Oper} {K:aH→OL→Prop} {env:aH} {O O':OL} {rest:List Oper}
variable {d ty:Nat} {pos:String} {af:Array Edge} {x y z:Operand} {t u e:TypeId}
theorem ak.appendOZ {ti:TypeInfo} {zv:Value} {k n m i j:Nat} {T2:TypeId} {cs ds:List AV} {f:Nat→OL} (ht:P.underlying t=some (.slice e)) (hi:P.info? e=some ti) (hz:ti.zero=some zv) (hk:ti.size=k) (hzc:zv.cells.size=k)
  (hx:aU env x=.own i n) (hy:aU env y=.own j m) (hO:∀i',jY O i (.grow k e cs) i' (.grow k e (cs++ds)) (f i')) (hj:mV O j (.grow k T2 ds)) (hn:cs.length=n*k) (hm:ds.length=m*k) (hk0:0<k) (hc1:ds.all AV.cell=true) (hb:(n+m)*ti.bytes≤140737488355328) (hb2:n+m≤140737488355328)
  (kk:∀i',ak P E ops K rest (bz env d (.own i' (n+m))) (f i')) :
  ak P E ops K (Oper.mk (some d) (.call { callee:=.builtin .append,args:=#[x,y],argTypes:=#[t,t] }) ty pos af none::rest) env O:=by
 by_cases hne:ds=[]
 ·subst hne
  have hm0:m=0:=by
   have:m*k=0:=hm.symm
   rcases Nat.mul_eq_zero.1 this with h|h
   ·exact h
   ·omega
  subst hm0
  intro I F ρ w h1 h2
  obtain ⟨htop,L,hL,hS⟩:=id h2
  have h3:=h1.ev x
  rw[hx] at h3
  obtain ⟨b,cap,e1,ex⟩:=h3
  have h4:=h1.ev y
  rw[hy] at h4
  obtain ⟨b4,c4,e4,ey⟩:=h4
  obtain ⟨j',hj'⟩:=h2.name
  obtain ⟨A,B,hp,⟨b',cap',n',us,e2,hus,huc,hown⟩,hback⟩:=(hO j').rep hL
  simp only at e2
  rw[e1] at e2
  simp only[Option.some.injEq,Prod.mk.injEq] at e2
  obtain ⟨rfl,rfl⟩:=e2
  have hnn:n'=n:=by
   have h5:=hown.1
   have h6:=hus.length
   have:n'*k=n*k:=by omega
   exact Nat.eq_of_mul_eq_mul_right hk0 this
  subst hnn
  have hS2:SL I.k (A++(B++F)) E w:=hS.perm (by rw[←qq];exact (hp.append_right F).symm)
  have hsrc:Dm I.k (A++(B++F)) k (mn b4) 0 []:=⟨by simp,by simp,by cases b4 with|none=>exact .inl ⟨rfl,rfl⟩|some b4=>exact .inr ⟨_,rfl,by simp⟩⟩
  refine bx.append ht hi hz hk hzc ex ey hS2 hown hsrc hb hb2 fun a' c' A' w' h5 h6 h7=>?_
  have hb':∃b'',a'=mn b'':=by
   rcases h5.2.2 with ⟨e,_⟩|⟨b'',junk,e,_⟩
   ·exact ⟨none,e⟩
   ·exact ⟨some b'',e⟩
  obtain ⟨b'',rfl⟩:=hb'
  obtain ⟨J,ek,hle,e3,htop'⟩:=hj' (b'',c')
  obtain ⟨L',h8,h9⟩:=hback hle (A':=A') ⟨b'',c',_,us++[],e3,RepL.mono hle _ _ (hus.append rfl),(by rw[List.append_nil];exact huc),h5⟩
  exact q4 (fun _ _=>q9 hle) _ _ _ (kk j' J F _ _ ((h1.mono hle).upd d ⟨b'',c',e3,rfl⟩) ⟨htop',L',h8,by rw[ek];exact h6.perm (by rw[←qq];exact h9.append_right F)⟩)
 ·exact ak.appendO ht hi hz hk hzc hx hy hO hj hn hm hne hk0 hc1 hb hb2 kk
end
end
section
open Go.Proofs.Tryz
open Go.Proofs Go.Lib Go.Shelf Go.RowKit
variable {E:World}
set_option maxRecDepth 20000
def oE (fr ar:List Int) (b:Int):Int:=((fr.zip ar).find? fun q=>decide (q.1=b)).elim (-1) (·.2)
theorem wU {fr ar:List Int} {b:Int} {j:Nat} (h:j<fr.length) (h2:j<ar.length):oE (fr.drop j) (ar.drop j) b=if fr[j]=b then ar[j] else oE (fr.drop (j+1)) (ar.drop (j+1)) b:=by
 rw[List.drop_eq_getElem_cons h,List.drop_eq_getElem_cons h2]
 unfold oE
 rw[List.zip_cons_cons,List.find?_cons]
 by_cases e:fr[j]=b
 ·rw[if_pos e];simp[e]
 ·rw[if_neg e];simp[e]
def jR (l:List cV) (b:Int) (k:Nat):List Int:=(l.take k).map fun p=>cT p b
theorem wW {l:List cV} {b:Int} {k:Nat} (h:k<l.length):jR l b k++[cT l[k] b]=jR l b (k+1):=by
 unfold jR;rw[qp h,List.map_append];rfl
theorem Ae {l:List cV} {b:Int} {k:Nat} (h:k<l.length):(jR l b l.length)[k]?=some (cT l[k] b):=by
 unfold jR;rw[qt,List.getElem?_map,qo h];rfl
theorem kj {l:List cV} {b:Int} {k:Nat} (h:k≤l.length):(jR l b k).length=k:=by
 unfold jR;rw[List.length_map,qw];omega
def vX (l:List cV) (s:GS) (k:Nat):GS:=(l.take k).foldl (assign s) s
theorem Af {l:List cV} {s:GS} {k:Nat} (h:k<l.length):vX l s (k+1)=assign s (vX l s k) l[k]:=by
 unfold vX;rw[qp h,List.foldl_append];rfl
theorem vv (l:List cV) (s:GS) (k:Nat):(vX l s k).arrays=s.arrays:=by
 unfold vX
 suffices h:∀(l:List cV) (t:GS),(l.foldl (assign s) t).arrays=t.arrays from h _ s
 intro l
 induction l with
 |nil=>intro t;rfl
 |cons p l ih=>intro t;exact ih _
set_option maxHeartbeats 16000000 in
theorem gh (f:ai) (iw ja jb jc jo jt:Nat) (ids:List Nat) (s:GS) (dst_:Int) (hids:ids.length=s.arrays.length) (hg:bq f s) (hR:ma f) (hv:f.vars.length≤1000) (hs:small f) (h0:0≤dst_) (h1:dst_<f.blocks.length):bC prog E 31 [.po iw 0,.int .i64 dst_] (wO f iw ja jb jc jo jt ids s) (fun y O=>ids.length=(cC f s dst_).arrays.length∧y=.tup []∧O=wO f iw ja jb jc jo jt ids (cC f s dst_)):=by
 have hB:=m4 h0 h1
 have hBm:=qv hB
 have hph:=hR.phis _ hBm
 have hsm:=(hs.2.2.2.2 _ hBm).2.1
 have hsp:=(hs.2.2.2.2 _ hBm).2.2.2.1
 obtain ⟨B,hBe⟩:∃B,bP f dst_=B:=⟨_,rfl⟩
 have hgo:cC f s dst_=if B.phis.all (fun p=>decide (0≤cT p s.blk))=true then goG (vX B.phis s B.phis.length) dst_ else cu (goG s dst_) 2:=by unfold cC vX;rw[hBe,qt]
 rw[hBe] at hB hph hsm hsp
 have hl1:=hg.li
 have hl2:=hg.lb
 have hl3:=hg.la
 refine zr func31 Z (by decide) Z<|ao<|z8 (uR Z)<|z6<|e9 (t:=4) (k:=1) (T:=3) Z<|fun i4=>zy (zj (zn .t1))<|zb<|ao<|bd Z<|z8 (zf Z)<|z8 (za j8 Z jl (by decide) Z Z)<|z8 (za jj Z Z6 (by decide) Z Z)<|z8 (zd (c:=.fro _ _) Zk Z ⟨_,.head⟩ Z)<|aa Z<|z8 (dj dst_.toNat jp ju Z Z (by omega) hB)<|aw j9 Z Zq Z Z<|aT Y8 Z<|aj jy Z<|aa Z<|z6<|zk<|yd (γ:=Nat × Nat) [0,1,22,23] (fun g=>[(24,.int .i64 g.1),(4,.own g.2 g.1)]) (fun g=>(iw,.cells 55 (nU f ja jb jc jo jt s))::(g.2,.grow 1 3 (cI (jR B.phis s.blk g.1)))::wR ja jb jc jo jt ids s) (fun g=>g.1≤B.phis.length∧∀p∈B.phis.take g.1,0≤cT p s.blk) (fun g=>B.phis.length - g.1) (0,i4) dX aS (⟨qr _,fun p hp=>by simp at hp⟩) ?_
 rintro ⟨k,i4⟩ ⟨hk,hok⟩
 try dsimp only at *
 refine ao<|ay Z Z<|z6<|zb<|zp Z (fun ck=>?_) (fun ck=>?_)
 ·have hk2:k<B.phis.length:=by simp at ck;omega
  obtain ⟨p,hp⟩:∃p,B.phis[k]=p:=⟨_,rfl⟩
  have hpg:B.phis[k]?=some p:=by rw[qo hk2,hp]
  have hpm:=qv hpg
  obtain ⟨_,hal,_,_,_⟩:=hph p hpm
  have hfl:=(hsp p hpm).2
  refine zg<|zb<|zk<|ao<|z8 (dj k jy Za Z Z Z hpg)<|ac isAgg77 Za Z Z<|zz (cs:=[.int .i64 0,.raw (.slice none 0 0),.raw (.slice none 0 0)]) Zy Z Z<|fun i6=>zx Za Z Z Z Z Z Z .head Z<|zt (yo (t:=6) Z .head)<|z6<|ao<|ax Z<|z6<|zb<|ao<|aw jr Z jn Z Z<|aT js Z<|aj j6 Z<|z8 (qn Z Z (by unfold ft;omega))<|ax Z<|z6<|zk<|yd (γ:=Nat) [0,1,4,6,22,23,24] (fun m=>[(8,.int .i64 ((m:Int) - 1)),(7,.int .i64 (oE (p.from_.drop m) (p.args.drop m) s.blk))]) (fun m=>(iw,.cells 55 (nU f ja jb jc jo jt s))::(i4,.grow 1 3 (cI (jR B.phis s.blk k)))::wR ja jb jc jo jt ids s) (fun m=>m≤p.from_.length) (fun m=>m) p.from_.length ⟨congrArg (AV.int .i64) (by simp),congrArg (AV.int .i64) (by rw[List.drop_length];rfl),trivial⟩ aS (Nat.le_refl _) ?_
  rintro m hm
  refine zb<|ao<|aa Z<|z8 (qg Z Z)<|z6<|zp Z (fun c8=>?_) (fun c8=>?_)
  ·have hm1:m - 1<p.from_.length:=by omega
   have hm2:m - 1<p.args.length:=by omega
   have hst:=wU (b:=s.blk) hm1 hm2
   rw[show m - 1+1=m by omega] at hst
   refine zg<|zb<|zk<|zb<|zo (fun j=>false) (by kernel_rfl) Z (zq (.r (.rest _)))<|ad 0 Z (dV jr Z jn Z Z)<|ad 1 Z (jH js Z)<|ad 2 Z (cG Z)<|ad 3 Z (dj (m - 1) j6 j7 Z Z (by omega) (qo hm1))<|ad 4 Z (d8 je Z)<|ad 5 Z (dh Z)<|ad 6 Z (zf Z)<|ad 7 Z (za j8 Z j7 (by decide) Z Z)<|ad 8 Z (zd (c:=.int _ _) je Z ⟨_,.head⟩ Z)<|ad 9 Z (Gv.eqlI Z Z)<|dU<|zp Z (fun ce=>?_) (fun ce=>?_)
   ·have ce:p.from_[m - 1]=s.blk:=by simpa using ce
    rw[if_pos ce] at hst
    refine bj<|aw jr Z jn Z Z<|aT js Z<|aa Z<|z8 (dj (m - 1) j6 j7 Z Z (by omega) (qo hm2))<|aN je Z<|ax Z<|z6<|bj<|aa Z<|z8 (qn Z Z (by unfold ft;omega))<|ax Z<|z6 ?_
    exact ⟨m - 1,jI,⟨congrArg (AV.int .i64) (by omega),congrArg (AV.int .i64) hst.symm,trivial⟩,aS,by omega,by omega⟩
   ·have ce:¬p.from_[m - 1]=s.blk:=by simpa using ce
    rw[if_neg ce] at hst
    refine zg<|bj<|aa Z<|z8 (qn Z Z (by unfold ft;omega))<|ax Z<|z6 ?_
    exact ⟨m - 1,jI,⟨congrArg (AV.int .i64) (by omega),congrArg (AV.int .i64) hst.symm,trivial⟩,aS,by omega,by omega⟩
  ·obtain rfl:m=0:=by omega
   have hat:oE (p.from_.drop 0) (p.args.drop 0) s.blk=cT p s.blk:=rfl
   rw[hat]
   refine yc<|zb<|ao<|aa Z<|ay Z Z<|z6<|zp Z (fun cn=>?_) (fun cn=>?_)
   ·have cn:cT p s.blk<0:=by simpa using cn
    have hE:cC f s dst_=cu (goG s dst_) 2:=by
     rw[hgo,if_neg]
     intro h
     have:=of_decide_eq_true (List.all_eq_true.1 h p hpm)
     omega
    refine zy (qk .t1)<|ao<|bd Z<|bd Z<|aa Z<|z8 (zf Z)<|z8 (za j8 Z j7 (by decide) Z Z)<|y8 (l:=[_]) (new:=[_,_,_,_,_,_,_,_,_,_,_,_,_,_,_,_,_,_,_,_,_,_,_]) j7 Z Z Z Z Z Z .head Z Z<|z8 (zf Z)<|z8 (za j8 Z j7 (by decide) Z Z)<|y8 (l:=[_]) (new:=[_,_,_,_,_,_,_,_,_,_,_,_,_,_,_,_,_,_,_,_,_,_,_]) j7 Z Z Z Z Z Z .head Z Z<|z6<|ao<|bd Z<|yr Z (zq (.l (.l (.l (.l (.l (.l (.l (.rest _))))))))) (cP f iw ja jb jc jo jt ids (goG s dst_) 2) ?_
    rintro r61 O61 ⟨rfl,rfl⟩
    refine z6<|ze<|yw ?_
    exact ⟨by rw[hE];exact hids,rfl,by rw[hE];rfl⟩
   ·have cn:0≤cT p s.blk:=by simpa using cn
    refine zg<|bj<|z8 (wd Z)<|aa Z<|yk (rows:=[[_]]) Cu Z Z Z Z Z<|yt (k:=1) j6 Zo Z Z Z Z Z (fun _=>.t1) (by rw[aO,kj hk];omega) (by decide) Z (by show (_+1)*8≤_;omega) (by show _+1≤_;omega)<|fun i65=>z8 (d6 Z)<|z6<|bj<|aF Z Z<|aa Z<|z6 ?_
    exact ⟨(k+1,i65),f0,dX,⟨_,(.refl _),by rw[←wW hk2,hp,←wq];rfl⟩,⟨hk2,fun q hq=>by rw[qp hk2] at hq;rcases List.mem_append.1 hq with hq|hq;exact hok q hq;rw[List.mem_singleton.1 hq,hp];exact cn⟩,by dsimp only;omega⟩
 ·obtain rfl:k=B.phis.length:=by simp at ck;omega
  rw[qt] at hok
  have hE:cC f s dst_=goG (vX B.phis s B.phis.length) dst_:=by
   rw[hgo,if_pos (List.all_eq_true.2 fun p hp=>qx (hok p hp))]
  have hT:∀k,bq f (vX B.phis s k):=fun k=>hg.assigns _ s hg rfl fun p hp=>⟨hph p (List.mem_of_mem_take hp),hok p (List.mem_of_mem_take hp)⟩
  refine yc<|zb<|yp (γ:=Nat × Nat × Nat) [0,1,4] (fun g=>[(9,.own g.1 f.vars.length),(10,.own g.2.1 f.vars.length),(11,.own g.2.2 f.vars.length)]) (fun g=>(iw,.cells 55 (nU f ja jb jc jo jt s))::(g.1,.grow 1 2 (cI s.ints))::(g.2.1,.grow 1 4 (cB s.bools))::(g.2.2,.grow 1 3 (cI s.arrs))::(i4,.grow 1 3 (cI (jR B.phis s.blk B.phis.length)))::wR ja jb jc jo jt ids s) (fun g=>True) ?_ (fun _ _ h=>h) ?_
  ·refine zo (fun j=>false) (by kernel_rfl) Z (zq (.r (.rest _)))<|ad 1 Z (dh Z)<|ad 2 Z (zf Z)<|ad 3 Z (za j8 Z Z3 (by decide) Z Z)<|ad 4 Z (zd (c:=.own _ _) Zc Z ⟨_,.head⟩ Z)<|ad 7 Z (dh Z)<|ad 8 Z (zf Z)<|ad 9 Z (za j8 Z Y5 (by decide) Z Z)<|ad 10 Z (zd (c:=.own _ _) Yc Z ⟨_,.head⟩ Z)<|ad 13 Z (dh Z)<|ad 14 Z (zf Z)<|ad 15 Z (za j8 Z jn (by decide) Z Z)<|ad 16 Z (zd (c:=.own _ _) js Z ⟨_,.head⟩ Z)<|bH.three (i:=0) (j:=6) (m:=12) Z Z Z (by kernel_rfl) ?_ ?_ ?_
   ·refine y9 (k:=1) jg Y2<|fun i67=>z6<|bH.three (i:=5) (j:=6) (m:=12) Z Z Z (by kernel_rfl) ?_ ?_ ?_
    ·refine ak.appendOZ (k:=1) jg Y2 Z Z Z Z Z (fun _=>.head) ⟨_,.t2⟩ Z (by rw[aO,hl1];omega) (by decide) (br _) (by show (_+_)*8≤_;omega) (by omega)<|fun i72=>z6<|qb (i:=6) (j:=12) Z Z (by kernel_rfl) ?_ ?_
     ·refine y9 (k:=1) jk Zv<|fun i73=>z6<|qb (i:=11) (j:=12) Z Z (by kernel_rfl) ?_ ?_
      ·refine ak.appendOZ (k:=1) jk Zv Z Z Z Z Z (fun _=>.head) ⟨_,.t4⟩ Z (by rw[bE,hl2];omega) (by decide) (cJ _) (by show (_+_)*1≤_;omega) (by omega)<|fun i78=>z6<|bl 12 Z<|y9 (k:=1) j6 Zo<|fun i79=>z6<|bl 17 Z<|ak.appendOZ (k:=1) j6 Zo Z Z Z Z Z (fun _=>.head) ⟨_,.t6⟩ Z (by rw[aO,hl3];omega) (by decide) (br _) (by show (_+_)*8≤_;omega) (by omega)<|fun i84=>zt (zj (zn .head))<|zt (zj (zn .t1))<|zt (zj (zn .t2))<|z6<|ad 18 Z (d6 Z)<|ad 19 Z (d6 Z)<|ad 20 Z (d6 Z)<|dU ?_
       exact ⟨(i72,i78,i84),gB,⟨congrArg (AV.own i72) (Nat.zero_add _),congrArg (AV.own i78) (Nat.zero_add _),congrArg (AV.own i84) (Nat.zero_add _),trivial⟩,aS,trivial⟩
      ·refine y9 (k:=1) j6 Zo<|fun i79=>z6<|bl 11 Z<|ak.appendOZ (k:=1) jk Zv Z Z Z Z Z (fun _=>.t1) ⟨_,.t5⟩ Z (by rw[bE,hl2];omega) (by decide) (cJ _) (by show (_+_)*1≤_;omega) (by omega)<|fun i78=>z6<|bl 17 Z<|ak.appendOZ (k:=1) j6 Zo Z Z Z Z Z (fun _=>.head) ⟨_,.t6⟩ Z (by rw[aO,hl3];omega) (by decide) (br _) (by show (_+_)*8≤_;omega) (by omega)<|fun i84=>zt (zj (zn .head))<|zt (zj (zn .t1))<|zt (zj (zn .t2))<|z6<|ad 18 Z (d6 Z)<|ad 19 Z (d6 Z)<|ad 20 Z (d6 Z)<|dU ?_
       exact ⟨(i72,i78,i84),gB,⟨congrArg (AV.own i72) (Nat.zero_add _),congrArg (AV.own i78) (Nat.zero_add _),congrArg (AV.own i84) (Nat.zero_add _),trivial⟩,aS,trivial⟩
     ·refine y9 (k:=1) j6 Zo<|fun i79=>z6<|bl 6 Z<|y9 (k:=1) jk Zv<|fun i73=>z6<|bl 11 Z<|ak.appendOZ (k:=1) jk Zv Z Z Z Z Z (fun _=>.head) ⟨_,.t5⟩ Z (by rw[bE,hl2];omega) (by decide) (cJ _) (by show (_+_)*1≤_;omega) (by omega)<|fun i78=>z6<|bl 17 Z<|ak.appendOZ (k:=1) j6 Zo Z Z Z Z Z (fun _=>.t1) ⟨_,.t6⟩ Z (by rw[aO,hl3];omega) (by decide) (br _) (by show (_+_)*8≤_;omega) (by omega)<|fun i84=>zt (zj (zn .t1))<|zt (zj (zn .t1))<|zt (zj (zn .t2))<|z6<|ad 18 Z (d6 Z)<|ad 19 Z (d6 Z)<|ad 20 Z (d6 Z)<|dU ?_
      exact ⟨(i72,i78,i84),gB,⟨congrArg (AV.own i72) (Nat.zero_add _),congrArg (AV.own i78) (Nat.zero_add _),congrArg (AV.own i84) (Nat.zero_add _),trivial⟩,aS,trivial⟩
    ·refine y9 (k:=1) jk Zv<|fun i73=>z6<|qb (i:=5) (j:=12) Z Z (by kernel_rfl) ?_ ?_
     ·refine ak.appendOZ (k:=1) jg Y2 Z Z Z Z Z (fun _=>.t1) ⟨_,.t3⟩ Z (by rw[aO,hl1];omega) (by decide) (br _) (by show (_+_)*8≤_;omega) (by omega)<|fun i72=>z6<|qb (i:=11) (j:=12) Z Z (by kernel_rfl) ?_ ?_
      ·refine ak.appendOZ (k:=1) jk Zv Z Z Z Z Z (fun _=>.head) ⟨_,.t4⟩ Z (by rw[bE,hl2];omega) (by decide) (cJ _) (by show (_+_)*1≤_;omega) (by omega)<|fun i78=>z6<|bl 12 Z<|y9 (k:=1) j6 Zo<|fun i79=>z6<|bl 17 Z<|ak.appendOZ (k:=1) j6 Zo Z Z Z Z Z (fun _=>.head) ⟨_,.t6⟩ Z (by rw[aO,hl3];omega) (by decide) (br _) (by show (_+_)*8≤_;omega) (by omega)<|fun i84=>zt (zj (zn .head))<|zt (zj (zn .t1))<|zt (zj (zn .t2))<|z6<|ad 18 Z (d6 Z)<|ad 19 Z (d6 Z)<|ad 20 Z (d6 Z)<|dU ?_
       exact ⟨(i72,i78,i84),gB,⟨congrArg (AV.own i72) (Nat.zero_add _),congrArg (AV.own i78) (Nat.zero_add _),congrArg (AV.own i84) (Nat.zero_add _),trivial⟩,aS,trivial⟩
      ·refine y9 (k:=1) j6 Zo<|fun i79=>z6<|bl 11 Z<|ak.appendOZ (k:=1) jk Zv Z Z Z Z Z (fun _=>.t1) ⟨_,.t5⟩ Z (by rw[bE,hl2];omega) (by decide) (cJ _) (by show (_+_)*1≤_;omega) (by omega)<|fun i78=>z6<|bl 17 Z<|ak.appendOZ (k:=1) j6 Zo Z Z Z Z Z (fun _=>.head) ⟨_,.t6⟩ Z (by rw[aO,hl3];omega) (by decide) (br _) (by show (_+_)*8≤_;omega) (by omega)<|fun i84=>zt (zj (zn .head))<|zt (zj (zn .t1))<|zt (zj (zn .t2))<|z6<|ad 18 Z (d6 Z)<|ad 19 Z (d6 Z)<|ad 20 Z (d6 Z)<|dU ?_
       exact ⟨(i72,i78,i84),gB,⟨congrArg (AV.own i72) (Nat.zero_add _),congrArg (AV.own i78) (Nat.zero_add _),congrArg (AV.own i84) (Nat.zero_add _),trivial⟩,aS,trivial⟩
     ·refine y9 (k:=1) j6 Zo<|fun i79=>z6<|bl 5 Z<|ak.appendOZ (k:=1) jg Y2 Z Z Z Z Z (fun _=>.t2) ⟨_,.t4⟩ Z (by rw[aO,hl1];omega) (by decide) (br _) (by show (_+_)*8≤_;omega) (by omega)<|fun i72=>z6<|bl 11 Z<|ak.appendOZ (k:=1) jk Zv Z Z Z Z Z (fun _=>.t1) ⟨_,.t5⟩ Z (by rw[bE,hl2];omega) (by decide) (cJ _) (by show (_+_)*1≤_;omega) (by omega)<|fun i78=>z6<|bl 17 Z<|ak.appendOZ (k:=1) j6 Zo Z Z Z Z Z (fun _=>.head) ⟨_,.t6⟩ Z (by rw[aO,hl3];omega) (by decide) (br _) (by show (_+_)*8≤_;omega) (by omega)<|fun i84=>zt (zj (zn .head))<|zt (zj (zn .t1))<|zt (zj (zn .t2))<|z6<|ad 18 Z (d6 Z)<|ad 19 Z (d6 Z)<|ad 20 Z (d6 Z)<|dU ?_
      exact ⟨(i72,i78,i84),gB,⟨congrArg (AV.own i72) (Nat.zero_add _),congrArg (AV.own i78) (Nat.zero_add _),congrArg (AV.own i84) (Nat.zero_add _),trivial⟩,aS,trivial⟩
    ·refine y9 (k:=1) j6 Zo<|fun i79=>z6<|qb (i:=5) (j:=6) Z Z (by kernel_rfl) ?_ ?_
     ·refine ak.appendOZ (k:=1) jg Y2 Z Z Z Z Z (fun _=>.t1) ⟨_,.t3⟩ Z (by rw[aO,hl1];omega) (by decide) (br _) (by show (_+_)*8≤_;omega) (by omega)<|fun i72=>z6<|bl 6 Z<|y9 (k:=1) jk Zv<|fun i73=>z6<|bl 11 Z<|ak.appendOZ (k:=1) jk Zv Z Z Z Z Z (fun _=>.head) ⟨_,.t5⟩ Z (by rw[bE,hl2];omega) (by decide) (cJ _) (by show (_+_)*1≤_;omega) (by omega)<|fun i78=>z6<|bl 17 Z<|ak.appendOZ (k:=1) j6 Zo Z Z Z Z Z (fun _=>.t1) ⟨_,.t6⟩ Z (by rw[aO,hl3];omega) (by decide) (br _) (by show (_+_)*8≤_;omega) (by omega)<|fun i84=>zt (zj (zn .t1))<|zt (zj (zn .t1))<|zt (zj (zn .t2))<|z6<|ad 18 Z (d6 Z)<|ad 19 Z (d6 Z)<|ad 20 Z (d6 Z)<|dU ?_
      exact ⟨(i72,i78,i84),gB,⟨congrArg (AV.own i72) (Nat.zero_add _),congrArg (AV.own i78) (Nat.zero_add _),congrArg (AV.own i84) (Nat.zero_add _),trivial⟩,aS,trivial⟩
     ·refine y9 (k:=1) jk Zv<|fun i73=>z6<|bl 5 Z<|ak.appendOZ (k:=1) jg Y2 Z Z Z Z Z (fun _=>.t2) ⟨_,.t4⟩ Z (by rw[aO,hl1];omega) (by decide) (br _) (by show (_+_)*8≤_;omega) (by omega)<|fun i72=>z6<|bl 11 Z<|ak.appendOZ (k:=1) jk Zv Z Z Z Z Z (fun _=>.head) ⟨_,.t5⟩ Z (by rw[bE,hl2];omega) (by decide) (cJ _) (by show (_+_)*1≤_;omega) (by omega)<|fun i78=>z6<|bl 17 Z<|ak.appendOZ (k:=1) j6 Zo Z Z Z Z Z (fun _=>.t1) ⟨_,.t6⟩ Z (by rw[aO,hl3];omega) (by decide) (br _) (by show (_+_)*8≤_;omega) (by omega)<|fun i84=>zt (zj (zn .t1))<|zt (zj (zn .t1))<|zt (zj (zn .t2))<|z6<|ad 18 Z (d6 Z)<|ad 19 Z (d6 Z)<|ad 20 Z (d6 Z)<|dU ?_
      exact ⟨(i72,i78,i84),gB,⟨congrArg (AV.own i72) (Nat.zero_add _),congrArg (AV.own i78) (Nat.zero_add _),congrArg (AV.own i84) (Nat.zero_add _),trivial⟩,aS,trivial⟩
   ·refine y9 (k:=1) jk Zv<|fun i73=>z6<|qb (i:=0) (j:=12) Z Z (by kernel_rfl) ?_ ?_
    ·refine y9 (k:=1) jg Y2<|fun i67=>z6<|qb (i:=5) (j:=12) Z Z (by kernel_rfl) ?_ ?_
     ·refine ak.appendOZ (k:=1) jg Y2 Z Z Z Z Z (fun _=>.head) ⟨_,.t3⟩ Z (by rw[aO,hl1];omega) (by decide) (br _) (by show (_+_)*8≤_;omega) (by omega)<|fun i72=>z6<|qb (i:=11) (j:=12) Z Z (by kernel_rfl) ?_ ?_
      ·refine ak.appendOZ (k:=1) jk Zv Z Z Z Z Z (fun _=>.t1) ⟨_,.t4⟩ Z (by rw[bE,hl2];omega) (by decide) (cJ _) (by show (_+_)*1≤_;omega) (by omega)<|fun i78=>z6<|bl 12 Z<|y9 (k:=1) j6 Zo<|fun i79=>z6<|bl 17 Z<|ak.appendOZ (k:=1) j6 Zo Z Z Z Z Z (fun _=>.head) ⟨_,.t6⟩ Z (by rw[aO,hl3];omega) (by decide) (br _) (by show (_+_)*8≤_;omega) (by omega)<|fun i84=>zt (zj (zn .head))<|zt (zj (zn .t2))<|zt (zj (zn .t2))<|z6<|ad 18 Z (d6 Z)<|ad 19 Z (d6 Z)<|ad 20 Z (d6 Z)<|dU ?_
       exact ⟨(i72,i78,i84),gB,⟨congrArg (AV.own i72) (Nat.zero_add _),congrArg (AV.own i78) (Nat.zero_add _),congrArg (AV.own i84) (Nat.zero_add _),trivial⟩,aS,trivial⟩
      ·refine y9 (k:=1) j6 Zo<|fun i79=>z6<|bl 11 Z<|ak.appendOZ (k:=1) jk Zv Z Z Z Z Z (fun _=>.t2) ⟨_,.t5⟩ Z (by rw[bE,hl2];omega) (by decide) (cJ _) (by show (_+_)*1≤_;omega) (by omega)<|fun i78=>z6<|bl 17 Z<|ak.appendOZ (k:=1) j6 Zo Z Z Z Z Z (fun _=>.head) ⟨_,.t6⟩ Z (by rw[aO,hl3];omega) (by decide) (br _) (by show (_+_)*8≤_;omega) (by omega)<|fun i84=>zt (zj (zn .head))<|zt (zj (zn .t2))<|zt (zj (zn .t2))<|z6<|ad 18 Z (d6 Z)<|ad 19 Z (d6 Z)<|ad 20 Z (d6 Z)<|dU ?_
       exact ⟨(i72,i78,i84),gB,⟨congrArg (AV.own i72) (Nat.zero_add _),congrArg (AV.own i78) (Nat.zero_add _),congrArg (AV.own i84) (Nat.zero_add _),trivial⟩,aS,trivial⟩
     ·refine y9 (k:=1) j6 Zo<|fun i79=>z6<|bl 5 Z<|ak.appendOZ (k:=1) jg Y2 Z Z Z Z Z (fun _=>.t1) ⟨_,.t4⟩ Z (by rw[aO,hl1];omega) (by decide) (br _) (by show (_+_)*8≤_;omega) (by omega)<|fun i72=>z6<|bl 11 Z<|ak.appendOZ (k:=1) jk Zv Z Z Z Z Z (fun _=>.t2) ⟨_,.t5⟩ Z (by rw[bE,hl2];omega) (by decide) (cJ _) (by show (_+_)*1≤_;omega) (by omega)<|fun i78=>z6<|bl 17 Z<|ak.appendOZ (k:=1) j6 Zo Z Z Z Z Z (fun _=>.head) ⟨_,.t6⟩ Z (by rw[aO,hl3];omega) (by decide) (br _) (by show (_+_)*8≤_;omega) (by omega)<|fun i84=>zt (zj (zn .head))<|zt (zj (zn .t2))<|zt (zj (zn .t2))<|z6<|ad 18 Z (d6 Z)<|ad 19 Z (d6 Z)<|ad 20 Z (d6 Z)<|dU ?_
      exact ⟨(i72,i78,i84),gB,⟨congrArg (AV.own i72) (Nat.zero_add _),congrArg (AV.own i78) (Nat.zero_add _),congrArg (AV.own i84) (Nat.zero_add _),trivial⟩,aS,trivial⟩
    ·refine y9 (k:=1) j6 Zo<|fun i79=>z6<|bl 0 Z<|y9 (k:=1) jg Y2<|fun i67=>z6<|bl 5 Z<|ak.appendOZ (k:=1) jg Y2 Z Z Z Z Z (fun _=>.head) ⟨_,.t4⟩ Z (by rw[aO,hl1];omega) (by decide) (br _) (by show (_+_)*8≤_;omega) (by omega)<|fun i72=>z6<|bl 11 Z<|ak.appendOZ (k:=1) jk Zv Z Z Z Z Z (fun _=>.t2) ⟨_,.t5⟩ Z (by rw[bE,hl2];omega) (by decide) (cJ _) (by show (_+_)*1≤_;omega) (by omega)<|fun i78=>z6<|bl 17 Z<|ak.appendOZ (k:=1) j6 Zo Z Z Z Z Z (fun _=>.t1) ⟨_,.t6⟩ Z (by rw[aO,hl3];omega) (by decide) (br _) (by show (_+_)*8≤_;omega) (by omega)<|fun i84=>zt (zj (zn .t1))<|zt (zj (zn .t2))<|zt (zj (zn .t2))<|z6<|ad 18 Z (d6 Z)<|ad 19 Z (d6 Z)<|ad 20 Z (d6 Z)<|dU ?_
     exact ⟨(i72,i78,i84),gB,⟨congrArg (AV.own i72) (Nat.zero_add _),congrArg (AV.own i78) (Nat.zero_add _),congrArg (AV.own i84) (Nat.zero_add _),trivial⟩,aS,trivial⟩
   ·refine y9 (k:=1) j6 Zo<|fun i79=>z6<|qb (i:=0) (j:=6) Z Z (by kernel_rfl) ?_ ?_
    ·refine y9 (k:=1) jg Y2<|fun i67=>z6<|qb (i:=5) (j:=6) Z Z (by kernel_rfl) ?_ ?_
     ·refine ak.appendOZ (k:=1) jg Y2 Z Z Z Z Z (fun _=>.head) ⟨_,.t3⟩ Z (by rw[aO,hl1];omega) (by decide) (br _) (by show (_+_)*8≤_;omega) (by omega)<|fun i72=>z6<|bl 6 Z<|y9 (k:=1) jk Zv<|fun i73=>z6<|bl 11 Z<|ak.appendOZ (k:=1) jk Zv Z Z Z Z Z (fun _=>.head) ⟨_,.t5⟩ Z (by rw[bE,hl2];omega) (by decide) (cJ _) (by show (_+_)*1≤_;omega) (by omega)<|fun i78=>z6<|bl 17 Z<|ak.appendOZ (k:=1) j6 Zo Z Z Z Z Z (fun _=>.t2) ⟨_,.t6⟩ Z (by rw[aO,hl3];omega) (by decide) (br _) (by show (_+_)*8≤_;omega) (by omega)<|fun i84=>zt (zj (zn .t2))<|zt (zj (zn .t1))<|zt (zj (zn .t2))<|z6<|ad 18 Z (d6 Z)<|ad 19 Z (d6 Z)<|ad 20 Z (d6 Z)<|dU ?_
      exact ⟨(i72,i78,i84),gB,⟨congrArg (AV.own i72) (Nat.zero_add _),congrArg (AV.own i78) (Nat.zero_add _),congrArg (AV.own i84) (Nat.zero_add _),trivial⟩,aS,trivial⟩
     ·refine y9 (k:=1) jk Zv<|fun i73=>z6<|bl 5 Z<|ak.appendOZ (k:=1) jg Y2 Z Z Z Z Z (fun _=>.t1) ⟨_,.t4⟩ Z (by rw[aO,hl1];omega) (by decide) (br _) (by show (_+_)*8≤_;omega) (by omega)<|fun i72=>z6<|bl 11 Z<|ak.appendOZ (k:=1) jk Zv Z Z Z Z Z (fun _=>.head) ⟨_,.t5⟩ Z (by rw[bE,hl2];omega) (by decide) (cJ _) (by show (_+_)*1≤_;omega) (by omega)<|fun i78=>z6<|bl 17 Z<|ak.appendOZ (k:=1) j6 Zo Z Z Z Z Z (fun _=>.t2) ⟨_,.t6⟩ Z (by rw[aO,hl3];omega) (by decide) (br _) (by show (_+_)*8≤_;omega) (by omega)<|fun i84=>zt (zj (zn .t2))<|zt (zj (zn .t1))<|zt (zj (zn .t2))<|z6<|ad 18 Z (d6 Z)<|ad 19 Z (d6 Z)<|ad 20 Z (d6 Z)<|dU ?_
      exact ⟨(i72,i78,i84),gB,⟨congrArg (AV.own i72) (Nat.zero_add _),congrArg (AV.own i78) (Nat.zero_add _),congrArg (AV.own i84) (Nat.zero_add _),trivial⟩,aS,trivial⟩
    ·refine y9 (k:=1) jk Zv<|fun i73=>z6<|bl 0 Z<|y9 (k:=1) jg Y2<|fun i67=>z6<|bl 5 Z<|ak.appendOZ (k:=1) jg Y2 Z Z Z Z Z (fun _=>.head) ⟨_,.t4⟩ Z (by rw[aO,hl1];omega) (by decide) (br _) (by show (_+_)*8≤_;omega) (by omega)<|fun i72=>z6<|bl 11 Z<|ak.appendOZ (k:=1) jk Zv Z Z Z Z Z (fun _=>.t1) ⟨_,.t5⟩ Z (by rw[bE,hl2];omega) (by decide) (cJ _) (by show (_+_)*1≤_;omega) (by omega)<|fun i78=>z6<|bl 17 Z<|ak.appendOZ (k:=1) j6 Zo Z Z Z Z Z (fun _=>.t2) ⟨_,.t6⟩ Z (by rw[aO,hl3];omega) (by decide) (br _) (by show (_+_)*8≤_;omega) (by omega)<|fun i84=>z6<|ad 18 Z (d6 Z)<|ad 19 Z (d6 Z)<|ad 20 Z (d6 Z)<|dU ?_
     exact ⟨(i72,i78,i84),gB,⟨congrArg (AV.own i72) (Nat.zero_add _),congrArg (AV.own i78) (Nat.zero_add _),congrArg (AV.own i84) (Nat.zero_add _),trivial⟩,aS,trivial⟩
  ·rintro ⟨i72,i78,i84⟩ _
   refine zb<|ao<|bd Z<|z8 (zf Z)<|z8 (za j8 Z jl (by decide) Z Z)<|z8 (za jj Z Z6 (by decide) Z Z)<|z8 (zd (c:=.fro _ _) Zk Z ⟨_,.head⟩ Z)<|aa Z<|z8 (dj dst_.toNat jp ju Z Z (by omega) hB)<|aw j9 Z Zq Z Z<|aT Y8 Z<|aj jy Z<|aa Z<|z6<|zk<|yd (γ:=Nat) [0,1,4,9,10,11,93,94] (fun k=>[(95,.int .i64 k)]) (fun k=>(iw,.cells 55 (nU f ja jb jc jo jt (vX B.phis s k)))::(i72,.grow 1 2 (cI s.ints))::(i78,.grow 1 4 (cB s.bools))::(i84,.grow 1 3 (cI s.arrs))::(i4,.grow 1 3 (cI (jR B.phis s.blk B.phis.length)))::wR ja jb jc jo jt ids (vX B.phis s k)) (fun k=>k≤B.phis.length) (fun k=>B.phis.length - k) 0 aY aS (qr _) ?_
   rintro k hk
   refine ao<|ay Z Z<|z6<|zb<|zp Z (fun ck=>?_) (fun ck=>?_)
   ·have hk2:k<B.phis.length:=by simp at ck;omega
    obtain ⟨p,hp⟩:∃p,B.phis[k]=p:=⟨_,rfl⟩
    have hpg:B.phis[k]?=some p:=by rw[qo hk2,hp]
    have hpm:=qv hpg
    have hp0:=hok p hpm
    obtain ⟨hd,_,_,ha,_⟩:=hph p hpm
    obtain ⟨d1,d0⟩:=fy hd
    obtain ⟨v1,v0⟩:=fy (List.all_eq_true.1 ha _ (mA hp0))
    have hgg:(jR B.phis s.blk B.phis.length)[k]?=some (cT p s.blk):=by rw[Ae hk2,hp]
    have t1:=(hT k).li
    have t2:=(hT k).lb
    have t3:=(hT k).la
    refine zg<|zb<|zk<|ao<|aa Z<|z8 (dj k jy Za Z Z Z hpg)<|ac isAgg77 Za Z Z<|zz (cs:=[.int .i64 0,.raw (.slice none 0 0),.raw (.slice none 0 0)]) Zy Z Z<|fun i13=>ax Z<|zx Za Z Z Z Z Z Z .head Z<|zt (yo (t:=13) Z .head)<|z6<|b9.regionDrawR (by kernel_rfl) Z (zq (.r (.r (.r (.r (.r (.l (.l (.l (.l (.l (.l (.rest _)))))))))))))<|zu (i:=0) Z (by kernel_rfl) (by kernel_rfl) (by kernel_rfl) (dh Z)<|zu (i:=1) Z (by kernel_rfl) (by kernel_rfl) (by kernel_rfl) (zf Z)<|zu (i:=2) Z (by kernel_rfl) (by kernel_rfl) (by kernel_rfl) (za j8 Z Z3 (by decide) Z Z)<|zu (i:=3) Z (by kernel_rfl) (by kernel_rfl) (by kernel_rfl) (zd (c:=.own _ _) Zc Z ⟨_,.head⟩ Z)<|zu (i:=4) Z (by kernel_rfl) (by kernel_rfl) (by kernel_rfl) (dV jr Z j7 Z Z)<|zu (i:=5) Z (by kernel_rfl) (by kernel_rfl) (by kernel_rfl) (d8 je Z)<|zu (i:=6) Z (by kernel_rfl) (by kernel_rfl) (by kernel_rfl) (dh Z)<|zu (i:=7) Z (by kernel_rfl) (by kernel_rfl) (by kernel_rfl) (zf Z)<|zu (i:=8) Z (by kernel_rfl) (by kernel_rfl) (by kernel_rfl) (za j8 Z Y5 (by decide) Z Z)<|zu (i:=9) Z (by kernel_rfl) (by kernel_rfl) (by kernel_rfl) (zd (c:=.own _ _) Yc Z ⟨_,.head⟩ Z)<|zu (i:=10) Z (by kernel_rfl) (by kernel_rfl) (by kernel_rfl) (dV jr Z j7 Z Z)<|zu (i:=11) Z (by kernel_rfl) (by kernel_rfl) (by kernel_rfl) (d8 je Z)<|zu (i:=12) Z (by kernel_rfl) (by kernel_rfl) (by kernel_rfl) (dh Z)<|zu (i:=13) Z (by kernel_rfl) (by kernel_rfl) (by kernel_rfl) (zf Z)<|zu (i:=14) Z (by kernel_rfl) (by kernel_rfl) (by kernel_rfl) (za j8 Z jn (by decide) Z Z)<|zu (i:=15) Z (by kernel_rfl) (by kernel_rfl) (by kernel_rfl) (zd (c:=.own _ _) js Z ⟨_,.head⟩ Z)<|zu (i:=16) Z (by kernel_rfl) (by kernel_rfl) (by kernel_rfl) (dV jr Z j7 Z Z)<|zu (i:=17) Z (by kernel_rfl) (by kernel_rfl) (by kernel_rfl) (d8 je Z)<|zu (i:=18) Z (by kernel_rfl) (by kernel_rfl) (by kernel_rfl) (wd Z)<|zu (i:=19) Z (by kernel_rfl) (by kernel_rfl) (by kernel_rfl) (wd Z)<|zu (i:=20) Z (by kernel_rfl) (by kernel_rfl) (by kernel_rfl) (cG Z)<|zu (i:=21) Z (by kernel_rfl) (by kernel_rfl) (by kernel_rfl) (ym (j:=k) j6 j7 Z Z Z ⟨_,.t4⟩ ((aO _).trans (kj (Nat.le_refl _))) hk2)<|zu (i:=22) Z (by kernel_rfl) (by kernel_rfl) (by kernel_rfl) (qh (j:=k) je Z ⟨_,.t4⟩ hgg)<|zu (i:=23) Z (by kernel_rfl) (by kernel_rfl) (by kernel_rfl) (ym (j:=(cT p s.blk).toNat) jg Z0 Z Z (w0 v0).symm ⟨_,.t1⟩ ((aO _).trans hl1) (by omega))<|zu (i:=24) Z (by kernel_rfl) (by kernel_rfl) (by kernel_rfl) (qh (j:=(cT p s.blk).toNat) Zz Z ⟨_,.t1⟩ (dO (by omega) v0))<|zu (i:=25) Z (by kernel_rfl) (by kernel_rfl) (by kernel_rfl) (wd Z)<|zu (i:=26) Z (by kernel_rfl) (by kernel_rfl) (by kernel_rfl) (wd Z) ?_
    refine zu (i:=27) Z (by kernel_rfl) (by kernel_rfl) (by kernel_rfl) (cG Z)<|zu (i:=28) Z (by kernel_rfl) (by kernel_rfl) (by kernel_rfl) (ym (j:=k) j6 j7 Z Z Z ⟨_,.t4⟩ ((aO _).trans (kj (Nat.le_refl _))) hk2)<|zu (i:=29) Z (by kernel_rfl) (by kernel_rfl) (by kernel_rfl) (qh (j:=k) je Z ⟨_,.t4⟩ hgg)<|zu (i:=30) Z (by kernel_rfl) (by kernel_rfl) (by kernel_rfl) (ym (j:=(cT p s.blk).toNat) jk Z8 Z Z (w0 v0).symm ⟨_,.t2⟩ ((bE _).trans hl2) (by omega))<|zu (i:=31) Z (by kernel_rfl) (by kernel_rfl) (by kernel_rfl) (Gv.loadB (j:=(cT p s.blk).toNat) Ye Z ⟨_,.t2⟩ (nq (by omega) v0))<|zu (i:=32) Z (by kernel_rfl) (by kernel_rfl) (by kernel_rfl) (wd Z)<|zu (i:=33) Z (by kernel_rfl) (by kernel_rfl) (by kernel_rfl) (wd Z)<|zu (i:=34) Z (by kernel_rfl) (by kernel_rfl) (by kernel_rfl) (cG Z)<|zu (i:=35) Z (by kernel_rfl) (by kernel_rfl) (by kernel_rfl) (ym (j:=k) j6 j7 Z Z Z ⟨_,.t4⟩ ((aO _).trans (kj (Nat.le_refl _))) hk2)<|zu (i:=36) Z (by kernel_rfl) (by kernel_rfl) (by kernel_rfl) (qh (j:=k) je Z ⟨_,.t4⟩ hgg)<|zu (i:=37) Z (by kernel_rfl) (by kernel_rfl) (by kernel_rfl) (ym (j:=(cT p s.blk).toNat) j6 j7 Z Z (w0 v0).symm ⟨_,.t3⟩ ((aO _).trans hl3) (by omega))<|zu (i:=38) Z (by kernel_rfl) (by kernel_rfl) (by kernel_rfl) (qh (j:=(cT p s.blk).toNat) je Z ⟨_,.t3⟩ (dO (by omega) v0))<|qm (i:=39) Z (by kernel_rfl)<|z8 (ym (j:=p.dst.toNat) jg Z0 Z Z (w0 d0).symm ⟨_,.head⟩ ((aO _).trans t1) (by omega))<|z6<|qm (i:=40) Z (by kernel_rfl)<|q7 (j:=p.dst.toNat) Z0 Z Z .head (by first|omega|(simp;omega))<|z6<|qm (i:=41) Z (by kernel_rfl)<|z8 (ym (j:=p.dst.toNat) jk Z8 Z Z (w0 d0).symm ⟨_,.t1⟩ ((bE _).trans t2) (by omega))<|z6<|qm (i:=42) Z (by kernel_rfl)<|ak.storeB (j:=p.dst.toNat) Z8 Z Z .t1 (by first|omega|(simp;omega))<|z6<|qm (i:=43) Z (by kernel_rfl)<|z8 (ym (j:=p.dst.toNat) j6 j7 Z Z (w0 d0).symm ⟨_,.t2⟩ ((aO _).trans t3) (by omega))<|z6<|qm (i:=44) Z (by kernel_rfl)<|q7 (j:=p.dst.toNat) j7 Z Z .t2 (by first|omega|(simp;omega))<|z6<|fg.done (by kernel_rfl)<|bj<|aF Z Z<|aa Z<|z6 ?_
    exact ⟨k+1,oZ,aY,⟨_,(.refl _),by rw[Af hk2,hp];rfl⟩,hk2,by omega⟩
   ·obtain rfl:k=B.phis.length:=by simp at ck;omega
    refine zy (qk .t1)<|zy (qk .t1)<|zy (qk .t1)<|zy (qk .t1)<|yc<|bj<|bd Z<|bd Z<|aa Z<|z8 (zf Z)<|z8 (za j8 Z j7 (by decide) Z Z)<|y8 (l:=[_]) (new:=[_,_,_,_,_,_,_,_,_,_,_,_,_,_,_,_,_,_,_,_,_,_,_]) j7 Z Z Z Z Z Z .head Z Z<|z8 (zf Z)<|z8 (za j8 Z j7 (by decide) Z Z)<|y8 (l:=[_]) (new:=[_,_,_,_,_,_,_,_,_,_,_,_,_,_,_,_,_,_,_,_,_,_,_]) j7 Z Z Z Z Z Z .head Z Z<|z6<|yw ?_
    exact ⟨by rw[hE];show _=(vX B.phis s B.phis.length).arrays.length;rw[vv];exact hids,rfl,by rw[hE];rfl⟩
end
section
open Go.Proofs.Tryz
open Go.Proofs Go.Lib Go.Shelf Go.RowKit
variable {E:World}
set_option maxRecDepth 20000
theorem vw {f:ai} {s:GS} {x:aD} (h:(bP f s.blk).insts[s.pc]?=some x):bI f s=bi { s with pc:=s.pc+1,st:=s.st+1 } x:=by unfold bI;rw[h]
theorem wY {f:ai} {s:GS} (h:(bP f s.blk).insts[s.pc]?=none):bI f s=if (bP f s.blk).term.kind=2 then cu { s with st:=s.st+1,val:=vi s.ints (bP f s.blk).term.var } 0 else cC f { s with st:=s.st+1 } (fJ f s):=by unfold bI;rw[h]
theorem wZ {f:ai} {t:fH} (h:bh f t=true) (hk:¬t.kind=0):t.var<f.vars.length∧0≤t.var:=fy (f9 h hk)
set_option maxHeartbeats 8000000 in
theorem gN (f:ai) (iw ja jb jc jo jt:Nat) (ids:List Nat) (s:GS) (hids:ids.length=s.arrays.length) (hg:bq f s) (hR:ma f) (hv:f.vars.length≤1000) (hs:small f) (hst:s.st≤1000000000) (hck:∀i,s.ck i≤1000000000):bC prog E 19 [.po iw 0] (wO f iw ja jb jc jo jt ids s) (fun y O=>∃jo' jt' ids',ids'.length=(bI f s).arrays.length∧y=.tup []∧O=wO f iw ja jb jc jo' jt' ids' (bI f s)):=by
 have hB:=m4 hg.b0 hg.b1
 have hBm:=qv hB
 have hsm:=(hs.2.2.2.2 _ hBm).2.2.1
 have hpc:=hg.pc
 have hin:=hR.insts _ hBm
 have htm:=hR.term _ hBm
 have hi:=@vw f s
 have he:=@wY f s
 obtain ⟨B,hBe⟩:∃B,bP f s.blk=B:=⟨_,rfl⟩
 have hnx:fJ f s=if B.term.kind=0∨gb s.bools B.term.var=true then B.term.to0 else B.term.to1:=by rw[←hBe];rfl
 have hnt:=qR hR hg
 rw[hBe] at hB hsm hpc hin htm hi he hnt
 have hl1:=hg.li
 have hl2:=hg.lb
 have hgu:bq f { s with st:=s.st+1 }:=hg.up _ s.val
 refine zr func19 Z (by decide) Z<|ao<|bd Z<|z8 (zf Z)<|z8 (za j8 Z jz (by decide) Z Z)<|z8 (za jf Z j7 (by decide) Z Z)<|z8 (zd (c:=.int _ _) je Z ⟨_,.head⟩ Z)<|aF Z Z<|z8 (zf Z)<|z8 (za j8 Z jz (by decide) Z Z)<|z8 (za jf Z j7 (by decide) Z Z)<|y8 (l:=[_]) (new:=[_,_,_,_,_,_,_,_,_,_,_,_,_,_,_,_,_,_,_,_,_,_,_]) j7 Z Z Z Z Z Z .head Z Z<|z6<|zb<|zo (fun j=>Nat.beq j 12) (by kernel_rfl) Z (zq (.r (.rest _)))<|ad 0 Z (dh Z)<|ad 1 Z (zf Z)<|ad 2 Z (za j8 Z jl (by decide) Z Z)<|ad 3 Z (za jj Z Z6 (by decide) Z Z)<|ad 4 Z (zd (c:=.fro _ _) Zk Z ⟨_,.head⟩ Z)<|ad 5 Z (dh Z)<|ad 6 Z (zf Z)<|ad 7 Z (za j8 Z j7 (by decide) Z Z)<|ad 8 Z (zd (c:=.int _ _) je Z ⟨_,.head⟩ Z)<|ad 9 Z (dj s.blk.toNat jp ju Z Z (w0 hg.b0).symm hB)<|ad 10 Z (yu Y0 ju Z Z)<|bl 11 Z<|zz (cs:=[.str ⟨#[]⟩,.raw (.slice none 0 0),.raw (.slice none 0 0),.int .i64 0,.int .i64 0,.int .i64 0,.int .i64 0]) Ze Z Z<|fun i2=>z6<|ya<|yg (i:=12) Z (by kernel_rfl) (by kernel_rfl)<|zx ju Z Z Z Z Z Z .t1 Z<|z6<|ye (by kernel_rfl)<|zy (yo (t:=2) Z .t1)<|zb<|zb<|zo (fun j=>false) (by kernel_rfl) Z (zq (.r (.rest _)))<|ad 0 Z (dh Z)<|ad 1 Z (zf Z) ?_
 refine ad 2 Z (za j8 Z j7 (by decide) Z Z)<|ad 3 Z (zd (c:=.int _ _) je Z ⟨_,.head⟩ Z)<|ad 4 Z (dV j9 Z jw Z Z)<|ad 5 Z (jH Zb Z)<|ad 6 Z (Gv.lenM jm Z)<|ad 7 Z (Gv.lss Z Z)<|dU<|zp Z (fun cp=>?_) (fun cp=>?_)
 ·have hp:s.pc<B.insts.length:=by simp at cp;omega
  obtain ⟨x,hx⟩:∃x,B.insts[s.pc]=x:=⟨_,rfl⟩
  have hxg:B.insts[s.pc]?=some x:=by rw[qo hp,hx]
  obtain ⟨hix,h64⟩:=hin x (qv hxg)
  have hS:=hi hxg
  have hg2:bq f { s with pc:=s.pc+1,st:=s.st+1 }:=⟨hg.li,hg.lb,hg.la,hg.i64,hg.arr,hg.ls,hg.lr,hg.r64,hg.lt,hg.b0,hg.b1,by show s.pc+1≤(bP f s.blk).insts.length;rw[hBe];exact hp⟩
  refine ao<|bd Z<|z8 (zf Z)<|z8 (za j8 Z j7 (by decide) Z Z)<|z8 (zd (c:=.int _ _) je Z ⟨_,.head⟩ Z)<|aF Z Z<|z8 (zf Z)<|z8 (za j8 Z j7 (by decide) Z Z)<|y8 (l:=[_]) (new:=[_,_,_,_,_,_,_,_,_,_,_,_,_,_,_,_,_,_,_,_,_,_,_]) j7 Z Z Z Z Z Z .head Z Z<|z6<|zb<|zo (fun j=>false) (by kernel_rfl) Z (zq (.rest _))<|ad 0 Z (dh Z)<|ad 1 Z (dV j9 Z jw Z Z)<|ad 2 Z (jH Zb Z)<|ad 3 Z (dh Z)<|ad 4 Z (zf Z)<|ad 5 Z (za j8 Z j7 (by decide) Z Z)<|bl 6 Z<|z8 (zd (c:=.int _ _) je Z ⟨_,.head⟩ Z)<|z6<|ad 7 Z (qn Z Z (by unfold ft;omega))<|ad 8 Z (dj s.pc jm jv Z Z (by omega) hxg)<|ad 9 Z (yu Zr jv Z Z)<|bl 10 Z<|yr Z (zq (.l (.l (.l (.l (.l (.l (.l (.rest _))))))))) (pJ f iw ja jb jc jo jt ids { s with pc:=s.pc+1,st:=s.st+1 } x hids hg2 hix hv hck) ?_
  rintro r49 O49 ⟨jo',jt',ids',hl',rfl,rfl⟩
  refine z6<|dU<|ze<|yw ?_
  exact ⟨jo',jt',ids',by rw[hS];exact hl',rfl,by rw[hS];rfl⟩
 ·have hp:B.insts[s.pc]?=none:=by rw[List.getElem?_eq_none];simp at cp;omega
  have hS:=he hp
  refine zg<|ao<|aw j9 Z Zt Z Z<|ac isAgg60 Zt Z Z<|zz (cs:=[.int .i64 0,.int .i64 0,.int .i64 0,.int .i64 0]) zeroValue60 Z Z<|fun i3=>zx Zt Z Z Z Z Z Z .head Z<|zt (yo (t:=3) Z .head)<|z6<|zk<|ao<|aw ji Z Y3 Z Z<|aN Y9 Z<|az Z Z<|ab Z<|z6<|zp Z (fun ck=>?_) (fun ck=>?_)
  ·have ck:B.term.kind=2:=by simpa using ck
   rw[if_pos ck] at hS
   obtain ⟨v1,v0⟩:=wZ htm (by omega)
   refine zb<|zo (fun j=>Nat.beq j 12) (by kernel_rfl) Z (zq (.r (.r (.r (.rest _)))))<|ad 0 Z (dh Z)<|ad 1 Z (dh Z)<|ad 2 Z (zf Z)<|ad 3 Z (za j8 Z Z3 (by decide) Z Z)<|ad 4 Z (zd (c:=.own _ _) Zc Z ⟨_,.head⟩ Z)<|ad 5 Z (dV ji Z j7 Z Z)<|ad 6 Z (d8 je Z)<|ad 7 Z (ym (j:=B.term.var.toNat) jg Z0 Z Z (w0 v0).symm ⟨_,.t1⟩ ((aO _).trans hl1) (by omega))<|ad 8 Z (qh (j:=B.term.var.toNat) Zz Z ⟨_,.t1⟩ (dO (by omega) v0))<|yj (i:=9) Z (by kernel_rfl) (by kernel_rfl) (by kernel_rfl) (by kernel_rfl) (zf Z)<|yj (i:=10) Z (by kernel_rfl) (by kernel_rfl) (by kernel_rfl) (by kernel_rfl) (za j8 Z jz (by decide) Z Z)<|ad 11 Z (za jf Z Z0 (by decide) Z Z)<|ya<|yg (i:=12) Z (by kernel_rfl) (by kernel_rfl)<|y8 (l:=[_]) (new:=[_,_,_,_,_,_,_,_,_,_,_,_,_,_,_,_,_,_,_,_,_,_,_]) Z0 Z Z Z Z Z Z .head Z Z<|z6<|ye (by kernel_rfl)<|bj<|bd Z<|yr Z (zq (.l (.l (.l (.l (.l (.l (.l (.rest _))))))))) (cP f iw ja jb jc jo jt ids { s with st:=s.st+1,val:=vi s.ints B.term.var } 0) ?_
   rintro r74 O74 ⟨rfl,rfl⟩
   refine z6<|yw ?_
   exact ⟨jo,jt,ids,by rw[hS];exact hids,rfl,by rw[hS];rfl⟩
  ·have ck:¬B.term.kind=2:=by simpa using ck
   rw[if_neg ck] at hS
   obtain ⟨g0,g1⟩:=hnt ck
   refine zb<|zo (fun j=>false) (by kernel_rfl) Z (zq (.r (.r (.r (.rest _)))))<|ad 0 Z (dV ji Z Y3 Z Z)<|ad 1 Z (d8 Y9 Z)<|ad 2 Z (Gv.eqlI Z Z)<|ad 3 Z (yQ Z)<|bH.case (s:=79) Z (fun c0=>?_) (fun c0=>?_)
   ·have d0:B.term.kind=0:=by simpa using c0
    rw[if_pos (.inl d0)] at hnx
    rw[hnx] at hS g0 g1
    refine er 4 Z Z Z c0<|er 5 Z Z Z c0<|er 6 Z Z Z c0<|er 7 Z Z Z c0<|er 8 Z Z Z c0<|er 9 Z Z Z c0<|er 10 Z Z Z c0<|er 11 Z Z Z c0<|ad 12 Z (yS Z c0 Z)<|ad 13 Z (uQ Z)<|dU<|yq Z Z<|bj<|bd Z<|aw ji Z Z4 Z Z<|z8 (yz (j:=0) jx j7 Z Z Z (by decide) Z)<|aN je Z<|yr Z (zq (.l (.l (.l (.l (.l (.l (.l (.rest _))))))))) (gh f iw ja jb jc jo jt ids { s with st:=s.st+1 } B.term.to0 hids hgu hR hv hs g0 g1) ?_
    rintro r93 O93 ⟨hl',rfl,rfl⟩
    refine z6<|yw ?_
    exact ⟨jo,jt,ids,by rw[hS];exact hl',rfl,by rw[hS];rfl⟩
   ·have d0:¬B.term.kind=0:=by simpa using c0
    obtain ⟨v1,v0⟩:=wZ htm d0
    refine gW 4 Z Z Z c0 (dh Z)<|gW 5 Z Z Z c0 (zf Z)<|gW 6 Z Z Z c0 (za j8 Z Y5 (by decide) Z Z)<|gW 7 Z Z Z c0 (zd (c:=.own _ _) Yc Z ⟨_,.head⟩ Z)<|gW 8 Z Z Z c0 (dV ji Z j7 Z Z)<|gW 9 Z Z Z c0 (d8 je Z)<|gW 10 Z Z Z c0 (ym (j:=B.term.var.toNat) jk Z8 Z Z (w0 v0).symm ⟨_,.t2⟩ ((bE _).trans hl2) (by omega))<|gW 11 Z Z Z c0 (Gv.loadB (j:=B.term.var.toNat) Ye Z ⟨_,.t2⟩ (nq (by omega) v0))<|ad 12 Z (yT Z c0 Z)<|ad 13 Z (uQ Z)<|dU<|zw Z (fun cw=>?_) (fun cw=>?_)
    ·have cw:gb s.bools B.term.var=true:=cw
     rw[if_pos (.inr cw)] at hnx
     rw[hnx] at hS g0 g1
     refine bj<|bd Z<|aw ji Z Z4 Z Z<|z8 (yz (j:=0) jx j7 Z Z Z (by decide) Z)<|aN je Z<|yr Z (zq (.l (.l (.l (.l (.l (.l (.l (.rest _))))))))) (gh f iw ja jb jc jo jt ids { s with st:=s.st+1 } B.term.to0 hids hgu hR hv hs g0 g1) ?_
     rintro r93 O93 ⟨hl',rfl,rfl⟩
     refine z6<|yw ?_
     exact ⟨jo,jt,ids,by rw[hS];exact hl',rfl,by rw[hS];rfl⟩
    ·have cw:gb s.bools B.term.var=false:=cw
     rw[if_neg (by rintro (h|h);exact d0 h;rw[cw] at h;cases h)] at hnx
     rw[hnx] at hS g0 g1
     refine bj<|bd Z<|aw ji Z Z4 Z Z<|z8 (yz (j:=1) jx j7 Z Z Z (by decide) Z)<|aN je Z<|yr Z (zq (.l (.l (.l (.l (.l (.l (.l (.rest _))))))))) (gh f iw ja jb jc jo jt ids { s with st:=s.st+1 } B.term.to1 hids hgu hR hv hs g0 g1) ?_
     rintro r56 O56 ⟨hl',rfl,rfl⟩
     refine z6<|yw ?_
     exact ⟨jo,jt,ids,by rw[hS];exact hl',rfl,by rw[hS];rfl⟩
end
end Go.Proofs.YtbconpmnckokoaaGreatDoor
