/- A step of the document's machine, how it begins, and runs. Of programs as they are run. -/
import Derived.Test.YtjpnhkmfhlnpcaaGreatDoorZd
import Derived.Test.YtjpnhkmfhlnpcaaGreatDoorZo
set_option linter.unusedVariables false
set_option linter.unusedSimpArgs false
set_option linter.unusedSectionVars false
namespace Go.Proofs.YtjpnhkmfhlnpcaaGreatDoor
section
open Go.Proofs.Tryz
section
variable {E:World} {P:Program} {ops:Array Oper} {K:aO→OL→Prop} {env:aO} {O O':OL} {rest:List Oper}
variable {d ty:Nat} {pos:String} {af:Array Edge} {x y z:Operand} {t u e:TypeId}
theorem ao.appendO {ti:TypeInfo} {zv:Value} {k n m i j:Nat} {T2:TypeId} {cs ds:List AV} {f:Nat→OL} (ht:P.underlying t=some (.slice e)) (hi:P.info? e=some ti) (hz:ti.zero=some zv) (hk:ti.size=k) (hzc:zv.cells.size=k)
  (hx:bf env x=.own i n) (hy:bf env y=.own j m) (hO:∀i',nM O i (.grow k e cs) i' (.grow k e (cs++ds)) (f i')) (hj:qD O j (.grow k T2 ds)) (hn:cs.length=n*k) (hm:ds.length=m*k) (hne:ds≠[]) (hk0:0<k) (hc1:ds.all AV.cell=true) (hb:(n+m)*ti.bytes≤140737488355328) (hb2:n+m≤140737488355328)
  (kk:∀i',ao P E ops K rest (bD env d (.own i' (n+m))) (f i')) :
  ao P E ops K (Oper.mk (some d) (.call { callee:=.builtin .append,args:=#[x,y],argTypes:=#[t,t] }) ty pos af none::rest) env O:=fun I F ρ w h1 h2=>by
 obtain ⟨htop,L,hL,hS⟩:=id h2
 have h3:=h1.ev x
 rw[hx] at h3
 obtain ⟨b,cap,e1,ex⟩:=h3
 have h4:=h1.ev y
 rw[hy] at h4
 obtain ⟨b4,c4,e4,ey⟩:=h4
 obtain ⟨b2,c2,us2,junk,e5,hus2,hmem⟩:=hj.grow hL hne
 rw[e4] at e5
 simp only[Option.some.injEq,Prod.mk.injEq] at e5
 obtain ⟨rfl,rfl⟩:=e5
 obtain ⟨j',hj'⟩:=h2.name
 obtain ⟨A,B,hp,⟨b',cap',n',us,e2,hus,huc,hown⟩,hback⟩:=(hO j').rep hL
 simp only at e2
 rw[e1] at e2
 simp only[Option.some.injEq,Prod.mk.injEq] at e2
 obtain ⟨rfl,rfl⟩:=e2
 have hnn:n'=n:=by
  have h5:=hown.1
  have h6:=hus.length
  have:n'*k=n*k:=by omega
  exact Nat.eq_of_mul_eq_mul_right hk0 this
 subst hnn
 have hS2:SL I.k (A++(B++F)) E w:=hS.perm (by rw[←qs];exact (hp.append_right F).symm)
 have hmem2:(b2,Obj.cells (us2++junk).toArray T2 (0,0))∈A++(B++F):=by rw[←qs];exact List.mem_append_left _ (hp.mem_iff.1 hmem)
 have hsrc:J4 I.k (A++(B++F)) k (some ⟨b2,0,none⟩) m us2:=⟨by rw[hus2.length,hm],hus2.cell1 hc1,.inr ⟨_,rfl,fun q u hq=>⟨b2,0,rfl,.inr ⟨_,_,_,hmem2,by
  rw[Nat.zero_add,List.getElem?_toArray,List.getElem?_append_left (List.getElem?_eq_some_iff.1 hq).1];exact hq⟩⟩⟩⟩
 refine bL.append ht hi hz hk hzc ex ey hS2 hown hsrc hb hb2 fun a' c' A' w' h5 h6 h7=>?_
 have hb':∃b'',a'=adr b'':=by
  rcases h5.2.2 with ⟨e,_⟩|⟨b'',junk,e,_⟩
  ·exact ⟨none,e⟩
  ·exact ⟨some b'',e⟩
 obtain ⟨b'',rfl⟩:=hb'
 obtain ⟨J,ek,hle,e3,htop'⟩:=hj' (b'',c')
 obtain ⟨L',h8,h9⟩:=hback hle (A':=A') ⟨b'',c',_,us++us2,e3,RepL.mono hle _ _ (hus.append hus2),(by
  intro u hu
  rcases List.mem_append.1 hu with hu|hu
  ·exact huc u hu
  ·exact hus2.cell1 hc1 u hu),h5⟩
 exact q5 (fun _ _=>qo hle) _ _ _ (kk j' J F _ _ ((h1.mono hle).upd d ⟨b'',c',e3,rfl⟩) ⟨htop',L',h8,by rw[ek];exact h6.perm (by rw[←qs];exact h9.append_right F)⟩)
end
end
section
open Go.Proofs.Tryz
section
variable {E:World} {P:Program} {ops:Array Oper} {K:aO→OL→Prop} {env:aO} {O O':OL} {rest:List Oper}
variable {d ty:Nat} {pos:String} {af:Array Edge} {x y z:Operand} {t u e:TypeId}
theorem ao.appendOZ {ti:TypeInfo} {zv:Value} {k n m i j:Nat} {T2:TypeId} {cs ds:List AV} {f:Nat→OL} (ht:P.underlying t=some (.slice e)) (hi:P.info? e=some ti) (hz:ti.zero=some zv) (hk:ti.size=k) (hzc:zv.cells.size=k)
  (hx:bf env x=.own i n) (hy:bf env y=.own j m) (hO:∀i',nM O i (.grow k e cs) i' (.grow k e (cs++ds)) (f i')) (hj:qD O j (.grow k T2 ds)) (hn:cs.length=n*k) (hm:ds.length=m*k) (hk0:0<k) (hc1:ds.all AV.cell=true) (hb:(n+m)*ti.bytes≤140737488355328) (hb2:n+m≤140737488355328)
  (kk:∀i',ao P E ops K rest (bD env d (.own i' (n+m))) (f i')) :
  ao P E ops K (Oper.mk (some d) (.call { callee:=.builtin .append,args:=#[x,y],argTypes:=#[t,t] }) ty pos af none::rest) env O:=by
 by_cases hne:ds=[]
 ·subst hne
  have hm0:m=0:=by
   have:m*k=0:=hm.symm
   rcases Nat.mul_eq_zero.1 this with h|h
   ·exact h
   ·omega
  subst hm0
  intro I F ρ w h1 h2
  obtain ⟨htop,L,hL,hS⟩:=id h2
  have h3:=h1.ev x
  rw[hx] at h3
  obtain ⟨b,cap,e1,ex⟩:=h3
  have h4:=h1.ev y
  rw[hy] at h4
  obtain ⟨b4,c4,e4,ey⟩:=h4
  obtain ⟨j',hj'⟩:=h2.name
  obtain ⟨A,B,hp,⟨b',cap',n',us,e2,hus,huc,hown⟩,hback⟩:=(hO j').rep hL
  simp only at e2
  rw[e1] at e2
  simp only[Option.some.injEq,Prod.mk.injEq] at e2
  obtain ⟨rfl,rfl⟩:=e2
  have hnn:n'=n:=by
   have h5:=hown.1
   have h6:=hus.length
   have:n'*k=n*k:=by omega
   exact Nat.eq_of_mul_eq_mul_right hk0 this
  subst hnn
  have hS2:SL I.k (A++(B++F)) E w:=hS.perm (by rw[←qs];exact (hp.append_right F).symm)
  have hsrc:J4 I.k (A++(B++F)) k (adr b4) 0 []:=⟨by simp,by simp,by cases b4 with|none=>exact .inl ⟨rfl,rfl⟩|some b4=>exact .inr ⟨_,rfl,by simp⟩⟩
  refine bL.append ht hi hz hk hzc ex ey hS2 hown hsrc hb hb2 fun a' c' A' w' h5 h6 h7=>?_
  have hb':∃b'',a'=adr b'':=by
   rcases h5.2.2 with ⟨e,_⟩|⟨b'',junk,e,_⟩
   ·exact ⟨none,e⟩
   ·exact ⟨some b'',e⟩
  obtain ⟨b'',rfl⟩:=hb'
  obtain ⟨J,ek,hle,e3,htop'⟩:=hj' (b'',c')
  obtain ⟨L',h8,h9⟩:=hback hle (A':=A') ⟨b'',c',_,us++[],e3,RepL.mono hle _ _ (hus.append rfl),(by rw[List.append_nil];exact huc),h5⟩
  exact q5 (fun _ _=>qo hle) _ _ _ (kk j' J F _ _ ((h1.mono hle).upd d ⟨b'',c',e3,rfl⟩) ⟨htop',L',h8,by rw[ek];exact h6.perm (by rw[←qs];exact h9.append_right F)⟩)
 ·exact ao.appendO ht hi hz hk hzc hx hy hO hj hn hm hne hk0 hc1 hb hb2 kk
end
end
section
open Go.Proofs.Tryz
open Go.Proofs Go.Lib Go.Shelf Go.RowKit
variable {E:World}
set_option maxRecDepth 20000
def uL (fr ar:List Int) (b:Int):Int:=((fr.zip ar).find? fun q=>decide (q.1=b)).elim (-1) (·.2)
theorem EI {fr ar:List Int} {b:Int} {j:Nat} (h:j<fr.length) (h2:j<ar.length):uL (fr.drop j) (ar.drop j) b=if fr[j]=b then ar[j] else uL (fr.drop (j+1)) (ar.drop (j+1)) b:=by
 rw[List.drop_eq_getElem_cons h,List.drop_eq_getElem_cons h2]
 unfold uL
 rw[List.zip_cons_cons,List.find?_cons]
 by_cases e:fr[j]=b
 ·rw[if_pos e];simp[e]
 ·rw[if_neg e];simp[e]
def nD (l:List bu) (b:Int) (k:Nat):List Int:=(l.take k).map fun p=>bv p b
theorem EJ {l:List bu} {b:Int} {k:Nat} (h:k<l.length):nD l b k++[bv l[k] b]=nD l b (k+1):=by
 unfold nD;rw[qr h,List.map_append];rfl
theorem GT {l:List bu} {b:Int} {k:Nat} (h:k<l.length):(nD l b l.length)[k]?=some (bv l[k] b):=by
 unfold nD;rw[qv,qy,qq h];rfl
theorem nZ {l:List bu} {b:Int} {k:Nat} (h:k≤l.length):(nD l b k).length=k:=by
 unfold nD;rw[qx,w3];omega
def Dt (l:List bu) (s:GS) (k:Nat):GS:=(l.take k).foldl (assign s) s
theorem GU {l:List bu} {s:GS} {k:Nat} (h:k<l.length):Dt l s (k+1)=assign s (Dt l s k) l[k]:=by
 unfold Dt;rw[qr h,List.foldl_append];rfl
theorem C1 (l:List bu) (s:GS) (k:Nat):(Dt l s k).arrays=s.arrays:=by
 unfold Dt
 suffices h:∀(l:List bu) (t:GS),(l.foldl (assign s) t).arrays=t.arrays from h _ s
 intro l
 induction l with
 |nil=>intro t;rfl
 |cons p l ih=>intro t;exact ih _
set_option maxHeartbeats 16000000 in
theorem ki (f:ab) (iw ja jb jc jo jt:Nat) (ids:List Nat) (s:GS) (dst_:Int) (hids:ids.length=s.arrays.length) (hg:bB f s) (hR:pd f) (hv:f.vars.length≤1000) (hs:small f) (h0:0≤dst_) (h1:dst_<f.blocks.length):bY prog E 32 [.po iw 0,.int .i64 dst_] (wO f iw ja jb jc jo jt ids s) (fun y O=>ids.length=(dB f s dst_).arrays.length∧y=.tup []∧O=wO f iw ja jb jc jo jt ids (dB f s dst_)):=by
 have hB:=sv h0 h1
 have hBm:=w0 hB
 have hph:=hR.phis _ hBm
 have hsm:=(hs.2.2.2.2 _ hBm).2.1
 have hsp:=(hs.2.2.2.2 _ hBm).2.2.2.1
 obtain ⟨B,hBe⟩:∃B,blkG f dst_=B:=⟨_,rfl⟩
 have hgo:dB f s dst_=if B.phis.all (fun p=>decide (0≤bv p s.blk))=true then goG (Dt B.phis s B.phis.length) dst_ else cP (goG s dst_) 2:=by unfold dB Dt;rw[hBe,qv]
 rw[hBe] at hB hph hsm hsp
 have hl1:=hg.li
 have hl2:=hg.lb
 have hl3:=hg.la
 refine zo func32 Z (by decide) Z<|ah<|za (rv Z)<|z7<|jR (t:=4) (k:=1) (T:=3) Z<|fun i4=>yc (zn (zp .t1))<|zb<|ah<|bn Z<|az Z<|za (zc jf Z jk (by decide) Z Z)<|za (zc ji Z Z0 (by decide) Z Z)<|za (zj (c:=.fro _ _) Z6 Z ⟨_,.head⟩ Z)<|aa Z<|za (cH dst_.toNat jl jv Z Z (by omega) hB)<|aq jh Z Zf Z Z<|aM Zv Z<|ae jx Z<|aa Z<|z7<|zg<|y7 (γ:=Nat × Nat) [0,1,22,23] (fun g=>[(24,.int .i64 g.1),(4,.own g.2 g.1)]) (fun g=>(iw,.cells 52 (GR f ja jb jc jo jt s))::(g.2,.grow 1 3 (cI (nD B.phis s.blk g.1)))::wR ja jb jc jo jt ids s) (fun g=>g.1≤B.phis.length∧∀p∈B.phis.take g.1,0≤bv p s.blk) (fun g=>B.phis.length - g.1) (0,i4) eE aN (⟨qt _,fun p hp=>by simp at hp⟩) ?_
 rintro ⟨k,i4⟩ ⟨hk,hok⟩
 try dsimp only at *
 refine ah<|ay Z Z<|z7<|zb<|zm Z (fun ck=>?_) (fun ck=>?_)
 ·have hk2:k<B.phis.length:=by simp at ck;omega
  obtain ⟨p,hp⟩:∃p,B.phis[k]=p:=⟨_,rfl⟩
  have hpg:B.phis[k]?=some p:=by rw[qq hk2,hp]
  have hpm:=w0 hpg
  obtain ⟨_,hal,_,_,_⟩:=hph p hpm
  have hfl:=(hsp p hpm).2
  refine ze<|zb<|zg<|ah<|za (cH k jx Z1 Z Z Z hpg)<|ac Y0 Z1 Z Z<|zy (cs:=[.int .i64 0,.raw (.slice none 0 0),.raw (.slice none 0 0)]) Ze Z Z<|fun i6=>zt Z1 Z Z Z Z Z Z .head Z<|zx (yo (t:=6) Z .head)<|z7<|ah<|aw Z<|z7<|zb<|ah<|aq jq Z jm Z Z<|aM jw Z<|ae jd Z<|za (Gv.sub Z Z (by unfold ko;omega))<|aw Z<|z7<|zg<|y7 (γ:=Nat) [0,1,4,6,22,23,24] (fun m=>[(8,.int .i64 ((m:Int) - 1)),(7,.int .i64 (uL (p.from_.drop m) (p.args.drop m) s.blk))]) (fun m=>(iw,.cells 52 (GR f ja jb jc jo jt s))::(i4,.grow 1 3 (cI (nD B.phis s.blk k)))::wR ja jb jc jo jt ids s) (fun m=>m≤p.from_.length) (fun m=>m) p.from_.length ⟨congrArg (AV.int .i64) (by simp),congrArg (AV.int .i64) (by rw[List.drop_length];rfl),trivial⟩ aN (Nat.le_refl _) ?_
  rintro m hm
  refine zb<|ah<|aa Z<|za (ql Z Z)<|z7<|zm Z (fun c8=>?_) (fun c8=>?_)
  ·have hm1:m - 1<p.from_.length:=by omega
   have hm2:m - 1<p.args.length:=by omega
   have hst:=EI (b:=s.blk) hm1 hm2
   rw[show m - 1+1=m by omega] at hst
   refine ze<|zb<|zg<|zb<|zq (fun j=>false) (by kernel_rfl) Z (zu (.r (.rest _)))<|ak 0 Z (eK jq Z jm Z Z)<|ak 1 Z (lL jw Z)<|ak 2 Z (d9 Z)<|ak 3 Z (cH (m - 1) jd je Z Z (by omega) (qq hm1))<|ak 4 Z (gH jj Z)<|ak 5 Z (eU Z)<|ak 6 Z (zw Z)<|ak 7 Z (zc jf Z je (by decide) Z Z)<|ak 8 Z (zj (c:=.int _ _) jj Z ⟨_,.head⟩ Z)<|ak 9 Z (Gv.eqlI Z Z)<|eG<|zm Z (fun ce=>?_) (fun ce=>?_)
   ·have ce:p.from_[m - 1]=s.blk:=by simpa using ce
    rw[if_pos ce] at hst
    refine bi<|aq jq Z jm Z Z<|aM jw Z<|aa Z<|za (cH (m - 1) jd je Z Z (by omega) (qq hm2))<|aE jj Z<|aw Z<|z7<|bi<|aa Z<|za (Gv.sub Z Z (by unfold ko;omega))<|aw Z<|z7 ?_
    exact ⟨m - 1,iM,⟨congrArg (AV.int .i64) (by omega),congrArg (AV.int .i64) hst.symm,trivial⟩,aN,by omega,by omega⟩
   ·have ce:¬p.from_[m - 1]=s.blk:=by simpa using ce
    rw[if_neg ce] at hst
    refine ze<|bi<|aa Z<|za (Gv.sub Z Z (by unfold ko;omega))<|aw Z<|z7 ?_
    exact ⟨m - 1,iM,⟨congrArg (AV.int .i64) (by omega),congrArg (AV.int .i64) hst.symm,trivial⟩,aN,by omega,by omega⟩
  ·obtain rfl:m=0:=by omega
   have hat:uL (p.from_.drop 0) (p.args.drop 0) s.blk=bv p s.blk:=rfl
   rw[hat]
   refine zz<|zb<|ah<|aa Z<|ay Z Z<|z7<|zm Z (fun cn=>?_) (fun cn=>?_)
   ·have cn:bv p s.blk<0:=by simpa using cn
    have hE:dB f s dst_=cP (goG s dst_) 2:=by
     rw[hgo,if_neg]
     intro h
     have:=w9 (List.all_eq_true.1 h p hpm)
     omega
    refine yc (aX.drop .t1)<|ah<|bn Z<|bn Z<|aa Z<|az Z<|za (zc jf Z je (by decide) Z Z)<|yg (l:=[_]) (new:=[_,_,_,_,_,_,_,_,_,_,_,_,_,_,_,_,_,_,_,_,_,_,_]) je Z Z Z Z Z Z .head Z Z<|az Z<|za (zc jf Z je (by decide) Z Z)<|yg (l:=[_]) (new:=[_,_,_,_,_,_,_,_,_,_,_,_,_,_,_,_,_,_,_,_,_,_,_]) je Z Z Z Z Z Z .head Z Z<|z7<|ah<|bn Z<|yu Z (zu (.l (.l (.l (.l (.l (.l (.l (.rest _))))))))) (dI f iw ja jb jc jo jt ids (goG s dst_) 2) ?_
    rintro r61 O61 ⟨rfl,rfl⟩
    refine z7<|zf<|yx ?_
    exact ⟨by rw[hE];exact hids,rfl,by rw[hE];rfl⟩
   ·have cn:0≤bv p s.blk:=by simpa using cn
    refine ze<|bi<|za (kP Z)<|aa Z<|yf (rows:=[[_]]) gV Z Z Z Z Z<|ym (k:=1) jd Zo Z Z Z Z Z (fun _=>.t1) (by rw[aJ,nZ hk];omega) (by decide) Z (by show (_+1)*8≤_;omega) (by show _+1≤_;omega)<|fun i65=>za (ef Z)<|z7<|bi<|aC Z Z<|aa Z<|z7 ?_
    exact ⟨(k+1,i65),gY,eE,⟨_,(.refl _),by rw[←EJ hk2,hp,←oM];rfl⟩,⟨hk2,fun q hq=>by rw[qr hk2] at hq;rcases List.mem_append.1 hq with hq|hq;exact hok q hq;rw[List.mem_singleton.1 hq,hp];exact cn⟩,by dsimp only;omega⟩
 ·obtain rfl:k=B.phis.length:=by simp at ck;omega
  rw[qv] at hok
  have hE:dB f s dst_=goG (Dt B.phis s B.phis.length) dst_:=by
   rw[hgo,if_pos (List.all_eq_true.2 fun p hp=>w4 (hok p hp))]
  have hT:∀k,bB f (Dt B.phis s k):=fun k=>hg.assigns _ s hg rfl fun p hp=>⟨hph p (List.mem_of_mem_take hp),hok p (List.mem_of_mem_take hp)⟩
  refine zz<|zb<|yq (γ:=Nat × Nat × Nat) [0,1,4] (fun g=>[(9,.own g.1 f.vars.length),(10,.own g.2.1 f.vars.length),(11,.own g.2.2 f.vars.length)]) (fun g=>(iw,.cells 52 (GR f ja jb jc jo jt s))::(g.1,.grow 1 2 (cI s.ints))::(g.2.1,.grow 1 4 (cB s.bools))::(g.2.2,.grow 1 3 (cI s.arrs))::(i4,.grow 1 3 (cI (nD B.phis s.blk B.phis.length)))::wR ja jb jc jo jt ids s) (fun g=>True) ?_ (fun _ _ h=>h) ?_
  ·refine zq (fun j=>false) (by kernel_rfl) Z (zu (.r (.rest _)))<|ak 1 Z (eU Z)<|ak 2 Z (zw Z)<|ak 3 Z (zc jf Z Za (by decide) Z Z)<|ak 4 Z (zj (c:=.own _ _) Zk Z ⟨_,.head⟩ Z)<|ak 7 Z (eU Z)<|ak 8 Z (zw Z)<|ak 9 Z (zc jf Z Ya (by decide) Z Z)<|ak 10 Z (zj (c:=.own _ _) Yi Z ⟨_,.head⟩ Z)<|ak 13 Z (eU Z)<|ak 14 Z (zw Z)<|ak 15 Z (zc jf Z jm (by decide) Z Z)<|ak 16 Z (zj (c:=.own _ _) jw Z ⟨_,.head⟩ Z)<|bJ.three (i:=0) (j:=6) (m:=12) Z Z Z (by kernel_rfl) ?_ ?_ ?_
   ·refine ye (k:=1) jr Yf<|fun i67=>z7<|bJ.three (i:=5) (j:=6) (m:=12) Z Z Z (by kernel_rfl) ?_ ?_ ?_
    ·refine ao.appendOZ (k:=1) jr Yf Z Z Z Z Z (fun _=>.head) ⟨_,.t2⟩ Z (by rw[aJ,hl1];omega) (by decide) (bN _) (by show (_+_)*8≤_;omega) (by omega)<|fun i72=>z7<|qc (i:=6) (j:=12) Z Z (by kernel_rfl) ?_ ?_
     ·refine ye (k:=1) jn Y2<|fun i73=>z7<|qc (i:=11) (j:=12) Z Z (by kernel_rfl) ?_ ?_
      ·refine ao.appendOZ (k:=1) jn Y2 Z Z Z Z Z (fun _=>.head) ⟨_,.t4⟩ Z (by rw[bt,hl2];omega) (by decide) (dz _) (by show (_+_)*1≤_;omega) (by omega)<|fun i78=>z7<|bO 12 Z<|ye (k:=1) jd Zo<|fun i79=>z7<|bO 17 Z<|ao.appendOZ (k:=1) jd Zo Z Z Z Z Z (fun _=>.head) ⟨_,.t6⟩ Z (by rw[aJ,hl3];omega) (by decide) (bN _) (by show (_+_)*8≤_;omega) (by omega)<|fun i84=>zx (zn (zp .head))<|zx (zn (zp .t1))<|zx (zn (zp .t2))<|z7<|ak 18 Z (ef Z)<|ak 19 Z (ef Z)<|ak 20 Z (ef Z)<|eG ?_
       exact ⟨(i72,i78,i84),hZ,⟨congrArg (AV.own i72) (Nat.zero_add _),congrArg (AV.own i78) (Nat.zero_add _),congrArg (AV.own i84) (Nat.zero_add _),trivial⟩,aN,trivial⟩
      ·refine ye (k:=1) jd Zo<|fun i79=>z7<|bO 11 Z<|ao.appendOZ (k:=1) jn Y2 Z Z Z Z Z (fun _=>.t1) ⟨_,.t5⟩ Z (by rw[bt,hl2];omega) (by decide) (dz _) (by show (_+_)*1≤_;omega) (by omega)<|fun i78=>z7<|bO 17 Z<|ao.appendOZ (k:=1) jd Zo Z Z Z Z Z (fun _=>.head) ⟨_,.t6⟩ Z (by rw[aJ,hl3];omega) (by decide) (bN _) (by show (_+_)*8≤_;omega) (by omega)<|fun i84=>zx (zn (zp .head))<|zx (zn (zp .t1))<|zx (zn (zp .t2))<|z7<|ak 18 Z (ef Z)<|ak 19 Z (ef Z)<|ak 20 Z (ef Z)<|eG ?_
       exact ⟨(i72,i78,i84),hZ,⟨congrArg (AV.own i72) (Nat.zero_add _),congrArg (AV.own i78) (Nat.zero_add _),congrArg (AV.own i84) (Nat.zero_add _),trivial⟩,aN,trivial⟩
     ·refine ye (k:=1) jd Zo<|fun i79=>z7<|bO 6 Z<|ye (k:=1) jn Y2<|fun i73=>z7<|bO 11 Z<|ao.appendOZ (k:=1) jn Y2 Z Z Z Z Z (fun _=>.head) ⟨_,.t5⟩ Z (by rw[bt,hl2];omega) (by decide) (dz _) (by show (_+_)*1≤_;omega) (by omega)<|fun i78=>z7<|bO 17 Z<|ao.appendOZ (k:=1) jd Zo Z Z Z Z Z (fun _=>.t1) ⟨_,.t6⟩ Z (by rw[aJ,hl3];omega) (by decide) (bN _) (by show (_+_)*8≤_;omega) (by omega)<|fun i84=>zx (zn (zp .t1))<|zx (zn (zp .t1))<|zx (zn (zp .t2))<|z7<|ak 18 Z (ef Z)<|ak 19 Z (ef Z)<|ak 20 Z (ef Z)<|eG ?_
      exact ⟨(i72,i78,i84),hZ,⟨congrArg (AV.own i72) (Nat.zero_add _),congrArg (AV.own i78) (Nat.zero_add _),congrArg (AV.own i84) (Nat.zero_add _),trivial⟩,aN,trivial⟩
    ·refine ye (k:=1) jn Y2<|fun i73=>z7<|qc (i:=5) (j:=12) Z Z (by kernel_rfl) ?_ ?_
     ·refine ao.appendOZ (k:=1) jr Yf Z Z Z Z Z (fun _=>.t1) ⟨_,.t3⟩ Z (by rw[aJ,hl1];omega) (by decide) (bN _) (by show (_+_)*8≤_;omega) (by omega)<|fun i72=>z7<|qc (i:=11) (j:=12) Z Z (by kernel_rfl) ?_ ?_
      ·refine ao.appendOZ (k:=1) jn Y2 Z Z Z Z Z (fun _=>.head) ⟨_,.t4⟩ Z (by rw[bt,hl2];omega) (by decide) (dz _) (by show (_+_)*1≤_;omega) (by omega)<|fun i78=>z7<|bO 12 Z<|ye (k:=1) jd Zo<|fun i79=>z7<|bO 17 Z<|ao.appendOZ (k:=1) jd Zo Z Z Z Z Z (fun _=>.head) ⟨_,.t6⟩ Z (by rw[aJ,hl3];omega) (by decide) (bN _) (by show (_+_)*8≤_;omega) (by omega)<|fun i84=>zx (zn (zp .head))<|zx (zn (zp .t1))<|zx (zn (zp .t2))<|z7<|ak 18 Z (ef Z)<|ak 19 Z (ef Z)<|ak 20 Z (ef Z)<|eG ?_
       exact ⟨(i72,i78,i84),hZ,⟨congrArg (AV.own i72) (Nat.zero_add _),congrArg (AV.own i78) (Nat.zero_add _),congrArg (AV.own i84) (Nat.zero_add _),trivial⟩,aN,trivial⟩
      ·refine ye (k:=1) jd Zo<|fun i79=>z7<|bO 11 Z<|ao.appendOZ (k:=1) jn Y2 Z Z Z Z Z (fun _=>.t1) ⟨_,.t5⟩ Z (by rw[bt,hl2];omega) (by decide) (dz _) (by show (_+_)*1≤_;omega) (by omega)<|fun i78=>z7<|bO 17 Z<|ao.appendOZ (k:=1) jd Zo Z Z Z Z Z (fun _=>.head) ⟨_,.t6⟩ Z (by rw[aJ,hl3];omega) (by decide) (bN _) (by show (_+_)*8≤_;omega) (by omega)<|fun i84=>zx (zn (zp .head))<|zx (zn (zp .t1))<|zx (zn (zp .t2))<|z7<|ak 18 Z (ef Z)<|ak 19 Z (ef Z)<|ak 20 Z (ef Z)<|eG ?_
       exact ⟨(i72,i78,i84),hZ,⟨congrArg (AV.own i72) (Nat.zero_add _),congrArg (AV.own i78) (Nat.zero_add _),congrArg (AV.own i84) (Nat.zero_add _),trivial⟩,aN,trivial⟩
     ·refine ye (k:=1) jd Zo<|fun i79=>z7<|bO 5 Z<|ao.appendOZ (k:=1) jr Yf Z Z Z Z Z (fun _=>.t2) ⟨_,.t4⟩ Z (by rw[aJ,hl1];omega) (by decide) (bN _) (by show (_+_)*8≤_;omega) (by omega)<|fun i72=>z7<|bO 11 Z<|ao.appendOZ (k:=1) jn Y2 Z Z Z Z Z (fun _=>.t1) ⟨_,.t5⟩ Z (by rw[bt,hl2];omega) (by decide) (dz _) (by show (_+_)*1≤_;omega) (by omega)<|fun i78=>z7<|bO 17 Z<|ao.appendOZ (k:=1) jd Zo Z Z Z Z Z (fun _=>.head) ⟨_,.t6⟩ Z (by rw[aJ,hl3];omega) (by decide) (bN _) (by show (_+_)*8≤_;omega) (by omega)<|fun i84=>zx (zn (zp .head))<|zx (zn (zp .t1))<|zx (zn (zp .t2))<|z7<|ak 18 Z (ef Z)<|ak 19 Z (ef Z)<|ak 20 Z (ef Z)<|eG ?_
      exact ⟨(i72,i78,i84),hZ,⟨congrArg (AV.own i72) (Nat.zero_add _),congrArg (AV.own i78) (Nat.zero_add _),congrArg (AV.own i84) (Nat.zero_add _),trivial⟩,aN,trivial⟩
    ·refine ye (k:=1) jd Zo<|fun i79=>z7<|qc (i:=5) (j:=6) Z Z (by kernel_rfl) ?_ ?_
     ·refine ao.appendOZ (k:=1) jr Yf Z Z Z Z Z (fun _=>.t1) ⟨_,.t3⟩ Z (by rw[aJ,hl1];omega) (by decide) (bN _) (by show (_+_)*8≤_;omega) (by omega)<|fun i72=>z7<|bO 6 Z<|ye (k:=1) jn Y2<|fun i73=>z7<|bO 11 Z<|ao.appendOZ (k:=1) jn Y2 Z Z Z Z Z (fun _=>.head) ⟨_,.t5⟩ Z (by rw[bt,hl2];omega) (by decide) (dz _) (by show (_+_)*1≤_;omega) (by omega)<|fun i78=>z7<|bO 17 Z<|ao.appendOZ (k:=1) jd Zo Z Z Z Z Z (fun _=>.t1) ⟨_,.t6⟩ Z (by rw[aJ,hl3];omega) (by decide) (bN _) (by show (_+_)*8≤_;omega) (by omega)<|fun i84=>zx (zn (zp .t1))<|zx (zn (zp .t1))<|zx (zn (zp .t2))<|z7<|ak 18 Z (ef Z)<|ak 19 Z (ef Z)<|ak 20 Z (ef Z)<|eG ?_
      exact ⟨(i72,i78,i84),hZ,⟨congrArg (AV.own i72) (Nat.zero_add _),congrArg (AV.own i78) (Nat.zero_add _),congrArg (AV.own i84) (Nat.zero_add _),trivial⟩,aN,trivial⟩
     ·refine ye (k:=1) jn Y2<|fun i73=>z7<|bO 5 Z<|ao.appendOZ (k:=1) jr Yf Z Z Z Z Z (fun _=>.t2) ⟨_,.t4⟩ Z (by rw[aJ,hl1];omega) (by decide) (bN _) (by show (_+_)*8≤_;omega) (by omega)<|fun i72=>z7<|bO 11 Z<|ao.appendOZ (k:=1) jn Y2 Z Z Z Z Z (fun _=>.head) ⟨_,.t5⟩ Z (by rw[bt,hl2];omega) (by decide) (dz _) (by show (_+_)*1≤_;omega) (by omega)<|fun i78=>z7<|bO 17 Z<|ao.appendOZ (k:=1) jd Zo Z Z Z Z Z (fun _=>.t1) ⟨_,.t6⟩ Z (by rw[aJ,hl3];omega) (by decide) (bN _) (by show (_+_)*8≤_;omega) (by omega)<|fun i84=>zx (zn (zp .t1))<|zx (zn (zp .t1))<|zx (zn (zp .t2))<|z7<|ak 18 Z (ef Z)<|ak 19 Z (ef Z)<|ak 20 Z (ef Z)<|eG ?_
      exact ⟨(i72,i78,i84),hZ,⟨congrArg (AV.own i72) (Nat.zero_add _),congrArg (AV.own i78) (Nat.zero_add _),congrArg (AV.own i84) (Nat.zero_add _),trivial⟩,aN,trivial⟩
   ·refine ye (k:=1) jn Y2<|fun i73=>z7<|qc (i:=0) (j:=12) Z Z (by kernel_rfl) ?_ ?_
    ·refine ye (k:=1) jr Yf<|fun i67=>z7<|qc (i:=5) (j:=12) Z Z (by kernel_rfl) ?_ ?_
     ·refine ao.appendOZ (k:=1) jr Yf Z Z Z Z Z (fun _=>.head) ⟨_,.t3⟩ Z (by rw[aJ,hl1];omega) (by decide) (bN _) (by show (_+_)*8≤_;omega) (by omega)<|fun i72=>z7<|qc (i:=11) (j:=12) Z Z (by kernel_rfl) ?_ ?_
      ·refine ao.appendOZ (k:=1) jn Y2 Z Z Z Z Z (fun _=>.t1) ⟨_,.t4⟩ Z (by rw[bt,hl2];omega) (by decide) (dz _) (by show (_+_)*1≤_;omega) (by omega)<|fun i78=>z7<|bO 12 Z<|ye (k:=1) jd Zo<|fun i79=>z7<|bO 17 Z<|ao.appendOZ (k:=1) jd Zo Z Z Z Z Z (fun _=>.head) ⟨_,.t6⟩ Z (by rw[aJ,hl3];omega) (by decide) (bN _) (by show (_+_)*8≤_;omega) (by omega)<|fun i84=>zx (zn (zp .head))<|zx (zn (zp .t2))<|zx (zn (zp .t2))<|z7<|ak 18 Z (ef Z)<|ak 19 Z (ef Z)<|ak 20 Z (ef Z)<|eG ?_
       exact ⟨(i72,i78,i84),hZ,⟨congrArg (AV.own i72) (Nat.zero_add _),congrArg (AV.own i78) (Nat.zero_add _),congrArg (AV.own i84) (Nat.zero_add _),trivial⟩,aN,trivial⟩
      ·refine ye (k:=1) jd Zo<|fun i79=>z7<|bO 11 Z<|ao.appendOZ (k:=1) jn Y2 Z Z Z Z Z (fun _=>.t2) ⟨_,.t5⟩ Z (by rw[bt,hl2];omega) (by decide) (dz _) (by show (_+_)*1≤_;omega) (by omega)<|fun i78=>z7<|bO 17 Z<|ao.appendOZ (k:=1) jd Zo Z Z Z Z Z (fun _=>.head) ⟨_,.t6⟩ Z (by rw[aJ,hl3];omega) (by decide) (bN _) (by show (_+_)*8≤_;omega) (by omega)<|fun i84=>zx (zn (zp .head))<|zx (zn (zp .t2))<|zx (zn (zp .t2))<|z7<|ak 18 Z (ef Z)<|ak 19 Z (ef Z)<|ak 20 Z (ef Z)<|eG ?_
       exact ⟨(i72,i78,i84),hZ,⟨congrArg (AV.own i72) (Nat.zero_add _),congrArg (AV.own i78) (Nat.zero_add _),congrArg (AV.own i84) (Nat.zero_add _),trivial⟩,aN,trivial⟩
     ·refine ye (k:=1) jd Zo<|fun i79=>z7<|bO 5 Z<|ao.appendOZ (k:=1) jr Yf Z Z Z Z Z (fun _=>.t1) ⟨_,.t4⟩ Z (by rw[aJ,hl1];omega) (by decide) (bN _) (by show (_+_)*8≤_;omega) (by omega)<|fun i72=>z7<|bO 11 Z<|ao.appendOZ (k:=1) jn Y2 Z Z Z Z Z (fun _=>.t2) ⟨_,.t5⟩ Z (by rw[bt,hl2];omega) (by decide) (dz _) (by show (_+_)*1≤_;omega) (by omega)<|fun i78=>z7<|bO 17 Z<|ao.appendOZ (k:=1) jd Zo Z Z Z Z Z (fun _=>.head) ⟨_,.t6⟩ Z (by rw[aJ,hl3];omega) (by decide) (bN _) (by show (_+_)*8≤_;omega) (by omega)<|fun i84=>zx (zn (zp .head))<|zx (zn (zp .t2))<|zx (zn (zp .t2))<|z7<|ak 18 Z (ef Z)<|ak 19 Z (ef Z)<|ak 20 Z (ef Z)<|eG ?_
      exact ⟨(i72,i78,i84),hZ,⟨congrArg (AV.own i72) (Nat.zero_add _),congrArg (AV.own i78) (Nat.zero_add _),congrArg (AV.own i84) (Nat.zero_add _),trivial⟩,aN,trivial⟩
    ·refine ye (k:=1) jd Zo<|fun i79=>z7<|bO 0 Z<|ye (k:=1) jr Yf<|fun i67=>z7<|bO 5 Z<|ao.appendOZ (k:=1) jr Yf Z Z Z Z Z (fun _=>.head) ⟨_,.t4⟩ Z (by rw[aJ,hl1];omega) (by decide) (bN _) (by show (_+_)*8≤_;omega) (by omega)<|fun i72=>z7<|bO 11 Z<|ao.appendOZ (k:=1) jn Y2 Z Z Z Z Z (fun _=>.t2) ⟨_,.t5⟩ Z (by rw[bt,hl2];omega) (by decide) (dz _) (by show (_+_)*1≤_;omega) (by omega)<|fun i78=>z7<|bO 17 Z<|ao.appendOZ (k:=1) jd Zo Z Z Z Z Z (fun _=>.t1) ⟨_,.t6⟩ Z (by rw[aJ,hl3];omega) (by decide) (bN _) (by show (_+_)*8≤_;omega) (by omega)<|fun i84=>zx (zn (zp .t1))<|zx (zn (zp .t2))<|zx (zn (zp .t2))<|z7<|ak 18 Z (ef Z)<|ak 19 Z (ef Z)<|ak 20 Z (ef Z)<|eG ?_
     exact ⟨(i72,i78,i84),hZ,⟨congrArg (AV.own i72) (Nat.zero_add _),congrArg (AV.own i78) (Nat.zero_add _),congrArg (AV.own i84) (Nat.zero_add _),trivial⟩,aN,trivial⟩
   ·refine ye (k:=1) jd Zo<|fun i79=>z7<|qc (i:=0) (j:=6) Z Z (by kernel_rfl) ?_ ?_
    ·refine ye (k:=1) jr Yf<|fun i67=>z7<|qc (i:=5) (j:=6) Z Z (by kernel_rfl) ?_ ?_
     ·refine ao.appendOZ (k:=1) jr Yf Z Z Z Z Z (fun _=>.head) ⟨_,.t3⟩ Z (by rw[aJ,hl1];omega) (by decide) (bN _) (by show (_+_)*8≤_;omega) (by omega)<|fun i72=>z7<|bO 6 Z<|ye (k:=1) jn Y2<|fun i73=>z7<|bO 11 Z<|ao.appendOZ (k:=1) jn Y2 Z Z Z Z Z (fun _=>.head) ⟨_,.t5⟩ Z (by rw[bt,hl2];omega) (by decide) (dz _) (by show (_+_)*1≤_;omega) (by omega)<|fun i78=>z7<|bO 17 Z<|ao.appendOZ (k:=1) jd Zo Z Z Z Z Z (fun _=>.t2) ⟨_,.t6⟩ Z (by rw[aJ,hl3];omega) (by decide) (bN _) (by show (_+_)*8≤_;omega) (by omega)<|fun i84=>zx (zn (zp .t2))<|zx (zn (zp .t1))<|zx (zn (zp .t2))<|z7<|ak 18 Z (ef Z)<|ak 19 Z (ef Z)<|ak 20 Z (ef Z)<|eG ?_
      exact ⟨(i72,i78,i84),hZ,⟨congrArg (AV.own i72) (Nat.zero_add _),congrArg (AV.own i78) (Nat.zero_add _),congrArg (AV.own i84) (Nat.zero_add _),trivial⟩,aN,trivial⟩
     ·refine ye (k:=1) jn Y2<|fun i73=>z7<|bO 5 Z<|ao.appendOZ (k:=1) jr Yf Z Z Z Z Z (fun _=>.t1) ⟨_,.t4⟩ Z (by rw[aJ,hl1];omega) (by decide) (bN _) (by show (_+_)*8≤_;omega) (by omega)<|fun i72=>z7<|bO 11 Z<|ao.appendOZ (k:=1) jn Y2 Z Z Z Z Z (fun _=>.head) ⟨_,.t5⟩ Z (by rw[bt,hl2];omega) (by decide) (dz _) (by show (_+_)*1≤_;omega) (by omega)<|fun i78=>z7<|bO 17 Z<|ao.appendOZ (k:=1) jd Zo Z Z Z Z Z (fun _=>.t2) ⟨_,.t6⟩ Z (by rw[aJ,hl3];omega) (by decide) (bN _) (by show (_+_)*8≤_;omega) (by omega)<|fun i84=>zx (zn (zp .t2))<|zx (zn (zp .t1))<|zx (zn (zp .t2))<|z7<|ak 18 Z (ef Z)<|ak 19 Z (ef Z)<|ak 20 Z (ef Z)<|eG ?_
      exact ⟨(i72,i78,i84),hZ,⟨congrArg (AV.own i72) (Nat.zero_add _),congrArg (AV.own i78) (Nat.zero_add _),congrArg (AV.own i84) (Nat.zero_add _),trivial⟩,aN,trivial⟩
    ·refine ye (k:=1) jn Y2<|fun i73=>z7<|bO 0 Z<|ye (k:=1) jr Yf<|fun i67=>z7<|bO 5 Z<|ao.appendOZ (k:=1) jr Yf Z Z Z Z Z (fun _=>.head) ⟨_,.t4⟩ Z (by rw[aJ,hl1];omega) (by decide) (bN _) (by show (_+_)*8≤_;omega) (by omega)<|fun i72=>z7<|bO 11 Z<|ao.appendOZ (k:=1) jn Y2 Z Z Z Z Z (fun _=>.t1) ⟨_,.t5⟩ Z (by rw[bt,hl2];omega) (by decide) (dz _) (by show (_+_)*1≤_;omega) (by omega)<|fun i78=>z7<|bO 17 Z<|ao.appendOZ (k:=1) jd Zo Z Z Z Z Z (fun _=>.t2) ⟨_,.t6⟩ Z (by rw[aJ,hl3];omega) (by decide) (bN _) (by show (_+_)*8≤_;omega) (by omega)<|fun i84=>z7<|ak 18 Z (ef Z)<|ak 19 Z (ef Z)<|ak 20 Z (ef Z)<|eG ?_
     exact ⟨(i72,i78,i84),hZ,⟨congrArg (AV.own i72) (Nat.zero_add _),congrArg (AV.own i78) (Nat.zero_add _),congrArg (AV.own i84) (Nat.zero_add _),trivial⟩,aN,trivial⟩
  ·rintro ⟨i72,i78,i84⟩ _
   refine zb<|ah<|bn Z<|az Z<|za (zc jf Z jk (by decide) Z Z)<|za (zc ji Z Z0 (by decide) Z Z)<|za (zj (c:=.fro _ _) Z6 Z ⟨_,.head⟩ Z)<|aa Z<|za (cH dst_.toNat jl jv Z Z (by omega) hB)<|aq jh Z Zf Z Z<|aM Zv Z<|ae jx Z<|aa Z<|z7<|zg<|y7 (γ:=Nat) [0,1,4,9,10,11,93,94] (fun k=>[(95,.int .i64 k)]) (fun k=>(iw,.cells 52 (GR f ja jb jc jo jt (Dt B.phis s k)))::(i72,.grow 1 2 (cI s.ints))::(i78,.grow 1 4 (cB s.bools))::(i84,.grow 1 3 (cI s.arrs))::(i4,.grow 1 3 (cI (nD B.phis s.blk B.phis.length)))::wR ja jb jc jo jt ids (Dt B.phis s k)) (fun k=>k≤B.phis.length) (fun k=>B.phis.length - k) 0 aW aN (qt _) ?_
   rintro k hk
   refine ah<|ay Z Z<|z7<|zb<|zm Z (fun ck=>?_) (fun ck=>?_)
   ·have hk2:k<B.phis.length:=by simp at ck;omega
    obtain ⟨p,hp⟩:∃p,B.phis[k]=p:=⟨_,rfl⟩
    have hpg:B.phis[k]?=some p:=by rw[qq hk2,hp]
    have hpm:=w0 hpg
    have hp0:=hok p hpm
    obtain ⟨hd,_,_,ha,_⟩:=hph p hpm
    obtain ⟨d1,d0⟩:=dU hd
    obtain ⟨v1,v0⟩:=dU (List.all_eq_true.1 ha _ (rH hp0))
    have hgg:(nD B.phis s.blk B.phis.length)[k]?=some (bv p s.blk):=by rw[GT hk2,hp]
    have t1:=(hT k).li
    have t2:=(hT k).lb
    have t3:=(hT k).la
    refine ze<|zb<|zg<|ah<|aa Z<|za (cH k jx Z1 Z Z Z hpg)<|ac Y0 Z1 Z Z<|zy (cs:=[.int .i64 0,.raw (.slice none 0 0),.raw (.slice none 0 0)]) Ze Z Z<|fun i13=>aw Z<|zt Z1 Z Z Z Z Z Z .head Z<|zx (yo (t:=13) Z .head)<|z7<|cX.regionDrawR (by kernel_rfl) Z (zu (.r (.r (.r (.r (.r (.l (.l (.l (.l (.l (.l (.rest _)))))))))))))<|y8 (i:=0) Z (by kernel_rfl) (by kernel_rfl) (by kernel_rfl) (eU Z)<|y8 (i:=1) Z (by kernel_rfl) (by kernel_rfl) (by kernel_rfl) (zw Z)<|y8 (i:=2) Z (by kernel_rfl) (by kernel_rfl) (by kernel_rfl) (zc jf Z Za (by decide) Z Z)<|y8 (i:=3) Z (by kernel_rfl) (by kernel_rfl) (by kernel_rfl) (zj (c:=.own _ _) Zk Z ⟨_,.head⟩ Z)<|y8 (i:=4) Z (by kernel_rfl) (by kernel_rfl) (by kernel_rfl) (eK jq Z je Z Z)<|y8 (i:=5) Z (by kernel_rfl) (by kernel_rfl) (by kernel_rfl) (gH jj Z)<|y8 (i:=6) Z (by kernel_rfl) (by kernel_rfl) (by kernel_rfl) (eU Z)<|y8 (i:=7) Z (by kernel_rfl) (by kernel_rfl) (by kernel_rfl) (zw Z)<|y8 (i:=8) Z (by kernel_rfl) (by kernel_rfl) (by kernel_rfl) (zc jf Z Ya (by decide) Z Z)<|y8 (i:=9) Z (by kernel_rfl) (by kernel_rfl) (by kernel_rfl) (zj (c:=.own _ _) Yi Z ⟨_,.head⟩ Z)<|y8 (i:=10) Z (by kernel_rfl) (by kernel_rfl) (by kernel_rfl) (eK jq Z je Z Z)<|y8 (i:=11) Z (by kernel_rfl) (by kernel_rfl) (by kernel_rfl) (gH jj Z)<|y8 (i:=12) Z (by kernel_rfl) (by kernel_rfl) (by kernel_rfl) (eU Z)<|y8 (i:=13) Z (by kernel_rfl) (by kernel_rfl) (by kernel_rfl) (zw Z)<|y8 (i:=14) Z (by kernel_rfl) (by kernel_rfl) (by kernel_rfl) (zc jf Z jm (by decide) Z Z)<|y8 (i:=15) Z (by kernel_rfl) (by kernel_rfl) (by kernel_rfl) (zj (c:=.own _ _) jw Z ⟨_,.head⟩ Z)<|y8 (i:=16) Z (by kernel_rfl) (by kernel_rfl) (by kernel_rfl) (eK jq Z je Z Z)<|y8 (i:=17) Z (by kernel_rfl) (by kernel_rfl) (by kernel_rfl) (gH jj Z)<|y8 (i:=18) Z (by kernel_rfl) (by kernel_rfl) (by kernel_rfl) (kP Z)<|y8 (i:=19) Z (by kernel_rfl) (by kernel_rfl) (by kernel_rfl) (kP Z)<|y8 (i:=20) Z (by kernel_rfl) (by kernel_rfl) (by kernel_rfl) (d9 Z)<|y8 (i:=21) Z (by kernel_rfl) (by kernel_rfl) (by kernel_rfl) (yj (j:=k) jd je Z Z Z ⟨_,.t4⟩ ((aJ _).trans (nZ (Nat.le_refl _))) hk2)<|y8 (i:=22) Z (by kernel_rfl) (by kernel_rfl) (by kernel_rfl) (qn (j:=k) jj Z ⟨_,.t4⟩ hgg)<|y8 (i:=23) Z (by kernel_rfl) (by kernel_rfl) (by kernel_rfl) (yj (j:=(bv p s.blk).toNat) jr Z8 Z Z (w8 v0).symm ⟨_,.t1⟩ ((aJ _).trans hl1) (by omega))<|y8 (i:=24) Z (by kernel_rfl) (by kernel_rfl) (by kernel_rfl) (qn (j:=(bv p s.blk).toNat) Y9 Z ⟨_,.t1⟩ (fa (by omega) v0))<|y8 (i:=25) Z (by kernel_rfl) (by kernel_rfl) (by kernel_rfl) (kP Z)<|y8 (i:=26) Z (by kernel_rfl) (by kernel_rfl) (by kernel_rfl) (kP Z) ?_
    refine y8 (i:=27) Z (by kernel_rfl) (by kernel_rfl) (by kernel_rfl) (d9 Z)<|y8 (i:=28) Z (by kernel_rfl) (by kernel_rfl) (by kernel_rfl) (yj (j:=k) jd je Z Z Z ⟨_,.t4⟩ ((aJ _).trans (nZ (Nat.le_refl _))) hk2)<|y8 (i:=29) Z (by kernel_rfl) (by kernel_rfl) (by kernel_rfl) (qn (j:=k) jj Z ⟨_,.t4⟩ hgg)<|y8 (i:=30) Z (by kernel_rfl) (by kernel_rfl) (by kernel_rfl) (yj (j:=(bv p s.blk).toNat) jn Z3 Z Z (w8 v0).symm ⟨_,.t2⟩ ((bt _).trans hl2) (by omega))<|y8 (i:=31) Z (by kernel_rfl) (by kernel_rfl) (by kernel_rfl) (Gv.loadB (j:=(bv p s.blk).toNat) Yc Z ⟨_,.t2⟩ (pF (by omega) v0))<|y8 (i:=32) Z (by kernel_rfl) (by kernel_rfl) (by kernel_rfl) (kP Z)<|y8 (i:=33) Z (by kernel_rfl) (by kernel_rfl) (by kernel_rfl) (kP Z)<|y8 (i:=34) Z (by kernel_rfl) (by kernel_rfl) (by kernel_rfl) (d9 Z)<|y8 (i:=35) Z (by kernel_rfl) (by kernel_rfl) (by kernel_rfl) (yj (j:=k) jd je Z Z Z ⟨_,.t4⟩ ((aJ _).trans (nZ (Nat.le_refl _))) hk2)<|y8 (i:=36) Z (by kernel_rfl) (by kernel_rfl) (by kernel_rfl) (qn (j:=k) jj Z ⟨_,.t4⟩ hgg)<|y8 (i:=37) Z (by kernel_rfl) (by kernel_rfl) (by kernel_rfl) (yj (j:=(bv p s.blk).toNat) jd je Z Z (w8 v0).symm ⟨_,.t3⟩ ((aJ _).trans hl3) (by omega))<|y8 (i:=38) Z (by kernel_rfl) (by kernel_rfl) (by kernel_rfl) (qn (j:=(bv p s.blk).toNat) jj Z ⟨_,.t3⟩ (fa (by omega) v0))<|qp (i:=39) Z (by kernel_rfl)<|za (yj (j:=p.dst.toNat) jr Z8 Z Z (w8 d0).symm ⟨_,.head⟩ ((aJ _).trans t1) (by omega))<|z7<|qp (i:=40) Z (by kernel_rfl)<|q8 (j:=p.dst.toNat) Z8 Z Z .head (by first|omega|(simp;omega))<|z7<|qp (i:=41) Z (by kernel_rfl)<|za (yj (j:=p.dst.toNat) jn Z3 Z Z (w8 d0).symm ⟨_,.t1⟩ ((bt _).trans t2) (by omega))<|z7<|qp (i:=42) Z (by kernel_rfl)<|qe (j:=p.dst.toNat) Z3 Z Z .t1 (by first|omega|(simp;omega))<|z7<|qp (i:=43) Z (by kernel_rfl)<|za (yj (j:=p.dst.toNat) jd je Z Z (w8 d0).symm ⟨_,.t2⟩ ((aJ _).trans t3) (by omega))<|z7<|qp (i:=44) Z (by kernel_rfl)<|q8 (j:=p.dst.toNat) je Z Z .t2 (by first|omega|(simp;omega))<|z7<|iy.done (by kernel_rfl)<|bi<|aC Z Z<|aa Z<|z7 ?_
    exact ⟨k+1,vw,aW,⟨_,(.refl _),by rw[GU hk2,hp];rfl⟩,hk2,by omega⟩
   ·obtain rfl:k=B.phis.length:=by simp at ck;omega
    refine yc (aX.drop .t1)<|yc (aX.drop .t1)<|yc (aX.drop .t1)<|yc (aX.drop .t1)<|zz<|bi<|bn Z<|bn Z<|aa Z<|az Z<|za (zc jf Z je (by decide) Z Z)<|yg (l:=[_]) (new:=[_,_,_,_,_,_,_,_,_,_,_,_,_,_,_,_,_,_,_,_,_,_,_]) je Z Z Z Z Z Z .head Z Z<|az Z<|za (zc jf Z je (by decide) Z Z)<|yg (l:=[_]) (new:=[_,_,_,_,_,_,_,_,_,_,_,_,_,_,_,_,_,_,_,_,_,_,_]) je Z Z Z Z Z Z .head Z Z<|z7<|yx ?_
    exact ⟨by rw[hE];show _=(Dt B.phis s B.phis.length).arrays.length;rw[C1];exact hids,rfl,by rw[hE];rfl⟩
end
section
open Go.Proofs.Tryz
open Go.Proofs Go.Lib Go.Shelf Go.RowKit
variable {E:World}
set_option maxRecDepth 20000
theorem C2 {f:ab} {s:GS} {x:bc} (h:(blkG f s.blk).insts[s.pc]?=some x):cU f s=bV { s with pc:=s.pc+1,st:=s.st+1 } x:=by unfold cU;rw[h]
theorem EK {f:ab} {s:GS} (h:(blkG f s.blk).insts[s.pc]?=none):cU f s=if (blkG f s.blk).term.kind=2 then cP { s with st:=s.st+1,val:=vi s.ints (blkG f s.blk).term.var } 0 else dB f { s with st:=s.st+1 } (gc f s):=by unfold cU;rw[h]
theorem EL {f:ab} {t:cC} (h:bj f t=true) (hk:¬t.kind=0):t.var<f.vars.length∧0≤t.var:=dU (f8 h hk)
set_option maxHeartbeats 8000000 in
theorem pH (f:ab) (iw ja jb jc jo jt:Nat) (ids:List Nat) (s:GS) (hids:ids.length=s.arrays.length) (hg:bB f s) (hR:pd f) (hv:f.vars.length≤1000) (hs:small f) (hst:s.st≤1000000000) (hck:∀i,s.ck i≤1000000000):bY prog E 16 [.po iw 0] (wO f iw ja jb jc jo jt ids s) (fun y O=>∃jo' jt' ids',ids'.length=(cU f s).arrays.length∧y=.tup []∧O=wO f iw ja jb jc jo' jt' ids' (cU f s)):=by
 have hB:=sv hg.b0 hg.b1
 have hBm:=w0 hB
 have hsm:=(hs.2.2.2.2 _ hBm).2.2.1
 have hpc:=hg.pc
 have hin:=hR.insts _ hBm
 have htm:=hR.term _ hBm
 have hi:=@C2 f s
 have he:=@EK f s
 obtain ⟨B,hBe⟩:∃B,blkG f s.blk=B:=⟨_,rfl⟩
 have hnx:gc f s=if B.term.kind=0∨gb s.bools B.term.var=true then B.term.to0 else B.term.to1:=by rw[←hBe];rfl
 have hnt:=xA hR hg
 rw[hBe] at hB hsm hpc hin htm hi he hnt
 have hl1:=hg.li
 have hl2:=hg.lb
 have hgu:bB f { s with st:=s.st+1 }:=hg.up _ s.val
 refine zo func16 Z (by decide) Z<|ah<|bn Z<|az Z<|za (zc jf Z Z7 (by decide) Z Z)<|za (zc jy Z je (by decide) Z Z)<|za (zj (c:=.int _ _) jj Z ⟨_,.head⟩ Z)<|aC Z Z<|az Z<|za (zc jf Z Z7 (by decide) Z Z)<|za (zc jy Z je (by decide) Z Z)<|yg (l:=[_]) (new:=[_,_,_,_,_,_,_,_,_,_,_,_,_,_,_,_,_,_,_,_,_,_,_]) je Z Z Z Z Z Z .head Z Z<|z7<|zb<|zq (fun j=>Nat.beq j 12) (by kernel_rfl) Z (zu (.r (.rest _)))<|ak 0 Z (eU Z)<|ak 1 Z (zw Z)<|ak 2 Z (zc jf Z jk (by decide) Z Z)<|ak 3 Z (zc ji Z Z0 (by decide) Z Z)<|ak 4 Z (zj (c:=.fro _ _) Z6 Z ⟨_,.head⟩ Z)<|ak 5 Z (eU Z)<|ak 6 Z (zw Z)<|ak 7 Z (zc jf Z je (by decide) Z Z)<|ak 8 Z (zj (c:=.int _ _) jj Z ⟨_,.head⟩ Z)<|ak 9 Z (cH s.blk.toNat jl jv Z Z (w8 hg.b0).symm hB)<|ak 10 Z (yv Zu jv Z Z)<|bO 11 Z<|zy (cs:=[.str ⟨#[]⟩,.raw (.slice none 0 0),.raw (.slice none 0 0),.int .i64 0,.int .i64 0,.int .i64 0,.int .i64 0]) Zc Z Z<|fun i2=>z7<|yi<|yk (i:=12) Z (by kernel_rfl) (by kernel_rfl)<|zt jv Z Z Z Z Z Z .t1 Z<|z7<|yl (by kernel_rfl)<|yc (yo (t:=2) Z .t1)<|zb<|zb<|zq (fun j=>false) (by kernel_rfl) Z (zu (.r (.rest _)))<|ak 0 Z (eU Z)<|ak 1 Z (zw Z) ?_
 refine ak 2 Z (zc jf Z je (by decide) Z Z)<|ak 3 Z (zj (c:=.int _ _) jj Z ⟨_,.head⟩ Z)<|ak 4 Z (eK jh Z Zi Z Z)<|ak 5 Z (lL Zy Z)<|ak 6 Z (Gv.lenM jz Z)<|ak 7 Z (Gv.lss Z Z)<|eG<|zm Z (fun cp=>?_) (fun cp=>?_)
 ·have hp:s.pc<B.insts.length:=by simp at cp;omega
  obtain ⟨x,hx⟩:∃x,B.insts[s.pc]=x:=⟨_,rfl⟩
  have hxg:B.insts[s.pc]?=some x:=by rw[qq hp,hx]
  obtain ⟨hix,h64⟩:=hin x (w0 hxg)
  have hS:=hi hxg
  have hg2:bB f { s with pc:=s.pc+1,st:=s.st+1 }:=⟨hg.li,hg.lb,hg.la,hg.i64,hg.arr,hg.ls,hg.lr,hg.r64,hg.lt,hg.b0,hg.b1,by show s.pc+1≤(blkG f s.blk).insts.length;rw[hBe];exact hp⟩
  refine ah<|bn Z<|az Z<|za (zc jf Z je (by decide) Z Z)<|za (zj (c:=.int _ _) jj Z ⟨_,.head⟩ Z)<|aC Z Z<|az Z<|za (zc jf Z je (by decide) Z Z)<|yg (l:=[_]) (new:=[_,_,_,_,_,_,_,_,_,_,_,_,_,_,_,_,_,_,_,_,_,_,_]) je Z Z Z Z Z Z .head Z Z<|z7<|zb<|zq (fun j=>false) (by kernel_rfl) Z (zu (.rest _))<|ak 0 Z (eU Z)<|ak 1 Z (eK jh Z Zi Z Z)<|ak 2 Z (lL Zy Z)<|ak 3 Z (eU Z)<|ak 4 Z (zw Z)<|ak 5 Z (zc jf Z je (by decide) Z Z)<|bO 6 Z<|za (zj (c:=.int _ _) jj Z ⟨_,.head⟩ Z)<|z7<|ak 7 Z (Gv.sub Z Z (by unfold ko;omega))<|ak 8 Z (cH s.pc jz Z5 Z Z (by omega) hxg)<|ak 9 Z (yv Yd Z5 Z Z)<|bO 10 Z<|yu Z (zu (.l (.l (.l (.l (.l (.l (.l (.rest _))))))))) (wl f iw ja jb jc jo jt ids { s with pc:=s.pc+1,st:=s.st+1 } x hids hg2 hix hv hck) ?_
  rintro r49 O49 ⟨jo',jt',ids',hl',rfl,rfl⟩
  refine z7<|eG<|zf<|yx ?_
  exact ⟨jo',jt',ids',by rw[hS];exact hl',rfl,by rw[hS];rfl⟩
 ·have hp:B.insts[s.pc]?=none:=by rw[List.getElem?_eq_none];simp at cp;omega
  have hS:=he hp
  refine ze<|ah<|aq jh Z Z4 Z Z<|ac Yo Z4 Z Z<|zy (cs:=[.int .i64 0,.int .i64 0,.int .i64 0,.int .i64 0]) zeroValue58 Z Z<|fun i3=>zt Z4 Z Z Z Z Z Z .head Z<|zx (yo (t:=3) Z .head)<|z7<|zg<|ah<|aq jg Z Zn Z Z<|aE Zs Z<|ax Z Z<|ad Z<|z7<|zm Z (fun ck=>?_) (fun ck=>?_)
  ·have ck:B.term.kind=2:=by simpa using ck
   rw[if_pos ck] at hS
   obtain ⟨v1,v0⟩:=EL htm (by omega)
   refine zb<|zq (fun j=>Nat.beq j 12) (by kernel_rfl) Z (zu (.r (.r (.r (.rest _)))))<|ak 0 Z (eU Z)<|ak 1 Z (eU Z)<|ak 2 Z (zw Z)<|ak 3 Z (zc jf Z Za (by decide) Z Z)<|ak 4 Z (zj (c:=.own _ _) Zk Z ⟨_,.head⟩ Z)<|ak 5 Z (eK jg Z je Z Z)<|ak 6 Z (gH jj Z)<|ak 7 Z (yj (j:=B.term.var.toNat) jr Z8 Z Z (w8 v0).symm ⟨_,.t1⟩ ((aJ _).trans hl1) (by omega))<|ak 8 Z (qn (j:=B.term.var.toNat) Y9 Z ⟨_,.t1⟩ (fa (by omega) v0))<|yr (i:=9) Z (by kernel_rfl) (by kernel_rfl) (by kernel_rfl) (by kernel_rfl) (zw Z)<|yr (i:=10) Z (by kernel_rfl) (by kernel_rfl) (by kernel_rfl) (by kernel_rfl) (zc jf Z Z7 (by decide) Z Z)<|ak 11 Z (zc jy Z Z8 (by decide) Z Z)<|yi<|yk (i:=12) Z (by kernel_rfl) (by kernel_rfl)<|yg (l:=[_]) (new:=[_,_,_,_,_,_,_,_,_,_,_,_,_,_,_,_,_,_,_,_,_,_,_]) Z8 Z Z Z Z Z Z .head Z Z<|z7<|yl (by kernel_rfl)<|bi<|bn Z<|yu Z (zu (.l (.l (.l (.l (.l (.l (.l (.rest _))))))))) (dI f iw ja jb jc jo jt ids { s with st:=s.st+1,val:=vi s.ints B.term.var } 0) ?_
   rintro r74 O74 ⟨rfl,rfl⟩
   refine z7<|yx ?_
   exact ⟨jo,jt,ids,by rw[hS];exact hids,rfl,by rw[hS];rfl⟩
  ·have ck:¬B.term.kind=2:=by simpa using ck
   rw[if_neg ck] at hS
   obtain ⟨g0,g1⟩:=hnt ck
   refine zb<|zq (fun j=>false) (by kernel_rfl) Z (zu (.r (.r (.r (.rest _)))))<|ak 0 Z (eK jg Z Zn Z Z)<|ak 1 Z (gH Zs Z)<|ak 2 Z (Gv.eqlI Z Z)<|ak 3 Z (DQ Z)<|bJ.case (s:=79) Z (fun c0=>?_) (fun c0=>?_)
   ·have d0:B.term.kind=0:=by simpa using c0
    rw[if_pos (.inl d0)] at hnx
    rw[hnx] at hS g0 g1
    refine d5 4 Z Z Z c0<|d5 5 Z Z Z c0<|d5 6 Z Z Z c0<|d5 7 Z Z Z c0<|d5 8 Z Z Z c0<|d5 9 Z Z Z c0<|d5 10 Z Z Z c0<|d5 11 Z Z Z c0<|ak 12 Z (DR Z c0 Z)<|ak 13 Z (xg Z)<|eG<|yt Z Z<|bi<|bn Z<|aq jg Z Z2 Z Z<|za (yw (j:=0) ju je Z Z Z (by decide) Z)<|aE jj Z<|yu Z (zu (.l (.l (.l (.l (.l (.l (.l (.rest _))))))))) (ki f iw ja jb jc jo jt ids { s with st:=s.st+1 } B.term.to0 hids hgu hR hv hs g0 g1) ?_
    rintro r93 O93 ⟨hl',rfl,rfl⟩
    refine z7<|yx ?_
    exact ⟨jo,jt,ids,by rw[hS];exact hl',rfl,by rw[hS];rfl⟩
   ·have d0:¬B.term.kind=0:=by simpa using c0
    obtain ⟨v1,v0⟩:=EL htm d0
    refine fJ 4 Z Z Z c0 (eU Z)<|fJ 5 Z Z Z c0 (zw Z)<|fJ 6 Z Z Z c0 (zc jf Z Ya (by decide) Z Z)<|fJ 7 Z Z Z c0 (zj (c:=.own _ _) Yi Z ⟨_,.head⟩ Z)<|fJ 8 Z Z Z c0 (eK jg Z je Z Z)<|fJ 9 Z Z Z c0 (gH jj Z)<|fJ 10 Z Z Z c0 (yj (j:=B.term.var.toNat) jn Z3 Z Z (w8 v0).symm ⟨_,.t2⟩ ((bt _).trans hl2) (by omega))<|fJ 11 Z Z Z c0 (Gv.loadB (j:=B.term.var.toNat) Yc Z ⟨_,.t2⟩ (pF (by omega) v0))<|ak 12 Z (Ds Z c0 Z)<|ak 13 Z (xg Z)<|eG<|zr Z (fun cw=>?_) (fun cw=>?_)
    ·have cw:gb s.bools B.term.var=true:=cw
     rw[if_pos (.inr cw)] at hnx
     rw[hnx] at hS g0 g1
     refine bi<|bn Z<|aq jg Z Z2 Z Z<|za (yw (j:=0) ju je Z Z Z (by decide) Z)<|aE jj Z<|yu Z (zu (.l (.l (.l (.l (.l (.l (.l (.rest _))))))))) (ki f iw ja jb jc jo jt ids { s with st:=s.st+1 } B.term.to0 hids hgu hR hv hs g0 g1) ?_
     rintro r93 O93 ⟨hl',rfl,rfl⟩
     refine z7<|yx ?_
     exact ⟨jo,jt,ids,by rw[hS];exact hl',rfl,by rw[hS];rfl⟩
    ·have cw:gb s.bools B.term.var=false:=cw
     rw[if_neg (by rintro (h|h);exact d0 h;rw[cw] at h;cases h)] at hnx
     rw[hnx] at hS g0 g1
     refine bi<|bn Z<|aq jg Z Z2 Z Z<|za (yw (j:=1) ju je Z Z Z (by decide) Z)<|aE jj Z<|yu Z (zu (.l (.l (.l (.l (.l (.l (.l (.rest _))))))))) (ki f iw ja jb jc jo jt ids { s with st:=s.st+1 } B.term.to1 hids hgu hR hv hs g0 g1) ?_
     rintro r56 O56 ⟨hl',rfl,rfl⟩
     refine z7<|yx ?_
     exact ⟨jo,jt,ids,by rw[hS];exact hl',rfl,by rw[hS];rfl⟩
end
end Go.Proofs.YtjpnhkmfhlnpcaaGreatDoor
