/- Bounds by rounds: the program's answer on both sides. Of programs that are little. -/
import Derived.Test.YtbanfokidalbaaaGreatDoorJn
import Derived.Test.YtbanfokidalbaaaGreatDoorJu
set_option linter.unusedVariables false
set_option linter.unusedSimpArgs false
set_option linter.unusedSectionVars false
namespace Go.Proofs.YtbanfokidalbaaaGreatDoor
section
open Go.Proofs.Tryz
open Go.Proofs
theorem GN {α:Type} [Inhabited α] (c:fj α):∀(l:List α) (t:Nat),t<l.length*c.k→(c.vs l)[t]?=some (c.val l[t / c.k]!)[t % c.k]!
 |[],t,h=>by simp at h
 |x::l,t,h=>by
  have e:c.vs (x::l)=c.val x++c.vs l:=by unfold fj.vs;rw[List.flatMap_cons]
  rw[e]
  by_cases ht:t<c.k
  ·rw[List.getElem?_append_left (by rw[c.len];exact ht),Nat.div_eq_of_lt ht,Nat.mod_eq_of_lt ht,List.getElem!_cons_zero,qq (by rw[c.len];exact ht),getElem!_pos (c.val x) t (by rw[c.len];exact ht)]
  ·obtain ⟨s,rfl⟩:∃s,t=s+c.k:=⟨t - c.k,by omega⟩
   rw[List.getElem?_append_right (by rw[c.len];omega),c.len,Nat.add_sub_cancel,Nat.add_div_right _ c.pos,Nat.add_mod_right,List.getElem!_cons_succ]
   exact GN c l s (by rw[List.length_cons,Nat.add_mul,Nat.one_mul] at h;omega)
theorem jF (zl:List Value) (m:Nat) (h0:0<zl.length) (h1:∀u∈zl,u.oneCell'=true):madeCells zl.toArray (m*zl.length)=(List.replicate m zl).flatten.toArray:=by
 let c:fj Unit:=⟨zl.length,fun _=>zl,h0,fun _=>rfl,fun _=>h1⟩
 have e:(List.replicate m zl).flatten=c.vs (List.replicate m ()):=by
  show _=(List.replicate m ()).flatMap fun _=>zl
  rw[List.flatMap,List.map_replicate]
 rw[e]
 apply Array.ext_getElem?
 intro t
 have e3:(c.vs (List.replicate m ())).toArray[t]?=(c.vs (List.replicate m ()))[t]?:=List.getElem?_toArray
 rw[e3]
 by_cases ht:t<m*zl.length
 ·rw[GN c _ t (by rw[List.length_replicate];exact ht)]
  unfold madeCells
  rw[Array.getElem?_map,Array.getElem?_range,if_pos ht]
  show some (zl.toArray[t % zl.toArray.size]!)=some (zl[t % zl.length]!)
  simp
 ·rw[Array.getElem?_eq_none (by rw[size_madeCells];omega),List.getElem?_eq_none (by rw[c.vs_len,List.length_replicate];show m*zl.length≤t;omega)]
section
variable {E:World} {P:Program} {ops:Array Oper} {K:aS→OL→Prop} {env:aS} {O:OL} {rest:List Oper} {d ty:Nat} {pos:String} {af:Array Edge} {x y:Operand} {t e:TypeId}
theorem az.makeZ {i:TypeInfo} {zv:Value} {m:Nat} {k1 k2:IntKind} {l l':Int} (zl:List Value) (ht:P.underlying t=some (.slice e)) (hi:P.info? e=some i) (hz:i.zero=some zv) (hzc:zv.cells=zl.toArray) (hk:i.size=zl.length) (h0:0<zl.length) (h1:∀u∈zl,u.oneCell'=true) (hx:bb env x=.int k1 l) (hy:bb env y=.int k2 l')
  (hl:l=(m:Int)) (hl':l'=(m:Int)) (hb:(i.bytes:Int)*(m:Int)≤281474976710656) (hm:m≤281474976710656) (kk:∀j,az P E ops K rest (bC env d (.own j m)) ((j,.grow zl.length e (List.replicate m (zl.map lit)).flatten)::O)) :
  az P E ops K (Oper.mk (some d) (.makeSlice t x y) ty pos af none::rest) env O:=fun I F ρ w g1 g2=>by
 obtain ⟨L,hL,hS⟩:=g2.2
 obtain ⟨j,hj⟩:=g2.name
 have hx:=fY g1 hx
 have hy:=fY g1 hy
 refine bP.step Z ?_
 unfold eY
 subst hl hl'
 have hrun:=run_make (P:=P) w t e i zv ht hi hz k1 k2 m m (by omega) (by omega) hb (by omega)
 rw[hzc,hk,Int.toNat_natCast,jF zl m h0 h1] at hrun
 have hrun:(execOp (Go.Proofs.YtbanfokidalbaaaGreatDoor.ev ρ) (Oper.mk (some d) (.makeSlice t x y) ty pos af none)).run P w=.ok (.value (.slice (some ⟨w.heap.size,0,none⟩) m m)) (w.alloc (.cells (List.replicate m zl).flatten.toArray e)):=by
  simp[execOp,hx,hy,hrun]
 rw[hrun]
 obtain ⟨J,e1,hle,e2,htop⟩:=hj (some w.heap.size,m)
 have hrep:RepL J (List.replicate m (zl.map lit)).flatten (List.replicate m zl).flatten:=by
  have:=dx J (List.replicate m zl).flatten
  rwa [List.map_flatten,List.map_replicate] at this
 have hS':=hS.alloc (.cells (List.replicate m zl).flatten.toArray e)
 refine q3 (fun _ _=>qp hle) _ _ _ (kk j J F _ _ ((g1.mono hle).upd d ⟨_,m,e2,rfl⟩) ⟨htop,_,⟨[(w.heap.size,.cells (List.replicate m zl).flatten.toArray e (0,0))],L,rfl,⟨some w.heap.size,m,m,_,e2,hrep,(fun u hu=>by
  obtain ⟨r,hr,hu⟩:=List.mem_flatten.1 hu
  rw[List.eq_of_mem_replicate hr] at hu
  exact h1 u hu),fT.made (by simp[Nat.mul_comm])⟩,hL.mono hle⟩,by rw[e1];exact hS'⟩)
end
end
section
open Go.Proofs.Tryz
open Go.Proofs Go.Lib Go.Shelf Go.RowKit
theorem Nt:el prog 60 #[(0,1),(1,1)] [.bool false,.int .i64 0]:=⟨_,_,Zy,zeroValue60,fun w=>by kernel_rfl,rfl⟩
theorem KT:dM prog 30 60 1 2 [.bool false,.int .i64 0]:=⟨_,Zi,Yw,zeroValue60,by decide,by decide,by kernel_rfl⟩
theorem Nu:el prog 78 #[(0,1),(1,1),(2,1),(3,1),(4,1),(5,1)] [.bool false,.int .i64 0,.raw (.slice none 0 0),.raw (.map none),.raw (.map none),.raw (.slice none 0 0)]:=⟨_,_,Z6,zeroValue78,fun w=>by kernel_rfl,rfl⟩
variable {E:World}
set_option maxRecDepth 20000
theorem Ek (S:Sd) (rows:List (List dI)) (P Sh:List (Int × AV)) (hW:Lr S rows P Sh) (bp bs i:Nat) (T:TypeId) (k:Nat) :
  ba prog E 42 [JU S rows bp bs i,.int .i64 ((k:Int)+1)] (EI i T (fw S k) bp bs P Sh) fun y O=>y=.bool (l3 S k)∧O=EI i T (fw S (k+1)) bp bs P Sh:=by
 have h:=AO (E:=E) S rows P Sh hW (fw S k) (ll hW.s0 hW.s1 k) bp bs i T ((k:Int)+1)
 rw[show decide (4≤(k:Int)+1)=decide (4≤k+1) from decide_eq_decide.2 (by omega)] at h
 exact h
theorem GO (n:Nat):(List.replicate n [AV.int .i64 0,AV.int .i64 0]).flatten=lC (List.replicate n ((0,0):be)):=by
 rw[←IW,List.map_replicate];rfl
theorem Left.noneU:∀O:OL,Left O []
 |[]=>Left.refl []
 |x::O=>by obtain ⟨O2,h,e⟩:=Left.noneU O;exact ⟨O2,.drop h,e⟩
def Lt (l:List EH):List AV:=(l.map ng).flatten
theorem I7 (l:List EH):(Lt l).length=l.length*2:=by
 unfold Lt
 induction l with
 |nil=>rfl
 |cons x l ih=>rw[List.map_cons,List.flatten_cons,qw,ih];simp[ng];omega
set_option maxHeartbeats 8000000 in
theorem nB (S:Sd) (rows:List (List dI)) (P Sh:List (Int × AV)) (hW:Lr S rows P Sh) (K:Nat) (hK:oE S K) (hKb:K≤4611686018427387904) (bp bs j:Nat) :
  ba prog E 20 [.po j 0] [(j,.cells 78 (ol S.up S.s (ma rows) bp bs (.raw (.slice none 0 0)))),(0,bj bp P),(0,bj bs Sh)] fun y O=>y=.fro 2 ((n6 S K).map fun m=>ng (mL m))∧O=[]:=by
 have hn:=hW.nl
 have hs0:=hW.s0
 have hs1:=hW.s1
 have hrl:=hW.rlen
 have hsn:((S.s.toNat:Nat):Int)=S.s:=wa hs0
 have hgrow:=fun i T k=>Ek (E:=E) S rows P Sh hW bp bs i T k
 have hshr:=fun i T A hA=>u7 (E:=E) S rows P Sh hW A hA bp bs i T
 have hseq:=ll hs0 hs1 (K+1)
 have hend:iU S (n6 S K):=ky hs0 hseq 2
 have hel:=hend.len
 have hrep:(List.replicate (S.n+1) ((0,0):b7)).length=S.n+1:=List.length_replicate
 refine ba.now2 ?_
 unfold EI JU at hgrow hshr
 unfold ol at hgrow hshr ⊢
 refine zo func20 Z (by decide) Z<|ah<|bV Z<|z6<|zc<|yf (γ:=Nat) [0] (fun z=>[]) (fun z=>[(z,.grow 2 115 (lC (List.replicate (S.n+1) ((0,0):be)))),(j,.cells 78 (ol S.up S.s (ma rows) bp bs (.own z (S.n+1)))),(0,bj bp P),(0,bj bs Sh)]) (fun z=>True) ?_ (fun _ _ h=>h) ?_
 ·refine aM<|aY Z<|aY Z<|za (yc Z)<|za (zr Z6 Z sizeOf73 (by decide) Z Z)<|za (zw (c:=.fro _ _) isAgg73 Z ⟨_,.head⟩ Z)<|ak X9 Z<|az.makeZ (m:=S.n+1) [.int .i64 0,.int .i64 0] Y2 type115 Z Z Z (by decide) (by decide) Z Z (by simp[hrl]) (by simp[hrl]) (by show (16:Int)*_≤_;omega) (by omega)<|fun i13=>za (yc Z)<|za (zr Z6 Z X0 (by decide) Z Z)<|qg (l:=[_]) (new:=[_,_,_,_,_,_]) X0 Z Z Z Z Z Z .t1 Z Z<|z6 ?_
  exact ⟨i13,aG,trivial,⟨_,(.refl _),(by rw[←GO];rfl)⟩,trivial⟩
 ·rintro z _
  refine zc<|yf (γ:=Unit) [0] (fun w=>[]) (fun w=>[(j,.cells 78 (ol S.up S.s (ma rows) bp bs (.own z (S.n+1)))),(z,.grow 2 115 (lC (fw S 0))),(0,bj bp P),(0,bj bs Sh)]) (fun w=>True) ?_ (fun _ _ h=>h) ?_
  ·refine y7 (fun j=>Nat.beq j 10) (by kernel_rfl) Z (zn (.l (.r (.rest _))))<|au 0 Z (l2 Z)<|au 1 Z (yc Z)<|au 2 Z (zr Z6 Z X0 (by decide) Z Z)<|au 3 Z (zw (c:=.own _ _) Xc Z ⟨_,.head⟩ Z)<|au 4 Z (l2 Z)<|au 5 Z (yc Z)<|au 6 Z (zr Z6 Z ja (by decide) Z Z)<|au 7 Z (zw (c:=.int _ _) jc Z ⟨_,.head⟩ Z)<|au 8 Z (zz (cps:=[(0,[_])]) (rs:=[_,.int .i64 0]) rS Z Z Z)<|aV 9 Z<|za (qk (j:=S.s.toNat) Y2 jy Z Z (by omega) ⟨_,.head⟩ hrep (by omega))<|z6<|yx<|q1 (i:=10) Z (by kernel_rfl) (by kernel_rfl)<|az.storeR (r:=(1,0)) (j:=S.s.toNat) jy Z Z .t1 (by rw[hrep];omega)<|z6<|yz (by kernel_rfl) ?_
   exact ⟨(),aG,trivial,aC,trivial⟩
  ·rintro _ _
   refine zc<|ah<|ay Z<|z6<|yg (yd (t:=0) Z .head)<|zh<|ya (γ:=Nat) [0] (fun k=>[(3,.int .i64 ((k:Int)+1))]) (fun k=>[(z,.grow 2 115 (lC (fw S k))),(0,bj bp P),(0,bj bs Sh)]) (fun k=>k≤K) (fun k=>K - k) 0 aG aC (qt _) ?_
   rintro k hk
   refine zc<|ah<|za (gS Z)<|aa Z<|zu Z (zn (.l (.l (.l (.rest _))))) (hgrow z _ k) ?_
   rintro r28 O28 ⟨rfl,rfl⟩
   refine z6<|zt Z (fun c=>?_) (fun c=>?_)
   ·have c:l3 S k=true:=c
    have hk2:k<K:=by
     rcases (by omega:k<K∨k=K) with h|h
     ·exact h
     ·rw[h,hK.still] at c;cases c
    refine zd<|zc<|zh<|zd<|aM<|aa Z<|aA Z Z<|ay Z<|z6 ?_
    exact ⟨k+1,aG,aG,aC,hk2,by omega⟩
   ·have c:l3 S k=false:=c
    have hkK:k=K:=by
     rcases (by omega:k<K∨k=K) with h|h
     ·rw[hK.moves k h] at c;cases c
     ·exact h
    subst hkK
    refine y9<|zc<|ah<|aa Z<|z6<|zh<|ya (γ:=Nat) [0] (fun q=>[(31,.int .i64 q)]) (fun q=>[(z,.grow 2 115 (lC (uF S (fw S (k+1)) q))),(0,bj bp P),(0,bj bs Sh)]) (fun q=>q≤2) (fun q=>2 - q) 0 aG aC (qt _) ?_
    rintro q hq
    refine ah<|aw Z Z<|z6<|zc<|zp Z (fun cq=>?_) (fun cq=>?_)
    ·refine zd<|zc<|zh<|aM<|za (gS Z)<|zu Z (zn (.l (.l (.l (.rest _))))) (hshr z _ (uF S (fw S (k+1)) q) (ky hs0 hseq q)) ?_
     rintro r34 O34 ⟨rfl,rfl⟩
     refine z6<|aM<|aA Z Z<|aa Z<|z6 ?_
     exact ⟨q+1,aG,aG,aC,by omega,by omega⟩
    ·obtain rfl:q=2:=by omega
     obtain ⟨A,hAe⟩:∃A,n6 S k=A:=⟨_,rfl⟩
     have hAe2:uF S (fw S (k+1)) 2=A:=hAe
     rw[hAe2]
     rw[hAe] at hel ⊢
     refine y9<|ah<|bV Z<|z6<|dh (t:=4) (k:=2) (T:=60) Z<|fun i4=>zc<|ah<|za (gS Z)<|za (yr Z)<|ae Z6 Z X0 Z Z<|za (yo (c:=.own _ _) Xc Z)<|za (Gv.lenO Y2 Z)<|aa Z<|z6<|zh<|ya (γ:=Nat × Nat) [39,40] (fun g=>[(41,.int .i64 g.1),(4,.own g.2 g.1)]) (fun g=>[(g.2,.grow 2 60 (Lt ((A.map mL).take g.1))),(z,.grow 2 115 (lC A)),(0,bj bp P),(0,bj bs Sh)]) (fun g=>g.1≤S.n+1) (fun g=>S.n+1 - g.1) (0,i4) di aC (qt _) ?_
     rintro ⟨m,io⟩ hm
     try dsimp only at *
     refine ah<|aw Z Z<|z6<|zc<|zp Z (fun cm=>?_) (fun cm=>?_)
     ·have hm2:m<A.length:=by simp at cm;omega
      obtain ⟨a,ha⟩:∃a,A[m]=a:=⟨_,rfl⟩
      have hga:A[m]?=some a:=by rw[qq hm2,ha]
      have hbl:(Lt ((A.map mL).take m)).length=m*2:=by rw[I7,w6,qx];congr 1;omega
      refine zd<|zc<|zh<|ah<|za (qk (j:=m) Y2 jy Z Z Z ⟨_,.t1⟩ hel (by omega))<|za (Gv.loadR (j:=m) Y3 jy Z ⟨_,.t1⟩ hga)<|zy (cs:=[.int .i64 0,.int .i64 0]) Yo Z Z<|fun i6=>zq jy Z Z Z Z Z Z .head Z<|z6<|zc<|ah<|za (zr Zj Z X6 (by decide) Z Z)<|za (zw (c:=.int _ _) Xe Z ⟨_,.head⟩ Z)<|aH Z Z<|z6<|yf (γ:=Unit) [4,6,39,40,41] (fun w=>[]) (fun w=>[(i6,.cells 115 [.int .i64 a.1,.int .i64 (mL a).2]),(io,.grow 2 60 (Lt ((A.map mL).take m))),(z,.grow 2 115 (lC A)),(0,bj bp P),(0,bj bs Sh)]) (fun w=>True) ?_ (fun _ _ h=>h) ?_
      ·refine zt Z (fun c1=>?_) (fun c1=>?_)
       ·have h1:=eB c1
        refine aM<|za (zr Zj Z ji (by decide) Z Z)<|qg (l:=[_]) (new:=[_,_]) ji Z Z Z Z Z Z .head Z Z<|z6 ?_
        exact ⟨(),iT,trivial,⟨_,(.refl _),(by rw[show (mL a).2=0 from if_neg h1];rfl)⟩,trivial⟩
       ·have h1:=eF c1
        refine zd ?_
        exact ⟨(),iT,trivial,⟨_,(.refl _),(by rw[show (mL a).2=a.2 from if_pos h1];rfl)⟩,trivial⟩
      ·rintro _ _
       refine aM<|bw Z<|za (zr Zj Z X6 (by decide) Z Z)<|za (zw (c:=.int _ _) Xe Z ⟨_,.head⟩ Z)<|aj Z Z<|za (zr Zj Z ji (by decide) Z Z)<|za (zw (c:=.int _ _) jp Z ⟨_,.head⟩ Z)<|za (zz (cps:=[(0,[_]),(1,[_])]) (rs:=[_,_]) Nt Z Z Z)<|y8 (rows:=[[_,_]]) KT Z Z Z Z Z<|yn (k:=2) Zi type60 Z Z Z Z Z (fun _=>.t1) hbl (by decide) Z (by show (_+1)*16≤_;omega) (by show _+1≤_;omega)<|fun i57=>bM Z<|z6<|yg (qi .head)<|aM<|aA Z Z<|aa Z<|z6 ?_
       exact ⟨(m+1,i57),di,di,⟨_,(.refl _),by rw[qr (by rw[qx];exact hm2),List.getElem_map,ha];unfold Lt;rw[List.map_append,List.flatten_append];rfl⟩,(by omega),by dsimp only;omega⟩
     ·have hmn:m=(A.map mL).length:=by rw[qx];simp at cm;omega
      subst hmn
      rw[qv]
      refine y9<|ah<|bw Z<|bM Z<|z6<|yg (aK.know (t:=2) (rows:=(A.map mL).map ng) Z .head (by (intro r hr;obtain ⟨x,_,rfl⟩:=List.mem_map.1 hr;rfl)) (by decide) (by (rw[qx])))<|zg<|zk (x:=.fro _ _) Z ?_
      exact ⟨by rw[List.map_map];rfl,Left.noneU _⟩
def Ny (up:Bool) (s:Int) (rows:List (List dI)) (m:Nat) (P Sh:List (Int × AV)) (g:Nat × Nat × Nat × Nat):OL:=
 [(g.1,.cells 78 (ol up s (dn g.2.1 m) g.2.2.1 g.2.2.2 (.raw (.slice none 0 0)))),(0,bj g.2.2.1 P),(0,bj g.2.2.2 Sh),(0,cJ eE 66 72 g.2.1 rows)]
theorem oL (f:ad) (hf:small f) (es:List dI) (hel:es.length≤80000000) (hto:∀e∈es,0≤e.2.1∧e.2.1≤f.vars.length) (s:Int) (up:Bool) :
  ba prog E 14 [.agg (bL f),.fro 3 (es.map gg),.int .i64 s,.bool up] [] fun y O=>∃g:Nat × Nat × Nat × Nat,y=.po g.1 0∧O=Ny up s (fM es (f.vars.length+1)) (f.vars.length+1) (iA (dS f f.blocks.length)) [] g∧True:=by
 have hvn:=hf.1
 have hn:=hf.2.2.1
 refine ba.exact (γ:=Nat × Nat × Nat × Nat) (x:=fun g=>.po g.1 0) (M:=fun g=>Ny up s (fM es (f.vars.length+1)) (f.vars.length+1) (iA (dS f f.blocks.length)) [] g) (p:=fun _=>True)<|zo func14 Z (by decide) Z<|ah<|yb (cs:=_) Z Z Z<|bV Z<|z6<|ah<|ai Z<|aa Z<|ae je Z Zg Z Z<|aI Zp Z<|ak js Z<|aA Z Z<|ye (m:=f.vars.length+1) X9 type66 Z Z Z Z Z (by simp) (by simp) (by show (24:Int)*_≤_;omega) (by omega) eE 72<|fun b22=>az.makeMapA<|fun b23=>az.makeMapA<|fun b24=>za (zz (cps:=[(0,[_]),(1,[_]),(2,[_]),(3,[_]),(4,[_])]) (rs:=[_,_,_,_,_,.raw (.slice none 0 0)]) Nu Z Z Z)<|yq (cs:=_) Z Z Z Z<|fun i26=>za (iQ Z)<|z6<|yg (zi (zj .t3))<|yg (zi (zj .t2))<|yg (zi (zj .t3))<|yg (zi (zj .t3))<|zc<|ah<|aU Z<|ak X4 Z<|aa Z<|z6<|zh<|ya (γ:=Nat) [4,9,27,28] (fun k=>[(29,.int .i64 k)]) (fun k=>[(i26,.cells 78 (ol up s (dn b22 (f.vars.length+1)) b23 b24 (.raw (.slice none 0 0)))),(0,bj b23 ([])),(0,bj b24 []),(0,cJ eE 66 72 b22 (fM (es.take k) (f.vars.length+1)))]) (fun k=>k≤es.length) (fun k=>es.length - k) 0 aG ⟨_,(.refl _),by rw[List.take_zero,←Dq];rfl⟩ (qt _) ?_
 rintro k hk
 refine ah<|aw Z Z<|z6<|zc<|zp Z (fun ck=>?_) (fun ck=>?_)
 ·have hk2:k<es.length:=by simp at ck;omega
  obtain ⟨e,he⟩:∃e,es[k]=e:=⟨_,rfl⟩
  have hge:es[k]?=some e:=by rw[qq hk2,he]
  have het:=hto e (he▸qu hk2)
  have hev:e.2.1=((e.2.1.toNat:Nat):Int):=(wa het.1).symm
  obtain ⟨es1,hes1⟩:∃es1,es.take k=es1:=⟨_,rfl⟩
  have hes2:es.take (k+1)=es1++[e]:=by rw[qr hk2,he,hes1]
  have hl1:es1.length≤80000000:=by rw[←hes1,w6];omega
  have hrl:=eT es1 (f.vars.length+1)
  have hrg:=gj (es:=es1) (m:=f.vars.length+1) (v:=e.2.1.toNat) (by omega)
  have hil:=tA es1 ((e.2.1.toNat:Nat):Int)
  have hpu:=zU (es:=es1) (m:=f.vars.length+1) hev
  rw[hes1]
  refine zd<|zc<|zh<|ah<|za (bD k X4 sizeOf72 Z Z Z hge)<|ab isAgg72 sizeOf72 Z Z<|zy (cs:=[.int .i64 0,.int .i64 0,.int .i64 0]) zeroValue72 Z Z<|fun i11=>zq sizeOf72 Z Z Z Z Z Z .head Z<|zf (yd (t:=11) Z .head)<|z6<|yf (γ:=Unit) [4,9,27,28,29] (fun w=>[]) (fun w=>[(i26,.cells 78 (ol up s (dn b22 (f.vars.length+1)) b23 b24 (.raw (.slice none 0 0)))),(0,bj b23 ([])),(0,bj b24 []),(0,cJ eE 66 72 b22 (fM (es1++[e]) (f.vars.length+1)))]) (fun w=>True) ?_ (fun _ _ h=>h) ?_
  ·refine y7 (fun j=>Nat.beq j 18) (by kernel_rfl) Z (zn (.r (.rest _)))<|au 0 Z (l2 Z)<|au 1 Z (yc Z)<|au 2 Z (zr Z6 Z sizeOf73 (by decide) Z Z)<|au 3 Z (zw (c:=dn _ _) isAgg73 Z ⟨_,.head⟩ Z)<|au 4 Z (cA underlying72 Z ja Z Z)<|au 5 Z (du jc Z)<|au 6 Z (l2 Z)<|au 7 Z (yc Z)<|au 8 Z (zr Z6 Z sizeOf73 (by decide) Z Z)<|au 9 Z (zw (c:=dn _ _) isAgg73 Z ⟨_,.head⟩ Z)<|au 10 Z (cA underlying72 Z ja Z Z)<|au 11 Z (du jc Z)<|au 12 Z (qe (j:=e.2.1.toNat) X9 X8 Z Z (by omega) (by omega))<|au 14 Z (yk isAgg72 sizeOf72 Z Z)<|yv (i:=13) (j:=15) Z Z (by kernel_rfl) ?_ ?_
   ·refine q5 (j:=e.2.1.toNat) (r:=fD es1 ((e.2.1.toNat:Nat):Int)) isAgg66 Z hrg (fun _=>.t2)<|fun i46=>z6<|aV 15 Z<|y8 (rows:=[[_,_,_]]) uX Z Z Z Z Z<|z6<|aV 16 Z<|yn (k:=3) X4 type72 Z Z Z Z Z (fun _=>.head) (by rw[eE.av_len];rfl) (by decide) Z (by show (_+1)*24≤_;omega) (by show _+1≤_;omega)<|fun i49=>z6<|au 17 Z (qe (j:=e.2.1.toNat) X9 X8 Z Z (by omega) (by omega))<|yx<|q1 (i:=18) Z (by kernel_rfl) (by kernel_rfl)<|qf (j:=e.2.1.toNat) (r:=fD es1 ((e.2.1.toNat:Nat):Int)++[e]) X8 Z Z (by omega) .t1 .t3 Z (eE.av_push _ _) (by simp)<|z6<|yz (by kernel_rfl) ?_
    exact ⟨(),iT,trivial,⟨_,(.refl _),(by rw[←hpu])⟩,trivial⟩
   ·refine y8 (rows:=[[_,_,_]]) uX Z Z Z Z Z<|z6<|aV 13 Z<|q5 (j:=e.2.1.toNat) (r:=fD es1 ((e.2.1.toNat:Nat):Int)) isAgg66 Z hrg (fun _=>.t2)<|fun i46=>z6<|aV 16 Z<|yn (k:=3) X4 type72 Z Z Z Z Z (fun _=>.head) (by rw[eE.av_len];rfl) (by decide) Z (by show (_+1)*24≤_;omega) (by show _+1≤_;omega)<|fun i49=>z6<|au 17 Z (qe (j:=e.2.1.toNat) X9 X8 Z Z (by omega) (by omega))<|yx<|q1 (i:=18) Z (by kernel_rfl) (by kernel_rfl)<|qf (j:=e.2.1.toNat) (r:=fD es1 ((e.2.1.toNat:Nat):Int)++[e]) X8 Z Z (by omega) .t1 .t3 Z (eE.av_push _ _) (by simp)<|z6<|yz (by kernel_rfl) ?_
    exact ⟨(),iT,trivial,⟨_,(.refl _),(by rw[←hpu])⟩,trivial⟩
  ·rintro _ _
   refine aM<|aA Z Z<|aa Z<|z6 ?_
   exact ⟨k+1,e7,aG,⟨_,(.refl _),by rw[hes2]⟩,hk2,by omega⟩
 ·have hkn:k=es.length:=by simp at ck;omega
  subst hkn
  rw[qv]
  refine y9<|zc<|ah<|ae je Z Ze Z Z<|aI Zl Z<|ak jk Z<|aa Z<|z6<|zh<|ya (γ:=Nat) [9,53,54] (fun k=>[(55,.int .i64 k)]) (fun k=>[(i26,.cells 78 (ol up s (dn b22 (f.vars.length+1)) b23 b24 (.raw (.slice none 0 0)))),(0,bj b23 (iA (dS f k))),(0,bj b24 []),(0,cJ eE 66 72 b22 (fM (es) (f.vars.length+1)))]) (fun k=>k≤f.blocks.length) (fun k=>f.blocks.length - k) 0 aG aC (qt _) ?_
  rintro k hk
  refine ah<|aw Z Z<|z6<|zc<|zp Z (fun ck=>?_) (fun ck=>?_)
  ·have hk2:k<f.blocks.length:=by simp at ck;omega
   obtain ⟨b,hbk⟩:∃b,f.blocks[k]=b:=⟨_,rfl⟩
   have hget:f.blocks[k]?=some b:=by rw[qq hk2,hbk]
   have hmem:b∈f.blocks:=hbk▸qu hk2
   obtain ⟨hb0,hb1,hb2,hb3,hb4⟩:=hf.2.2.2.2 b hmem
   refine zd<|zc<|zh<|ah<|za (bD k jk jv Z Z Z hget)<|ab Yk jv Z Z<|zy (cs:=[.str ⟨#[]⟩,.raw (.slice none 0 0),.raw (.slice none 0 0),.int .i64 0,.int .i64 0,.int .i64 0,.int .i64 0]) Zn Z Z<|fun i13=>zq jv Z Z Z Z Z Z .head Z<|zf (yd (t:=13) Z .head)<|z6<|ah<|ae jl Z Yh Z Z<|aI Yt Z<|ak Z2 Z<|aa Z<|z6<|zh<|ya (γ:=Nat) [9,53,54,55,60,61] (fun j=>[(62,.int .i64 j)]) (fun j=>[(i26,.cells 78 (ol up s (dn b22 (f.vars.length+1)) b23 b24 (.raw (.slice none 0 0)))),(0,bj b23 (iA (dS f k++l7 k (b.phis.take j)))),(0,bj b24 []),(0,cJ eE 66 72 b22 (fM (es) (f.vars.length+1)))]) (fun j=>j≤b.phis.length) (fun j=>b.phis.length - j) 0 aG ⟨_,(.refl _),by rw[show l7 k (b.phis.take 0)=[] from rfl,w5]⟩ (qt _) ?_
   rintro j hj
   refine ah<|aw Z Z<|z6<|zc<|zp Z (fun cj=>?_) (fun cj=>?_)
   ·have hj2:j<b.phis.length:=by simp at cj;omega
    obtain ⟨p,hp⟩:∃p,b.phis[j]=p:=⟨_,rfl⟩
    have hsn:=qV (i:=k) hj2
    rw[hp] at hsn
    refine zd<|zc<|zh<|ah<|za (bD j Z2 jz Z Z Z (by rw[qq hj2,hp])) ?_
    refine ab Yl jz Z Z<|zy (cs:=[.int .i64 0,.raw (.slice none 0 0),.raw (.slice none 0 0)]) Zb Z Z<|fun i15=>zq jz Z Z Z Z Z Z .head Z<|zf (yd (t:=15) Z .head)<|z6<|y7 (fun j=>false) (by kernel_rfl) Z (zn (.r (.rest _)))<|au 0 Z (l2 Z)<|au 1 Z (yc Z)<|au 2 Z (zr Z6 Z sizeOf74 (by decide) Z Z)<|au 3 Z (zw (c:=nc _) isAgg74 Z ⟨_,.head⟩ Z)<|au 4 Z (cA jt Z ja Z Z)<|au 5 Z (du jc Z)<|au 6 Z (yk Yl jz Z Z)<|aV 7 Z<|az.mapSetA (v:=.agg _) underlying74 Y0 Z Z Z .head<|z6<|bY<|aM<|aA Z Z<|aa Z<|z6 ?_
    exact ⟨j+1,pt,aG,⟨_,(.refl _),(by rw[hsn,←qs,vW]<;>rfl)⟩,hj2,by omega⟩
   ·have hjn:j=b.phis.length:=by simp at cj;omega
    subst hjn
    refine y9<|aM<|aA Z Z<|aa Z<|z6 ?_
    exact ⟨k+1,dC,aG,⟨_,(.refl _),by rw[qv,mA hk2,hbk];rfl⟩,hk2,by omega⟩
  ·have hkn:k=f.blocks.length:=by simp at ck;omega
   subst hkn
   refine y9<|ah<|aY Z<|za (iQ Z)<|z6<|zg<|zk (x:=.po _ _) Z ?_
   exact ⟨(i26,b22,b23,b24),rfl,⟨_,.refl _,rfl⟩,trivial⟩
theorem El {f:ad} {a:Int} {k:Nat} (h:a≠k∧iR (ao f) f.blocks.length a k=true) (xs:List (Int × cS)) (ps:List cS):gE f a (xs++l7 k ps)=gE f a xs:=by
 unfold gE
 rw[List.filter_append]
 have:(l7 k ps).filter (kO f a)=[]:=List.filter_eq_nil_iff.2 fun q hq=>by
  obtain ⟨p,_,rfl⟩:=List.mem_map.1 hq
  unfold kO
  dsimp only
  rw[w8 h.1,h.2];decide
 rw[this,w5]
theorem xe (f:ad) (hf:small f) (hL:aE E) (ht:aR f=true) (s:Nat) (hs:s<f.vars.length) (up:Bool) (I D:AV) (bp bs:Nat) (i:Nat) :
  ba prog E 16 [.po i 0,.agg (bL f)] [(i,.cells 78 (ol up s I bp bs D)),(0,bj bs [])] fun y O=>y=.tup []∧O=[(i,.cells 78 (ol up s I bp bs D)),(0,bj bs (if 0≤(aB f s).1 then gE f (aB f s).1 (dS f f.blocks.length) else[]))]:=by
 have hn:=hf.2.2.1
 have hE:=bT ht
 refine ba.now2<|zo func16 Z (by decide) Z<|ah<|yb (cs:=_) Z Z Z<|z6<|ah<|ab jm jh Z Z<|ze (rD f hf hL ht) Z<|za (m6 Z)<|za (yy (v:=.pf _) Z Z)<|za (mq Z Z)<|za (yi (v:=.pf _) Z)<|ay Z<|z6<|zc<|yf (γ:=Nat) [0,3,4,5] (fun z=>[(6,.po z 0)]) (fun z=>[(i,.cells 78 (ol up s I bp bs D)),(z,.cells 107 (eP.row (aB f s))),(0,bj bs [])]) (fun z=>True) ?_ (fun _ _ h=>h) ?_
 ·refine y7 (fun j=>false) (by kernel_rfl) Z (zn (.r (.rest _)))<|au 0 Z (yk jm jh Z Z)<|au 2 Z (l2 Z)<|au 3 Z (yc Z)<|au 4 Z (zr Z6 Z ja (by decide) Z Z)<|au 5 Z (zw (c:=.int _ _) jc Z ⟨_,.head⟩ Z)<|yv (i:=1) (j:=8) Z Z (by kernel_rfl) ?_ ?_
  ·refine ze (jD f hf hL ht) Z<|z6<|au 6 Z (bD s Zo Yb Z Z Z (gC hs))<|au 7 Z (yk isAgg107 Yb Z Z)<|aV 8 Z<|zy (cs:=[.int .i64 0,.int .i64 0]) zeroValue107 Z Z<|fun i6=>z6<|aV 9 Z<|zq Yb Z Z Z Z Z Z .head Z<|z6<|bY ?_
   exact ⟨i6,e7,aG,aC,trivial⟩
  ·refine zy (cs:=[.int .i64 0,.int .i64 0]) zeroValue107 Z Z<|fun i6=>z6<|aV 1 Z<|ze (jD f hf hL ht) Z<|z6<|au 6 Z (bD s Zo Yb Z Z Z (gC hs))<|au 7 Z (yk isAgg107 Yb Z Z)<|aV 9 Z<|zq Yb Z Z Z Z Z Z .head Z<|z6<|bY ?_
   exact ⟨i6,e7,aG,aC,trivial⟩
 ·rintro z _
  refine yg (yd (t:=6) Z .t1) ?_
  obtain ⟨a,ha⟩:∃a,(aB f s).1=a:=⟨_,rfl⟩
  refine zc<|ah<|aa Z<|aH Z Z<|ai Z<|z8 Z Z Z<|ae Yr Z ja Z Z<|z8 Z Z Z<|ax jc Z<|z8 Z Z Z<|aw Z Z<|aq Z Z Z<|z6<|zp Z (fun cm=>?_) (fun cm=>?_)
  ·have hm:¬0≤(aB f s).1:=by omega
   refine zg<|ym ?_
   exact ⟨rfl,by rw[if_neg hm];exact .d0⟩
  ·have hm:0≤(aB f s).1:=by omega
   rw[if_pos hm]
   refine zd<|ah<|ae je Z Ze Z Z<|aI Zl Z<|ak jk Z<|aa Z<|z6<|zh<|ya (γ:=Nat) [0,4,6,32,33] (fun k=>[(34,.int .i64 k)]) (fun k=>[(i,.cells 78 (ol up s I bp bs D)),(0,bj bs (gE f (aB f s).1 (dS f k)))]) (fun k=>k≤f.blocks.length) (fun k=>f.blocks.length - k) 0 aG aC (qt _) ?_
   rintro k hk
   refine ah<|aw Z Z<|z6<|zc<|zp Z (fun ck=>?_) (fun ck=>?_)
   ·have hk2:k<f.blocks.length:=by simp at ck;omega
    obtain ⟨b,hbk⟩:∃b,f.blocks[k]=b:=⟨_,rfl⟩
    have hget:f.blocks[k]?=some b:=by rw[qq hk2,hbk]
    have hmem:b∈f.blocks:=hbk▸qu hk2
    obtain ⟨hb0,hb1,hb2,hb3,hb4⟩:=hf.2.2.2.2 b hmem
    refine zd<|zc<|zh<|ah<|aa Z<|za (bD k jk jv Z Z Z hget)<|ab Yk jv Z Z<|zy (cs:=[.str ⟨#[]⟩,.raw (.slice none 0 0),.raw (.slice none 0 0),.int .i64 0,.int .i64 0,.int .i64 0,.int .i64 0]) Zn Z Z<|fun i8=>ay Z<|zq jv Z Z Z Z Z Z .head Z<|zf (yd (t:=8) Z .head)<|z6<|zc<|zc<|yf (γ:=Bool) [0,4,6,8,32,33,34] (fun u=>[(49,.bool u)]) (fun u=>[(i,.cells 78 (ol up s I bp bs D)),(0,bj bs (gE f (aB f s).1 (dS f k)))]) (fun u=>u=decide ((aB f s).1≠k∧iR (ao f) f.blocks.length (aB f s).1 k=true)) ?_ (fun _ _ h=>h) ?_
    ·refine aM<|za (gS Z)<|ae Yr Z ja Z Z<|ax jc Z<|aa Z<|ze (tP f hE hn (aB f s).1 k _ _) Z<|ai Z<|zm (s:=44) Z (fun c1=>?_) (fun c1=>?_)
     ·refine z8 Z Z c1<|ae Yr Z ja Z Z<|z8 Z Z c1<|ax jc Z<|z8 Z Z c1<|aa Z<|z8 Z Z c1<|aH Z Z<|ap Z c1 Z<|z6 ?_
      exact ⟨_,km,aG,aC,by simp_all⟩
     ·refine z7 Z Z c1<|z7 Z Z c1<|z7 Z Z c1<|z7 Z Z c1<|aq Z c1 Z<|z6 ?_
      exact ⟨_,km,aG,aC,by simp_all⟩
    ·rintro u hu
     subst hu
     refine zp Z (fun cu=>?_) (fun cu=>?_)
     ·refine y9<|aM<|aA Z Z<|aa Z<|z6 ?_
      exact ⟨k+1,iT,aG,⟨_,(.refl _),by rw[mA hk2,hbk];rw[show gE f (aB f s).1 (dS f k++b.phis.map fun p=>((k:Int),p))=gE f (aB f s).1 (dS f k) from El cu (dS f k) b.phis]⟩,hk2,by omega⟩
     ·refine zd<|ah<|ae jl Z Yh Z Z<|aI Yt Z<|ak Z2 Z<|aa Z<|z6<|zh<|ya (γ:=Nat) [0,4,6,32,33,34,51,52] (fun j=>[(53,.int .i64 j)]) (fun j=>[(i,.cells 78 (ol up s I bp bs D)),(0,bj bs (gE f (aB f s).1 (dS f k++l7 k (b.phis.take j))))]) (fun j=>j≤b.phis.length) (fun j=>b.phis.length - j) 0 aG ⟨_,(.refl _),by rw[show l7 k (b.phis.take 0)=[] from rfl,w5]⟩ (qt _) ?_
      rintro j hj
      refine ah<|aw Z Z<|z6<|zc<|zp Z (fun cj=>?_) (fun cj=>?_)
      ·have hj2:j<b.phis.length:=by simp at cj;omega
       obtain ⟨p,hp⟩:∃p,b.phis[j]=p:=⟨_,rfl⟩
       have hsn:=qV (i:=k) hj2
       rw[hp] at hsn
       have hsm:=zT f (aB f s).1 (dS f k++l7 k (b.phis.take j)) ((k:Int),p)
       have hq:kO f (aB f s).1 ((k:Int),p)=true:=by
        unfold kO
        dsimp only
        by_cases e:(aB f s).1=k
        ·rw[w7 e];rfl
        ·cases hd:iR (ao f) f.blocks.length (aB f s).1 k with
         |false=>simp
         |true=>exact absurd ⟨e,hd⟩ cu
       rw[hq,if_pos rfl] at hsm
       refine zd<|zc<|zh<|ah<|za (bD j Z2 jz Z Z Z (by rw[qq hj2,hp])) ?_
       refine ab Yl jz Z Z<|zy (cs:=[.int .i64 0,.raw (.slice none 0 0),.raw (.slice none 0 0)]) Zb Z Z<|fun i10=>zq jz Z Z Z Z Z Z .head Z<|zf (yd (t:=10) Z .head)<|z6<|y7 (fun j=>false) (by kernel_rfl) Z (zn (.r (.rest _)))<|au 0 Z (l2 Z)<|au 1 Z (yc Z)<|au 2 Z (zr Z6 Z sizeOf75 (by decide) Z Z)<|au 3 Z (zw (c:=nc _) isAgg75 Z ⟨_,.head⟩ Z)<|au 4 Z (cA jt Z ja Z Z)<|au 5 Z (du jc Z)<|aV 6 Z<|az.mapSetA (v:=.int _ _) underlying75 Y0 Z Z Z .head<|z6<|bY<|aM<|aA Z Z<|aa Z<|z6 ?_
       exact ⟨j+1,vP,aG,⟨_,(.refl _),(by rw[hsn,←qs,hsm]<;>rfl)⟩,hj2,by omega⟩
      ·have hjn:j=b.phis.length:=by simp at cj;omega
       subst hjn
       refine y9<|aM<|aA Z Z<|aa Z<|z6 ?_
       exact ⟨k+1,iT,aG,⟨_,(.refl _),by rw[qv,mA hk2,hbk];rfl⟩,hk2,by omega⟩
   ·have hkn:k=f.blocks.length:=by simp at ck;omega
    subst hkn
    refine y9<|ym ?_
    exact ⟨rfl,.d0⟩
end
section
open Go.Proofs.Tryz
open Go.Proofs Go.Lib Go.Shelf Go.RowKit
variable {E:World}
set_option maxRecDepth 20000
theorem oM (f:ad) (hf:small f) (hL:aE E) (l:List be) (hl:l.length≤9223372036854775807):aJ prog E 13 [.agg (bL f),.fro 2 (l.map bg)] (.bool ((aR f&&bG f)&&decide (l.length=f.vars.length))):=by
 have hvn:=hf.1
 have hR:=iG (E:=E) f hf hL
 refine zo func13 Z (by decide) Z<|ah<|yb (cs:=_) Z Z Z<|ac Z<|z6<|ah<|ab jm jh Z Z<|ze (hR) Z<|aj Z Z<|ai Z<|zm (s:=8) Z (fun c=>?_) (fun c=>?_)
 ·have h:(aR f&&bG f)=true:=by cases h:(aR f&&bG f);rw[h] at c;simp at c;rfl
  refine z8 Z Z c<|aU Z<|z8 Z Z c<|ak Yn Z<|z8 Z Z c<|ae je Z Zg Z Z<|z8 Z Z c<|aI Zp Z<|z8 Z Z c<|ak js Z<|z8 Z Z c<|aj Z Z<|ap Z c Z<|ac Z<|z6<|zg<|zk (x:=.bool _) Z ?_
  exact jb (by rw[h,Bool.true_and];exact decide_eq_decide.2 (by omega))
 ·have h:(aR f&&bG f)=false:=by cases h:(aR f&&bG f);rfl;rw[h] at c;simp at c
  refine z7 Z Z c<|z7 Z Z c<|z7 Z Z c<|z7 Z Z c<|z7 Z Z c<|z7 Z Z c<|aq Z c Z<|ac Z<|z6<|zg<|zk (x:=.bool _) Z ?_
  exact jb (by rw[h];rfl)
def EJ (f:ad) (l:List be) (s:Int):Prop:=(aR f&&bG f)=true∧l.length=f.vars.length∧0≤s∧s≤f.vars.length∧(s<f.vars.length→oV f s=2)
instance (f:ad) (l:List be) (s:Int):Decidable (EJ f l s):=by unfold EJ;infer_instance
def I8 (f:ad) (l:List be):Prop:=(aR f&&bG f)=true∧l.length=f.vars.length
instance (f:ad) (l:List be):Decidable (I8 f l):=by unfold I8;infer_instance
def Em (S:Sd) (K:Nat):List EH:=(n6 S K).map mL
set_option maxHeartbeats 8000000 in
theorem xf (f:ad) (hf:small f) (hL:aE E) (hN:∀b∈f.blocks,∀x∈b.insts,aP x.num) (l:List be) (hol:∀r∈l,cY r) (hl:l.length≤9223372036854775807) (s:Int) (R:List EH)
  (hgood:EJ f l s→∃K,oE (eJ f l true s) K∧K≤4611686018427387904∧R=Em (eJ f l true s) K) (hbad:¬EJ f l s→R=[]) :
  aJ prog E 6 [.agg (bL f),.fro 2 (l.map bg),.int .i64 s] (.fro 2 (R.map ng)):=by
 have hvn:=hf.1
 have hru:=AD (E:=E) f hf hL l hol
 refine zo func6 Z (by decide) Z<|ah<|yb (cs:=_) Z Z Z<|bV Z<|z6<|ah<|ae je Z Zg Z Z<|aI Zp Z<|ak js Z<|ay Z<|z6<|zc<|zc<|yf (γ:=Bool) [1,2,3,7] (fun u=>[(39,.bool u)]) (fun u=>[]) (fun u=>u=!decide (EJ f l s)) ?_ (fun _ _ h=>h) ?_
 ·refine aM<|ab jm jh Z Z<|aU Z<|ze (oM f hf hL l hl) Z<|aF Z<|ai Z<|zm (s:=17) Z (fun c1=>?_) (fun c1=>?_)
  ·have h1:((aR f&&bG f)&&decide (l.length=f.vars.length))=false:=by rwa [Bool.not_eq_true'] at c1
   refine z7 Z Z c1<|z7 Z Z c1<|ap Z c1 Z<|ai Z<|z7 Z Z Z<|z7 Z Z Z<|z7 Z Z Z<|ap Z Z Z<|ai Z<|z7 Z Z Z<|z7 Z Z Z<|z7 Z Z Z<|z7 Z Z Z<|zb Z Z<|zb Z Z<|zb Z Z<|zb Z Z<|zb Z Z<|zb Z Z<|zb Z Z<|z7 Z Z Z<|ap Z Z Z<|z6 ?_
   exact ⟨_,e7,aG,aC,by rw[w8 (fun h=>by unfold EJ at h;rw[h.1,w7 h.2.1] at h1;cases h1)];rfl⟩
  ·have h1:((aR f&&bG f)&&decide (l.length=f.vars.length))=true:=by rwa [Bool.not_eq_false'] at c1
   have hts:=(jW h1).1
   have hll:l.length=f.vars.length:=by simpa using (jW h1).2
   refine z8 Z Z c1<|aa Z<|z8 Z Z c1<|aw Z Z<|aq Z c1 Z<|ai Z<|zm (s:=21) Z (fun c3=>?_) (fun c3=>?_)
   ·have h3:s<0:=wb c3
    refine z7 Z Z c3<|z7 Z Z c3<|z7 Z Z c3<|ap Z c3 Z<|ai Z<|z7 Z Z Z<|z7 Z Z Z<|z7 Z Z Z<|z7 Z Z Z<|zb Z Z<|zb Z Z<|zb Z Z<|zb Z Z<|zb Z Z<|zb Z Z<|zb Z Z<|z7 Z Z Z<|ap Z Z Z<|z6 ?_
    exact ⟨_,e7,aG,aC,by rw[w8 (fun h=>by have:=h.2.2.1;omega)];rfl⟩
   ·have h3:¬s<0:=of_decide_eq_false c3
    refine z8 Z Z c3<|aa Z<|z8 Z Z c3<|aa Z<|z8 Z Z c3<|aO Z Z<|aq Z c3 Z<|ai Z<|zm (s:=26) Z (fun c4=>?_) (fun c4=>?_)
    ·have h4:(f.vars.length:Int)<s:=wb c4
     refine z7 Z Z c4<|z7 Z Z c4<|z7 Z Z c4<|z7 Z Z c4<|zb Z Z<|zb Z Z<|zb Z Z<|zb Z Z<|zb Z Z<|zb Z Z<|zb Z Z<|z7 Z Z c4<|ap Z c4 Z<|z6 ?_
     exact ⟨_,e7,aG,aC,by rw[w8 (fun h=>by have:=h.2.2.2.1;omega)];rfl⟩
    ·have h4:¬(f.vars.length:Int)<s:=of_decide_eq_false c4
     refine z8 Z Z c4<|aa Z<|z8 Z Z c4<|aa Z<|z8 Z Z c4<|aw Z Z<|z8 Z Z c4<|ai Z<|zm (s:=30) Z (fun c5=>?_) (fun c5=>?_)
     ·have h5:s<f.vars.length:=wb c5
      have hty:oV f s=f.vars[s.toNat].ty:=by have:=lT (f:=f) (v:=s.toNat) (by omega);rwa [wa (by omega)] at this
      refine z8 Z Z c5<|ae je Z Zg Z Z<|z8 Z Z c5<|aI Zp Z<|z8 Z Z c5<|aa Z<|z8 Z Z c5<|za (bD s.toNat js Zx Z Z (by omega) (qq (by omega)))<|z8 Z Z c5<|ae Zd Z Yj Z Z<|z8 Z Z c5<|ax Yv Z<|z8 Z Z c5<|aH Z Z<|z8 Z Z c4<|ap Z c5 Z<|aq Z c4 Z<|z6 ?_
      exact ⟨_,e7,aG,aC,by rw[←hty];congr 1;exact decide_eq_decide.2 ⟨fun h=>⟨hts,hll,by omega,by omega,fun _=>h⟩,fun h=>h.2.2.2.2 h5⟩⟩
     ·have h5:¬s<f.vars.length:=of_decide_eq_false c5
      refine z7 Z Z c5<|z7 Z Z c5<|z7 Z Z c5<|z7 Z Z c5<|z7 Z Z c5<|z7 Z Z c5<|z7 Z Z c5<|z8 Z Z c4<|aq Z c5 Z<|aq Z c4 Z<|z6 ?_
      exact ⟨_,e7,aG,aC,by rw[w7 (show EJ f l s from ⟨hts,hll,by omega,by omega,fun h=>absurd h h5⟩)];rfl⟩
 ·rintro u hu
  subst hu
  refine zt Z (fun c=>?_) (fun c=>?_)
  ·rw[hbad (eB c)]
   refine ah<|bV Z<|z6<|yg (qc (t:=6) Z (Ay.nil 2))<|zg<|zk (x:=.fro _ _) Z ?_
   rfl
  ·have hc:=eF c
   obtain ⟨K,hK,hKb,hR⟩:=hgood hc
   obtain ⟨hts,hll,hs0,hs1,hsty⟩:=id hc
   have hF:=jX hf hts
   have hty:=(jW hts).1
   have hed:kD f l true=bX f l true:=by unfold kD;rw[if_pos ⟨hts,hll⟩]
   rw[hed] at hru
   have hW:=Mj hF hts hN hol true ⟨hs0,hs1⟩
   have hbd:=fun bp bs j=>nB (E:=E) (eJ f l true s) (kS f l true s) _ (GE f s) hW K hK hKb bp bs j
   have hbd:∀bp bs j,ba prog E 20 [.po j 0] [(j,.cells 78 (ol true s (ma (kS f l true s)) bp bs (.raw (.slice none 0 0)))),(0,bj bp (iA (dS f f.blocks.length))),(0,bj bs (GE f s))] fun y O=>y=.fro 2 (R.map ng)∧O=[]:=fun bp bs j=>by
    have:=hbd bp bs j
    rw[hR]
    unfold Em
    rw[List.map_map]
    exact this
   obtain ⟨PM,hPM⟩:∃PM,iA (dS f f.blocks.length)=PM:=⟨_,rfl⟩
   have hbeg:=oL (E:=E) f hf (bX f l true) (lU hf l true) (BX hF hts l true) s true
   rw[hPM] at hbeg hbd
   refine zd<|zc<|y7 (fun j=>false) (by kernel_rfl) Z (zn (.rest _))<|au 0 Z (yk jm jh Z Z)<|au 1 Z (yk jm jh Z Z)<|au 2 Z (kl Z)<|au 4 Z (cG Z)<|aV 3 Z<|ze (hru) Z<|z6<|aV 5 Z<|zu Z (zn (.rest _)) (hbeg) ?_
   rintro r45 O45 ⟨⟨j,bn,bp,bs⟩,rfl,rfl,_⟩
   refine z6<|au 6 Z (iQ Z)<|bY<|zc<|ah<|aa Z<|aa Z<|aw Z Z<|z6<|yf (γ:=Unit) [8] (fun w=>[]) (fun w=>[(j,.cells 78 (ol true s (dn bn (f.vars.length+1)) bp bs (.raw (.slice none 0 0)))),(0,bj bp PM),(0,bj bs (GE f s)),(0,cJ eE 66 72 bn (kS f l true s))]) (fun w=>True) ?_ (fun _ _ h=>h) ?_
   ·refine zp Z (fun cs=>?_) (fun cs=>?_)
    ·have hsn:((s.toNat:Nat):Int)=s:=wa hs0
     have hcl:=fun I D=>xe (E:=E) f hf hL hty s.toNat (by omega) true I D bp bs j
     rw[hsn] at hcl
     have hsh:GE f s=if 0≤(aB f s).1 then gE f (aB f s).1 (dS f f.blocks.length) else[]:=by unfold GE;rw[if_pos cs]
     rw[←hsh] at hcl
     obtain ⟨r,hr⟩:∃r,fA (lv l s) (de 2)=r:=⟨_,rfl⟩
     have hms:=JL (E:=E) (lv l s) (de 2)
     rw[hr] at hms
     have hlr:=uZ l s
     have hlf:jU l s=if r.2<r.1 then (false,0) else (true,-r.1):=by unfold jU;rw[hr]
     rw[hr] at hlr
     have hset:=ub (l:=l) (up:=true) cs
     have hnil:=Eb hF hts (l:=l) (up:=true) cs
     have hgn:=gj (es:=bX f l true) (m:=f.vars.length+1) (v:=f.vars.length) (by omega)
     refine ah<|aY Z<|ab jm jh Z Z<|zu Z (zn (.l (.r (.l (.r (.rest _)))))) (hcl _ _) ?_
     rintro r51 O51 ⟨rfl,rfl⟩
     refine z6<|zc<|yf (γ:=Nat) [2,7,8] (fun z=>[(9,.po z 0)]) (fun z=>[(z,.cells 54 (bg r)),(j,.cells 78 (ol true s (dn bn (f.vars.length+1)) bp bs (.raw (.slice none 0 0)))),(0,bj bp PM),(0,bj bs (GE f s)),(0,cJ eE 66 72 bn (fM (bX f l true) (f.vars.length+1)))]) (fun z=>True) ?_ (fun _ _ h=>h) ?_
     ·refine y7 (fun j=>false) (by kernel_rfl) Z (zn (.rest _))<|au 0 Z (kl Z)<|au 1 Z (cG Z)<|au 2 Z (bD s.toNat Yn Z3 Z Z (by omega) (GD hll hs0 (by omega)))<|au 3 Z (yk Zt Z3 Z Z)<|yv (i:=4) (j:=6) Z Z (by kernel_rfl) ?_ ?_
      ·refine ze (FU 2) Z<|z6<|yv (i:=5) (j:=6) Z Z (by kernel_rfl) ?_ ?_
       ·refine ze (hms) Z<|z6<|aV 6 Z<|zy (cs:=[.int .i64 0,.int .i64 0]) Y4 Z Z<|fun i9=>z6<|aV 7 Z<|zq Z3 Z Z Z Z Z Z .head Z<|zf (zi (zj .t4))<|zf (zi (zj .t3))<|zf (zi (zj .t4))<|zf (zi (zj .t4))<|zf (zi (zj .t4))<|z6<|bY ?_
        exact ⟨i9,dC,aG,aC,trivial⟩
       ·refine zy (cs:=[.int .i64 0,.int .i64 0]) Y4 Z Z<|fun i9=>z6<|aV 5 Z<|ze (hms) Z<|z6<|aV 7 Z<|zq Z3 Z Z Z Z Z Z .head Z<|zf (zi (zj .t4))<|zf (zi (zj .t3))<|zf (zi (zj .t4))<|zf (zi (zj .t4))<|zf (zi (zj .t4))<|z6<|bY ?_
        exact ⟨i9,dC,aG,aC,trivial⟩
      ·refine zy (cs:=[.int .i64 0,.int .i64 0]) Y4 Z Z<|fun i9=>z6<|aV 4 Z<|ze (FU 2) Z<|z6<|aV 5 Z<|ze (hms) Z<|z6<|aV 7 Z<|zq Z3 Z Z Z Z Z Z .head Z<|zf (zi (zj .t4))<|zf (zi (zj .t3))<|zf (zi (zj .t4))<|zf (zi (zj .t4))<|zf (zi (zj .t4))<|z6<|bY ?_
       exact ⟨i9,dC,aG,aC,trivial⟩
     ·rintro z _
      refine yg (yd (t:=9) Z .head)<|ah<|ab Zt Z3 Z Z<|ze (n8 r) Z<|aF Z<|z6<|zt Z (fun ce=>?_) (fun ce=>?_)
      ·have hne:¬r.2<r.1:=eB ce
       have h64:=hlr hne
       have hle:sV f l s=[(s,(f.vars.length:Int),-r.1)]:=by unfold sV;rw[hlf,if_neg hne];rfl
       refine y7 (fun j=>Nat.beq j 13) (by kernel_rfl) Z (zn (.r (.rest _)))<|au 0 Z (l2 Z)<|au 1 Z (yc Z)<|au 2 Z (zr Z6 Z sizeOf73 (by decide) Z Z)<|au 3 Z (zw (c:=dn _ _) isAgg73 Z ⟨_,.head⟩ Z)<|au 4 Z (cG Z)<|au 5 Z (cG Z)<|au 6 Z (cG Z)<|au 7 Z (cA Zf Z ji Z Z)<|au 8 Z (du jp Z)<|au 9 Z (Gv.neg Z)<|au 10 Z (zz (cps:=[(0,[_]),(1,[_]),(2,[_])]) (rs:=[_,_,_]) L9 Z Z Z)<|aV 11 Z<|az.buildSliceO (cps:=[(0,[_,_,_])]) (rs:=[_,_,_]) uX Z Z Z Z Z<|fun i72=>z6<|au 12 Z (qe (j:=f.vars.length) X9 X8 Z Z Z (by omega))<|yx<|q1 (i:=13) Z (by kernel_rfl) (by kernel_rfl)<|az.nestSet (j:=f.vars.length) (r:=sV f l s) (r0:=fD (bX f l true) f.vars.length) X8 Z Z hgn .t1 .t3 Z (by rw[hle,wW (a:=r.1) (by omega) (by omega)];rfl) (by rw[hle];rfl)<|z6<|yz (by kernel_rfl) ?_
       exact ⟨(),aG,trivial,⟨_,(.refl _),(by rw[←hset])⟩,trivial⟩
      ·have hne:r.2<r.1:=eF ce
       have:=hnil (by rw[hlf,if_pos hne])
       refine zd ?_
       exact ⟨(),aG,trivial,⟨_,(.refl _),(by rw[this])⟩,trivial⟩
    ·refine zd ?_
     exact ⟨(),aG,trivial,⟨_,(.refl _),(by rw[wZ cs,GE,if_neg cs]<;>rfl)⟩,trivial⟩
   ·rintro _ _
    refine yg (aK.nestKnowC (off:=2) .t3 .head Z (oh _ _ _ _))<|ah<|aY Z<|zu Z (zn (.l (.l (.l (.rest _))))) (hbd bp bs j) ?_
    rintro r75 O75 ⟨rfl,rfl⟩
    refine za (iw Z)<|z6<|zg<|zk (x:=.fro _ _) Z ?_
    rfl
theorem xg (f:ad) (hf:small f) (hL:aE E) (hN:∀b∈f.blocks,∀x∈b.insts,aP x.num) (l:List be) (hol:∀r∈l,cY r) (hl:l.length≤9223372036854775807) (R:List EH)
  (hgood:I8 f l→∃K,oE (eJ f l false f.vars.length) K∧K≤4611686018427387904∧R=Em (eJ f l false f.vars.length) K) (hbad:¬I8 f l→R=[]) :
  aJ prog E 7 [.agg (bL f),.fro 2 (l.map bg)] (.fro 2 (R.map ng)):=by
 have hvn:=hf.1
 have hru:=AE (E:=E) f hf hL l hol
 refine zo func7 Z (by decide) Z<|ah<|yb (cs:=_) Z Z Z<|bV Z<|z6<|zc<|ah<|ab jm jh Z Z<|aU Z<|ze (oM f hf hL l hl) Z<|aF Z<|z6<|zt Z (fun c=>?_) (fun c=>?_)
 ·have h1:((aR f&&bG f)&&decide (l.length=f.vars.length))=false:=by rwa [Bool.not_eq_true'] at c
  rw[hbad (fun h=>by rw[h.1,w7 h.2] at h1;cases h1)]
  refine ah<|bV Z<|z6<|yg (qc (t:=4) Z (Ay.nil 2))<|zg<|zk (x:=.fro _ _) Z ?_
  rfl
 ·have h1:((aR f&&bG f)&&decide (l.length=f.vars.length))=true:=by rwa [Bool.not_eq_false'] at c
  have hts:=(jW h1).1
  have hll:l.length=f.vars.length:=by simpa using (jW h1).2
  obtain ⟨K,hK,hKb,hR⟩:=hgood ⟨hts,hll⟩
  have hF:=jX hf hts
  have hed:kD f l false=bX f l false:=by unfold kD;rw[if_pos ⟨hts,hll⟩]
  rw[hed] at hru
  have hW:=Mj hF hts hN hol false (s:=f.vars.length) ⟨by omega,by omega⟩
  have hns:¬(f.vars.length:Int)<f.vars.length:=by omega
  rw[wZ hns,show GE f f.vars.length=[] from if_neg hns] at hW
  have hbd:=fun bp bs j=>nB (E:=E) (eJ f l false f.vars.length) _ _ _ hW K hK hKb bp bs j
  have hbd:∀bp bs j,ba prog E 20 [.po j 0] [(j,.cells 78 (ol false f.vars.length (ma (fM (bX f l false) (f.vars.length+1))) bp bs (.raw (.slice none 0 0)))),(0,bj bp (iA (dS f f.blocks.length))),(0,bj bs [])] fun y O=>y=.fro 2 (R.map ng)∧O=[]:=fun bp bs j=>by
   have:=hbd bp bs j
   rw[hR]
   unfold Em
   rw[List.map_map]
   exact this
  obtain ⟨PM,hPM⟩:∃PM,iA (dS f f.blocks.length)=PM:=⟨_,rfl⟩
  have hbeg:=oL (E:=E) f hf (bX f l false) (lU hf l false) (BX hF hts l false) f.vars.length false
  rw[hPM] at hbeg hbd
  refine zd<|zc<|y7 (fun j=>false) (by kernel_rfl) Z (zn (.rest _))<|au 0 Z (yk jm jh Z Z)<|au 1 Z (yk jm jh Z Z)<|au 2 Z (kl Z)<|au 4 Z (cA je Z Zg Z Z)<|au 5 Z (iS Zp Z)<|au 6 Z (Gv.lenM js Z)<|aV 3 Z<|ze (hru) Z<|z6<|aV 7 Z<|zu Z (zn (.rest _)) (hbeg) ?_
  rintro r16 O16 ⟨⟨j,bn,bp,bs⟩,rfl,rfl,_⟩
  refine zf (aK.nestKnowC (off:=2) .t3 .head Z (eT _ _))<|z6<|aV 8 Z<|zu Z (zn (.l (.l (.l (.rest _))))) (hbd bp bs j) ?_
  rintro r17 O17 ⟨rfl,rfl⟩
  refine z6<|au 9 Z (iw Z)<|bY<|zg<|zk (x:=.fro _ _) Z ?_
  rfl
end
end Go.Proofs.YtbanfokidalbaaaGreatDoor
