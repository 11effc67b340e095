/- A run of the document's machine; may an input be; are two outcomes alike. Of inputs that are little. -/
import Derived.Test.YtbbonnfjealmpaaGreatDoorZXl
import Derived.Test.YtbbonnfjealmpaaGreatDoorZXj
import Derived.Test.YtbbonnfjealmpaaGreatDoorZXh
import Derived.Test.YtbbonnfjealmpaaGreatDoorZXb
import Derived.Test.YtbbonnfjealmpaaGreatDoorZXi
import Derived.Test.YtbbonnfjealmpaaGreatDoorZXk
set_option linter.unusedVariables false
set_option linter.unusedSimpArgs false
set_option linter.unusedSectionVars false
namespace Go.Proofs.YtbbonnfjealmpaaGreatDoor
section
open Go.Proofs.Tryz
open Go.Proofs Go.Lib Go.Shelf Go.RowKit
variable {E:World}
set_option maxRecDepth 20000
def Ce (fr ar:List Int) (b:Int):Int:=((fr.zip ar).find? fun q=>decide (q.1=b)).elim (-1) (·.2)
theorem JR {fr ar:List Int} {b:Int} {j:Nat} (h:j<fr.length) (h2:j<ar.length):Ce (fr.drop j) (ar.drop j) b=if fr[j]=b then ar[j] else Ce (fr.drop (j+1)) (ar.drop (j+1)) b:=by
 rw[List.drop_eq_getElem_cons h,List.drop_eq_getElem_cons h2];unfold Ce;rw[List.zip_cons_cons,List.find?_cons]
 by_cases e:fr[j]=b
 ·rw[if_pos e];simp[e]
 rw[if_neg e];simp[e]
def sv (l:List dh) (b:Int) (k:Nat):List Int:=(l.take k).map fun p=>dz p b
theorem JS {l:List dh} {b:Int} {k:Nat} (h:k<l.length):sv l b k++[dz l[k] b]=sv l b (k+1):=by
 unfold sv;rw[qu h,w7];rfl
theorem LF {l:List dh} {b:Int} {k:Nat} (h:k<l.length):(sv l b l.length)[k]?=some (dz l[k] b):=by
 unfold sv;rw[qy,w3,qt h];rfl
theorem sP {l:List dh} {b:Int} {k:Nat} (h:k≤l.length):(sv l b k).length=k:=by
 unfold sv;rw[w2,w9];omega
def GV (l:List dh) (s:GS) (k:Nat):GS:=(l.take k).foldl (assign s) s
theorem LG {l:List dh} {s:GS} {k:Nat} (h:k<l.length):GV l s (k+1)=assign s (GV l s k) l[k]:=by
 unfold GV;rw[qu h,List.foldl_append];rfl
theorem GK (l:List dh) (s:GS) (k:Nat):(GV l s k).y=s.y:=by
 unfold GV
 suffices h:∀(l:List dh) (t:GS),(l.foldl (assign s) t).y=t.y from h _ s
 intro l;induction l with
 |nil=>intro t;rfl
 |cons p l ih=>intro t;exact ih _
set_option maxHeartbeats 16000000 in
theorem nv (f:ab) (iw ja jb jc jo jt:Nat) (ids:List Nat) (s:GS) (dst_:Int) (hids:ids.length=s.y.length) (hg:bE f s) (hR:qZ f) (hv:f.v.length≤1000) (hs:small f) (h0:0≤dst_) (h1:dst_<f.q.length):aX prog E 65 [.po iw 0,.i dst_] (wO f iw ja jb jc jo jt ids s) (fun y O=>ids.length=(fC f s dst_).y.length∧y=.tup []∧O=wO f iw ja jb jc jo jt ids (fC f s dst_)):=by
 have hB:=dY h0 h1;have hBm:=w5 hB;have hph:=hR.p _ hBm;have hsm:=(hs.2.2.2.2 _ hBm).2.1;have hsp:=(hs.2.2.2.2 _ hBm).2.2.2.1;obtain ⟨B,hBe⟩:∃B,aQ f dst_=B:=⟨_,rfl⟩;have hgo:fC f s dst_=if B.p.all (fun p=>decide (0≤dz p s.blk))=true then goG (GV B.p s B.p.length) dst_ else d7 (goG s dst_) 2:=by unfold fC GV;rw[hBe,qy]
 rw[hBe] at hB hph hsm hsp;have hl1:=hg.li;have hl2:=hg.lb;have hl3:=hg.la;refine zm func65 U (by decide) U<|Z<|X (kT U)<|Y<|gN (t:=4) (k:=1) (T:=3) U<|fun i4=>gd .t1<|za<|Z<|bf U<|aC U<|X (ze je U jk (by decide) U U)<|X (ze jf U Zd (by decide) U U)<|X (zj (c:=.fro _ _) Zf U ⟨_,.head⟩ U)<|C U<|X (bD dst_.toNat jr Z1 U U (by omega) hB)<|ao ji U Zv U U<|aK Yf U<|am Z6 U<|C U<|Y<|zd<|zu (γ:=Nat × Nat) [0,1,22,23] (fun g=>[(24,.i g.1),(4,.j g.2 g.1)]) (fun g=>(iw,.cells 99 (LE f ja jb jc jo jt s))::(g.2,.u 1 3 (cI (sv B.p s.blk g.1)))::wR ja jb jc jo jt ids s) (fun g=>g.1≤B.p.length∧∀p∈B.p.take g.1,0≤dz p s.blk) (fun g=>B.p.length - g.1) (0,i4) cV aJ (⟨qw _,fun p hp=>by simp at hp⟩) ?_;rintro ⟨k,i4⟩ ⟨hk,hok⟩;try dsimp only at *
 refine Z<|aq U U<|Y<|za<|zh U (fun ck=>?_) (fun ck=>?_)
 ·have hk2:k<B.p.length:=by simp at ck;omega
  obtain ⟨p,hp⟩:∃p,B.p[k]=p:=⟨_,rfl⟩;have hpg:B.p[k]?=some p:=by rw[qt hk2,hp]
  have hpm:=w5 hpg;obtain ⟨_,hal,_,_,_⟩:=hph p hpm;have hfl:=(hsp p hpm).2;refine zc<|za<|zd<|Z<|X (bD k Z6 Ze U U U hpg)<|ae Ys Ze U U<|zp (cs:=[.int .i64 0,.n,.n]) Y0 U U<|fun i6=>zi Ze U U U U U U .head U<|y9 (zz (t:=6) U .head)<|Y<|Z<|ap U<|Y<|za<|Z<|ao Z3 U jh U U<|aK jy U<|am j7 U<|X (Gv.sub U U (by unfold mB;omega))<|ap U<|Y<|zd<|zu (γ:=Nat) [0,1,4,6,22,23,24] (fun m=>[(8,.i ((m:Int) - 1)),(7,.i (Ce (p.w.drop m) (p.args.drop m) s.blk))]) (fun m=>(iw,.cells 99 (LE f ja jb jc jo jt s))::(i4,.u 1 3 (cI (sv B.p s.blk k)))::wR ja jb jc jo jt ids s) (fun m=>m≤p.w.length) (fun m=>m) p.w.length ⟨congrArg (AV.int .i64) (by simp),congrArg (AV.int .i64) (by rw[List.drop_length];rfl),trivial⟩ aJ (Nat.le_refl _) ?_;rintro m hm;refine za<|Z<|C U<|X (q7 U U)<|Y<|zh U (fun c8=>?_) (fun c8=>?_)
  ·have hm1:m - 1<p.w.length:=by omega
   have hm2:m - 1<p.args.length:=by omega
   have hst:=JR (b:=s.blk) hm1 hm2;rw[show m - 1+1=m by omega] at hst;refine zc<|za<|zd<|za<|zn (fun j=>false) (by kernel_rfl) U (zk (.r (.rest _)))<|D 0 U (dk Z3 U jh U U)<|D 1 U (gJ jy U)<|D 2 U (dC U)<|D 3 U (bD (m - 1) j7 j9 U U (by omega) (qt hm1))<|D 4 U (d9 jg U)<|D 5 U (dZ U)<|D 6 U (zr U)<|D 7 U (ze je U j9 (by decide) U U)<|D 8 U (zj (c:=.int _ _) jg U ⟨_,.head⟩ U)<|D 9 U (Gv.eqlI U U)<|dS<|zh U (fun ce=>?_) (fun ce=>?_)
   ·have ce:p.w[m - 1]=s.blk:=by simpa using ce
    rw[if_pos ce] at hst;refine bZ<|ao Z3 U jh U U<|aK jy U<|C U<|X (bD (m - 1) j7 j9 U U (by omega) (qt hm2))<|aD jg U<|ap U<|Y<|bZ<|C U<|X (Gv.sub U U (by unfold mB;omega))<|ap U<|Y ?_;exact ⟨m - 1,lI,⟨congrArg (AV.int .i64) (by omega),congrArg (AV.int .i64) hst.symm,trivial⟩,aJ,by omega,by omega⟩
   have ce:¬p.w[m - 1]=s.blk:=by simpa using ce
   rw[if_neg ce] at hst;refine zc<|bZ<|C U<|X (Gv.sub U U (by unfold mB;omega))<|ap U<|Y ?_;exact ⟨m - 1,lI,⟨congrArg (AV.int .i64) (by omega),congrArg (AV.int .i64) hst.symm,trivial⟩,aJ,by omega,by omega⟩
  obtain rfl:m=0:=by omega
  have hat:Ce (p.w.drop 0) (p.args.drop 0) s.blk=dz p s.blk:=rfl;rw[hat];refine zt<|za<|Z<|C U<|aq U U<|Y<|zh U (fun cn=>?_) (fun cn=>?_)
  ·have cn:dz p s.blk<0:=by simpa using cn
   have hE:fC f s dst_=d7 (goG s dst_) 2:=by
    rw[hgo,if_neg];intro h;have:=wg (List.all_eq_true.1 h p hpm);omega
   refine yd (qe .t1)<|Z<|bf U<|bf U<|C U<|aC U<|X (ze je U j9 (by decide) U U)<|yh (l:=[_]) (new:=[_,_,_,_,_,_,_,_,_,_,_,_,_,_,_,_,_,_,_,_,_,_,_]) j9 U U U U U U .head U U<|aC U<|X (ze je U j9 (by decide) U U)<|yh (l:=[_]) (new:=[_,_,_,_,_,_,_,_,_,_,_,_,_,_,_,_,_,_,_,_,_,_,_]) j9 U U U U U U .head U U<|Y<|Z<|bf U<|zy U (zk (.l (.l (.l (.l (.l (.l (.l (.rest _))))))))) (fx f iw ja jb jc jo jt ids (goG s dst_) 2) ?_;rintro r61 O61 ⟨rfl,rfl⟩;refine Y<|zf<|yu ?_;exact ⟨by rw[hE];exact hids,rfl,by rw[hE];rfl⟩
  have cn:0≤dz p s.blk:=by simpa using cn
  refine zc<|bZ<|bX U<|C U<|zw (rows:=[[_]]) ed U U U U U<|yb (k:=1) j7 Y6 U U U U U (fun _=>.t1) (by rw[aH,sP hk];omega) (by decide) U (by show (_+1)*8≤_;omega) (by show _+1≤_;omega)<|fun i65=>X (eO U)<|Y<|bQ U U ?_;exact ⟨(k+1,i65),f7,cV,⟨_,(.refl _),by rw[←JS hk2,hp,←lO];rfl⟩,⟨hk2,fun q hq=>by rw[qu hk2] at hq;rcases List.mem_append.1 hq with hq|hq;exact hok q hq;rw[List.mem_singleton.1 hq,hp];exact cn⟩,by dsimp only;omega⟩
 obtain rfl:k=B.p.length:=by simp at ck;omega
 rw[qy] at hok;have hE:fC f s dst_=goG (GV B.p s B.p.length) dst_:=by
  rw[hgo,if_pos (List.all_eq_true.2 fun p hp=>wa (hok p hp))]
 have hT:∀k,bE f (GV B.p s k):=fun k=>hg.assigns _ s hg rfl fun p hp=>⟨hph p (List.mem_of_mem_take hp),hok p (List.mem_of_mem_take hp)⟩;refine zt<|za<|y3 (γ:=Nat × Nat × Nat) [0,1,4] (fun g=>[(9,.j g.1 f.v.length),(10,.j g.2.1 f.v.length),(11,.j g.2.2 f.v.length)]) (fun g=>(iw,.cells 99 (LE f ja jb jc jo jt s))::(g.1,.u 1 2 (cI s.ints))::(g.2.1,.u 1 4 (cB s.bools))::(g.2.2,.u 1 3 (cI s.arrs))::(i4,.u 1 3 (cI (sv B.p s.blk B.p.length)))::wR ja jb jc jo jt ids s) (fun g=>True) ?_ (fun _ _ h=>h) ?_
 ·refine zn (fun j=>false) (by kernel_rfl) U (zk (.r (.rest _)))<|D 1 U (dZ U)<|D 2 U (zr U)<|D 3 U (ze je U Zx (by decide) U U)<|D 4 U (zj (c:=.j _ _) Yh U ⟨_,.head⟩ U)<|D 7 U (dZ U)<|D 8 U (zr U)<|D 9 U (ze je U Yi (by decide) U U)<|D 10 U (zj (c:=.j _ _) Yu U ⟨_,.head⟩ U)<|D 13 U (dZ U)<|D 14 U (zr U)<|D 15 U (ze je U jh (by decide) U U)<|D 16 U (zj (c:=.j _ _) jy U ⟨_,.head⟩ U)<|bJ.three (i:=0) (j:=6) (m:=12) U U U (by kernel_rfl) ?_ ?_ ?_
  ·refine yf (k:=1) Z5 X9<|fun i67=>Y<|bJ.three (i:=5) (j:=6) (m:=12) U U U (by kernel_rfl) ?_ ?_ ?_
   ·refine ya (k:=1) Z5 X9 U U U U U (fun _=>.head) ⟨_,.t2⟩ U (by rw[aH,hl1];omega) (by decide) (cG _) (by show (_+_)*8≤_;omega) (by omega)<|fun i72=>Y<|yq (i:=6) (j:=12) U U (by kernel_rfl) ?_ ?_
    ·refine yf (k:=1) ju Yr<|fun i73=>Y<|yq (i:=11) (j:=12) U U (by kernel_rfl) ?_ ?_
     ·refine ya (k:=1) ju Yr U U U U U (fun _=>.head) ⟨_,.t4⟩ U (by rw[aP,hl2];omega) (by decide) (fd _) (by show (_+_)*1≤_;omega) (by omega)<|fun i78=>Y<|bp 12 U<|yf (k:=1) j7 Y6<|fun i79=>Y<|bp 17 U<|ya (k:=1) j7 Y6 U U U U U (fun _=>.head) ⟨_,.t6⟩ U (by rw[aH,hl3];omega) (by decide) (cG _) (by show (_+_)*8≤_;omega) (by omega)<|fun i84=>cC .head<|cC .t1<|cC .t2<|Y<|D 18 U (eO U)<|D 19 U (eO U)<|D 20 U (eO U)<|dS ?_;exact ⟨(i72,i78,i84),eX,⟨congrArg (AV.j i72) (Nat.zero_add _),congrArg (AV.j i78) (Nat.zero_add _),congrArg (AV.j i84) (Nat.zero_add _),trivial⟩,aJ,trivial⟩
     refine yf (k:=1) j7 Y6<|fun i79=>Y<|bp 11 U<|ya (k:=1) ju Yr U U U U U (fun _=>.t1) ⟨_,.t5⟩ U (by rw[aP,hl2];omega) (by decide) (fd _) (by show (_+_)*1≤_;omega) (by omega)<|fun i78=>Y<|bp 17 U<|ya (k:=1) j7 Y6 U U U U U (fun _=>.head) ⟨_,.t6⟩ U (by rw[aH,hl3];omega) (by decide) (cG _) (by show (_+_)*8≤_;omega) (by omega)<|fun i84=>cC .head<|cC .t1<|cC .t2<|Y<|D 18 U (eO U)<|D 19 U (eO U)<|D 20 U (eO U)<|dS ?_;exact ⟨(i72,i78,i84),eX,⟨congrArg (AV.j i72) (Nat.zero_add _),congrArg (AV.j i78) (Nat.zero_add _),congrArg (AV.j i84) (Nat.zero_add _),trivial⟩,aJ,trivial⟩
    refine yf (k:=1) j7 Y6<|fun i79=>Y<|bp 6 U<|yf (k:=1) ju Yr<|fun i73=>Y<|bp 11 U<|ya (k:=1) ju Yr U U U U U (fun _=>.head) ⟨_,.t5⟩ U (by rw[aP,hl2];omega) (by decide) (fd _) (by show (_+_)*1≤_;omega) (by omega)<|fun i78=>Y<|bp 17 U<|ya (k:=1) j7 Y6 U U U U U (fun _=>.t1) ⟨_,.t6⟩ U (by rw[aH,hl3];omega) (by decide) (cG _) (by show (_+_)*8≤_;omega) (by omega)<|fun i84=>cC .t1<|cC .t1<|cC .t2<|Y<|D 18 U (eO U)<|D 19 U (eO U)<|D 20 U (eO U)<|dS ?_;exact ⟨(i72,i78,i84),eX,⟨congrArg (AV.j i72) (Nat.zero_add _),congrArg (AV.j i78) (Nat.zero_add _),congrArg (AV.j i84) (Nat.zero_add _),trivial⟩,aJ,trivial⟩
   ·refine yf (k:=1) ju Yr<|fun i73=>Y<|yq (i:=5) (j:=12) U U (by kernel_rfl) ?_ ?_
    ·refine ya (k:=1) Z5 X9 U U U U U (fun _=>.t1) ⟨_,.t3⟩ U (by rw[aH,hl1];omega) (by decide) (cG _) (by show (_+_)*8≤_;omega) (by omega)<|fun i72=>Y<|yq (i:=11) (j:=12) U U (by kernel_rfl) ?_ ?_
     ·refine ya (k:=1) ju Yr U U U U U (fun _=>.head) ⟨_,.t4⟩ U (by rw[aP,hl2];omega) (by decide) (fd _) (by show (_+_)*1≤_;omega) (by omega)<|fun i78=>Y<|bp 12 U<|yf (k:=1) j7 Y6<|fun i79=>Y<|bp 17 U<|ya (k:=1) j7 Y6 U U U U U (fun _=>.head) ⟨_,.t6⟩ U (by rw[aH,hl3];omega) (by decide) (cG _) (by show (_+_)*8≤_;omega) (by omega)<|fun i84=>cC .head<|cC .t1<|cC .t2<|Y<|D 18 U (eO U)<|D 19 U (eO U)<|D 20 U (eO U)<|dS ?_;exact ⟨(i72,i78,i84),eX,⟨congrArg (AV.j i72) (Nat.zero_add _),congrArg (AV.j i78) (Nat.zero_add _),congrArg (AV.j i84) (Nat.zero_add _),trivial⟩,aJ,trivial⟩
     refine yf (k:=1) j7 Y6<|fun i79=>Y<|bp 11 U<|ya (k:=1) ju Yr U U U U U (fun _=>.t1) ⟨_,.t5⟩ U (by rw[aP,hl2];omega) (by decide) (fd _) (by show (_+_)*1≤_;omega) (by omega)<|fun i78=>Y<|bp 17 U<|ya (k:=1) j7 Y6 U U U U U (fun _=>.head) ⟨_,.t6⟩ U (by rw[aH,hl3];omega) (by decide) (cG _) (by show (_+_)*8≤_;omega) (by omega)<|fun i84=>cC .head<|cC .t1<|cC .t2<|Y<|D 18 U (eO U)<|D 19 U (eO U)<|D 20 U (eO U)<|dS ?_;exact ⟨(i72,i78,i84),eX,⟨congrArg (AV.j i72) (Nat.zero_add _),congrArg (AV.j i78) (Nat.zero_add _),congrArg (AV.j i84) (Nat.zero_add _),trivial⟩,aJ,trivial⟩
    refine yf (k:=1) j7 Y6<|fun i79=>Y<|bp 5 U<|ya (k:=1) Z5 X9 U U U U U (fun _=>.t2) ⟨_,.t4⟩ U (by rw[aH,hl1];omega) (by decide) (cG _) (by show (_+_)*8≤_;omega) (by omega)<|fun i72=>Y<|bp 11 U<|ya (k:=1) ju Yr U U U U U (fun _=>.t1) ⟨_,.t5⟩ U (by rw[aP,hl2];omega) (by decide) (fd _) (by show (_+_)*1≤_;omega) (by omega)<|fun i78=>Y<|bp 17 U<|ya (k:=1) j7 Y6 U U U U U (fun _=>.head) ⟨_,.t6⟩ U (by rw[aH,hl3];omega) (by decide) (cG _) (by show (_+_)*8≤_;omega) (by omega)<|fun i84=>cC .head<|cC .t1<|cC .t2<|Y<|D 18 U (eO U)<|D 19 U (eO U)<|D 20 U (eO U)<|dS ?_;exact ⟨(i72,i78,i84),eX,⟨congrArg (AV.j i72) (Nat.zero_add _),congrArg (AV.j i78) (Nat.zero_add _),congrArg (AV.j i84) (Nat.zero_add _),trivial⟩,aJ,trivial⟩
   refine yf (k:=1) j7 Y6<|fun i79=>Y<|yq (i:=5) (j:=6) U U (by kernel_rfl) ?_ ?_
   ·refine ya (k:=1) Z5 X9 U U U U U (fun _=>.t1) ⟨_,.t3⟩ U (by rw[aH,hl1];omega) (by decide) (cG _) (by show (_+_)*8≤_;omega) (by omega)<|fun i72=>Y<|bp 6 U<|yf (k:=1) ju Yr<|fun i73=>Y<|bp 11 U<|ya (k:=1) ju Yr U U U U U (fun _=>.head) ⟨_,.t5⟩ U (by rw[aP,hl2];omega) (by decide) (fd _) (by show (_+_)*1≤_;omega) (by omega)<|fun i78=>Y<|bp 17 U<|ya (k:=1) j7 Y6 U U U U U (fun _=>.t1) ⟨_,.t6⟩ U (by rw[aH,hl3];omega) (by decide) (cG _) (by show (_+_)*8≤_;omega) (by omega)<|fun i84=>cC .t1<|cC .t1<|cC .t2<|Y<|D 18 U (eO U)<|D 19 U (eO U)<|D 20 U (eO U)<|dS ?_;exact ⟨(i72,i78,i84),eX,⟨congrArg (AV.j i72) (Nat.zero_add _),congrArg (AV.j i78) (Nat.zero_add _),congrArg (AV.j i84) (Nat.zero_add _),trivial⟩,aJ,trivial⟩
   refine yf (k:=1) ju Yr<|fun i73=>Y<|bp 5 U<|ya (k:=1) Z5 X9 U U U U U (fun _=>.t2) ⟨_,.t4⟩ U (by rw[aH,hl1];omega) (by decide) (cG _) (by show (_+_)*8≤_;omega) (by omega)<|fun i72=>Y<|bp 11 U<|ya (k:=1) ju Yr U U U U U (fun _=>.head) ⟨_,.t5⟩ U (by rw[aP,hl2];omega) (by decide) (fd _) (by show (_+_)*1≤_;omega) (by omega)<|fun i78=>Y<|bp 17 U<|ya (k:=1) j7 Y6 U U U U U (fun _=>.t1) ⟨_,.t6⟩ U (by rw[aH,hl3];omega) (by decide) (cG _) (by show (_+_)*8≤_;omega) (by omega)<|fun i84=>cC .t1<|cC .t1<|cC .t2<|Y<|D 18 U (eO U)<|D 19 U (eO U)<|D 20 U (eO U)<|dS ?_;exact ⟨(i72,i78,i84),eX,⟨congrArg (AV.j i72) (Nat.zero_add _),congrArg (AV.j i78) (Nat.zero_add _),congrArg (AV.j i84) (Nat.zero_add _),trivial⟩,aJ,trivial⟩
  ·refine yf (k:=1) ju Yr<|fun i73=>Y<|yq (i:=0) (j:=12) U U (by kernel_rfl) ?_ ?_
   ·refine yf (k:=1) Z5 X9<|fun i67=>Y<|yq (i:=5) (j:=12) U U (by kernel_rfl) ?_ ?_
    ·refine ya (k:=1) Z5 X9 U U U U U (fun _=>.head) ⟨_,.t3⟩ U (by rw[aH,hl1];omega) (by decide) (cG _) (by show (_+_)*8≤_;omega) (by omega)<|fun i72=>Y<|yq (i:=11) (j:=12) U U (by kernel_rfl) ?_ ?_
     ·refine ya (k:=1) ju Yr U U U U U (fun _=>.t1) ⟨_,.t4⟩ U (by rw[aP,hl2];omega) (by decide) (fd _) (by show (_+_)*1≤_;omega) (by omega)<|fun i78=>Y<|bp 12 U<|yf (k:=1) j7 Y6<|fun i79=>Y<|bp 17 U<|ya (k:=1) j7 Y6 U U U U U (fun _=>.head) ⟨_,.t6⟩ U (by rw[aH,hl3];omega) (by decide) (cG _) (by show (_+_)*8≤_;omega) (by omega)<|fun i84=>cC .head<|cC .t2<|cC .t2<|Y<|D 18 U (eO U)<|D 19 U (eO U)<|D 20 U (eO U)<|dS ?_;exact ⟨(i72,i78,i84),eX,⟨congrArg (AV.j i72) (Nat.zero_add _),congrArg (AV.j i78) (Nat.zero_add _),congrArg (AV.j i84) (Nat.zero_add _),trivial⟩,aJ,trivial⟩
     refine yf (k:=1) j7 Y6<|fun i79=>Y<|bp 11 U<|ya (k:=1) ju Yr U U U U U (fun _=>.t2) ⟨_,.t5⟩ U (by rw[aP,hl2];omega) (by decide) (fd _) (by show (_+_)*1≤_;omega) (by omega)<|fun i78=>Y<|bp 17 U<|ya (k:=1) j7 Y6 U U U U U (fun _=>.head) ⟨_,.t6⟩ U (by rw[aH,hl3];omega) (by decide) (cG _) (by show (_+_)*8≤_;omega) (by omega)<|fun i84=>cC .head<|cC .t2<|cC .t2<|Y<|D 18 U (eO U)<|D 19 U (eO U)<|D 20 U (eO U)<|dS ?_;exact ⟨(i72,i78,i84),eX,⟨congrArg (AV.j i72) (Nat.zero_add _),congrArg (AV.j i78) (Nat.zero_add _),congrArg (AV.j i84) (Nat.zero_add _),trivial⟩,aJ,trivial⟩
    refine yf (k:=1) j7 Y6<|fun i79=>Y<|bp 5 U<|ya (k:=1) Z5 X9 U U U U U (fun _=>.t1) ⟨_,.t4⟩ U (by rw[aH,hl1];omega) (by decide) (cG _) (by show (_+_)*8≤_;omega) (by omega)<|fun i72=>Y<|bp 11 U<|ya (k:=1) ju Yr U U U U U (fun _=>.t2) ⟨_,.t5⟩ U (by rw[aP,hl2];omega) (by decide) (fd _) (by show (_+_)*1≤_;omega) (by omega)<|fun i78=>Y<|bp 17 U<|ya (k:=1) j7 Y6 U U U U U (fun _=>.head) ⟨_,.t6⟩ U (by rw[aH,hl3];omega) (by decide) (cG _) (by show (_+_)*8≤_;omega) (by omega)<|fun i84=>cC .head<|cC .t2<|cC .t2<|Y<|D 18 U (eO U)<|D 19 U (eO U)<|D 20 U (eO U)<|dS ?_;exact ⟨(i72,i78,i84),eX,⟨congrArg (AV.j i72) (Nat.zero_add _),congrArg (AV.j i78) (Nat.zero_add _),congrArg (AV.j i84) (Nat.zero_add _),trivial⟩,aJ,trivial⟩
   refine yf (k:=1) j7 Y6<|fun i79=>Y<|bp 0 U<|yf (k:=1) Z5 X9<|fun i67=>Y<|bp 5 U<|ya (k:=1) Z5 X9 U U U U U (fun _=>.head) ⟨_,.t4⟩ U (by rw[aH,hl1];omega) (by decide) (cG _) (by show (_+_)*8≤_;omega) (by omega)<|fun i72=>Y<|bp 11 U<|ya (k:=1) ju Yr U U U U U (fun _=>.t2) ⟨_,.t5⟩ U (by rw[aP,hl2];omega) (by decide) (fd _) (by show (_+_)*1≤_;omega) (by omega)<|fun i78=>Y<|bp 17 U<|ya (k:=1) j7 Y6 U U U U U (fun _=>.t1) ⟨_,.t6⟩ U (by rw[aH,hl3];omega) (by decide) (cG _) (by show (_+_)*8≤_;omega) (by omega)<|fun i84=>cC .t1<|cC .t2<|cC .t2<|Y<|D 18 U (eO U)<|D 19 U (eO U)<|D 20 U (eO U)<|dS ?_;exact ⟨(i72,i78,i84),eX,⟨congrArg (AV.j i72) (Nat.zero_add _),congrArg (AV.j i78) (Nat.zero_add _),congrArg (AV.j i84) (Nat.zero_add _),trivial⟩,aJ,trivial⟩
  refine yf (k:=1) j7 Y6<|fun i79=>Y<|yq (i:=0) (j:=6) U U (by kernel_rfl) ?_ ?_
  ·refine yf (k:=1) Z5 X9<|fun i67=>Y<|yq (i:=5) (j:=6) U U (by kernel_rfl) ?_ ?_
   ·refine ya (k:=1) Z5 X9 U U U U U (fun _=>.head) ⟨_,.t3⟩ U (by rw[aH,hl1];omega) (by decide) (cG _) (by show (_+_)*8≤_;omega) (by omega)<|fun i72=>Y<|bp 6 U<|yf (k:=1) ju Yr<|fun i73=>Y<|bp 11 U<|ya (k:=1) ju Yr U U U U U (fun _=>.head) ⟨_,.t5⟩ U (by rw[aP,hl2];omega) (by decide) (fd _) (by show (_+_)*1≤_;omega) (by omega)<|fun i78=>Y<|bp 17 U<|ya (k:=1) j7 Y6 U U U U U (fun _=>.t2) ⟨_,.t6⟩ U (by rw[aH,hl3];omega) (by decide) (cG _) (by show (_+_)*8≤_;omega) (by omega)<|fun i84=>cC .t2<|cC .t1<|cC .t2<|Y<|D 18 U (eO U)<|D 19 U (eO U)<|D 20 U (eO U)<|dS ?_;exact ⟨(i72,i78,i84),eX,⟨congrArg (AV.j i72) (Nat.zero_add _),congrArg (AV.j i78) (Nat.zero_add _),congrArg (AV.j i84) (Nat.zero_add _),trivial⟩,aJ,trivial⟩
   refine yf (k:=1) ju Yr<|fun i73=>Y<|bp 5 U<|ya (k:=1) Z5 X9 U U U U U (fun _=>.t1) ⟨_,.t4⟩ U (by rw[aH,hl1];omega) (by decide) (cG _) (by show (_+_)*8≤_;omega) (by omega)<|fun i72=>Y<|bp 11 U<|ya (k:=1) ju Yr U U U U U (fun _=>.head) ⟨_,.t5⟩ U (by rw[aP,hl2];omega) (by decide) (fd _) (by show (_+_)*1≤_;omega) (by omega)<|fun i78=>Y<|bp 17 U<|ya (k:=1) j7 Y6 U U U U U (fun _=>.t2) ⟨_,.t6⟩ U (by rw[aH,hl3];omega) (by decide) (cG _) (by show (_+_)*8≤_;omega) (by omega)<|fun i84=>cC .t2<|cC .t1<|cC .t2<|Y<|D 18 U (eO U)<|D 19 U (eO U)<|D 20 U (eO U)<|dS ?_;exact ⟨(i72,i78,i84),eX,⟨congrArg (AV.j i72) (Nat.zero_add _),congrArg (AV.j i78) (Nat.zero_add _),congrArg (AV.j i84) (Nat.zero_add _),trivial⟩,aJ,trivial⟩
  refine yf (k:=1) ju Yr<|fun i73=>Y<|bp 0 U<|yf (k:=1) Z5 X9<|fun i67=>Y<|bp 5 U<|ya (k:=1) Z5 X9 U U U U U (fun _=>.head) ⟨_,.t4⟩ U (by rw[aH,hl1];omega) (by decide) (cG _) (by show (_+_)*8≤_;omega) (by omega)<|fun i72=>Y<|bp 11 U<|ya (k:=1) ju Yr U U U U U (fun _=>.t1) ⟨_,.t5⟩ U (by rw[aP,hl2];omega) (by decide) (fd _) (by show (_+_)*1≤_;omega) (by omega)<|fun i78=>Y<|bp 17 U<|ya (k:=1) j7 Y6 U U U U U (fun _=>.t2) ⟨_,.t6⟩ U (by rw[aH,hl3];omega) (by decide) (cG _) (by show (_+_)*8≤_;omega) (by omega)<|fun i84=>Y<|D 18 U (eO U)<|D 19 U (eO U)<|D 20 U (eO U)<|dS ?_;exact ⟨(i72,i78,i84),eX,⟨congrArg (AV.j i72) (Nat.zero_add _),congrArg (AV.j i78) (Nat.zero_add _),congrArg (AV.j i84) (Nat.zero_add _),trivial⟩,aJ,trivial⟩
 rintro ⟨i72,i78,i84⟩ _;refine za<|Z<|bf U<|aC U<|X (ze je U jk (by decide) U U)<|X (ze jf U Zd (by decide) U U)<|X (zj (c:=.fro _ _) Zf U ⟨_,.head⟩ U)<|C U<|X (bD dst_.toNat jr Z1 U U (by omega) hB)<|ao ji U Zv U U<|aK Yf U<|am Z6 U<|C U<|Y<|zd<|zu (γ:=Nat) [0,1,4,9,10,11,93,94] (fun k=>[(95,.i k)]) (fun k=>(iw,.cells 99 (LE f ja jb jc jo jt (GV B.p s k)))::(i72,.u 1 2 (cI s.ints))::(i78,.u 1 4 (cB s.bools))::(i84,.u 1 3 (cI s.arrs))::(i4,.u 1 3 (cI (sv B.p s.blk B.p.length)))::wR ja jb jc jo jt ids (GV B.p s k)) (fun k=>k≤B.p.length) (fun k=>B.p.length - k) 0 aN aJ (qw _) ?_;rintro k hk;refine Z<|aq U U<|Y<|za<|zh U (fun ck=>?_) (fun ck=>?_)
 ·have hk2:k<B.p.length:=by simp at ck;omega
  obtain ⟨p,hp⟩:∃p,B.p[k]=p:=⟨_,rfl⟩;have hpg:B.p[k]?=some p:=by rw[qt hk2,hp]
  have hpm:=w5 hpg;have hp0:=hok p hpm;obtain ⟨hd,_,_,ha,_⟩:=hph p hpm;obtain ⟨d1,d0⟩:=bz hd;obtain ⟨v1,v0⟩:=bz (List.all_eq_true.1 ha _ (re hp0));have hgg:(sv B.p s.blk B.p.length)[k]?=some (dz p s.blk):=by rw[LF hk2,hp]
  have t1:=(hT k).li;have t2:=(hT k).lb;have t3:=(hT k).la
  refine zc<|za<|zd<|Z<|C U<|X (bD k Z6 Ze U U U hpg)<|ae Ys Ze U U<|zp (cs:=[.i 0,.n,.n]) Y0 U U<|fun i13=>ap U<|zi Ze U U U U U U .head U<|y9 (zz (t:=13) U .head)<|Y<|bY.regionDrawR (by kernel_rfl) U (zk (.r (.r (.r (.r (.r (.l (.l (.l (.l (.l (.l (.rest _)))))))))))))<|y6 (i:=0) U (by kernel_rfl) (by kernel_rfl) (by kernel_rfl) (dZ U)<|y6 (i:=1) U (by kernel_rfl) (by kernel_rfl) (by kernel_rfl) (zr U)<|y6 (i:=2) U (by kernel_rfl) (by kernel_rfl) (by kernel_rfl) (ze je U Zx (by decide) U U)<|y6 (i:=3) U (by kernel_rfl) (by kernel_rfl) (by kernel_rfl) (zj (c:=.j _ _) Yh U ⟨_,.head⟩ U)<|y6 (i:=4) U (by kernel_rfl) (by kernel_rfl) (by kernel_rfl) (dk Z3 U j9 U U)<|y6 (i:=5) U (by kernel_rfl) (by kernel_rfl) (by kernel_rfl) (d9 jg U)<|y6 (i:=6) U (by kernel_rfl) (by kernel_rfl) (by kernel_rfl) (dZ U)<|y6 (i:=7) U (by kernel_rfl) (by kernel_rfl) (by kernel_rfl) (zr U)<|y6 (i:=8) U (by kernel_rfl) (by kernel_rfl) (by kernel_rfl) (ze je U Yi (by decide) U U)<|y6 (i:=9) U (by kernel_rfl) (by kernel_rfl) (by kernel_rfl) (zj (c:=.j _ _) Yu U ⟨_,.head⟩ U)<|y6 (i:=10) U (by kernel_rfl) (by kernel_rfl) (by kernel_rfl) (dk Z3 U j9 U U)<|y6 (i:=11) U (by kernel_rfl) (by kernel_rfl) (by kernel_rfl) (d9 jg U)<|y6 (i:=12) U (by kernel_rfl) (by kernel_rfl) (by kernel_rfl) (dZ U)<|y6 (i:=13) U (by kernel_rfl) (by kernel_rfl) (by kernel_rfl) (zr U)<|y6 (i:=14) U (by kernel_rfl) (by kernel_rfl) (by kernel_rfl) (ze je U jh (by decide) U U)<|y6 (i:=15) U (by kernel_rfl) (by kernel_rfl) (by kernel_rfl) (zj (c:=.j _ _) jy U ⟨_,.head⟩ U)<|y6 (i:=16) U (by kernel_rfl) (by kernel_rfl) (by kernel_rfl) (dk Z3 U j9 U U)<|y6 (i:=17) U (by kernel_rfl) (by kernel_rfl) (by kernel_rfl) (d9 jg U)<|y6 (i:=18) U (by kernel_rfl) (by kernel_rfl) (by kernel_rfl) (Kc U)<|y6 (i:=19) U (by kernel_rfl) (by kernel_rfl) (by kernel_rfl) (Kc U)<|y6 (i:=20) U (by kernel_rfl) (by kernel_rfl) (by kernel_rfl) (dC U)<|y6 (i:=21) U (by kernel_rfl) (by kernel_rfl) (by kernel_rfl) (y7 (j:=k) j7 j9 U U U ⟨_,.t4⟩ ((aH _).trans (sP (Nat.le_refl _))) hk2)<|y6 (i:=22) U (by kernel_rfl) (by kernel_rfl) (by kernel_rfl) (yp (j:=k) jg U ⟨_,.t4⟩ hgg)<|y6 (i:=23) U (by kernel_rfl) (by kernel_rfl) (by kernel_rfl) (y7 (j:=(dz p s.blk).toNat) Z5 Z0 U U (we v0).symm ⟨_,.t1⟩ ((aH _).trans hl1) (by omega))<|y6 (i:=24) U (by kernel_rfl) (by kernel_rfl) (by kernel_rfl) (yp (j:=(dz p s.blk).toNat) Zb U ⟨_,.t1⟩ (gz (by omega) v0))<|y6 (i:=25) U (by kernel_rfl) (by kernel_rfl) (by kernel_rfl) (Kc U)<|y6 (i:=26) U (by kernel_rfl) (by kernel_rfl) (by kernel_rfl) (Kc U) ?_
  refine y6 (i:=27) U (by kernel_rfl) (by kernel_rfl) (by kernel_rfl) (dC U)<|y6 (i:=28) U (by kernel_rfl) (by kernel_rfl) (by kernel_rfl) (y7 (j:=k) j7 j9 U U U ⟨_,.t4⟩ ((aH _).trans (sP (Nat.le_refl _))) hk2)<|y6 (i:=29) U (by kernel_rfl) (by kernel_rfl) (by kernel_rfl) (yp (j:=k) jg U ⟨_,.t4⟩ hgg)<|y6 (i:=30) U (by kernel_rfl) (by kernel_rfl) (by kernel_rfl) (y7 (j:=(dz p s.blk).toNat) ju Zc U U (we v0).symm ⟨_,.t2⟩ ((aP _).trans hl2) (by omega))<|y6 (i:=31) U (by kernel_rfl) (by kernel_rfl) (by kernel_rfl) (Gv.loadB (j:=(dz p s.blk).toNat) Yn U ⟨_,.t2⟩ (nu (by omega) v0))<|y6 (i:=32) U (by kernel_rfl) (by kernel_rfl) (by kernel_rfl) (Kc U)<|y6 (i:=33) U (by kernel_rfl) (by kernel_rfl) (by kernel_rfl) (Kc U)<|y6 (i:=34) U (by kernel_rfl) (by kernel_rfl) (by kernel_rfl) (dC U)<|y6 (i:=35) U (by kernel_rfl) (by kernel_rfl) (by kernel_rfl) (y7 (j:=k) j7 j9 U U U ⟨_,.t4⟩ ((aH _).trans (sP (Nat.le_refl _))) hk2)<|y6 (i:=36) U (by kernel_rfl) (by kernel_rfl) (by kernel_rfl) (yp (j:=k) jg U ⟨_,.t4⟩ hgg)<|y6 (i:=37) U (by kernel_rfl) (by kernel_rfl) (by kernel_rfl) (y7 (j:=(dz p s.blk).toNat) j7 j9 U U (we v0).symm ⟨_,.t3⟩ ((aH _).trans hl3) (by omega))<|y6 (i:=38) U (by kernel_rfl) (by kernel_rfl) (by kernel_rfl) (yp (j:=(dz p s.blk).toNat) jg U ⟨_,.t3⟩ (gz (by omega) v0))<|qr (i:=39) U (by kernel_rfl)<|X (y7 (j:=p.dst.toNat) Z5 Z0 U U (we d0).symm ⟨_,.head⟩ ((aH _).trans t1) (by omega))<|Y<|qr (i:=40) U (by kernel_rfl)<|yw (j:=p.dst.toNat) Z0 U U .head (by first|omega|(simp;omega))<|Y<|qr (i:=41) U (by kernel_rfl)<|X (y7 (j:=p.dst.toNat) ju Zc U U (we d0).symm ⟨_,.t1⟩ ((aP _).trans t2) (by omega))<|Y<|qr (i:=42) U (by kernel_rfl)<|yy (j:=p.dst.toNat) Zc U U .t1 (by first|omega|(simp;omega))<|Y<|qr (i:=43) U (by kernel_rfl)<|X (y7 (j:=p.dst.toNat) j7 j9 U U (we d0).symm ⟨_,.t2⟩ ((aH _).trans t3) (by omega))<|Y<|qr (i:=44) U (by kernel_rfl)<|yw (j:=p.dst.toNat) j9 U U .t2 (by first|omega|(simp;omega))<|Y<|lH.done (by kernel_rfl)<|bQ U U ?_
  exact ⟨k+1,rY,aN,⟨_,(.refl _),by rw[LG hk2,hp];rfl⟩,hk2,by omega⟩
 obtain rfl:k=B.p.length:=by simp at ck;omega
 refine yd (qe .t1)<|yd (qe .t1)<|yd (qe .t1)<|yd (qe .t1)<|zt<|bZ<|bf U<|bf U<|C U<|aC U<|X (ze je U j9 (by decide) U U)<|yh (l:=[_]) (new:=[_,_,_,_,_,_,_,_,_,_,_,_,_,_,_,_,_,_,_,_,_,_,_]) j9 U U U U U U .head U U<|aC U<|X (ze je U j9 (by decide) U U)<|yh (l:=[_]) (new:=[_,_,_,_,_,_,_,_,_,_,_,_,_,_,_,_,_,_,_,_,_,_,_]) j9 U U U U U U .head U U<|Y<|yu ?_;exact ⟨by rw[hE];show _=(GV B.p s B.p.length).y.length;rw[GK];exact hids,rfl,by rw[hE];rfl⟩
theorem GL {f:ab} {s:GS} {x:aB} (h:(aQ f s.blk).s[s.pc]?=some x):bx f s=bc { s with pc:=s.pc+1,st:=s.st+1 } x:=by unfold bx;rw[h]
theorem JT {f:ab} {s:GS} (h:(aQ f s.blk).s[s.pc]?=none):bx f s=if (aQ f s.blk).t.kind=2 then d7 { s with st:=s.st+1,val:=vi s.ints (aQ f s.blk).t.var } 0 else fC f { s with st:=s.st+1 } (gn f s):=by unfold bx;rw[h]
theorem DI {f:ab} {t:fJ} (h:bP f t=true) (hk:¬t.kind=0):t.var<f.v.length∧0≤t.var:=bz (gl h hk)
set_option maxHeartbeats 8000000 in
theorem DJ (f:ab) (iw ja jb jc jo jt:Nat) (ids:List Nat) (s:GS) (hids:ids.length=s.y.length) (hg:bE f s) (hR:qZ f) (hv:f.v.length≤1000) (hs:small f) (hst:s.st≤1000000000) (hck:∀i,s.ck i≤1000000000):aX prog E 34 [.po iw 0] (wO f iw ja jb jc jo jt ids s) (fun y O=>∃jo' jt' ids',ids'.length=(bx f s).y.length∧y=.tup []∧O=wO f iw ja jb jc jo' jt' ids' (bx f s)):=by
 have hB:=dY hg.b0 hg.b1;have hBm:=w5 hB;have hsm:=(hs.2.2.2.2 _ hBm).2.2.1;have hpc:=hg.pc;have hin:=hR.s _ hBm;have htm:=hR.t _ hBm;have hi:=@GL f s;have he:=@JT f s;obtain ⟨B,hBe⟩:∃B,aQ f s.blk=B:=⟨_,rfl⟩;have hnx:gn f s=if B.t.kind=0∨gb s.bools B.t.var=true then B.t.to0 else B.t.to1:=by rw[←hBe];rfl
 have hnt:=ma hR hg;rw[hBe] at hB hsm hpc hin htm hi he hnt;have hl1:=hg.li;have hl2:=hg.lb;have hgu:bE f { s with st:=s.st+1 }:=hg.up _ s.val
 refine zm func34 U (by decide) U<|Z<|bf U<|aC U<|X (ze je U Yd (by decide) U U)<|X (ze Zl U j9 (by decide) U U)<|X (zj (c:=.int _ _) jg U ⟨_,.head⟩ U)<|X (ky U U)<|aC U<|X (ze je U Yd (by decide) U U)<|X (ze Zl U j9 (by decide) U U)<|yh (l:=[_]) (new:=[_,_,_,_,_,_,_,_,_,_,_,_,_,_,_,_,_,_,_,_,_,_,_]) j9 U U U U U U .head U U<|Y<|za<|zn (fun j=>Nat.beq j 12) (by kernel_rfl) U (zk (.r (.rest _)))<|D 0 U (dZ U)<|D 1 U (zr U)<|D 2 U (ze je U jk (by decide) U U)<|D 3 U (ze jf U Zd (by decide) U U)<|D 4 U (zj (c:=.fro _ _) Zf U ⟨_,.head⟩ U)<|D 5 U (dZ U)<|D 6 U (zr U)<|D 7 U (ze je U j9 (by decide) U U)<|D 8 U (zj (c:=.int _ _) jg U ⟨_,.head⟩ U)<|D 9 U (bD s.blk.toNat jr Z1 U U (we hg.b0).symm hB)<|D 10 U (yj Ye Z1 U U)<|bp 11 U<|zp (cs:=[.e,.n,.n,.i 0,.i 0,.i 0,.i 0]) Zh U U<|fun i2=>Y<|y4<|yg (i:=12) U (by kernel_rfl) (by kernel_rfl)<|zi Z1 U U U U U U .t1 U<|Y<|y8 (by kernel_rfl)<|yd (zz (t:=2) U .t1)<|za<|za<|zn (fun j=>false) (by kernel_rfl) U (zk (.r (.rest _)))<|D 0 U (dZ U)<|D 1 U (zr U) ?_
 refine D 2 U (ze je U j9 (by decide) U U)<|D 3 U (zj (c:=.int _ _) jg U ⟨_,.head⟩ U)<|D 4 U (dk ji U Zw U U)<|D 5 U (gJ Y3 U)<|D 6 U (Gv.lenM Z4 U)<|D 7 U (Gv.lss U U)<|dS<|zh U (fun cp=>?_) (fun cp=>?_)
 ·have hp:s.pc<B.s.length:=by simp at cp;omega
  obtain ⟨x,hx⟩:∃x,B.s[s.pc]=x:=⟨_,rfl⟩;have hxg:B.s[s.pc]?=some x:=by rw[qt hp,hx]
  obtain ⟨hix,h64⟩:=hin x (w5 hxg);have hS:=hi hxg;have hg2:bE f { s with pc:=s.pc+1,st:=s.st+1 }:=⟨hg.li,hg.lb,hg.la,hg.i64,hg.arr,hg.ls,hg.lr,hg.r64,hg.lt,hg.b0,hg.b1,by show s.pc+1≤(aQ f s.blk).s.length;rw[hBe];exact hp⟩
  refine Z<|bf U<|aC U<|X (ze je U j9 (by decide) U U)<|X (zj (c:=.int _ _) jg U ⟨_,.head⟩ U)<|X (ky U U)<|aC U<|X (ze je U j9 (by decide) U U)<|yh (l:=[_]) (new:=[_,_,_,_,_,_,_,_,_,_,_,_,_,_,_,_,_,_,_,_,_,_,_]) j9 U U U U U U .head U U<|Y<|za<|zn (fun j=>false) (by kernel_rfl) U (zk (.rest _))<|D 0 U (dZ U)<|D 1 U (dk ji U Zw U U)<|D 2 U (gJ Y3 U)<|D 3 U (dZ U)<|D 4 U (zr U)<|D 5 U (ze je U j9 (by decide) U U)<|bp 6 U<|X (zj (c:=.int _ _) jg U ⟨_,.head⟩ U)<|Y<|D 7 U (Gv.sub U U (by unfold mB;omega))<|D 8 U (bD s.pc Z4 Z9 U U (by omega) hxg)<|D 9 U (yj Yg Z9 U U)<|bp 10 U<|zy U (zk (.l (.l (.l (.l (.l (.l (.l (.rest _))))))))) (DH f iw ja jb jc jo jt ids { s with pc:=s.pc+1,st:=s.st+1 } x hids hg2 hix hv hck) ?_;rintro r49 O49 ⟨jo',jt',ids',hl',rfl,rfl⟩;refine Y<|dS<|zf<|yu ?_;exact ⟨jo',jt',ids',by rw[hS];exact hl',rfl,by rw[hS];rfl⟩
 have hp:B.s[s.pc]?=none:=by rw[List.getElem?_eq_none];simp at cp;omega
 have hS:=he hp;refine zc<|Z<|ao ji U Zp U U<|ae Xl Zp U U<|zp (cs:=[.i 0,.i 0,.i 0,.i 0]) Xg U U<|fun i3=>zi Zp U U U U U U .head U<|y9 (zz (t:=3) U .head)<|Y<|zd<|Z<|ao jj U Y5 U U<|aD Yk U<|au U U<|ah U<|Y<|zh U (fun ck=>?_) (fun ck=>?_)
 ·have ck:B.t.kind=2:=by simpa using ck
  rw[if_pos ck] at hS;obtain ⟨v1,v0⟩:=DI htm (by omega)
  refine za<|zn (fun j=>Nat.beq j 12) (by kernel_rfl) U (zk (.r (.r (.r (.rest _)))))<|D 0 U (dZ U)<|D 1 U (dZ U)<|D 2 U (zr U)<|D 3 U (ze je U Zx (by decide) U U)<|D 4 U (zj (c:=.j _ _) Yh U ⟨_,.head⟩ U)<|D 5 U (dk jj U j9 U U)<|D 6 U (d9 jg U)<|D 7 U (y7 (j:=B.t.var.toNat) Z5 Z0 U U (we v0).symm ⟨_,.t1⟩ ((aH _).trans hl1) (by omega))<|D 8 U (yp (j:=B.t.var.toNat) Zb U ⟨_,.t1⟩ (gz (by omega) v0))<|yo (i:=9) U (by kernel_rfl) (by kernel_rfl) (by kernel_rfl) (by kernel_rfl) (zr U)<|yo (i:=10) U (by kernel_rfl) (by kernel_rfl) (by kernel_rfl) (by kernel_rfl) (ze je U Yd (by decide) U U)<|D 11 U (ze Zl U Z0 (by decide) U U)<|y4<|yg (i:=12) U (by kernel_rfl) (by kernel_rfl)<|yh (l:=[_]) (new:=[_,_,_,_,_,_,_,_,_,_,_,_,_,_,_,_,_,_,_,_,_,_,_]) Z0 U U U U U U .head U U<|Y<|y8 (by kernel_rfl)<|bZ<|bf U<|zy U (zk (.l (.l (.l (.l (.l (.l (.l (.rest _))))))))) (fx f iw ja jb jc jo jt ids { s with st:=s.st+1,val:=vi s.ints B.t.var } 0) ?_
  rintro r74 O74 ⟨rfl,rfl⟩;refine Y<|yu ?_;exact ⟨jo,jt,ids,by rw[hS];exact hids,rfl,by rw[hS];rfl⟩
 have ck:¬B.t.kind=2:=by simpa using ck
 rw[if_neg ck] at hS;obtain ⟨g0,g1⟩:=hnt ck;refine za<|zn (fun j=>false) (by kernel_rfl) U (zk (.r (.r (.r (.rest _)))))<|D 0 U (dk jj U Y5 U U)<|D 1 U (d9 Yk U)<|D 2 U (Gv.eqlI U U)<|D 3 U (Cl U)<|bJ.case (s:=79) U (fun c0=>?_) (fun c0=>?_)
 ·have d0:B.t.kind=0:=by simpa using c0
  rw[if_pos (.inl d0)] at hnx;rw[hnx] at hS g0 g1;refine fX 4 U U U c0<|fX 5 U U U c0<|fX 6 U U U c0<|fX 7 U U U c0<|fX 8 U U U c0<|fX 9 U U U c0<|fX 10 U U U c0<|fX 11 U U U c0<|D 12 U (G4 U c0 U)<|D 13 U (sx U)<|dS<|ym U U<|bZ<|bf U<|ao jj U Zi U U<|X (yt (j:=0) Z8 j9 U U U (by decide) U)<|aD jg U<|zy U (zk (.l (.l (.l (.l (.l (.l (.l (.rest _))))))))) (nv f iw ja jb jc jo jt ids { s with st:=s.st+1 } B.t.to0 hids hgu hR hv hs g0 g1) ?_;rintro r93 O93 ⟨hl',rfl,rfl⟩;refine Y<|yu ?_;exact ⟨jo,jt,ids,by rw[hS];exact hl',rfl,by rw[hS];rfl⟩
 have d0:¬B.t.kind=0:=by simpa using c0
 obtain ⟨v1,v0⟩:=DI htm d0;refine iU 4 U U U c0 (dZ U)<|iU 5 U U U c0 (zr U)<|iU 6 U U U c0 (ze je U Yi (by decide) U U)<|iU 7 U U U c0 (zj (c:=.j _ _) Yu U ⟨_,.head⟩ U)<|iU 8 U U U c0 (dk jj U j9 U U)<|iU 9 U U U c0 (d9 jg U)<|iU 10 U U U c0 (y7 (j:=B.t.var.toNat) ju Zc U U (we v0).symm ⟨_,.t2⟩ ((aP _).trans hl2) (by omega))<|iU 11 U U U c0 (Gv.loadB (j:=B.t.var.toNat) Yn U ⟨_,.t2⟩ (nu (by omega) v0))<|D 12 U (GT U c0 U)<|D 13 U (sx U)<|dS<|zq U (fun cw=>?_) (fun cw=>?_)
 ·have cw:gb s.bools B.t.var=true:=cw;rw[if_pos (.inr cw)] at hnx;rw[hnx] at hS g0 g1;refine bZ<|bf U<|ao jj U Zi U U<|X (yt (j:=0) Z8 j9 U U U (by decide) U)<|aD jg U<|zy U (zk (.l (.l (.l (.l (.l (.l (.l (.rest _))))))))) (nv f iw ja jb jc jo jt ids { s with st:=s.st+1 } B.t.to0 hids hgu hR hv hs g0 g1) ?_;rintro r93 O93 ⟨hl',rfl,rfl⟩;refine Y<|yu ?_;exact ⟨jo,jt,ids,by rw[hS];exact hl',rfl,by rw[hS];rfl⟩
 have cw:gb s.bools B.t.var=false:=cw;rw[if_neg (by rintro (h|h);exact d0 h;rw[cw] at h;cases h)] at hnx;rw[hnx] at hS g0 g1;refine bZ<|bf U<|ao jj U Zi U U<|X (yt (j:=1) Z8 j9 U U U (by decide) U)<|aD jg U<|zy U (zk (.l (.l (.l (.l (.l (.l (.l (.rest _))))))))) (nv f iw ja jb jc jo jt ids { s with st:=s.st+1 } B.t.to1 hids hgu hR hv hs g0 g1) ?_;rintro r56 O56 ⟨hl',rfl,rfl⟩;refine Y<|yu ?_;exact ⟨jo,jt,ids,by rw[hS];exact hl',rfl,by rw[hS];rfl⟩
def JU (f:ab) (s:GS):Int:=if (decide ((s.pc:Int)<(aQ f s.blk).s.length)||decide ((aQ f s.blk).t.kind=2))=true then -1 else gn f s
theorem Cf (f:ab) (iw ja jb jc jo jt:Nat) (ids:List Nat) (s:GS) (hg:bE f s) (hR:qZ f) (hs:small f):aX prog E 62 [.po iw 0] (wO f iw ja jb jc jo jt ids s) (fun y O=>y=.i (JU f s)∧O=wO f iw ja jb jc jo jt ids s):=by
 have hB:=dY hg.b0 hg.b1;have hBm:=w5 hB;have hsm:=(hs.2.2.2.2 _ hBm).2.2.1;have hpc:=hg.pc;have htm:=hR.t _ hBm;have hl2:=hg.lb;have hn:JU f s=if (decide ((s.pc:Int)<(aQ f s.blk).s.length)||decide ((aQ f s.blk).t.kind=2))=true then -1 else gn f s:=rfl
 obtain ⟨B,hBe⟩:∃B,aQ f s.blk=B:=⟨_,rfl⟩;have hnx:gn f s=if B.t.kind=0∨gb s.bools B.t.var=true then B.t.to0 else B.t.to1:=by rw[←hBe];rfl
 rw[hBe] at hB hsm hpc htm hn;rw[hn];clear hn
 refine zm func62 U (by decide) U<|Z<|ap U<|Y<|za<|zn (fun j=>Nat.beq j 12) (by kernel_rfl) U (zk (.r (.rest _)))<|D 0 U (dZ U)<|D 1 U (zr U)<|D 2 U (ze je U jk (by decide) U U)<|D 3 U (ze jf U Zd (by decide) U U)<|D 4 U (zj (c:=.fro _ _) Zf U ⟨_,.head⟩ U)<|D 5 U (dZ U)<|D 6 U (zr U)<|D 7 U (ze je U j9 (by decide) U U)<|D 8 U (zj (c:=.int _ _) jg U ⟨_,.head⟩ U)<|D 9 U (bD s.blk.toNat jr Z1 U U (we hg.b0).symm hB)<|D 10 U (yj Ye Z1 U U)<|bp 11 U<|zp (cs:=[.e,.n,.n,.i 0,.i 0,.i 0,.i 0]) Zh U U<|fun i3=>Y<|y4<|yg (i:=12) U (by kernel_rfl) (by kernel_rfl)<|zi Z1 U U U U U U .t1 U<|Y<|y8 (by kernel_rfl)<|yd (zz (t:=3) U .t1)<|Z<|ao ji U Zp U U<|ae Xl Zp U U<|zp (cs:=[.i 0,.i 0,.i 0,.i 0]) Xg U U<|fun i4=>zi Zp U U U U U U .head U<|y9 (zz (t:=4) U .head)<|Y<|za<|zd<|za<|y3 (γ:=Bool) [0,4] (fun u=>[(18,.bool u)]) (fun u=>wO f iw ja jb jc jo jt ids s) (fun u=>u=(decide ((s.pc:Int)<B.s.length)||decide (B.t.kind=2))) ?_ (fun _ _ h=>h) ?_
 ·refine zn (fun j=>false) (by kernel_rfl) U (zk (.r (.rest _)))<|D 0 U (dZ U)<|D 1 U (zr U)<|D 2 U (ze je U j9 (by decide) U U)<|D 3 U (zj (c:=.int _ _) jg U ⟨_,.head⟩ U)<|D 4 U (dk ji U Zw U U)<|D 5 U (gJ Y3 U)<|D 6 U (Gv.lenM Z4 U)<|D 7 U (Gv.lss U U)<|D 8 U (Cl U)<|bJ.case (s:=27) U (fun c1=>?_) (fun c1=>?_)
  ·refine fX 9 U U U c1<|fX 10 U U U c1<|fX 11 U U U c1<|D 12 U (G4 U c1 U)<|D 13 U (sx U)<|dS ?_;exact ⟨_,cV,aN,aJ,by simp_all<;>omega⟩
  refine iU 9 U U U c1 (dk jj U Y5 U U)<|iU 10 U U U c1 (d9 Yk U)<|iU 11 U U U c1 (Gv.eqlI U U)<|D 12 U (GT U c1 U)<|D 13 U (sx U)<|dS ?_;exact ⟨_,cV,aN,aJ,by simp_all<;>omega⟩
 rintro u hu;subst hu;refine zq U (fun cu=>?_) (fun cu=>?_)
 ·rw[if_pos cu];refine Z<|ap U<|Y<|zf ?_
  repeat (first|refine ad ?_|refine aa ?_)
  refine gu U ?_;exact ⟨rfl,rfl⟩
 rw[if_neg (by rw[cu];decide)];rw[hnx];refine za<|zn (fun j=>false) (by kernel_rfl) U (zk (.r (.l (.r (.rest _)))))<|D 0 U (dk jj U Y5 U U)<|D 1 U (d9 Yk U)<|D 2 U (Gv.eqlI U U)<|D 3 U (Cl U)<|bJ.case (s:=36) U (fun c0=>?_) (fun c0=>?_)
 ·have d0:B.t.kind=0:=by simpa using c0
  rw[if_pos (.inl d0)];refine fX 4 U U U c0<|fX 5 U U U c0<|fX 6 U U U c0<|fX 7 U U U c0<|fX 8 U U U c0<|fX 9 U U U c0<|fX 10 U U U c0<|fX 11 U U U c0<|D 12 U (G4 U c0 U)<|D 13 U (sx U)<|dS<|gd .t2<|gd .t1<|ym U U<|Z<|ao jj U Zi U U<|X (yt (j:=0) Z8 j9 U U U (by decide) U)<|aD jg U<|ap U<|Y<|zf ?_
  repeat (first|refine ad ?_|refine aa ?_)
  refine gu U ?_;exact ⟨rfl,rfl⟩
 have d0:¬B.t.kind=0:=by simpa using c0
 obtain ⟨v1,v0⟩:=DI htm d0;refine iU 4 U U U c0 (dZ U)<|iU 5 U U U c0 (zr U)<|iU 6 U U U c0 (ze je U Yi (by decide) U U)<|iU 7 U U U c0 (zj (c:=.j _ _) Yu U ⟨_,.head⟩ U)<|iU 8 U U U c0 (dk jj U j9 U U)<|iU 9 U U U c0 (d9 jg U)<|iU 10 U U U c0 (y7 (j:=B.t.var.toNat) ju Zc U U (we v0).symm ⟨_,.t1⟩ ((aP _).trans hl2) (by omega))<|iU 11 U U U c0 (Gv.loadB (j:=B.t.var.toNat) Yn U ⟨_,.t1⟩ (nu (by omega) v0))<|D 12 U (GT U c0 U)<|D 13 U (sx U)<|dS<|gd .t2<|gd .t1<|zq U (fun cw=>?_) (fun cw=>?_)
 ·have cw:gb s.bools B.t.var=true:=cw;rw[if_pos (.inr cw)];refine Z<|ao jj U Zi U U<|X (yt (j:=0) Z8 j9 U U U (by decide) U)<|aD jg U<|ap U<|Y<|zf ?_
  repeat (first|refine ad ?_|refine aa ?_)
  refine gu U ?_;exact ⟨rfl,rfl⟩
 have cw:gb s.bools B.t.var=false:=cw;rw[if_neg (by rintro (h|h);exact d0 h;rw[cw] at h;cases h)];refine zc<|Z<|ao jj U Zi U U<|X (yt (j:=1) Z8 j9 U U U (by decide) U)<|aD jg U<|ap U<|Y<|zf ?_
 repeat (first|refine ad ?_|refine aa ?_)
 refine gu U ?_;exact ⟨rfl,rfl⟩
theorem yR (f:ab) (iw ja jb jc jo jt:Nat) (ids:List Nat) (s:GS) (hg:bE f s) (hR:qZ f) (hs:small f):aX prog E 33 [.po iw 0] (wO f iw ja jb jc jo jt ids s) (fun y O=>y=.fro 1 ((dL f s).map b7)∧O=wO f iw ja jb jc jo jt ids s):=by
 have hB:=dY hg.b0 hg.b1;have hBm:=w5 hB;have hsm:=(hs.2.2.2.2 _ hBm).2.2.1;have hpc:=hg.pc;have hN:=Cf (E:=E) f iw ja jb jc jo jt ids s hg hR hs;have hnt:=ma hR hg;unfold JU at hN;have hmk:dL f s=match (aQ f s.blk).s[s.pc]? with
  |some x=>if 0≤x.dst then[x.dst] else[]
  |none=>if (aQ f s.blk).t.kind=2 then[] else (aQ f (gn f s)).p.map (·.dst):=rfl
 obtain ⟨B,hBe⟩:∃B,aQ f s.blk=B:=⟨_,rfl⟩;rw[hBe] at hB hsm hpc hmk hnt hN
 refine zm func33 U (by decide) U<|Z<|X (kT U)<|Y<|za<|zn (fun j=>Nat.beq j 12) (by kernel_rfl) U (zk (.r (.rest _)))<|D 0 U (dZ U)<|D 1 U (zr U)<|D 2 U (ze je U jk (by decide) U U)<|D 3 U (ze jf U Zd (by decide) U U)<|D 4 U (zj (c:=.fro _ _) Zf U ⟨_,.head⟩ U)<|D 5 U (dZ U)<|D 6 U (zr U)<|D 7 U (ze je U j9 (by decide) U U)<|D 8 U (zj (c:=.int _ _) jg U ⟨_,.head⟩ U)<|D 9 U (bD s.blk.toNat jr Z1 U U (we hg.b0).symm hB)<|D 10 U (yj Ye Z1 U U)<|bp 11 U<|zp (cs:=[.e,.n,.n,.i 0,.i 0,.i 0,.i 0]) Zh U U<|fun i3=>Y<|y4<|yg (i:=12) U (by kernel_rfl) (by kernel_rfl)<|zi Z1 U U U U U U .t1 U<|Y<|y8 (by kernel_rfl)<|yd (zz (t:=3) U .t1)<|Z<|X (kT U)<|Y<|gN (t:=4) (k:=1) (T:=3) U<|fun i4=>za<|za<|zn (fun j=>false) (by kernel_rfl) U (zk (.l (.r (.rest _))))<|D 0 U (dZ U)<|D 1 U (zr U)<|D 2 U (ze je U j9 (by decide) U U)<|D 3 U (zj (c:=.int _ _) jg U ⟨_,.head⟩ U)<|D 4 U (dk ji U Zw U U)<|D 5 U (gJ Y3 U) ?_
 refine D 6 U (Gv.lenM Z4 U)<|D 7 U (Gv.lss U U)<|dS<|y3 (γ:=Nat) [] (fun g=>[(4,.j g (dL f s).length)]) (fun g=>(g,.u 1 3 (cI (dL f s)))::wO f iw ja jb jc jo jt ids s) (fun g=>True) ?_ (fun _ _ h=>h) ?_
 ·refine zq U (fun cp=>?_) (fun cp=>?_)
  ·have hp:s.pc<B.s.length:=by have:=wg cp;omega
   obtain ⟨x,hx⟩:∃x,B.s[s.pc]=x:=⟨_,rfl⟩;have hxg:B.s[s.pc]?=some x:=by rw[qt hp,hx]
   rw[hxg] at hmk;refine za<|zn (fun j=>false) (by kernel_rfl) U (zk (.r (.rest _)))<|D 0 U (dk ji U Zw U U)<|D 1 U (gJ Y3 U)<|D 2 U (dZ U)<|D 3 U (zr U)<|D 4 U (ze je U j9 (by decide) U U)<|D 5 U (zj (c:=.int _ _) jg U ⟨_,.head⟩ U)<|D 6 U (bD s.pc Z4 Z9 U U U hxg)<|D 7 U (dk jd U j9 U U)<|D 8 U (d9 jg U)<|D 9 U (DS U)<|dS<|gd .t1<|Z<|C U<|X (q7 U U)<|Y<|zh U (fun cd=>?_) (fun cd=>?_)
   ·have hm:dL f s=[x.dst]:=hmk.trans (if_pos (by simpa using cd));rw[hm];refine bZ<|bX U<|C U<|zw (rows:=[[_]]) ed U U U U U<|yb (k:=1) j7 Y6 U U U U U (fun _=>.head) (by simp) (by decide) U (by show (_+_)*8≤_;simp<;>omega) (by simp<;>omega)<|fun i42=>X (eO U)<|Y ?_;exact ⟨i42,trivial,aN,aJ,trivial⟩
   have hm:dL f s=[]:=hmk.trans (if_neg (by simpa using cd));rw[hm];refine zc ?_;exact ⟨i4,trivial,aN,aJ,trivial⟩
  have hp:B.s[s.pc]?=none:=by rw[List.getElem?_eq_none];have:=wh cp;omega
  have hp2:¬(s.pc:Int)<B.s.length:=wh cp;rw[hp] at hmk;rw[wb hp2,Bool.false_or] at hN;refine Z<|bf U<|zy U (zk (.l (.r (.l (.l (.l (.l (.l (.l (.rest _)))))))))) (hN) ?_;rintro r44 O44 ⟨rfl,rfl⟩;refine ap U<|Y<|gd .t7 ?_
  by_cases hk:B.t.kind=2
  ·rw[if_pos (wa hk)];rw[if_pos hk] at hmk;rw[hmk];refine Z<|C U<|X (q7 U U)<|Y<|yl U (by decide)<|zc ?_;exact ⟨i4,trivial,aN,aJ,trivial⟩
  rw[if_neg (by rw[wb hk];decide)];rw[if_neg hk] at hmk;obtain ⟨g0,g1⟩:=hnt hk;obtain ⟨Cq0,hC⟩:∃Cq0,aQ f (gn f s)=Cq0:=⟨_,rfl⟩;have hgC:=dY g0 g1;rw[hC] at hmk hgC;have hpl:=(hs.2.2.2.2 _ (w5 hgC)).2.1;refine Z<|C U<|X (q7 U U)<|Y<|ym U (wa g0)<|Z<|bf U<|aC U<|X (ze je U jk (by decide) U U)<|X (ze jf U Zd (by decide) U U)<|X (zj (c:=.fro _ _) Zf U ⟨_,.t1⟩ U)<|C U<|X (qf (j:=(gn f s).toNat) jr Z1 U U (we g0).symm hgC)<|ao ji U Zv U U<|aK Yf U<|am Z6 U<|C U<|Y<|zd<|zu (γ:=Nat × Nat) [55,56] (fun g=>[(57,.i g.1),(4,.j g.2 g.1)]) (fun g=>(g.2,.u 1 3 (cI ((Cq0.p.map (·.dst)).take g.1)))::wO f iw ja jb jc jo jt ids s) (fun g=>g.1≤Cq0.p.length) (fun g=>Cq0.p.length - g.1) (0,i4) cV aJ (qw _) ?_;rintro ⟨k,im⟩ hk3;try dsimp only at *
  refine Z<|aq U U<|Y<|za<|zh U (fun ck=>?_) (fun ck=>?_)
  ·have hk2:k<Cq0.p.length:=by simp at ck;omega
   obtain ⟨p,hpp⟩:∃p,Cq0.p[k]?=some p:=⟨_,qt hk2⟩;have htk:(Cq0.p.map (·.dst)).take (k+1)=(Cq0.p.map (·.dst)).take k++[p.dst]:=by rw[List.take_add_one,w3,hpp];rfl
   refine zc<|za<|zd<|Z<|X (bD k Z6 Ze U U U hpp)<|ae Ys Ze U U<|zp (cs:=[.int .i64 0,.n,.n]) Y0 U U<|fun i8=>zi Ze U U U U U U .head U<|y9 (zz (t:=8) U .head)<|Y<|bZ<|bX U<|ao Z3 U j9 U U<|aD jg U<|zw (rows:=[[_]]) ed U U U U U<|yb (k:=1) j7 Y6 U U U U U (fun _=>.head) (by rw[aH,w9,w2];omega) (by decide) U (by show (_+1)*8≤_;omega) (by show _+1≤_;omega)<|fun i65=>X (eO U)<|Y<|bQ U U ?_;exact ⟨(k+1,i65),cV,cV,⟨_,(.refl _),(by dsimp only;rw[htk,←lO];rfl)⟩,hk2,by dsimp only;omega⟩
  obtain rfl:k=Cq0.p.length:=by simp at ck;omega
  have hml:(Cq0.p.map (·.dst)).length=Cq0.p.length:=w2 ..;rw[List.take_of_length_le (by rw[hml];exact Nat.le_refl _)];rw[hmk];refine zt ?_;exact ⟨im,trivial,⟨congrArg (AV.j im) hml.symm,trivial⟩,aJ,trivial⟩
 rintro im _;refine yd (aR.knowI (t:=4) U .head U)<|Z<|bj U<|X (oU U)<|Y<|zf<|yz (x:=.fro _ _) U ?_;exact ⟨rfl,rfl⟩
def vk (t x:Int) (b:Bool) (n:Int):Int:=if t=0 then x else if t=2 then n else if b=true then 1 else 0
theorem yS (t x:Int) (b:Bool) (n:Int):aS prog E 73 [.i t,.i x,.bool b,.i n] (.i (vk t x b n)):=by
 refine zm func73 U (by decide) U<|Z<|ap U<|Y<|za<|zd<|Z<|C U<|au U U<|ah U<|Y<|zq U (fun c2=>?_) (fun c2=>?_)
 ·refine Z<|C U<|ap U<|Y<|zf ?_
  repeat (first|refine ad ?_|refine aa ?_)
  refine gu U ?_;exact congrArg (AV.int .i64) (by unfold vk;simp_all)
 refine Z<|C U<|au U U<|ah U<|Y<|zq U (fun c3=>?_) (fun c3=>?_)
 ·refine Z<|C U<|ap U<|Y<|zf ?_
  repeat (first|refine ad ?_|refine aa ?_)
  refine gu U ?_;exact congrArg (AV.int .i64) (by unfold vk;simp_all)
 refine Z<|aw U<|ah U<|Y<|zq U (fun c4=>?_) (fun c4=>?_)
 ·refine Z<|ap U<|Y<|zf ?_
  repeat (first|refine ad ?_|refine aa ?_)
  refine gu U ?_;exact congrArg (AV.int .i64) (by unfold vk;simp_all)
 refine zc<|Z<|ap U<|Y<|zf ?_
 repeat (first|refine ad ?_|refine aa ?_)
 refine gu U ?_;exact congrArg (AV.int .i64) (by unfold vk;simp_all)
theorem yT (f:ab) (iw ja jb jc jo jt:Nat) (ids:List Nat) (s:GS) (v:Nat) (hv:v<f.v.length) (hids:ids.length=s.y.length) (hg:bE f s):aX prog E 39 [.po iw 0,.i v] (wO f iw ja jb jc jo jt ids s) (fun y O=>y=.i (Jj f s v)∧O=wO f iw ja jb jc jo jt ids s):=by
 have hl0:=hg.li;have hl1:=hg.lb;have hl2:=hg.la;have hls:=hg.ls;have hlr:=hg.lr;obtain ⟨x,hx⟩:∃x,f.v[v]?=some x:=⟨_,qt hv⟩;have hki:aM f v=x.ty:=by unfold aM;rw[Int.toNat_natCast,hx];rfl
 have hvl:=fun t y b n=>yS (E:=E) t y b n;obtain ⟨a,ha⟩:∃a,vi s.arrs v=a:=⟨_,rfl⟩;have hvw:Jj f s v=vk x.ty (vi s.ints v) (gb s.bools v) (if 0≤a∧a<s.y.length then ((dw s a).length:Int) else 0):=by unfold Jj vk;rw[hki,ha]
 rw[hvw];clear hvw;refine zm func39 U (by decide) U<|Z<|ap U<|Y<|Z<|ap U<|Y<|za<|Z<|bf U<|aC U<|X (ze je U jh (by decide) U U)<|X (zj (c:=.j _ _) jy U ⟨_,.head⟩ U)<|C U<|X (y7 (j:=v) j7 j9 U U U ⟨_,.t3⟩ ((aH _).trans hl2) (by omega))<|X (yp (j:=v) jg U ⟨_,.t3⟩ (gz (by omega) (Int.natCast_nonneg v)))<|ap U<|Y ?_;rw[ha];refine za<|y3 (γ:=Bool) [0,1,5,6] (fun u=>[(24,.bool u)]) (fun u=>wO f iw ja jb jc jo jt ids s) (fun u=>u=(decide (0≤a)&&decide (a<s.y.length))) ?_ (fun _ _ h=>h) ?_
 ·refine bZ<|C U<|X (q7 U U)<|aw U<|zo (s:=16) U (fun c5=>?_) (fun c5=>?_)
  ·refine M U U c5<|C U<|M U U c5<|bf U<|M U U c5<|aC U<|M U U c5<|X (ze je U Yj (by decide) U U)<|M U U c5<|X (zj (c:=.j _ _) X3 U ⟨_,.head⟩ U)<|M U U c5<|X (qm Zn U)<|M U U c5<|aq U U<|aA U c5 U<|Y ?_;exact ⟨_,(by repeat (first|with_reducible exact yc _ _|refine yk rfl ?_|exact f7)),aN,aJ,by simp_all<;>omega⟩
  refine H U U c5<|H U U c5<|H U U c5<|H U U c5<|H U U c5<|H U U c5<|H U U c5<|ay U c5 U<|Y ?_;exact ⟨_,(by repeat (first|with_reducible exact yc _ _|refine yk rfl ?_|exact f7)),aN,aJ,by simp_all<;>omega⟩
 rintro u hu;refine y3 (γ:=Int) [0,1] (fun w=>[(5,.i w)]) (fun w=>wO f iw ja jb jc jo jt ids s) (fun w=>w=if 0≤a∧a<s.y.length then ((dw s a).length:Int) else 0) ?_ (fun _ _ h=>h) ?_
 ·refine zq U (fun c2=>?_) (fun c2=>?_)
  ·have h12:0≤a∧a<s.y.length:=by rw[hu] at c2;simpa using c2
   obtain ⟨q,hq⟩:=vj hids (j:=a.toNat) (by omega);refine bZ<|bf U<|aC U<|X (ze je U Yj (by decide) U U)<|X (zj (c:=.j _ _) X3 U ⟨_,.head⟩ U)<|C U<|X (y7 (j:=a.toNat) Zn Zx U U (by omega) ⟨_,.t4⟩ (kx hids) (by omega))<|X (qq (c:=_) Yh U ⟨_,.t4⟩ (jV hq (jI h12.1 h12.2)))<|X (qm Z5 U)<|ap U<|Y ?_;exact ⟨_,(by repeat (first|with_reducible exact yc _ _|refine yk rfl ?_|exact cV)),aN,aJ,(by rw[if_pos h12])⟩
  have h12:¬(0≤a∧a<s.y.length):=by rw[hu] at c2;simpa using c2
  refine zc ?_;exact ⟨_,(by repeat (first|with_reducible exact yc _ _|refine yk rfl ?_|exact cV)),aN,aJ,(by rw[if_neg h12])⟩
 rintro w hw
 refine za<|zn (fun j=>false) (by kernel_rfl) U (zk (.r (.r (.r (.rest _)))))<|D 0 U (dZ U)<|D 1 U (zr U)<|D 2 U (ze je U jk (by decide) U U)<|D 3 U (ze jf U Zs (by decide) U U)<|D 4 U (zj (c:=.fro _ _) Y4 U ⟨_,.head⟩ U)<|D 5 U (dC U)<|D 6 U (bD v Z7 Yc U U U hx)<|D 7 U (dk Zr U X5 U U)<|D 8 U (d9 Xh U)<|D 9 U (dZ U)<|D 10 U (zr U)<|D 11 U (ze je U Zx (by decide) U U)<|D 12 U (zj (c:=.j _ _) Yh U ⟨_,.head⟩ U)<|D 13 U (dC U)<|D 14 U (y7 (j:=v) Z5 Z0 U U U ⟨_,.t1⟩ ((aH _).trans hl0) (by omega))<|D 15 U (yp (j:=v) Zb U ⟨_,.t1⟩ (gz (by omega) (Int.natCast_nonneg v)))<|D 16 U (dZ U)<|D 17 U (zr U)<|D 18 U (ze je U Yi (by decide) U U)<|D 19 U (zj (c:=.j _ _) Yu U ⟨_,.head⟩ U)<|D 20 U (dC U)<|D 21 U (y7 (j:=v) ju Zc U U U ⟨_,.t2⟩ ((aP _).trans hl1) (by omega))<|D 22 U (Gv.loadB (j:=v) Yn U ⟨_,.t2⟩ (nu (by omega) (Int.natCast_nonneg v)))<|D 23 U (dC U)<|bp 24 U<|zb (hvl _ _ _ _) U<|Y<|D 25 U (DS U)<|dS ?_
 subst hw;refine zf ?_
 repeat (first|refine ad ?_|refine aa ?_)
 refine gu U ?_;exact ⟨rfl,rfl⟩
end
section
open Go.Proofs.Tryz
open Go.Proofs Go.Lib Go.Shelf Go.RowKit
theorem GM:eS prog 99 #[(0,3),(3,1),(4,1),(5,1),(6,1),(7,1),(8,1),(9,13),(22,1)] [.n,.n,.n,.n,.n,.n,.n,.int .i64 0,.int .i64 0,.int .i64 0,.int .i64 0,.int .i64 0,.n,.int .i64 0,.int .i64 0,.int .i64 0,.int .i64 0,.int .i64 0,.int .i64 0,.int .i64 0,.int .i64 0,.int .i64 0,.bool false]:=⟨_,_,je,zeroValue99,fun w=>by kernel_rfl,rfl⟩
variable {E:World}
set_option maxRecDepth 20000
def JV (a:Dl):List AV:=[.i a.int,.bool a.b,.i a.arr]
def JW (r:List Int):List AV:=[.fro 1 (r.map b7)]
def xl (i:vM):List AV:=[.fro 3 (i.args.map JV),.fro 1 (i.y.map JW)]
def od (n k:Nat):List Int:=List.replicate k (-1)++List.replicate (n - k) 0
theorem LH (n:Nat):od n 0=List.replicate n 0:=by unfold od;simp
theorem LI (n:Nat):od n n=List.replicate n (-1):=by unfold od;simp
theorem xm {n k:Nat} (h:k≤n):(od n k).length=n:=by unfold od;simp;omega
theorem GN {n k:Nat} (h:k<n):(od n k).set k (-1)=od n (k+1):=by
 unfold od;rw[List.set_append_right _ _ (by simp),List.length_replicate,Nat.sub_self,show n - k=(n - (k+1))+1 by omega,List.replicate_succ,List.set_cons_zero,List.replicate_succ',qv];rfl
section
variable {α β:Type} {g:Nat→α→β} {d:β} {n k:Nat} {l:List α}
theorem DK:eD g d n (l.take 0)=List.replicate n d:=by unfold eD;simp
theorem JX (h:l.length≤n):(eD g d n l).length=n:=by unfold eD;simp;omega
theorem iF (h:l.length≤n) (k:Nat):(eD g d n (l.take k)).length=n:=JX (by rw[w9];omega)
theorem pY (hk:k<l.length) (h:l.length≤n):(eD g d n (l.take k)).set k (g k l[k])=eD g d n (l.take (k+1)):=by
 have hl:((l.take k).zipIdx.map fun q=>g q.2 q.1).length=k:=by simp;omega
 unfold eD;rw[List.set_append_right _ _ (by rw[hl];exact Nat.le_refl _),hl,Nat.sub_self,w9,w9,Nat.min_eq_left (by omega),Nat.min_eq_left (by omega),show n - k=(n - (k+1))+1 by omega,List.replicate_succ,List.set_cons_zero,qu hk,List.zipIdx_append,w7,qv];have:(l.take k).length=k:=by rw[w9];omega
 simp[this]
theorem ro (hk:k<l.length) (h:l.length≤n) (e:g k l[k]=d):eD g d n (l.take k)=eD g d n (l.take (k+1)):=by
 rw[←pY hk h,e];refine (List.ext_getElem? fun j=>?_)
 by_cases hj:k=j
 ·subst hj;rw[List.getElem?_set_self (by rw[iF h];omega)];have hl:((l.take k).zipIdx.map fun q=>g q.2 q.1).length=k:=by simp;omega
  unfold eD;rw[List.getElem?_append_right (by rw[hl];exact Nat.le_refl _),hl,Nat.sub_self,w9,Nat.min_eq_left (by omega),List.getElem?_replicate,if_pos (by omega)]
 rw[List.getElem?_set_ne hj]
end
theorem JY (r:List Int):(r.map b7).flatten=cI r:=lN r
abbrev LJ (ints:List Int) (bools:List Bool) (arrs:List Int) (arrays:List (List Int)):GS:=⟨ints,bools,arrs,arrays,0,0,3,0,0,[],0,fun _=>0,false⟩
theorem LK (f:ab) (iw ja jb jc jo jt:Nat) {ids:List Nat} {s:GS} (h:ids.length=s.y.length) (i:Nat) (r:List Int) (m:Nat) (hm:m=r.length):(iw,bC.cells 99 (bH f++[.j ja f.v.length,.j jb f.v.length,.j jc f.v.length,.j jo (s.y.length+1),.i s.blk,.i s.pc,.i s.en,.i s.val,.i s.tr,.j jt s.trace.length,.i s.st,.i (s.ck 0),.i (s.ck 1),.i (s.ck 2),.i (s.ck 3),.i (s.ck 4),.i (s.ck 5),.i (s.ck 6),.i (s.ck 7),.bool s.ended]))::(ja,.u 1 2 (cI s.ints))::(jb,.u 1 4 (cB s.bools))::(jc,.u 1 3 (cI s.arrs))::(jo,.u 1 66 (kw ids s.y++[.j i m]))::(jt,.u 1 2 (cI s.trace))::[(0,Lx (vh (ids++[i]) (s.y++[r])))]=wO f iw ja jb jc jo jt (ids++[i]) { s with y:=s.y++[r] }:=by
 subst hm;unfold wO wR LE;rw[←xk i r h];simp only[qz,List.length_singleton]
set_option maxHeartbeats 16000000 in
theorem Cg (f:ab) (i:vM) (hv:f.v.length≤1000) (ha:i.args.length≤f.v.length) (hn:i.y.length≤40) (hr:∀r∈i.y,r.length≤100):aX prog E 30 [.agg (bH f),.agg (xl i)] [] (fun y O=>∃iw ja jb jc jo jt ids,ids.length=i.y.length∧y=.po iw 0∧O=wO f iw ja jb jc jo jt ids (lB f i)):=by
 refine zm func30 U (by decide) U<|Z<|zx (cs:=_) U U U<|zx (cs:=_) U U U<|X (kT U)<|Y<|Z<|ao jf U Zs U U<|aK Y4 U<|am Z7 U<|ap U<|Y<|za<|y3 (γ:=Nat × Nat × Nat × Nat) [2,3] (fun g=>[(6,.po g.1 0)]) (fun g=>[(g.1,.cells 99 (bH f++[.j g.2.1 f.v.length,.j g.2.2.1 f.v.length,.j g.2.2.2 f.v.length,.n,.i 0,.i 0,.i 0,.i 0,.i 0,.n,.i 0,.i 0,.i 0,.i 0,.i 0,.i 0,.i 0,.i 0,.i 0,.bool false])),(g.2.1,.u 1 2 (cI (List.replicate f.v.length 0))),(g.2.2.1,.u 1 4 (cB (List.replicate f.v.length false))),(g.2.2.2,.u 1 3 (cI (List.replicate f.v.length 0)))]) (fun g=>True) ?_ (fun _ _ h=>h) ?_
 ·refine zn (fun j=>false) (by kernel_rfl) U (zk (.rest _))<|D 0 U (yj Z2 jk U U)<|D 1 U (dC U)<|D 3 U (dC U)<|D 5 U (dC U)<|bJ.three (i:=2) (j:=4) (m:=6) U U U (by kernel_rfl) ?_ ?_ ?_
  ·refine qp (m:=f.v.length) Z5 X9 U U U U U (by simp) (by simp) (by show (8:Int)*_≤_;omega) (by omega)<|fun i17=>Y<|yq (i:=4) (j:=6) U U (by kernel_rfl) ?_ ?_
   ·refine qk (m:=f.v.length) ju Yr U U U U U (by simp) (by simp) (by show (1:Int)*_≤_;omega) (by omega)<|fun i19=>Y<|bp 6 U<|qp (m:=f.v.length) j7 Y6 U U U U U (by simp) (by simp) (by show (8:Int)*_≤_;omega) (by omega)<|fun i21=>Y<|D 7 U (y5 (cps:=[(0,[_,_,_]),(1,[_]),(2,[_]),(3,[_])]) (rs:=[_,_,_,_,_,_,.n,.i 0,.i 0,.i 0,.i 0,.i 0,.n,.i 0,.i 0,.i 0,.i 0,.i 0,.i 0,.i 0,.i 0,.i 0,.bool false]) GM U U U)<|bp 8 U<|qi (cs:=_) U U U U<|fun i23=>cC .t1<|cC .t2<|cC .t3<|cC .t3<|Y<|D 9 U (xw U)<|dS ?_;exact ⟨(i23,i17,i19,i21),cV,aN,aJ,trivial⟩
   refine qp (m:=f.v.length) j7 Y6 U U U U U (by simp) (by simp) (by show (8:Int)*_≤_;omega) (by omega)<|fun i21=>Y<|bp 4 U<|qk (m:=f.v.length) ju Yr U U U U U (by simp) (by simp) (by show (1:Int)*_≤_;omega) (by omega)<|fun i19=>Y<|D 7 U (y5 (cps:=[(0,[_,_,_]),(1,[_]),(2,[_]),(3,[_])]) (rs:=[_,_,_,_,_,_,.n,.i 0,.i 0,.i 0,.i 0,.i 0,.n,.i 0,.i 0,.i 0,.i 0,.i 0,.i 0,.i 0,.i 0,.i 0,.bool false]) GM U U U)<|bp 8 U<|qi (cs:=_) U U U U<|fun i23=>cC .t2<|cC .t2<|cC .t3<|cC .t3<|Y<|D 9 U (xw U)<|dS ?_;exact ⟨(i23,i17,i19,i21),cV,aN,aJ,trivial⟩
  ·refine qk (m:=f.v.length) ju Yr U U U U U (by simp) (by simp) (by show (1:Int)*_≤_;omega) (by omega)<|fun i19=>Y<|yq (i:=2) (j:=6) U U (by kernel_rfl) ?_ ?_
   ·refine qp (m:=f.v.length) Z5 X9 U U U U U (by simp) (by simp) (by show (8:Int)*_≤_;omega) (by omega)<|fun i17=>Y<|bp 6 U<|qp (m:=f.v.length) j7 Y6 U U U U U (by simp) (by simp) (by show (8:Int)*_≤_;omega) (by omega)<|fun i21=>Y<|D 7 U (y5 (cps:=[(0,[_,_,_]),(1,[_]),(2,[_]),(3,[_])]) (rs:=[_,_,_,_,_,_,.n,.i 0,.i 0,.i 0,.i 0,.i 0,.n,.i 0,.i 0,.i 0,.i 0,.i 0,.i 0,.i 0,.i 0,.i 0,.bool false]) GM U U U)<|bp 8 U<|qi (cs:=_) U U U U<|fun i23=>cC .t1<|cC .t3<|cC .t3<|cC .t3<|Y<|D 9 U (xw U)<|dS ?_;exact ⟨(i23,i17,i19,i21),cV,aN,aJ,trivial⟩
   refine qp (m:=f.v.length) j7 Y6 U U U U U (by simp) (by simp) (by show (8:Int)*_≤_;omega) (by omega)<|fun i21=>Y<|bp 2 U<|qp (m:=f.v.length) Z5 X9 U U U U U (by simp) (by simp) (by show (8:Int)*_≤_;omega) (by omega)<|fun i17=>Y<|D 7 U (y5 (cps:=[(0,[_,_,_]),(1,[_]),(2,[_]),(3,[_])]) (rs:=[_,_,_,_,_,_,.n,.i 0,.i 0,.i 0,.i 0,.i 0,.n,.i 0,.i 0,.i 0,.i 0,.i 0,.i 0,.i 0,.i 0,.i 0,.bool false]) GM U U U)<|bp 8 U<|qi (cs:=_) U U U U<|fun i23=>cC .t2<|cC .t3<|cC .t3<|cC .t3<|Y<|D 9 U (xw U)<|dS ?_;exact ⟨(i23,i17,i19,i21),cV,aN,aJ,trivial⟩
  refine qp (m:=f.v.length) j7 Y6 U U U U U (by simp) (by simp) (by show (8:Int)*_≤_;omega) (by omega)<|fun i21=>Y<|yq (i:=2) (j:=4) U U (by kernel_rfl) ?_ ?_
  ·refine qp (m:=f.v.length) Z5 X9 U U U U U (by simp) (by simp) (by show (8:Int)*_≤_;omega) (by omega)<|fun i17=>Y<|bp 4 U<|qk (m:=f.v.length) ju Yr U U U U U (by simp) (by simp) (by show (1:Int)*_≤_;omega) (by omega)<|fun i19=>Y<|D 7 U (y5 (cps:=[(0,[_,_,_]),(1,[_]),(2,[_]),(3,[_])]) (rs:=[_,_,_,_,_,_,.n,.i 0,.i 0,.i 0,.i 0,.i 0,.n,.i 0,.i 0,.i 0,.i 0,.i 0,.i 0,.i 0,.i 0,.i 0,.bool false]) GM U U U)<|bp 8 U<|qi (cs:=_) U U U U<|fun i23=>cC .t3<|cC .t2<|cC .t3<|cC .t3<|Y<|D 9 U (xw U)<|dS ?_;exact ⟨(i23,i17,i19,i21),cV,aN,aJ,trivial⟩
  refine qk (m:=f.v.length) ju Yr U U U U U (by simp) (by simp) (by show (1:Int)*_≤_;omega) (by omega)<|fun i19=>Y<|bp 2 U<|qp (m:=f.v.length) Z5 X9 U U U U U (by simp) (by simp) (by show (8:Int)*_≤_;omega) (by omega)<|fun i17=>Y<|D 7 U (y5 (cps:=[(0,[_,_,_]),(1,[_]),(2,[_]),(3,[_])]) (rs:=[_,_,_,_,_,_,.n,.i 0,.i 0,.i 0,.i 0,.i 0,.n,.i 0,.i 0,.i 0,.i 0,.i 0,.i 0,.i 0,.i 0,.i 0,.bool false]) GM U U U)<|bp 8 U<|qi (cs:=_) U U U U<|fun i23=>Y<|D 9 U (xw U)<|dS ?_;exact ⟨(i23,i17,i19,i21),cV,aN,aJ,trivial⟩
 rintro ⟨i23,i17,i19,i21⟩ _;refine Z<|bf U<|aC U<|X (ze je U Yd (by decide) U U)<|X (ze Zl U sizeOf93 (by decide) U U)<|yh (l:=[_]) (new:=[_,_,_,_,_,_,_,_,_,_,_,_,_,_,_,_,_,_,_,_,_,_,_]) sizeOf93 U U U U U U .head U U<|Y<|fY (off:=6) (k:=1) (T:=66) (fun _=>.head) U<|fun jo=>fY (off:=12) (k:=1) (T:=2) (fun _=>.t1) U<|fun jt=>yd aR.bagNew<|gd .head<|gd .t1<|gd .t2<|gd .t6<|gd .t6<|gd .t6<|gd .t6<|za<|Z<|bf U<|aC U<|X (ze je U jh (by decide) U U)<|X (zj (c:=.j _ _) jy U ⟨_,.head⟩ U)<|X (qm j7 U)<|C U<|Y<|zd<|zu (γ:=Nat) [2,3,6,32] (fun k=>[(33,.i k)]) (fun k=>wO f i23 i17 i19 i21 jo jt [] (LJ (List.replicate f.v.length 0) (List.replicate f.v.length false) (od f.v.length k) [])) (fun k=>k≤f.v.length) (fun k=>f.v.length - k) 0 aN ⟨_,(.refl _),by rw[LH];rfl⟩ (qw _) ?_;rintro k hk;refine Z<|aq U U<|Y<|za<|zh U (fun ck=>?_) (fun ck=>?_)
 ·have hk2:k<f.v.length:=by simp at ck;omega
  refine zc<|za<|zd<|Z<|C U<|ap U<|Y<|bZ<|bf U<|aC U<|X (ze je U jh (by decide) U U)<|X (zj (c:=.j _ _) jy U ⟨_,.head⟩ U)<|C U<|X (y7 (j:=k) j7 j9 U U U ⟨_,.t3⟩ ((aH _).trans (xm hk)) hk2)<|yw (j:=k) j9 U U .t3 (by rw[xm hk];exact hk2)<|Y<|bQ U U ?_;exact ⟨k+1,f7,aN,⟨_,(.refl _),by rw[←GN hk2]⟩,hk2,by omega⟩
 obtain rfl:k=f.v.length:=by simp at ck;omega
 rw[LI];refine zt<|za<|Z<|ao Yq U sizeOf27 U U<|aK isAgg27 U<|am Xb U<|C U<|Y<|zd<|zu (γ:=Nat) [2,3,6,44,45] (fun k=>[(46,.i k)]) (fun k=>wO f i23 i17 i19 i21 jo jt [] (LJ (eD (vO f) 0 f.v.length (i.args.take k)) (eD (vP f) false f.v.length (i.args.take k)) (eD (uC f) (-1) f.v.length (i.args.take k)) [])) (fun k=>k≤i.args.length) (fun k=>i.args.length - k) 0 aN ⟨_,(.refl _),by rw[DK,DK,DK]⟩ (qw _) ?_;rintro k hk;refine Z<|aq U U<|Y<|za<|zh U (fun ck=>?_) (fun ck=>?_)
 ·have hk2:k<i.args.length:=by simp at ck;omega
  obtain ⟨a,hea⟩:∃a,i.args[k]=a:=⟨_,rfl⟩;have hag:i.args[k]?=some a:=by rw[qt hk2,hea]
  obtain ⟨v,hev⟩:∃v,f.v[k]?=some v:=⟨_,qt (by omega)⟩;have hty:nJ f k=v.ty:=by unfold nJ;rw[hev];rfl
  have sI:=pY (g:=vO f) (d:=0) hk2 ha;have sB:=pY (g:=vP f) (d:=false) hk2 ha;have sA:=pY (g:=uC f) (d:=-1) hk2 ha;have kI:=ro (g:=vO f) (d:=0) hk2 ha;have kB:=ro (g:=vP f) (d:=false) hk2 ha;have kA:=ro (g:=uC f) (d:=-1) hk2 ha;rw[hea] at sI sB sA kI kB kA;refine zc<|za<|zd<|Z<|C U<|X (bD k Xb sizeOf68 U U U hag)<|ae isAgg68 sizeOf68 U U<|zp (cs:=[.int .i64 0,.bool false,.int .i64 0]) zeroValue68 U U<|fun i9=>ap U<|zi sizeOf68 U U U U U U .head U<|y9 (zz (t:=9) U .head)<|Y<|Z<|ao jf U Zs U U<|aK Y4 U<|C U<|X (bD k Z7 Yc U U U hev)<|ao Zr U X5 U U<|aD Xh U<|Y<|zd<|Z<|au U U<|ah U<|Y<|zh U (fun c0=>?_) (fun c0=>?_)
  ·have c0:nJ f k=0:=hty.trans (by simpa using c0);rw[show vO f k a=a.int by unfold vO;rw[if_pos c0]] at sI;have eB:=kB (by unfold vP;rw[if_pos c0]);have eA:=kA (by unfold uC;rw[if_pos c0]);refine zn (fun j=>Nat.beq j 8) (by kernel_rfl) U (zk (.r (.rest _)))<|D 0 U (dZ U)<|D 1 U (zr U)<|D 2 U (ze je U Zx (by decide) U U)<|D 3 U (zj (c:=.j _ _) Yh U ⟨_,.head⟩ U)<|D 4 U (dC U)<|D 5 U (dk Xk U Z0 U U)<|D 6 U (d9 Zb U)<|bp 7 U<|X (y7 (j:=k) Z5 Z0 U U U ⟨_,.head⟩ ((aH _).trans (iF ha k)) (by omega))<|Y<|y4<|yg (i:=8) U (by kernel_rfl) (by kernel_rfl)<|yw (j:=k) Z0 U U .t1 (by rw[iF ha];omega)<|Y<|y8 (by kernel_rfl)<|bQ U U ?_;exact ⟨k+1,lf,aN,⟨_,(.refl _),by rw[←sI,←eB,←eA]⟩,hk2,by omega⟩
  have c0:¬nJ f k=0:=fun h=>c0 (by rw[hty] at h;simpa using h);have eI:=kI (by unfold vO;rw[if_neg c0]);refine Z<|au U U<|ah U<|Y<|zh U (fun c1=>?_) (fun c1=>?_)
  ·have c1:nJ f k=1:=hty.trans (by simpa using c1);rw[show vP f k a=a.b by unfold vP;rw[if_neg c0,if_pos c1]] at sB;have eA:=kA (by unfold uC;rw[if_neg c0,if_pos c1]);refine zn (fun j=>Nat.beq j 8) (by kernel_rfl) U (zk (.r (.rest _)))<|D 0 U (dZ U)<|D 1 U (zr U)<|D 2 U (ze je U Yi (by decide) U U)<|D 3 U (zj (c:=.j _ _) Yu U ⟨_,.head⟩ U)<|D 4 U (dC U)<|D 5 U (dk Xk U Zc U U)<|D 6 U (q8 (c:=.bool _) Yn U)<|bp 7 U<|X (y7 (j:=k) ju Zc U U U ⟨_,.t1⟩ ((aP _).trans (iF ha k)) (by omega))<|Y<|y4<|yg (i:=8) U (by kernel_rfl) (by kernel_rfl)<|yy (j:=k) Zc U U .t2 (by rw[iF ha];omega)<|Y<|y8 (by kernel_rfl)<|bQ U U ?_;exact ⟨k+1,lf,aN,⟨_,(.refl _),by rw[←sB,←eI,←eA]⟩,hk2,by omega⟩
  have c1:¬nJ f k=1:=fun h=>c1 (by rw[hty] at h;simpa using h);rw[show uC f k a=a.arr by unfold uC;rw[if_neg c0,if_neg c1]] at sA;have eB:=kB (by unfold vP;rw[if_neg c0,if_neg c1]);refine zn (fun j=>Nat.beq j 8) (by kernel_rfl) U (zk (.r (.rest _)))<|D 0 U (dZ U)<|D 1 U (zr U)<|D 2 U (ze je U jh (by decide) U U)<|D 3 U (zj (c:=.j _ _) jy U ⟨_,.head⟩ U)<|D 4 U (dC U)<|D 5 U (dk Xk U j9 U U)<|D 6 U (d9 jg U)<|bp 7 U<|X (y7 (j:=k) j7 j9 U U U ⟨_,.t2⟩ ((aH _).trans (iF ha k)) (by omega))<|Y<|y4<|yg (i:=8) U (by kernel_rfl) (by kernel_rfl)<|yw (j:=k) j9 U U .t3 (by rw[iF ha];omega)<|Y<|y8 (by kernel_rfl)<|bQ U U ?_;exact ⟨k+1,lf,aN,⟨_,(.refl _),by rw[←sA,←eI,←eB]⟩,hk2,by omega⟩
 obtain rfl:k=i.args.length:=by simp at ck;omega
 rw[qy];refine zt<|za<|Z<|ao Yq U Yj U U<|aK X3 U<|am Zn U<|C U<|Y<|zd<|zu (γ:=Nat × Nat × List Nat) [6,87,88] (fun g=>[(89,.i g.1)]) (fun g=>wO f i23 i17 i19 i21 g.2.1 jt g.2.2 (LJ (eD (vO f) 0 f.v.length i.args) (eD (vP f) false f.v.length i.args) (eD (uC f) (-1) f.v.length i.args) (i.y.take g.1))) (fun g=>g.1≤i.y.length∧g.2.2.length=(i.y.take g.1).length) (fun g=>i.y.length - g.1) (0,jo,[]) aN aJ (⟨qw _,U⟩) ?_;rintro ⟨k,jo,ids⟩ ⟨hk,hids⟩;try dsimp only at *
 refine Z<|aq U U<|Y<|za<|zh U (fun ck=>?_) (fun ck=>?_)
 ·have hk2:k<i.y.length:=by simp at ck;omega
  obtain ⟨r,her⟩:∃r,i.y[k]=r:=⟨_,rfl⟩;have hrg:i.y[k]?=some r:=by rw[qt hk2,her]
  have hrl:=hr r (w5 hrg);have hts:i.y.take (k+1)=i.y.take k++[r]:=by rw[qu hk2,her]
  have htl:(i.y.take k).length=k:=by rw[w9];omega
  refine zc<|za<|zd<|Z<|X (bD k Zn Zx U U U hrg)<|aK Yh U<|X (oU U)<|Y<|zn (fun j=>Nat.beq j 12) (by kernel_rfl) U (zk (.r (.rest _)))<|D 0 U (dZ U)<|D 1 U (dZ U)<|D 2 U (zr U)<|D 3 U (ze je U Yj (by decide) U U)<|D 4 U (zj (c:=.j _ _) X3 U ⟨_,.head⟩ U)<|D 6 U (zJ U)<|bp 5 U<|yf (k:=1) Z5 X9<|fun i98=>Y<|bp 7 U<|yb (k:=1) Z5 X9 U U U U U (fun _=>.head) U (by decide) (by rw[JY];exact cG r) (by show (_+_)*8≤_;simp;omega) (by simp;omega)<|fun i100=>Y<|bp 8 U<|zw (rows:=[[_]]) JP U U U U U<|Y<|bp 9 U<|yb (k:=1) Zn type66 U U U U U (fun _=>.t4) (by show _=(i.y.take k).length*1;rw[kx hids];omega) (by decide) U (by show ((i.y.take k).length+1)*24≤_;omega) (by show (i.y.take k).length+1≤_;omega)<|fun i102=>Y<|yo (i:=10) U (by kernel_rfl) (by kernel_rfl) (by kernel_rfl) (by kernel_rfl) (zr U)<|D 11 U (ze je U Yj (by decide) U U)<|y4<|yg (i:=12) U (by kernel_rfl) (by kernel_rfl)<|yh (l:=[_]) (new:=[_,_,_,_,_,_,_,_,_,_,_,_,_,_,_,_,_,_,_,_,_,_,_]) Yj U U U U U U .head U U<|Y<|y8 (by kernel_rfl)<|yd (aR.bagIn (X':=vh (ids++[i100]) (i.y.take k++[r])) .t1 ((by rw[List.nil_append,JY];exact Cd i100 r hids)) .t6)<|bQ U U ?_
  exact ⟨(k+1,i102,ids++[i100]),eX,aN,⟨_,(.refl _),by dsimp only;rw[hts];exact LK f i23 i17 i19 i21 i102 jt (s:=LJ (eD (vO f) 0 f.v.length i.args) (eD (vP f) false f.v.length i.args) (eD (uC f) (-1) f.v.length i.args) (i.y.take k)) hids i100 r _ (by simp)⟩,⟨hk2,by dsimp only;rw[hts];simp[hids]⟩,by dsimp only;omega⟩
 obtain rfl:k=i.y.length:=by simp at ck;omega
 rw[qy] at hids;rw[qy];refine zt<|Z<|bf U<|X (xw U)<|Y<|zf<|yz (x:=.po _ _) U ?_;exact ⟨i23,i17,i19,i21,jo,jt,ids,hids,rfl,rfl⟩
end
section
open Go.Proofs.Tryz
open Go.Proofs
def x0 (x:aB):Int:=(x.args[0]?).getD 0
def x1 (x:aB):Int:=(x.args[1]?).getD 0
def n0 (f:ab):Int:=f.v.length
section
variable {g:ab} {s:GS} {l:List aO}
end
section
variable {g:ab} (hR:bq g) {l:List aO}
include hR
end
theorem DL {g:ab} {l:List aO} (ho:∀u:Int,0≤u→bw (lv l u)) (h:∀v:Nat,v<g.v.length→cJ (if 0≤(aE g (v:Int)).1 then ly g (pB g) l v else iX g v) (lv l v)):iE g l:=by
 refine ⟨ho,fun v h0 h1 hm=>?_,fun v h0 h1 hm=>?_⟩
 ·have:=h v.toNat (by omega);rw[show ((v.toNat:Nat):Int)=v by omega,if_pos hm] at this;exact this
 have:=h v.toNat (by omega);rw[show ((v.toNat:Nat):Int)=v by omega,if_neg (by omega)] at this;exact this
theorem DM {g:ab} (hR:fo g.v.length (rF g) (cT g)) {K:Nat} (hK:Bg g K) (hm:∀v:Nat,v<g.v.length→((v:Int)∈cT g↔0≤(aE g (v:Int)).1)):iE g (x9 g K):=by
 obtain ⟨hol,hpo⟩:=qX hR hK;refine DL hol.2 fun v hv=>?_;split
 ·rename_i h;exact hpo v ((hm v hv).2 h)
 rename_i h;rw[Gb hR (by omega) (fun k=>h ((hm v hv).1 k)) K,wU (by omega),if_pos (by omega)];unfold jH;rw[if_pos (by omega)];exact .inr ⟨Int.le_refl _,Int.le_refl _⟩
section
variable {f:ab} (hR:bq f)
include hR
theorem rp:f.z.length≤f.v.length:=by
 have h1:=hR.hS.1;unfold nP at h1;simp only[Bool.or_eq_false_iff,decide_eq_false_iff_not] at h1;omega
theorem NE (j:Nat):0≤nJ f j∧nJ f j≤2:=by
 unfold nJ
 by_cases h:j<f.v.length
 ·rw[qt h];have:=hR.hS.2.2.1 j h;exact ⟨this.2.1,this.2.2.1⟩
 rw[List.getElem?_eq_none (by omega)];exact ⟨Int.le_refl _,by decide⟩
theorem xn (hPi:oS f) {i:vM} (hi:eH f i=0) (h64:yC i) (n:Nat) {l:List aO} (hS:iE f l) (hl:l.length=f.v.length):rR f i n l=true:=
 Jh hR hS hPi (rp hR) (NE hR) hi h64 hl n
variable (hpl:∀b∈f.q,∀y∈b.s,y.op<25)
include hpl
theorem DN {i:vM} (hi:eH f i=0) (h64:yC i) (n:Nat) {l:List aO} (hS:iE f l) (hl:l.length=f.v.length):rR f i n l=true:=xn hR (Dz hpl) hi h64 n hS hl
theorem JZ (hf:pT (bh f)=true) {i:vM} (hi:eH f i=0) (h64:yC i) (n:Nat) {l:List aO} (hS:iE (bh f) l) (hl:l.length=(bh f).v.length):rR (bh f) i n l=true:=by
 have hW:=xh hR (kq.1 hf).1 (kq.1 hf).2.2;exact xn hW (Lq hR hW (fH hR) hpl) (BR (fH hR) (rp hR) hi) h64 n hS hl
end
end
section
open Go.Proofs.Tryz
open Go.Proofs Go.Lib Go.Shelf Go.RowKit
variable {E:World}
set_option maxRecDepth 20000
theorem Ch {Mq0:Nat}:∀(bs:List aF),(∀b∈bs,b.p.length+b.s.length≤Mq0)→eu bs≤bs.length*Mq0
 |[],_=>qw _
 |c::bs,h=>by
  have h1:=Ch bs (fun c hc=>h c (.tail _ hc));have h2:=h c (.head _);unfold eu at h1 ⊢;rw[List.map_cons,List.sum_cons,List.length_cons,Nat.add_mul];omega
theorem J1 {f:ab} (hf:small f) (hR:bq f) (hv:f.v.length≤100) (hn:f.q.length≤40) (hi:∀b∈f.q,b.s.length≤400):(bh f).v.length≤32100∧(bh f).q.length≤40∧∀b∈(bh f).q,b.p.length≤1000∧b.s.length≤33000:=by
 have hw:=(Nw hR hv hn hi (Nat.le_refl (kr f).length)).1;rw[yN] at hw;refine ⟨hw,by rw[cX hR];exact hn,fun b hb=>?_⟩;obtain ⟨k,hk⟩:=List.getElem?_of_mem hb;have hkl:=(List.getElem?_eq_some_iff.1 hk).1;rw[cX hR] at hkl;obtain ⟨c,hc,hg,_,hok⟩:=ef hR (i:=(k:Int)) (by omega) (by omega);rw[Int.toNat_natCast] at hg hc;rw[hk] at hg;cases hg;have hbm:aQ f (k:Int)∈f.q:=cU (by omega) (by omega);have hcl:=(BN hR).2 k c hc;have hil:=hi _ hbm;refine ⟨?_,?_⟩
 ·show (List.map _ _).length≤1000;rw[w2];exact (hf.2.2.2.2 _ hbm).2.1
 show c.s.length≤33000;omega
theorem Ci {f:ab} (hf:small f) (hR:bq f) (hv:f.v.length≤100) (hn:f.q.length≤40) (hi:∀b∈f.q,b.s.length≤400):aS prog E 12 [.agg (bH (bh f))] (.bool (pT (bh f))):=by
 obtain ⟨b1,b2,b3⟩:=J1 hf hR hv hn hi;have hs:=Ch (Mq0:=34000) (bh f).q fun b hb=>by have:=b3 b hb;omega
 have hs2:(bh f).q.length*34000≤40*34000:=Nat.mul_le_mul_right _ b2;exact B7 (E:=E) (bh f) (by omega) (by omega) (by omega) fun b hb=>by have:=b3 b hb;omega
theorem GO {f:ab} (hR:qZ f) {s:GS} (hg:bE f s) {v:Int} (h:v∈dL f s):0≤v∧v<f.v.length:=by
 have hBm:=w5 (dY hg.b0 hg.b1);have hnt:=ma hR hg;unfold dL at h;split at h
 ·rename_i x hx;split at h
  ·rename_i h0;rw[List.mem_singleton.1 h];refine ⟨h0,?_⟩;rcases (hR.s _ hBm x (w5 hx)).1.dst with ⟨h1,h2⟩|⟨h0,_,h3⟩
   ·omega
   exact (bz h3).1
  cases h
 split at h
 ·cases h
 rename_i hk;obtain ⟨g0,g1⟩:=hnt hk;obtain ⟨p,hp,rfl⟩:=List.mem_map.1 h;exact (bz (hR.p _ (cU g0 g1) p hp).1).symm
theorem J3 {f:ab} (hs:small f) (hR:qZ f) {s:GS} (hg:bE f s):(dL f s).length≤1000:=by
 have hnt:=ma hR hg;unfold dL;split
 ·split
  ·exact Nat.le_of_ble_eq_true rfl
  exact qw _
 split
 ·exact qw _
 rename_i hk;obtain ⟨g0,g1⟩:=hnt hk;rw[w2];exact (hs.2.2.2.2 _ (cU g0 g1)).2.1
def Mi (g:ab) (k:Nat):List Bool:=(mA g).take k++List.replicate (g.v.length - k) false
theorem pZ (g:ab):(mA g).length=g.v.length:=by unfold mA;rw[w2,List.length_range]
theorem EX {g:ab} {k:Nat} (h:k≤g.v.length):(Mi g k).length=g.v.length:=by unfold Mi;rw[qz,w9,List.length_replicate,pZ];omega
theorem LL {g:ab} {k:Nat} (h:k<g.v.length):(Mi g k).set k (decide ((aE g (k:Int)).1<0))=Mi g (k+1):=by
 have hg:(mA g)[k]?=some (decide ((aE g (k:Int)).1<0)):=by unfold mA;rw[w3,List.getElem?_range h];rfl
 have hl:((mA g).take k).length=k:=by rw[w9,pZ];omega
 unfold Mi;rw[List.set_append_right _ _ (by omega),hl,Nat.sub_self,show g.v.length - k=(g.v.length - (k+1))+1 by omega,List.replicate_succ,List.set_cons_zero,List.take_add_one,hg];simp
theorem J4 {p:Nat→Bool} {k:Nat}:(List.range (k+1)).any p=((List.range k).any p||p k):=by rw[List.range_succ,List.any_append];simp
theorem vm (e:Bool):∀(l:List Int) (m:List Bool),(mz m e l).length=m.length
 |[],_=>rfl
 |v::l,m=>by
  show (mz (vd e m v) e l).length=_;rw[vm e l];show (m.set _ _).length=_;rw[List.length_set]
theorem GP {e:Bool} {m:List Bool} {l:List Int} {q:Nat} {v:Int} (h:l[q]?=some v):mz m e (l.take (q+1))=vd e (mz m e (l.take q)) v:=by unfold mz;exact sN _ h
set_option maxHeartbeats 8000000 in
theorem rV (g:ab) (i:vM) (n:Nat) (l:List aO) (hs:small g) (hR:qZ g) (hi:bE g (lB g i)) (ha:i.args.length≤g.v.length) (hn:n≤1000) (hl:l.length=g.v.length):aS prog E 16 [.agg (bH g),.agg (xl i),.i n,.fro 2 (l.map bM)] (.bool (rR g i n l)):=by
 have hv:=hs.1;have hls:=hi.ls;have hlr:=hi.lr;have hh:rR g i n l=pR g l n (lB g i) (mA g):=by unfold rR;rw[wa hl,Bool.true_and]
 have hmd:=fun v:Nat=>l5 (E:=E) g hs v;rw[hh];refine zm func16 U (by decide) U<|Z<|zx (cs:=_) U U U<|zx (cs:=_) U U U<|ah U<|Y<|za<|Z<|bj U<|am Yo U<|ao jf U Zs U U<|aK Y4 U<|am Z7 U<|aT U U<|Y<|yl U (by simp[hl])<|zc<|Z<|ae Z2 jk U U<|ae isAgg30 sizeOf30 U U<|zy U (zk (.rest _)) (Cg g i hv ha hls hlr) ?_;rintro r27 O27 ⟨iw,ja,jb,jc,jo,jt,ids,hids,rfl,rfl⟩;refine X (xw U)<|Y<|Z<|ao jf U Zs U U<|aK Y4 U<|am Z7 U<|qk (m:=g.v.length) ju Yr U U U U U (by simp) (by simp) (by show (1:Int)*_≤_;omega) (by omega)<|fun i31=>X (eO U)<|Y<|za<|Z<|ao jf U Zs U U<|aK Y4 U<|am Z7 U<|C U<|Y<|zd<|zu (γ:=Nat) [2,3,4,9,10,34] (fun k=>[(35,.i k)]) (fun k=>(i31,.u 1 4 (cB (Mi g k)))::wO g iw ja jb jc jo jt ids (lB g i)) (fun k=>k≤g.v.length) (fun k=>g.v.length - k) 0 aN aJ (qw _) ?_;rintro k hk;refine Z<|aq U U<|Y<|za<|zh U (fun ck=>?_) (fun ck=>?_)
 ·have hk2:k<g.v.length:=by simp at ck;omega
  refine zc<|za<|zd<|Z<|C U<|ap U<|Y<|Z<|ae Z2 jk U U<|C U<|zb (hmd _) U<|X (v8 U)<|X (nU U U)<|X (nU U U)<|ap U<|ap U<|Y<|bZ<|bX U<|C U<|C U<|aq U U<|X (y7 (j:=k) ju Zc U U U ⟨_,.head⟩ ((aP _).trans (EX hk)) hk2)<|yy (j:=k) Zc U U .head (by rw[EX hk];exact hk2)<|Y<|bQ U U ?_;exact ⟨k+1,rX,aN,⟨_,(.refl _),(by rw[←LL hk2])⟩,hk2,by omega⟩
 obtain rfl:k=g.v.length:=by simp at ck;omega
 have hm0:Mi g g.v.length=mA g:=by unfold Mi;rw[List.take_of_length_le (by rw[pZ];exact Nat.le_refl _),Nat.sub_self];simp
 rw[hm0];refine zt<|za<|Z<|C U<|C U<|Y<|zd<|zu (γ:=Nat × GS × List Bool × Nat × Nat × List Nat) [3,4,9,10,50] (fun w=>[(51,.i w.1)]) (fun w=>(i31,.u 1 4 (cB w.2.2.1))::wO g iw ja jb jc w.2.2.2.1 w.2.2.2.2.1 w.2.2.2.2.2 w.2.1) (fun w=>w.1≤n∧pR g l (n - w.1) w.2.1 w.2.2.1=pR g l n (lB g i) (mA g)∧bE g w.2.1∧w.2.1.st≤w.1∧(∀q,w.2.1.ck q≤w.1)∧w.2.2.2.2.2.length=w.2.1.y.length∧w.2.2.1.length=g.v.length) (fun w=>n - w.1) (0,lB g i,mA g,jo,jt,ids) aN aJ (⟨qw _,U,hi,qw _,fun _=>qw _,hids,pZ g⟩) ?_;rintro ⟨c,s,m,jo,jt,ids⟩ ⟨hc,hrun,hg,hst,hck,hids,hml⟩;try dsimp only at *
 refine Z<|aq U U<|Y<|za<|zq U (fun cn=>?_) (fun cn=>?_)
 ·have hc2:c<n:=by simp at cn;omega
  rw[show n - c=(n - (c+1))+1 by omega] at hrun;have hrn:pR g l ((n - (c+1))+1) s m=if (List.range g.v.length).any (BQ g l s m)=true then false else if s.ended=true then true else pR g l (n - (c+1)) (bx g s) (mz m (bx g s).ended (dL g s)):=rfl
  rw[hrn] at hrun;clear hrn;refine zc<|za<|zd<|za<|Z<|ao jf U Zs U U<|aK Y4 U<|am Z7 U<|C U<|Y<|zd<|zu (γ:=Nat) [3,4,9,10,50,51,55] (fun v=>[(56,.i v)]) (fun v=>(i31,.u 1 4 (cB m))::wO g iw ja jb jc jo jt ids s) (fun v=>v≤g.v.length∧(List.range v).any (BQ g l s m)=false) (fun v=>g.v.length - v) 0 aN aJ (⟨qw _,U⟩) ?_;rintro v ⟨hv2,hno⟩;refine Z<|aq U U<|Y<|za<|zh U (fun cv=>?_) (fun cv=>?_)
  ·have hv3:v<g.v.length:=by simp at cv;omega
   have hlv:l[v]?=some (lv l v):=by unfold lv;rw[Int.toNat_natCast,qt (by omega)];rfl
   have hva:=Lt hg (v:=(v:Int)) ⟨by omega,by omega⟩;have hV:=yT (E:=E) g iw ja jb jc jo jt ids s v hv3 hids hg;rw[hva] at hV;have hov:BQ g l s m v=(gb m v&&(decide (dV g s v<(lv l v).1)||decide ((lv l v).2<dV g s v))):=rfl;have hsu:=J4 (p:=BQ g l s m) (k:=v);rw[hno,Bool.false_or] at hsu;refine zc<|za<|zd<|Z<|C U<|ap U<|Y<|Z<|bf U<|C U<|zy U (zk (.r (.l (.l (.l (.l (.l (.l (.l (.rest _)))))))))) (hV) ?_;rintro r61 O61 ⟨rfl,rfl⟩;refine ap U<|Y<|gd .t7<|za<|y3 (γ:=Bool) [3,4,9,10,50,51,55,56] (fun u=>[(83,.bool u)]) (fun u=>(i31,.u 1 4 (cB m))::wO g iw ja jb jc jo jt ids s) (fun u=>u=(gb m v&&(decide (dV g s v<(lv l v).1)||decide ((lv l v).2<dV g s v)))) ?_ (fun _ _ h=>h) ?_
   ·refine bZ<|bX U<|C U<|X (y7 (j:=v) ju Zc U U U ⟨_,.head⟩ ((aP _).trans hml) hv3)<|X (Gv.loadB (j:=v) Yn U ⟨_,.head⟩ (nu (by omega) (Int.natCast_nonneg v)))<|aw U<|zo (s:=66) U (fun c1=>?_) (fun c1=>?_)
    ·refine M U U c1<|C U<|M U U c1<|bj U<|M U U c1<|C U<|M U U c1<|X (bD v Yo j8 U U U hlv)<|M U U c1<|ao jx U Z0 U U<|M U U c1<|aD Zb U<|M U U c1<|aq U U<|M U U c1<|aw U<|zo (s:=74) U (fun c2=>?_) (fun c2=>?_)
     ·refine H U U c2<|H U U c2<|H U U c2<|H U U c2<|H U U c2<|H U U c2<|H U U c2<|M U U c1<|aA U c2 U<|aA U c1 U<|Y ?_;exact ⟨_,rY,aN,aJ,by simp_all<;>omega⟩
     refine M U U c2<|C U<|M U U c2<|bj U<|M U U c2<|C U<|M U U c2<|X (bD v Yo j8 U U U hlv)<|M U U c2<|ao jx U Z0 U U<|M U U c2<|aD Zb U<|M U U c2<|bg U U<|M U U c1<|ay U c2 U<|aA U c1 U<|Y ?_;exact ⟨_,rY,aN,aJ,by simp_all<;>omega⟩
    refine H U U c1<|H U U c1<|H U U c1<|H U U c1<|H U U c1<|H U U c1<|H U U c1<|H U U c1<|zg U U<|zg U U<|zg U U<|zg U U<|zg U U<|zg U U<|zg U U<|H U U c1<|ay U c1 U<|Y ?_;exact ⟨_,rY,aN,aJ,by simp_all<;>omega⟩
   rintro u hu;rw[←hov] at hu;subst hu;refine zq U (fun cu=>?_) (fun cu=>?_)
   ·have hany:(List.range g.v.length).any (BQ g l s m)=true:=List.any_eq_true.2 ⟨v,List.mem_range.2 hv3,cu⟩;rw[if_pos hany] at hrun;rw[←hrun];refine Z<|ah U<|Y<|zf ?_
    repeat (first|refine ad ?_|refine aa ?_)
    refine bt U ?_
    rfl
   rw[cu] at hsu;refine zc<|bQ U U ?_;exact ⟨v+1,lI,aN,aJ,⟨hv3,hsu⟩,by omega⟩
  obtain rfl:v=g.v.length:=by simp at cv;omega
  rw[if_neg (by rw[hno];decide)] at hrun;refine zt<|za<|Z<|bf U<|aC U<|X (ze je U Zc (by decide) U U)<|X (zj (c:=.bool _) Yn U ⟨_,.t1⟩ U)<|Y<|zq U (fun ce=>?_) (fun ce=>?_)
  ·have ce:s.ended=true:=ce;rw[if_pos ce] at hrun;rw[←hrun];refine zt<|Z<|ah U<|Y<|zf ?_
   repeat (first|refine ad ?_|refine aa ?_)
   refine bt U ?_
   rfl
  have ce:s.ended=false:=ce;rw[if_neg (by rw[ce];decide)] at hrun;have hM:=yR (E:=E) g iw ja jb jc jo jt ids s hg hR hs;have hmr:=fun v h=>GO hR hg (v:=v) h;have hml2:=J3 hs hR hg;obtain ⟨mk,hmk⟩:∃mk,dL g s=mk:=⟨_,rfl⟩;rw[hmk] at hM hmr hrun hml2;refine zc<|Z<|bf U<|zy U (zk (.r (.l (.l (.l (.l (.l (.l (.l (.rest _)))))))))) (hM) ?_;rintro r90 O90 ⟨rfl,rfl⟩;refine X (oU U)<|Y<|Z<|bf U<|zy U (zk (.l (.l (.l (.l (.l (.l (.l (.r (.rest _)))))))))) (DJ g iw ja jb jc jo jt ids s hids hg hR hv hs (by omega) (fun q=>by have:=hck q;omega)) ?_;rintro r92 O92 ⟨jo',jt',ids',hl',rfl,rfl⟩;refine Y<|gd .t7 ?_;have hg2:=hg.step hR;have hst2:(bx g s).st≤c+1:=by rw[Lc];omega
  have hck2:∀q,(bx g s).ck q≤c+1:=fun q=>Nat.le_trans (Ld g s q) (by have:=hck q;omega);obtain ⟨t,ht⟩:∃t,bx g s=t:=⟨_,rfl⟩;rw[ht] at hrun hg2 hst2 hck2 hl';rw[ht];refine Z<|bj U<|am j7 U<|C U<|Y<|zd<|zu (γ:=Nat) [3,4,9,10,50,51,93,94] (fun q=>[(95,.i q)]) (fun q=>(i31,.u 1 4 (cB (mz m t.ended (mk.take q))))::wO g iw ja jb jc jo' jt' ids' t) (fun q=>q≤mk.length) (fun q=>mk.length - q) 0 aN aJ (qw _) ?_;rintro q hq;refine Z<|aq U U<|Y<|za<|zh U (fun cq=>?_) (fun cq=>?_)
  ·have hq2:q<mk.length:=by simp at cq;omega
   obtain ⟨x,hx⟩:∃x,mk[q]?=some x:=⟨_,qt hq2⟩;obtain ⟨x0,x1⟩:=hmr x (w5 hx);have hsu:=GP (e:=t.ended) (m:=m) hx;have hmq:=vm t.ended (mk.take q) m;obtain ⟨mm,hmm⟩:∃mm,mz m t.ended (mk.take q)=mm:=⟨_,rfl⟩;rw[hmm] at hsu hmq;rw[hmm];refine zc<|za<|zd<|Z<|X (bD q j7 j9 U U U hx)<|aD jg U<|ap U<|Y<|bZ<|bX U<|C U<|bf U<|aC U<|X (ze je U Zc (by decide) U U)<|X (zj (c:=.bool _) Yn U ⟨_,.t1⟩ U)<|aL U<|aw U<|zo (s:=106) U (fun cz=>?_) (fun cz=>?_)
   ·have hz:t.ended=false:=by simpa using cz
    refine H U U cz<|H U U cz<|H U U cz<|H U U cz<|aA U cz U<|X (y7 (j:=x.toNat) ju Zc U U (by omega) ⟨_,.head⟩ ((aP _).trans (hmq.trans hml)) (by omega))<|yy (j:=x.toNat) Zc U U .head (by omega)<|Y<|bQ U U ?_;exact ⟨q+1,rY,aN,⟨_,(.refl _),(by rw[hsu];unfold vd;rw[hz];rfl)⟩,hq2,by omega⟩
   have hz:t.ended=true:=by simpa using cz
   refine M U U cz<|bX U<|M U U cz<|C U<|M U U cz<|X (y7 (j:=x.toNat) ju Zc U U (by omega) ⟨_,.head⟩ ((aP _).trans (hmq.trans hml)) (by omega))<|M U U cz<|X (Gv.loadB (j:=x.toNat) Yn U ⟨_,.head⟩ (nu (by omega) x0))<|ay U cz U<|X (y7 (j:=x.toNat) ju Zc U U (by omega) ⟨_,.head⟩ ((aP _).trans (hmq.trans hml)) (by omega))<|yy (j:=x.toNat) Zc U U .head (by omega)<|Y<|bQ U U ?_;exact ⟨q+1,rY,aN,⟨_,(.refl _),(by rw[hsu];unfold vd;rw[hz];rfl)⟩,hq2,by omega⟩
  obtain rfl:q=mk.length:=by simp at cq;omega
  rw[qy];refine zt<|bQ U U ?_;exact ⟨(c+1,t,mz m t.ended mk,jo',jt',ids'),lf,aN,aJ,⟨hc2,hrun,hg2,hst2,hck2,hl',(vm _ _ _).trans hml⟩,by dsimp only;omega⟩
 have hc2:c=n:=by simp at cn;omega
 rw[hc2,Nat.sub_self] at hrun;rw[←hrun];refine zt<|Z<|ah U<|Y<|zf ?_
 repeat (first|refine ad ?_|refine aa ?_)
 refine bt U ?_
 rfl
section
variable {f:ab} {K:KS} {t pr a9 a10:AV} {iw js jl jm jp:Nat} {Mq0:List Int}
variable (hv:f.v.length≤1000)
include hv
end
end
section
open Go.Proofs.Tryz
section
variable {f:ab} (hR:bq f) {K:KS} {v:Int}
include hR
variable {x:aB} (hm:eN f v=some x)
include hm
end
end
section
open Go.Proofs.Tryz
open Go.Proofs Go.Lib Go.Shelf Go.RowKit
variable {E:World}
set_option maxRecDepth 20000
def O9 (f:ab):Bool:=bv f&&(eC f&&qM f)
end
section
open Go.Proofs.Tryz
open Go.Proofs
theorem LM {f:ab} (hR:bq f) (hp:O9 f=true):∀b∈f.q,∀y∈b.s,y.op<25:=fun b hb y hy=>by
 have h1:=(hR.run.s b hb y hy).1.op;unfold O9 qM at hp;simp only[wc] at hp;have h2:=List.all_eq_true.1 hp.2.2 b hb;have h3:(b.s.any fun x=>decide (x.op=25)||decide (x.op=26))=false:=by simpa using h2
 have h4:=List.any_eq_false.1 h3 y hy;simp at h4;omega
end
section
open Go.Proofs.Tryz
open Go.Proofs Go.Lib Go.Shelf Go.RowKit
variable {E:World}
set_option maxRecDepth 20000
theorem Cj (f:ab) (i:vM) (hp:f.z.length≤f.v.length) (hl:i.args.length≤281474976710656) (hl2:i.y.length≤281474976710656):aS prog E 9 [.agg (bH f),.agg (xl i)] (.i (eH f i)):=by
 refine zm func9 U (by decide) U<|Z<|zx (cs:=_) U U U<|zx (cs:=_) U U U<|ap U<|Y<|za<|Z<|ao Yq U sizeOf27 U U<|aK isAgg27 U<|am Xb U<|ao jf U jh U U<|aK jy U<|am j7 U<|aT U U<|Y<|zq U (fun c1=>?_) (fun c1=>?_)
 ·have c1:¬i.args.length=f.z.length:=by simp at c1;omega
  refine Z<|ap U<|Y<|zf ?_
  repeat (first|refine ad ?_|refine aa ?_)
  refine gu U ?_;unfold eH;rw[if_pos c1]
 have c1:i.args.length=f.z.length:=by simp at c1;omega
 refine zc<|za<|Z<|ao Yq U sizeOf27 U U<|aK isAgg27 U<|am Xb U<|C U<|Y<|zd<|zu (γ:=Nat) [2,3,17,18] (fun k=>[(19,.i k)]) (fun k=>[]) (fun k=>k≤i.args.length∧∀(j:Nat) a,j<k→i.args[j]?=some a→gA f i (a,j)=false) (fun k=>i.args.length - k) 0 aN aJ (⟨qw _,fun j a h=>absurd h (Nat.not_lt_zero _)⟩) ?_;rintro k ⟨hk,hok⟩;refine Z<|aq U U<|Y<|za<|zh U (fun ck=>?_) (fun ck=>?_)
 ·have hk2:k<i.args.length:=by simp at ck;omega
  obtain ⟨a,hea⟩:∃a,i.args[k]=a:=⟨_,rfl⟩;have hag:i.args[k]?=some a:=by rw[qt hk2,hea]
  obtain ⟨v,hev⟩:∃v,f.v[k]?=some v:=⟨_,qt (by omega)⟩;have hty:nJ f k=v.ty:=by unfold nJ;rw[hev];rfl
  refine zc<|za<|zd<|Z<|C U<|X (bD k Xb sizeOf68 U U U hag)<|ae isAgg68 sizeOf68 U U<|zp (cs:=[.int .i64 0,.bool false,.int .i64 0]) zeroValue68 U U<|fun i6=>ap U<|zi sizeOf68 U U U U U U .head U<|y9 (zz (t:=6) U .head)<|Y<|za<|y3 (γ:=Bool) [2,3,17,18,19] (fun z=>[(43,.bool z)]) (fun z=>[]) (fun z=>z=gA f i (a,k)) ?_ (fun _ _ h=>h) ?_
  ·refine bZ<|ao jf U Zs U U<|aK Y4 U<|C U<|X (bD k Z7 Yc U U U hev)<|ao Zr U X5 U U<|aD Xh U<|au U U<|aw U<|zo (s:=31) U (fun c2=>?_) (fun c2=>?_)
   ·have d2:nJ f k=2:=hty.trans (by simpa using c2);refine M U U c2<|ao Xk U j9 U U<|M U U c2<|aD jg U<|M U U c2<|aq U U<|M U U c2<|aw U<|zo (s:=35) U (fun c3=>?_) (fun c3=>?_)
    ·have d3:a.arr < -1:=by simpa using c3
     refine H U U c3<|H U U c3<|H U U c3<|H U U c3<|H U U c3<|H U U c3<|M U U c2<|aA U c3 U<|aA U c2 U<|Y ?_;exact ⟨_,lf,aN,aJ,by unfold gA;simp[d2,d3]⟩
    have d3:¬a.arr < -1:=by simpa using c3
    refine M U U c3<|ao Xk U j9 U U<|M U U c3<|aD jg U<|M U U c3<|ao Yq U Yj U U<|M U U c3<|aK X3 U<|M U U c3<|am Zn U<|M U U c3<|X (q7 U U)<|M U U c2<|ay U c3 U<|aA U c2 U<|Y ?_;exact ⟨_,lf,aN,aJ,by unfold gA;simp[d2,d3]⟩
   have d2:¬nJ f k=2:=fun h=>by rw[hty] at h;simp[h] at c2
   refine H U U c2<|H U U c2<|H U U c2<|H U U c2<|zg U U<|zg U U<|zg U U<|zg U U<|zg U U<|zg U U<|H U U c2<|ay U c2 U<|Y ?_;exact ⟨_,lf,aN,aJ,by unfold gA;simp[d2]⟩
  rintro z hz;refine zq U (fun cz=>?_) (fun cz=>?_)
  ·have hb:i.args.zipIdx.any (gA f i)=true:=List.any_eq_true.2 ⟨(a,k),w5 (i:=k) (by rw[List.getElem?_zipIdx,hag];simp),hz.symm.trans cz⟩;refine Z<|ap U<|Y<|zf ?_
   repeat (first|refine ad ?_|refine aa ?_)
   refine gu U ?_;unfold eH;rw[if_neg (fun h=>h c1),if_pos hb]
  refine zc<|bQ U U ?_;exact ⟨k+1,f7,aN,aJ,⟨hk2,fun j b hj hb=>by rcases (by omega:j<k∨j=k) with h|rfl;exact hok j b h hb;rw[hag] at hb;cases hb;exact hz.symm.trans cz⟩,by omega⟩
 obtain rfl:k=i.args.length:=by simp at ck;omega
 have hb:¬i.args.zipIdx.any (gA f i)=true:=fun h=>by
  obtain ⟨⟨a,j⟩,hm,hh⟩:=List.any_eq_true.1 h;obtain ⟨hj,e⟩:=List.mk_mem_zipIdx_iff_getElem?.1 hm |> fun h=>(⟨(List.getElem?_eq_some_iff.1 h).1,h⟩:j<i.args.length∧_);rw[hok j a hj e] at hh;cases hh
 refine zt<|za<|Z<|ao Yq U Yj U U<|aK X3 U<|am Zn U<|bg U U<|Y<|zh U (fun c32=>?_) (fun c32=>?_)
 ·have c32:32<i.y.length:=by omega
  refine Z<|ap U<|Y<|zf ?_
  repeat (first|refine ad ?_|refine aa ?_)
  refine gu U ?_;unfold eH;rw[if_neg (fun h=>h c1),if_neg hb,if_pos c32]
 have c32:¬32<i.y.length:=by omega
 refine zc<|za<|Z<|ao Yq U Yj U U<|aK X3 U<|am Zn U<|C U<|Y<|zd<|zu (γ:=Nat) [50,51] (fun k=>[(52,.i k)]) (fun k=>[]) (fun k=>k≤i.y.length∧∀r∈i.y.take k,decide (64<r.length)=false) (fun k=>i.y.length - k) 0 aN aJ (⟨qw _,fun r h=>by simp at h⟩) ?_;rintro k ⟨hk,hok⟩;refine Z<|aq U U<|Y<|za<|zh U (fun ck=>?_) (fun ck=>?_)
 ·have hk2:k<i.y.length:=by simp at ck;omega
  obtain ⟨r,her⟩:∃r,i.y[k]=r:=⟨_,rfl⟩;have hrg:i.y[k]?=some r:=by rw[qt hk2,her]
  refine zc<|za<|zd<|Z<|X (bD k Zn Zx U U U hrg)<|aK Yh U<|X (oU U)<|Y<|Z<|bj U<|am Z5 U<|bg U U<|Y<|zh U (fun cr=>?_) (fun cr=>?_)
  ·have cr:64<r.length:=by omega
   have hb4:i.y.any (fun r=>decide (64<r.length))=true:=List.any_eq_true.2 ⟨r,w5 hrg,wa cr⟩;refine Z<|ap U<|Y<|zf ?_
   repeat (first|refine ad ?_|refine aa ?_)
   refine gu U ?_;unfold eH;rw[if_neg (fun h=>h c1),if_neg hb,if_neg c32,if_pos hb4]
  have cr:¬64<r.length:=by omega
  refine zc<|bQ U U ?_;exact ⟨k+1,cV,aN,aJ,⟨hk2,fun q hq=>by rw[qu hk2] at hq;rcases List.mem_append.1 hq with hq|hq;exact hok q hq;rw[List.mem_singleton.1 hq,her];exact wb cr⟩,by omega⟩
 obtain rfl:k=i.y.length:=by simp at ck;omega
 rw[qy] at hok;have hb4:¬i.y.any (fun r=>decide (64<r.length))=true:=fun h=>by
  obtain ⟨r,hm,hh⟩:=List.any_eq_true.1 h;rw[hok r hm] at hh;cases hh
 refine zt<|Z<|ap U<|Y<|zf ?_
 repeat (first|refine ad ?_|refine aa ?_)
 refine gu U ?_;unfold eH;rw[if_neg (fun h=>h c1),if_neg hb,if_neg c32,if_neg hb4]
end
end Go.Proofs.YtbbonnfjealmpaaGreatDoor
