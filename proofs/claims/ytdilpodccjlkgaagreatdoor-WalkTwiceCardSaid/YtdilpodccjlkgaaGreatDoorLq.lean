/- What is decided of a bool variable, step by step; what was decided already. Plain law. No conditions. -/
import Derived.Test.YtdilpodccjlkgaaGreatDoorLp
import Derived.Test.YtdilpodccjlkgaaGreatDoorLn
import Derived.Test.YtdilpodccjlkgaaGreatDoorLo
set_option linter.unusedVariables false
set_option linter.unusedSimpArgs false
set_option linter.unusedSectionVars false
namespace Go.Proofs.YtdilpodccjlkgaaGreatDoor
open Go.Proofs.Tryz
open Go.Proofs Go.Lib Go.Shelf Go.RowKit
theorem En:de prog 183 #[(0,1),(1,1),(2,1)] [.int .i64 0,.int .i64 0,.int .i64 0]:=⟨_,_,Yf,zeroValue183,fun w=>by kernel_rfl,rfl⟩
theorem B8:cF prog 181 183 1 3 [.int .i64 0,.int .i64 0,.int .i64 0]:=⟨_,underlying181,sizeOf183,zeroValue183,by decide,by decide,by kernel_rfl⟩
variable {E:World}
set_option maxRecDepth 20000
def gP (r:xe):List AV:=[.int .i64 r.a,.int .i64 r.b,.int .i64 r.n]
theorem Aq (l:List xe):(l.map gP).flatten.length=l.length*3:=by
 induction l with
 |nil=>rfl
 |cons o r ih=>rw[List.map_cons,List.flatten_cons,qo,ih,List.length_cons];show 3+_=_;omega
theorem oD {f:ad} {v:Int} (h:v<f.vars.length∧0≤v):aT f v=true:=by unfold aT;simpa using ⟨h.2,h.1⟩
theorem mG {f:ad} {v:Int} (h:aT f v=true):aI prog E 202 [.agg (bD f),.fro 2 ((bP f).map eP.row),.int .i64 v] (.tup [.agg (Ff (cS f v)),.bool (cS f v).isSome]):=by
 obtain ⟨hv0,hvg⟩:=fE h
 unfold bD
 refine zo func202 Z (by decide) Z<|ah<|ya (cs:=_) Z Z Z<|y5 (cs:=[.int .i64 0,.int .i64 0,.raw (.slice none 0 0),.int .i64 0]) Z5 Z Z<|fun i6=>ab Z<|z6<|zd<|ah<|bb Z<|aa Z<|za (bx v.toNat Zl Ya Z Z (by omega) hvg)<|ac isAgg77 Ya Z Z<|y5 (cs:=[.int .i64 0,.int .i64 0]) zeroValue77 Z Z<|fun i8=>zz Ya Z Z Z Z Z Z .head Z<|ze (yd (t:=8) Z .head)<|z6<|zd<|yg (γ:=Bool) [3,6,8] (fun u=>[(20,.bool u)]) (fun u=>[(i6,.cells 54 [.int .i64 0,.int .i64 0,.raw (.slice none 0 0),.int .i64 0])]) (fun u=>u=decide (0≤(aF f v).1∧0≤(aF f v).2)) ?_ (fun _ _ h=>h) ?_
 ·refine aV<|aq Zg Z wz Z Z<|ay j6 Z<|za (q3 Z Z)<|ai Z<|zp (s:=16) Z (fun c1=>?_) (fun c1=>?_)
  ·refine z8 Z Z c1<|aq Zg Z wz Z Z<|z8 Z Z c1<|ay j6 Z<|z8 Z Z c1<|za (q3 Z Z)<|ar Z c1 Z<|z6 ?_
   exact ⟨_,dy,aJ,aE,by simp_all<;>omega⟩
  ·refine z7 Z Z c1<|z7 Z Z c1<|z7 Z Z c1<|au Z c1 Z<|z6 ?_
   exact ⟨_,dy,aJ,aE,by simp_all<;>omega⟩
 ·rintro u hu
  refine zu Z (fun cu=>?_) (fun cu=>?_)
  ·have hy:0≤(aF f v).1∧0≤(aF f v).2:=qz (hu▸cu)
   obtain ⟨i,b,h1,h2,h3⟩:=dJ hy.1
   obtain ⟨q,x,h4,h5,h6⟩:∃(q:Nat) (x:aB),b.insts[q]?=some x∧x.dst=v∧(aF f v).2=q:=by
    rcases h3 with ⟨_,_,_,h4⟩|h3
    ·omega
    ·exact h3
   have hm:cS f v=some x:=by unfold cS;rw[if_pos hy,h2,h6,Int.toNat_natCast,Int.toNat_natCast,h1];exact h4
   rw[hm]
   refine zd<|zt (fun j=>Nat.beq j 11) (by kernel_rfl) Z (zm (.rest _))<|aj 0 Z (bK je Z Z0 Z Z)<|aj 1 Z (eH Zb Z)<|aj 2 Z (bK Zg Z wz Z Z)<|aj 3 Z (da j6 Z)<|aj 4 Z (bx i ji ju Z Z h2 h1)<|aj 5 Z (bK jg Z Zd Z Z)<|aj 6 Z (eH Zs Z)<|aj 7 Z (bK Zg Z wz Z Z)<|aj 8 Z (da j6 Z)<|aj 9 Z (bx q jt jk Z Z h6 h4)<|aj 10 Z (yt Zn jk Z Z)<|ym<|yk (i:=11) Z (by kernel_rfl) (by kernel_rfl)<|zz jk Z Z Z Z Z Z .head Z<|z6<|yk (i:=12) Z (by kernel_rfl) (by kernel_rfl)<|ab Z<|z6<|yq (by kernel_rfl)<|zh<|dx.c1t (y:=.bool _) Z Z ⟨_,.head⟩ Zn jk Z ?_
   rfl
  ·have hn:cS f v=none:=by unfold cS;rw[if_neg (of_decide_eq_false (hu▸cu))]
   rw[hn]
   refine zg<|ah<|za (y4 (cps:=[]) (rs:=[.int .i64 0,.int .i64 0,.raw (.slice none 0 0),.int .i64 0]) BN Z Z Z)<|zz jk Z Z Z Z Z Z .head Z<|ab Z<|z6<|zh<|dx.c1t (y:=.bool _) Z Z ⟨_,.head⟩ Zn jk Z ?_
   rfl
theorem tu {f:ad} {v:Int} (h:aT f v=true) (hm:cS f v=none):aI prog E 202 [.agg (bD f),.fro 2 ((bP f).map eP.row),.int .i64 v] (.tup [.agg [.int .i64 0,.int .i64 0,.raw (.slice none 0 0),.int .i64 0],.bool false]):=by
 have:=mG (E:=E) h
 rw[hm] at this
 exact this
theorem tv {f:ad} {v:Int} (h:aT f v=true) {y:aB} (hm:cS f v=some y):aI prog E 202 [.agg (bD f),.fro 2 ((bP f).map eP.row),.int .i64 v] (.tup [.agg (be y),.bool true]):=by
 have:=mG (E:=E) h
 rw[hm] at this
 exact this
def Ar (f:ad) (bs jo n:Nat):List AV:=[.fro 2 (f.vars.map e9),.fro 1 (f.params.map cE),.fro 7 (f.blocks.map bN),.fro 2 ((bP f).map eP.row),cT bs,.own jo n]
def rz (f:ad) (iq bs jo:Nat) (es:List (fG × Int)) (q:ky):OL:=[(iq,.cells 256 (Ar f bs jo q.out.length)),(0,kG ry bs es),(jo,.grow 3 183 (q.out.map gP).flatten)]
theorem uU (f:ad) (iq bs jo:Nat) (es:List (fG × Int)) (q:ky) (a b n:Int) (hl:q.out.length≤100000) :
  aU prog E 203 [.po iq 0,.int .i64 a,.int .i64 b,.int .i64 n] (rz f iq bs jo es q) (fun y O=>∃g:Nat,y=.tup []∧O=rz f iq bs g es (eW q a b n)∧True):=by
 refine yz (γ:=Nat) (x:=fun g=>.tup []) (M:=fun g=>rz f iq bs g es (eW q a b n)) (p:=fun _=>True) ?_
 unfold rz
 refine zo func203 Z (by decide) Z<|ah<|aa Z<|aa Z<|aL Z Z<|z6<|zu Z (fun c=>?_) (fun c=>?_)
 ·have c:¬a=b:=by simpa using c
  have ht:eW q a b n=⟨q.seen,q.out++[⟨a,b,n⟩]⟩:=by unfold eW;rw[if_neg c]
  have hrl:=Aq q.out
  refine aV<|aR Z<|aR Z<|az Z<|za (zn Zx Z sizeOf181 (by decide) Z Z)<|za (zq (c:=.own _ _) isAgg181 Z ⟨_,.head⟩ Z)<|aa Z<|aa Z<|aa Z<|za (y4 (cps:=[(0,[_]),(1,[_]),(2,[_])]) (rs:=[_,_,_]) En Z Z Z)<|y3 (rows:=[[_,_,_]]) B8 Z Z Z Z Z<|yj (k:=3) underlying181 type183 Z Z Z Z Z (fun _=>.t2) hrl (by decide) Z (by show (_+_)*24≤_;simp<;>omega) (by simp<;>omega)<|fun i21=>az Z<|za (zn Zx Z sizeOf181 (by decide) Z Z)<|yv (l:=[_]) (new:=[_,_,_,_,_,_]) sizeOf181 Z Z Z Z Z Z .head Z Z<|z6<|yc (zb (zc .t2))<|yc (zb (zc .t2))<|yc (zb (zc .t2))<|yp ?_
  exact ⟨i21,rfl,⟨_,.refl _,by rw[ht,qt,List.flatten_append,qo];rfl⟩,trivial⟩
 ·have c:a=b:=by simpa using c
  have ht:eW q a b n=q:=by unfold eW;rw[if_pos c]
  refine zg<|yp ?_
  exact ⟨jo,rfl,⟨_,.refl _,by rw[ht]⟩,trivial⟩
end Go.Proofs.YtdilpodccjlkgaaGreatDoor
namespace Go.Proofs.YtdilpodccjlkgaaGreatDoor
open Go.Proofs.Tryz
open Go.Proofs Go.Lib Go.Shelf Go.RowKit
theorem As:de prog 279 #[(0,1),(1,1)] [.int .i64 0,.bool false]:=⟨_,_,underlying279,zeroValue279,fun w=>by kernel_rfl,rfl⟩
variable {E:World}
set_option maxRecDepth 20000
def Au (E:World) (f:ad) (iq bs:Nat) (n:Nat):Prop:=∀(q:ky) (es:List (fG × Int)) (jo:Nat) (c:Int) (is:Bool),aT f c=true→oR f c<n→gO f es q→ff es≤2*q.seen.length →
 aU prog E 185 [.po iq 0,.int .i64 c,.bool is] (rz f iq bs jo es q) (fun y O=>∃g:Nat × List (fG × Int),y=.tup []∧O=rz f iq bs g.1 g.2 (kz f n q c is)∧gO f g.2 (kz f n q c is)∧ff g.2+2*q.seen.length≤ff es+2*(kz f n q c is).seen.length+1)
set_option maxHeartbeats 16000000 in
theorem Aw (f:ad) (hR:b8 f) (hv:f.vars.length≤1000) (iq bs n:Nat) (ih:Au E f iq bs n):Au E f iq bs (n+1):=by
 intro q es jo c is hc hrk hA hcn
 have hval:=hA.val (c,is)
 have hlen:=hA.len
 have hol:=hA.out
 have hnn:=rv es hA.pos
 obtain ⟨es1,hes1⟩:∃es1,bF es (c,is) ((aW es (c,is)).getD 0+1)=es1:=⟨_,rfl⟩
 have hg1:(aW es1 (c,is)).getD 0=(aW es (c,is)).getD 0+1:=by rw[←hes1,md,if_pos rfl];rfl
 have hold:=fun h=>hA.old (k:=(c,is)) h
 have hnew:=fun h=>hA.new (k:=(c,is)) h hc
 rw[hes1] at hold hnew
 refine yz (γ:=Nat × List (fG × Int)) (x:=fun _=>.tup []) (M:=fun g=>rz f iq bs g.1 g.2 (kz f (n+1) q c is)) (p:=fun g=>gO f g.2 (kz f (n+1) q c is)∧ff g.2+2*q.seen.length≤ff es+2*(kz f (n+1) q c is).seen.length+1) ?_
 have tell:=fun es (k:fG) a b m=>uU (E:=E) f iq bs jo es ⟨q.seen++[k],q.out⟩ a b m (by show q.out.length≤_;omega)
 have ih:=fun q es jo c is h1 h2 h3 h4=>ih q es jo c is h1 h2 h3 h4
 unfold rz at tell ih ⊢
 unfold kz
 refine zo func185 Z (by decide) Z ?_
 rcases hm:cS f c with _|x
 ·refine zd<|yg (γ:=Nat) [0,1,2] (fun g=>[(6,.po g 0),(7,.bool false)]) (fun g=>[(iq,.cells 256 (Ar f bs jo q.out.length)),(g,.cells 54 [.int .i64 0,.int .i64 0,.raw (.slice none 0 0),.int .i64 0]),(0,kG ry bs es),(jo,.grow 3 183 (q.out.map gP).flatten)]) (fun g=>True) ?_ (fun _ _ h=>h) ?_
  ·refine zt (fun j=>Nat.beq j 14) (by kernel_rfl) Z (zm (.r (.rest _)))<|aj 0 Z (eF Z)<|aj 1 Z (yb Z)<|aj 2 Z (zn Zx Z jh (by decide) Z Z)<|aj 3 Z (Gv.loadAC (l:=[_,_,_]) jj jh Z ⟨_,.head⟩ Z Z)<|aj 4 Z (eF Z)<|aj 5 Z (yb Z)<|aj 6 Z (zn Zx Z Yb (by decide) Z Z)<|aj 7 Z (zq (c:=.fro _ _) Ys Z ⟨_,.head⟩ Z)<|aj 8 Z (dF Z)<|yn (i:=9) (j:=13) Z Z (by kernel_rfl) ?_ ?_
   ·refine zf (tu hc hm) Z<|z6<|aj 10 Z (iW Z)<|aj 11 Z (q4 (v:=.agg _) Z Z)<|q5 (i:=12) Z (by kernel_rfl) (by kernel_rfl) (by kernel_rfl) (by kernel_rfl) (ij Z Z)<|aY 13 Z<|y5 (cs:=[.int .i64 0,.int .i64 0,.raw (.slice none 0 0),.int .i64 0]) Z5 Z Z<|fun i6=>z6<|ym<|yk (i:=14) Z (by kernel_rfl) (by kernel_rfl)<|zz jk Z Z Z Z Z Z .t1 Z<|z6<|yk (i:=15) Z (by kernel_rfl) (by kernel_rfl)<|ab Z<|z6<|yq (by kernel_rfl) ?_
    exact ⟨i6,(by repeat (first|with_reducible exact y6 _ _|refine yh rfl ?_)),eZ,aE,trivial⟩
   ·refine y5 (cs:=[.int .i64 0,.int .i64 0,.raw (.slice none 0 0),.int .i64 0]) Z5 Z Z<|fun i6=>z6<|aY 9 Z<|zf (tu hc hm) Z<|z6<|aj 10 Z (iW Z)<|aj 11 Z (q4 (v:=.agg _) Z Z)<|q5 (i:=12) Z (by kernel_rfl) (by kernel_rfl) (by kernel_rfl) (by kernel_rfl) (ij Z Z)<|ym<|yk (i:=14) Z (by kernel_rfl) (by kernel_rfl)<|zz jk Z Z Z Z Z Z .t1 Z<|z6<|yk (i:=15) Z (by kernel_rfl) (by kernel_rfl)<|ab Z<|z6<|yq (by kernel_rfl) ?_
    exact ⟨i6,(by repeat (first|with_reducible exact y6 _ _|refine yh rfl ?_)),eZ,aE,trivial⟩
  ·rintro i6 _
   refine zd<|zd<|yg (γ:=Unit) [0,1,2,6,7] (fun u=>[]) (fun u=>[(iq,.cells 256 (Ar f bs jo q.out.length)),(i6,.cells 54 [.int .i64 0,.int .i64 0,.raw (.slice none 0 0),.int .i64 0]),(0,kG ry bs es1),(jo,.grow 3 183 (q.out.map gP).flatten)]) (fun u=>True) ?_ (fun _ _ h=>h) ?_
   ·refine zt (fun j=>false) (by kernel_rfl) Z (zm (.r (.rest _)))<|aj 0 Z (eF Z)<|aj 1 Z (yb Z)<|aj 2 Z (zn Zx Z sizeOf254 (by decide) Z Z)<|aj 3 Z (zq (c:=cT _) isAgg254 Z ⟨_,.head⟩ Z)<|aj 4 Z (dF Z)<|aj 5 Z (m4 Z)<|aj 6 Z (y4 (cps:=[(0,[_]),(1,[_])]) (rs:=[_,_]) As Z Z Z)<|yn (i:=7) (j:=9) Z Z (by kernel_rfl) ?_ ?_
    ·refine za (Gv.lookup1ST (k:=(c,is)) iF Y8 Zk Z Z ⟨_,.t1⟩)<|z6<|aj 8 Z (Co Z Z)<|aY 9 Z<|ax.mapEntryS (k:=(c,is)) iF Y8 Zk Z Z (fun _=>.t1)<|fun s30=>z6<|aj 10 Z (iJ Z Z)<|aY 11 Z<|ax.entryStoreS Z Z Z .t1<|z6<|bV ?_
     exact ⟨(),(by repeat (first|with_reducible exact y6 _ _|refine yh rfl ?_)),trivial,⟨_,(.refl _),by rw[ks,hes1];rfl⟩,trivial⟩
    ·refine ax.mapEntryS (k:=(c,is)) iF Y8 Zk Z Z (fun _=>.t1)<|fun s30=>z6<|aj 10 Z (iJ Z Z)<|aY 7 Z<|za (Gv.lookup1SE (k:=(c,is)) iF Y8 Zk Z Z ⟨_,.t1⟩)<|z6<|aj 8 Z (Co Z Z)<|aY 11 Z<|ax.entryStoreS Z Z Z .t1<|z6<|bV ?_
     exact ⟨(),(by repeat (first|with_reducible exact y6 _ _|refine yh rfl ?_)),trivial,⟨_,(.refl _),by rw[ks,hes1];rfl⟩,trivial⟩
   ·rintro u _
    refine ah<|ai Z<|aD Z<|ai Z<|z7 Z Z Z<|z7 Z Z Z<|z7 Z Z Z<|z7 Z Z Z<|z7 Z Z Z<|z7 Z Z Z<|z7 Z Z Z<|z7 Z Z Z<|z7 Z Z Z<|ar Z Z Z<|z6 ?_
    rcases hk:q.seen.contains (c,is) with _|_
    ·rw[if_neg (show ¬(false=true) by decide)]
     refine yl Z Z<|zh<|yp ?_
     exact ⟨(jo,es1),rfl,⟨_,.keep (.drop (.refl _)),rfl⟩,(hnew hk).1,by have:=(hnew hk).2;simp;omega⟩
    ·rw[if_pos (show true=true from rfl)]
     refine yl Z Z<|zh<|yp ?_
     exact ⟨(jo,es1),rfl,⟨_,.keep (.drop (.refl _)),rfl⟩,(hold hk).1,by have:=(hold hk).2;dsimp only;omega⟩
 ·obtain ⟨hF,_,_⟩:=hR.madeF hm
  have a0:∀{k:Int},x.op=k→0<([0,1,2,2,2,2,2,2,2,2,1,2,1,2,3,1,0,1,2,1,1,2,2,2,1,2,2][k.toNat]?).getD 0→(aT f (bB x)=true∧oR f (bB x)<n)∧0<x.args.length:=fun e h=>by
   have hl:0<x.args.length:=by rw[hF.cnt e];exact h
   have:=hR.rk0 hm hl
   exact ⟨⟨oD (hF.a0 hl),by omega⟩,hl⟩
  have a1:∀{k:Int},x.op=k→1<([0,1,2,2,2,2,2,2,2,2,1,2,1,2,3,1,0,1,2,1,1,2,2,2,1,2,2][k.toNat]?).getD 0→(aT f (cK x)=true∧oR f (cK x)<n)∧1<x.args.length:=fun e h=>by
   have hl:1<x.args.length:=by rw[hF.cnt e];exact h
   have:=hR.rk1 hm hl
   exact ⟨⟨oD (hF.a1 hl),by omega⟩,hl⟩
  refine zd<|yg (γ:=Nat) [0,1,2] (fun g=>[(6,.po g 0),(7,.bool true)]) (fun g=>[(iq,.cells 256 (Ar f bs jo q.out.length)),(g,.cells 54 (be x)),(0,kG ry bs es),(jo,.grow 3 183 (q.out.map gP).flatten)]) (fun g=>True) ?_ (fun _ _ h=>h) ?_
  ·refine zt (fun j=>Nat.beq j 14) (by kernel_rfl) Z (zm (.r (.rest _)))<|aj 0 Z (eF Z)<|aj 1 Z (yb Z)<|aj 2 Z (zn Zx Z jh (by decide) Z Z)<|aj 3 Z (Gv.loadAC (l:=[_,_,_]) jj jh Z ⟨_,.head⟩ Z Z)<|aj 4 Z (eF Z)<|aj 5 Z (yb Z)<|aj 6 Z (zn Zx Z Yb (by decide) Z Z)<|aj 7 Z (zq (c:=.fro _ _) Ys Z ⟨_,.head⟩ Z)<|aj 8 Z (dF Z)<|yn (i:=9) (j:=13) Z Z (by kernel_rfl) ?_ ?_
   ·refine zf (tv hc hm) Z<|z6<|aj 10 Z (iW Z)<|aj 11 Z (q4 (v:=.agg _) Z Z)<|q5 (i:=12) Z (by kernel_rfl) (by kernel_rfl) (by kernel_rfl) (by kernel_rfl) (ij Z Z)<|aY 13 Z<|y5 (cs:=[.int .i64 0,.int .i64 0,.raw (.slice none 0 0),.int .i64 0]) Z5 Z Z<|fun i6=>z6<|ym<|yk (i:=14) Z (by kernel_rfl) (by kernel_rfl)<|zz jk Z Z Z Z Z Z .t1 Z<|z6<|yk (i:=15) Z (by kernel_rfl) (by kernel_rfl)<|ab Z<|z6<|yq (by kernel_rfl) ?_
    exact ⟨i6,(by repeat (first|with_reducible exact y6 _ _|refine yh rfl ?_)),eZ,aE,trivial⟩
   ·refine y5 (cs:=[.int .i64 0,.int .i64 0,.raw (.slice none 0 0),.int .i64 0]) Z5 Z Z<|fun i6=>z6<|aY 9 Z<|zf (tv hc hm) Z<|z6<|aj 10 Z (iW Z)<|aj 11 Z (q4 (v:=.agg _) Z Z)<|q5 (i:=12) Z (by kernel_rfl) (by kernel_rfl) (by kernel_rfl) (by kernel_rfl) (ij Z Z)<|ym<|yk (i:=14) Z (by kernel_rfl) (by kernel_rfl)<|zz jk Z Z Z Z Z Z .t1 Z<|z6<|yk (i:=15) Z (by kernel_rfl) (by kernel_rfl)<|ab Z<|z6<|yq (by kernel_rfl) ?_
    exact ⟨i6,(by repeat (first|with_reducible exact y6 _ _|refine yh rfl ?_)),eZ,aE,trivial⟩
  ·rintro i6 _
   refine zd<|zd<|yg (γ:=Unit) [0,1,2,6,7] (fun u=>[]) (fun u=>[(iq,.cells 256 (Ar f bs jo q.out.length)),(i6,.cells 54 (be x)),(0,kG ry bs es1),(jo,.grow 3 183 (q.out.map gP).flatten)]) (fun u=>True) ?_ (fun _ _ h=>h) ?_
   ·refine zt (fun j=>false) (by kernel_rfl) Z (zm (.r (.rest _)))<|aj 0 Z (eF Z)<|aj 1 Z (yb Z)<|aj 2 Z (zn Zx Z sizeOf254 (by decide) Z Z)<|aj 3 Z (zq (c:=cT _) isAgg254 Z ⟨_,.head⟩ Z)<|aj 4 Z (dF Z)<|aj 5 Z (m4 Z)<|aj 6 Z (y4 (cps:=[(0,[_]),(1,[_])]) (rs:=[_,_]) As Z Z Z)<|yn (i:=7) (j:=9) Z Z (by kernel_rfl) ?_ ?_
    ·refine za (Gv.lookup1ST (k:=(c,is)) iF Y8 Zk Z Z ⟨_,.t1⟩)<|z6<|aj 8 Z (Co Z Z)<|aY 9 Z<|ax.mapEntryS (k:=(c,is)) iF Y8 Zk Z Z (fun _=>.t1)<|fun s30=>z6<|aj 10 Z (iJ Z Z)<|aY 11 Z<|ax.entryStoreS Z Z Z .t1<|z6<|bV ?_
     exact ⟨(),(by repeat (first|with_reducible exact y6 _ _|refine yh rfl ?_)),trivial,⟨_,(.refl _),by rw[ks,hes1];rfl⟩,trivial⟩
    ·refine ax.mapEntryS (k:=(c,is)) iF Y8 Zk Z Z (fun _=>.t1)<|fun s30=>z6<|aj 10 Z (iJ Z Z)<|aY 7 Z<|za (Gv.lookup1SE (k:=(c,is)) iF Y8 Zk Z Z ⟨_,.t1⟩)<|z6<|aj 8 Z (Co Z Z)<|aY 11 Z<|ax.entryStoreS Z Z Z .t1<|z6<|bV ?_
     exact ⟨(),(by repeat (first|with_reducible exact y6 _ _|refine yh rfl ?_)),trivial,⟨_,(.refl _),by rw[ks,hes1];rfl⟩,trivial⟩
   ·rintro u _
    refine zy (yd (t:=6) Z .t1)<|ah<|ai Z<|aD Z<|ai Z<|z8 Z Z Z<|aR Z<|z8 Z Z Z<|az Z<|z8 Z Z Z<|za (zn Zx Z sizeOf254 (by decide) Z Z)<|z8 Z Z Z<|za (zq (c:=cT _) isAgg254 Z ⟨_,.head⟩ Z)<|z8 Z Z Z<|aa Z<|z8 Z Z Z<|ai Z<|z8 Z Z Z<|za (y4 (cps:=[(0,[_]),(1,[_])]) (rs:=[_,_]) As Z Z Z)<|z8 Z Z Z<|za (Gv.lookup1ST (k:=(c,is)) iF Y8 Zk Z Z ⟨_,.t1⟩)<|z8 Z Z Z<|za (yx Z Z)<|au Z Z Z<|z6<|zu Z (fun c44=>?_) (fun c44=>?_)
    ·have hk:q.seen.contains (c,is)=true:=hval.2.2.2 (by have:=qz c44;rw[hg1] at this;omega)
     rw[if_pos hk]
     refine zh<|yp ?_
     exact ⟨(jo,es1),rfl,⟨_,.refl _,rfl⟩,(hold hk).1,by have:=(hold hk).2;dsimp only;omega⟩
    ·have hk:q.seen.contains (c,is)=false:=by
      cases e:q.seen.contains (c,is) with
      |false=>rfl
      |true=>
       have h1:=hval.2.2.1 e
       have:=of_decide_eq_false c44
       rw[hg1] at this;omega
     rw[if_neg (show ¬q.seen.contains (c,is)=true by rw[hk];decide)]
     obtain ⟨hA1,hc1⟩:=hnew hk
     have hl1:(q.seen++[(c,is)]).length=q.seen.length+1:=by simp
     dsimp only
     have two:∀a b m,gO f es1 (eW ⟨q.seen++[(c,is)],q.out⟩ a b m)∧ff es1+2*q.seen.length≤ff es+2*(eW ⟨q.seen++[(c,is)],q.out⟩ a b m).seen.length+1:=fun a b m=>by
      have h:=hA1.tell hol a b m
      exact ⟨h.1,by rw[h.2,hc1,hl1];omega⟩
     have one:gO f es1 ⟨q.seen++[(c,is)],q.out⟩∧ff es1+2*q.seen.length≤ff es+2*(ky.mk (q.seen++[(c,is)]) q.out).seen.length+1:=⟨hA1,by dsimp only;rw[hc1,hl1];omega⟩
     refine zg<|zj<|ah<|aq wy Z jv Z Z<|ay jy Z<|ak Z Z<|ab Z<|z6<|zw Z (fun c10=>?_) (fun c10=>?_)
     ·have c10:x.op=10:=c10
      obtain ⟨⟨h1,h2⟩,h3⟩:=a0 c10 (by decide)
      rw[if_pos c10]
      refine aV<|aR Z<|aq wy Z j5 Z Z<|aH j9 Z<|za (bx 0 wx wz Z Z Z (b7 h3))<|ay j6 Z<|ai Z<|aD Z<|zr Z (zm (.l (.l (.l (.rest _))))) (ih ⟨q.seen++[(c,is)],q.out⟩ es1 jo (bB x) (!is) h1 h2 hA1 (by dsimp only;rw[hc1,hl1];omega)) ?_
      rintro r56 O56 ⟨⟨j1,e1⟩,rfl,rfl,hB1,hB2⟩
      refine z6<|yp ?_
      exact ⟨(j1,e1),rfl,⟨_,.refl _,rfl⟩,hB1,by dsimp only at hB2 ⊢;rw[hc1,hl1] at hB2;omega⟩
     ·rw[if_neg (show ¬x.op=10 from c10)]
      refine ah<|aq wy Z jv Z Z<|ay jy Z<|ak Z Z<|ab Z<|z6<|zw Z (fun c1=>?_) (fun c1=>?_)
      ·have c1:x.op=1:=c1
       obtain ⟨⟨h1,h2⟩,h3⟩:=a0 c1 (by decide)
       rw[if_pos c1]
       refine aV<|aR Z<|aq wy Z j5 Z Z<|aH j9 Z<|za (bx 0 wx wz Z Z Z (b7 h3))<|ay j6 Z<|ai Z<|zr Z (zm (.l (.l (.l (.rest _))))) (ih ⟨q.seen++[(c,is)],q.out⟩ es1 jo (bB x) is h1 h2 hA1 (by dsimp only;rw[hc1,hl1];omega)) ?_
       rintro r67 O67 ⟨⟨j1,e1⟩,rfl,rfl,hB1,hB2⟩
       refine z6<|yp ?_
       exact ⟨(j1,e1),rfl,⟨_,.refl _,rfl⟩,hB1,by dsimp only at hB2 ⊢;rw[hc1,hl1] at hB2;omega⟩
      ·rw[if_neg (show ¬x.op=1 from c1)]
       refine ah<|aq wy Z jv Z Z<|ay jy Z<|ak Z Z<|ai Z<|zp (s:=72) Z (fun s11=>?_) (fun s11=>?_)
       ·have c11:x.op=11:=qz s11
        obtain ⟨⟨h1,h2⟩,h3⟩:=a0 c11 (by decide)
        obtain ⟨⟨g1,g2⟩,g3⟩:=a1 c11 (by decide)
        rw[if_pos c11]
        refine z8 Z Z s11<|ai Z<|ar Z s11 Z<|ab Z<|z6<|zu Z (fun ci=>?_) (fun ci=>?_)
        ·have ci:is=true:=ci
         rw[if_pos ci]
         refine ah<|aR Z<|aq wy Z j5 Z Z<|aH j9 Z<|za (bx 0 wx wz Z Z Z (b7 h3))<|ay j6 Z<|zr Z (zm (.l (.l (.l (.rest _))))) (ih ⟨q.seen++[(c,is)],q.out⟩ es1 jo (bB x) true h1 h2 hA1 (by dsimp only;rw[hc1,hl1];omega)) ?_
         rintro r80 O80 ⟨⟨j1,e1⟩,rfl,rfl,hB1,hB2⟩
         refine z6 ?_
         dsimp only at hB2
         rw[hc1,hl1] at hB2
         refine aV<|aR Z<|aq wy Z j5 Z Z<|aH j9 Z<|za (bx 1 wx wz Z Z Z (cO g3))<|ay j6 Z<|zr Z (zm (.l (.l (.l (.rest _))))) (ih _ e1 j1 (cK x) true g1 g2 hB1 (by omega)) ?_
         rintro r86 O86 ⟨⟨j2,e2⟩,rfl,rfl,hD1,hD2⟩
         refine z6<|yp ?_
         exact ⟨(j2,e2),rfl,⟨_,.refl _,rfl⟩,hD1,by dsimp only at hD2 ⊢;omega⟩
        ·rw[if_neg (show ¬is=true by rw[show is=false from ci];decide)]
         refine ah<|aq wy Z jv Z Z<|ay jy Z<|ak Z Z<|ai Z<|zp (s:=91) Z (fun d8=>?_) (fun d8=>?_)
         ·exfalso;rw[c11] at d8;exact absurd d8 (by decide)
         ·refine z7 Z Z d8<|au Z d8 Z<|ab Z<|z6<|ye Z Z<|ah<|aq wy Z jv Z Z<|ay jy Z<|ak Z Z<|ab Z<|z6<|ye Z (qw (by rw[c11];decide))<|ah<|aq wy Z jv Z Z<|ay jy Z<|ak Z Z<|ai Z<|zp (s:=122) Z (fun d9=>?_) (fun d9=>?_)
          ·exfalso;rw[c11] at d9;exact absurd d9 (by decide)
          ·refine z7 Z Z d9<|au Z d9 Z<|ab Z<|z6<|ye Z Z<|ah<|aq wy Z jv Z Z<|ay jy Z<|ak Z Z<|ab Z<|z6<|ye Z (qw (by rw[c11];decide))<|ah<|aq wy Z jv Z Z<|ay jy Z<|ak Z Z<|ai Z<|zp (s:=153) Z (fun d7=>?_) (fun d7=>?_)
           ·exfalso;rw[c11] at d7;exact absurd d7 (by decide)
           ·refine z7 Z Z d7<|au Z d7 Z<|ab Z<|z6<|ye Z Z<|zg<|yp ?_
            exact ⟨(jo,es1),rfl,⟨_,.refl _,rfl⟩,one⟩
       ·have c11:¬x.op=11:=of_decide_eq_false s11
        rw[if_neg c11]
        refine z7 Z Z s11<|au Z s11 Z<|ab Z<|z6<|ye Z Z<|ah<|aq wy Z jv Z Z<|ay jy Z<|ak Z Z<|ai Z<|zp (s:=91) Z (fun s8=>?_) (fun s8=>?_)
        ·have c8:x.op=8:=qz s8
         obtain ⟨_,h3⟩:=a0 c8 (by decide)
         obtain ⟨_,g3⟩:=a1 c8 (by decide)
         rw[if_pos c8]
         refine z8 Z Z s8<|ai Z<|ar Z s8 Z<|ab Z<|z6<|zu Z (fun ci=>?_) (fun ci=>?_)
         ·rw[if_pos (show is=true from ci)]
          refine zt (fun j=>false) (by kernel_rfl) Z (zm (.rest _))<|aj 0 Z (eF Z)<|aj 1 Z (bK wy Z j5 Z Z)<|aj 2 Z (eH j9 Z)<|aj 3 Z (bx 0 wx wz Z Z Z (b7 h3))<|aj 4 Z (da j6 Z)<|aj 5 Z (bK wy Z j5 Z Z)<|aj 6 Z (eH j9 Z)<|aj 7 Z (bx 1 wx wz Z Z Z (cO g3))<|aj 8 Z (da j6 Z)<|aY 9 Z<|zr Z (zm (.l (.l (.l (.rest _))))) (tell es1 (c,is) (bB x) (cK x) 0) ?_
          rintro r103 O103 ⟨j1,rfl,rfl,_⟩
          refine z6<|bV<|yp ?_
          exact ⟨(j1,es1),rfl,⟨_,.refl _,rfl⟩,two _ _ _⟩
         ·rw[if_neg (show ¬is=true by rw[show is=false from ci];decide)]
          refine ah<|aq wy Z jv Z Z<|ay jy Z<|ak Z Z<|ab Z<|z6<|yl Z (qv c8)<|zt (fun j=>false) (by kernel_rfl) Z (zm (.rest _))<|aj 0 Z (eF Z)<|aj 1 Z (bK wy Z j5 Z Z)<|aj 2 Z (eH j9 Z)<|aj 3 Z (bx 1 wx wz Z Z Z (cO g3))<|aj 4 Z (da j6 Z)<|aj 5 Z (bK wy Z j5 Z Z)<|aj 6 Z (eH j9 Z)<|aj 7 Z (bx 0 wx wz Z Z Z (b7 h3))<|aj 8 Z (da j6 Z)<|aY 9 Z<|zr Z (zm (.l (.l (.l (.rest _))))) (tell es1 (c,is) (cK x) (bB x) 1) ?_
          rintro r117 O117 ⟨j1,rfl,rfl,_⟩
          refine z6<|bV<|yp ?_
          exact ⟨(j1,es1),rfl,⟨_,.refl _,rfl⟩,two _ _ _⟩
        ·have c8:¬x.op=8:=of_decide_eq_false s8
         rw[if_neg c8]
         refine z7 Z Z s8<|au Z s8 Z<|ab Z<|z6<|ye Z Z<|ah<|aq wy Z jv Z Z<|ay jy Z<|ak Z Z<|ab Z<|z6<|ye Z (qw c8)<|ah<|aq wy Z jv Z Z<|ay jy Z<|ak Z Z<|ai Z<|zp (s:=122) Z (fun s9=>?_) (fun s9=>?_)
         ·have c9:x.op=9:=qz s9
          obtain ⟨_,h3⟩:=a0 c9 (by decide)
          obtain ⟨_,g3⟩:=a1 c9 (by decide)
          rw[if_pos c9]
          refine z8 Z Z s9<|ai Z<|ar Z s9 Z<|ab Z<|z6<|zu Z (fun ci=>?_) (fun ci=>?_)
          ·rw[if_pos (show is=true from ci)]
           refine zt (fun j=>false) (by kernel_rfl) Z (zm (.rest _))<|aj 0 Z (eF Z)<|aj 1 Z (bK wy Z j5 Z Z)<|aj 2 Z (eH j9 Z)<|aj 3 Z (bx 0 wx wz Z Z Z (b7 h3))<|aj 4 Z (da j6 Z)<|aj 5 Z (bK wy Z j5 Z Z)<|aj 6 Z (eH j9 Z)<|aj 7 Z (bx 1 wx wz Z Z Z (cO g3))<|aj 8 Z (da j6 Z)<|aY 9 Z<|zr Z (zm (.l (.l (.l (.rest _))))) (tell es1 (c,is) (bB x) (cK x) 1) ?_
           rintro r134 O134 ⟨j1,rfl,rfl,_⟩
           refine z6<|bV<|yp ?_
           exact ⟨(j1,es1),rfl,⟨_,.refl _,rfl⟩,two _ _ _⟩
          ·rw[if_neg (show ¬is=true by rw[show is=false from ci];decide)]
           refine ah<|aq wy Z jv Z Z<|ay jy Z<|ak Z Z<|ab Z<|z6<|yl Z (qv c9)<|zt (fun j=>false) (by kernel_rfl) Z (zm (.rest _))<|aj 0 Z (eF Z)<|aj 1 Z (bK wy Z j5 Z Z)<|aj 2 Z (eH j9 Z)<|aj 3 Z (bx 1 wx wz Z Z Z (cO g3))<|aj 4 Z (da j6 Z)<|aj 5 Z (bK wy Z j5 Z Z)<|aj 6 Z (eH j9 Z)<|aj 7 Z (bx 0 wx wz Z Z Z (b7 h3))<|aj 8 Z (da j6 Z)<|aY 9 Z<|zr Z (zm (.l (.l (.l (.rest _))))) (tell es1 (c,is) (cK x) (bB x) 0) ?_
           rintro r148 O148 ⟨j1,rfl,rfl,_⟩
           refine z6<|bV<|yp ?_
           exact ⟨(j1,es1),rfl,⟨_,.refl _,rfl⟩,two _ _ _⟩
         ·have c9:¬x.op=9:=of_decide_eq_false s9
          rw[if_neg c9]
          refine z7 Z Z s9<|au Z s9 Z<|ab Z<|z6<|ye Z Z<|ah<|aq wy Z jv Z Z<|ay jy Z<|ak Z Z<|ab Z<|z6<|ye Z (qw c9)<|ah<|aq wy Z jv Z Z<|ay jy Z<|ak Z Z<|ai Z<|zp (s:=153) Z (fun s7=>?_) (fun s7=>?_)
          ·have c7:x.op=7:=qz s7
           obtain ⟨_,h3⟩:=a0 c7 (by decide)
           obtain ⟨_,g3⟩:=a1 c7 (by decide)
           rw[if_pos c7]
           refine z8 Z Z s7<|ai Z<|ar Z s7 Z<|ab Z<|z6<|zu Z (fun ci=>?_) (fun ci=>?_)
           ·rw[if_pos (show is=true from ci)]
            refine zt (fun j=>false) (by kernel_rfl) Z (zm (.rest _))<|aj 0 Z (eF Z)<|aj 1 Z (bK wy Z j5 Z Z)<|aj 2 Z (eH j9 Z)<|aj 3 Z (bx 0 wx wz Z Z Z (b7 h3))<|aj 4 Z (da j6 Z)<|aj 5 Z (bK wy Z j5 Z Z)<|aj 6 Z (eH j9 Z)<|aj 7 Z (bx 1 wx wz Z Z Z (cO g3))<|aj 8 Z (da j6 Z)<|aY 9 Z<|zr Z (zm (.l (.l (.l (.rest _))))) (tell es1 (c,is) (bB x) (cK x) 2) ?_
            rintro r165 O165 ⟨j1,rfl,rfl,_⟩
            refine z6<|bV<|yp ?_
            exact ⟨(j1,es1),rfl,⟨_,.refl _,rfl⟩,two _ _ _⟩
           ·rw[if_neg (show ¬is=true by rw[show is=false from ci];decide)]
            refine zg<|yp ?_
            exact ⟨(jo,es1),rfl,⟨_,.refl _,rfl⟩,one⟩
          ·have c7:¬x.op=7:=of_decide_eq_false s7
           rw[if_neg c7]
           refine z7 Z Z s7<|au Z s7 Z<|ab Z<|z6<|ye Z Z<|zg<|yp ?_
           exact ⟨(jo,es1),rfl,⟨_,.refl _,rfl⟩,one⟩
theorem vU (f:ad) (hR:b8 f) (hv:f.vars.length≤1000) (iq bs:Nat):∀n,Au E f iq bs n
 |0=>fun _ _ _ _ _ _ h=>by omega
 |n+1=>Aw f hR hv iq bs n (vU f hR hv iq bs n)
end Go.Proofs.YtdilpodccjlkgaaGreatDoor
namespace Go.Proofs.YtdilpodccjlkgaaGreatDoor
open Go.Proofs.Tryz
open Go.Proofs Go.Lib Go.Shelf Go.RowKit
theorem Eo:de prog 256 #[(0,3),(3,1),(4,1),(5,1)] [.raw (.slice none 0 0),.raw (.slice none 0 0),.raw (.slice none 0 0),.raw (.slice none 0 0),.raw (.map none),.raw (.slice none 0 0)]:=⟨_,_,Zx,zeroValue256,fun w=>by kernel_rfl,rfl⟩
variable {E:World}
set_option maxRecDepth 20000
theorem uV (l:List xe):∀x∈l.map gP,x.length=3:=fun x hx=>by obtain ⟨o,_,rfl⟩:=List.mem_map.1 hx;rfl
theorem tw (f:ad) (hR:b8 f) (hv:f.vars.length≤1000) (c:Int) (is:Bool) (hc:aT f c=true) :
  aI prog E 151 [.agg (bD f),.fro 2 ((bP f).map eP.row),.int .i64 c,.bool is] (.fro 3 ((jQ f c is).map gP)):=by
 have hA:=fun iq bs jo=>vU (E:=E) f hR hv iq bs 100000 ⟨[],[]⟩ [] jo c is hc (hR.rk_low c) (gO.emp f) (by decide)
 unfold rz at hA
 refine zo func151 Z (by decide) Z<|ah<|ya (cs:=_) Z Z Z<|za (iR Z)<|z6<|ah<|ac jj jh Z Z<|bb Z<|ax.makeMapT (c:=ry)<|fun b12=>za (y4 (cps:=[(0,[_,_,_]),(1,[_]),(2,[_])]) (rs:=[_,_,_,_,_,.raw (.slice none 0 0)]) Eo Z Z Z)<|yi (cs:=_) Z Z Z Z<|fun i14=>za (gk Z)<|z6<|ga (off:=5) (k:=3) (T:=183) (fun _=>.head) Z<|fun jo=>zy (zb (zc .t2))<|zy (zb (zc .t2))<|ah<|aR Z<|aa Z<|ai Z<|zr Z (zm (.l (.l (.l (.rest _))))) (hA i14 b12 jo) ?_
 rintro r18 O18 ⟨⟨j1,e1⟩,rfl,rfl,hB1,hB2⟩
 refine z6<|zy (aX.knowC (off:=5) (rows:=(jQ f c is).map gP) .t2 .head Z (by exact uV _) (by decide) (by rw[qp];rfl))<|ah<|aR Z<|az Z<|za (zn Zx Z sizeOf181 (by decide) Z Z)<|za (zq (c:=.fro _ _) isAgg181 Z ⟨_,.head⟩ Z)<|za (oP Z)<|z6<|zh<|zk (x:=.fro _ _) Z ?_
 rfl
theorem tx (f:ad) (hf:small f) (hL:bn E) (hR:b8 f) (ht:bc f=true) (hs:cQ f=true) (c:Int) (is:Bool) (hc:aT f c=true) (hk:bj f c=1) :
  aI prog E 109 [.agg (bD f),.int .i64 c,.bool is] (.fro 3 ((jQ f c is).map gP)):=by
 have h1:=jN (E:=E) f hf hL
 rw[if_pos (by rw[ht,hs];rfl)] at h1
 have h2:=jM (E:=E) f hf hL ht
 have h3:=tw (E:=E) f hR hf.1 c is hc
 obtain ⟨vr,hx,hv2,hkt⟩:=jE hc
 have hc2:0≤c∧c<f.vars.length:=by simpa [aT] using hc
 rw[hk] at hkt
 unfold bD at *
 refine zo func109 Z (by decide) Z<|ah<|ya (cs:=_) Z Z Z<|za (iR Z)<|z6<|zd<|zd<|yg (γ:=Bool) [1,2,3] (fun u=>[(29,.bool u)]) (fun u=>[]) (fun u=>u=false) ?_ (fun _ _ h=>h) ?_
 ·refine aV<|ac jj jh Z Z<|zf (h1) Z<|aL Z Z<|ai Z<|zp (s:=10) Z (fun c1=>?_) (fun c1=>?_)
  ·refine z7 Z Z c1<|z7 Z Z c1<|ar Z c1 Z<|ai Z<|z7 Z Z Z<|z7 Z Z Z<|z7 Z Z Z<|z7 Z Z Z<|z7 Z Z Z<|ar Z Z Z<|ai Z<|z7 Z Z Z<|z7 Z Z Z<|z7 Z Z Z<|z7 Z Z Z<|z7 Z Z Z<|z7 Z Z Z<|z7 Z Z Z<|ar Z Z Z<|z6 ?_
   exact ⟨_,(by repeat (first|with_reducible exact y6 _ _|refine yh rfl ?_)),aJ,aE,by clear h1 h2 h3 hv2;simp_all<;>omega⟩
  ·refine z8 Z Z c1<|aa Z<|z8 Z Z c1<|aw Z Z<|au Z c1 Z<|ai Z<|zp (s:=14) Z (fun c2=>?_) (fun c2=>?_)
   ·refine z7 Z Z c2<|z7 Z Z c2<|z7 Z Z c2<|z7 Z Z c2<|z7 Z Z c2<|ar Z c2 Z<|ai Z<|z7 Z Z Z<|z7 Z Z Z<|z7 Z Z Z<|z7 Z Z Z<|z7 Z Z Z<|z7 Z Z Z<|z7 Z Z Z<|ar Z Z Z<|z6 ?_
    exact ⟨_,(by repeat (first|with_reducible exact y6 _ _|refine yh rfl ?_)),aJ,aE,by clear h1 h2 h3 hv2;simp_all<;>omega⟩
   ·refine z8 Z Z c2<|aa Z<|z8 Z Z c2<|aq je Z Y5 Z Z<|z8 Z Z c2<|aH Yg Z<|z8 Z Z c2<|ap Z6 Z<|z8 Z Z c2<|za (q3 Z Z)<|au Z c2 Z<|ai Z<|zp (s:=21) Z (fun c3=>?_) (fun c3=>?_)
    ·refine z7 Z Z c3<|z7 Z Z c3<|z7 Z Z c3<|z7 Z Z c3<|z7 Z Z c3<|z7 Z Z c3<|z7 Z Z c3<|ar Z c3 Z<|z6 ?_
     exact ⟨_,(by repeat (first|with_reducible exact y6 _ _|refine yh rfl ?_)),aJ,aE,by clear h1 h2 h3 hv2;simp_all<;>omega⟩
    ·refine z8 Z Z c3<|aq je Z Y5 Z Z<|z8 Z Z c3<|aH Yg Z<|z8 Z Z c3<|aa Z<|z8 Z Z c3<|za (bx c.toNat Z6 Y2 Z Z hv2 hx)<|z8 Z Z c3<|aq Zf Z Yq Z Z<|z8 Z Z c3<|ay isAgg59 Z<|z8 Z Z c3<|aL Z Z<|au Z c3 Z<|z6 ?_
     exact ⟨_,(by repeat (first|with_reducible exact y6 _ _|refine yh rfl ?_)),aJ,aE,by clear h1 h2 h3 hv2;simp_all<;>omega⟩
 ·rintro u hu
  subst hu
  refine ye Z Z<|zg<|zd<|zt (fun j=>false) (by kernel_rfl) Z (zm (.rest _))<|aj 0 Z (yt jj jh Z Z)<|aj 1 Z (yt jj jh Z Z)<|aj 3 Z (dF Z)<|aj 4 Z (m4 Z)<|aY 2 Z<|zf (h2) Z<|z6<|aY 5 Z<|zf (h3) Z<|z6<|aj 6 Z (oP Z)<|bV<|zh<|zk (x:=.fro _ _) Z ?_
  rfl
theorem Ax (K:KS) (r:xe):(gz K r).p=K.p:=by
 unfold gz;repeat' split
 ·exact bZ ..
 ·exact bZ ..
 ·exact kq ..
 ·rfl
theorem rA:∀(l:List xe) (K:KS),(l.foldl gz K).p=K.p
 |[],_=>rfl
 |r::l,K=>by rw[List.foldl_cons,rA l,Ax]
theorem Dr {f:ad} {i:Int} (h:¬(ba (ae f) f.blocks.length i).length=1):De f i=[]:=by
 unfold De
 split
 ·rename_i p e;rw[e] at h;exact absurd rfl h
 ·rfl
def rB (f:ad):AV:=kx eI (b5 f f.blocks.length)
set_option maxHeartbeats 4000000 in
theorem xt {f:ad} {K:KS} {t a9 a10:AV} {iw js jl jm jp:Nat} {M:List Int} (hf:small f) (hL:bn E) (hR:b8 f) (ht:bc f=true) (hs:cQ f=true) (hK:KB f K) {i:Nat} (hi:i<f.blocks.length) :
  aU prog E 69 [.po iw 0,.int .i64 i] (gR f t (rB f) a9 a10 iw js jl jm jp K M) (fun y O=>∃g:Nat,y=.tup []∧O=gR f t (rB f) a9 a10 iw js g jm jp (mB f K i) M∧True):=by
 refine yz (γ:=Nat) (x:=fun g=>.tup []) (M:=fun g=>gR f t (rB f) a9 a10 iw js g jm jp (mB f K i) M) (p:=fun _=>True) ?_
 have add:=fun jl K hK a b (ha:aO f a) (hb:aO f b) c=>gd (E:=E) (js:=js) (jm:=jm) (M:=M) jl K hK ha hb c
 have same:=fun jl jp np K hK a b (ha:aO f a) (hb:aO f b)=>k5 (E:=E) (t:=t) (pr:=rB f) (a9:=a9) (a10:=a10) (iw:=iw) (js:=js) (jm:=jm) (M:=M) jl jp np K hK ha hb
 have hget:((b5 f f.blocks.length).map fun r=>[AV.fro 1 (r.map eI.row)])[i]?=some [.fro 1 ((ba (ae f) f.blocks.length i).map cE)]:=by rw[qq,iB f hi];rfl
 unfold gR at *
 unfold mB
 refine zo func69 Z (by decide) Z<|zd<|ah<|aR Z<|az Z<|za (zn j7 Z Yv (by decide) Z Z)<|za (zq (c:=.fro _ _) isAgg70 Z ⟨_,.head⟩ Z)<|aa Z<|za (Gv.idxF (j:=i) jf j5 Z Z Z hget)<|aH j9 Z<|ap wx Z<|aL Z Z<|z6<|zu Z (fun c0=>?_) (fun c0=>?_)
 ·have hn:=Dr (f:=f) (i:=i) (by intro e;rw[e] at c0;cases c0)
  rw[hn]
  refine zh<|yp ?_
  exact ⟨jl,rfl,⟨_,.refl _,rfl⟩,trivial⟩
 ·obtain ⟨p,hp⟩:∃p,ba (ae f) f.blocks.length i=[p]:=List.length_eq_one_iff.1 (by have h:=c0;simp at h;omega)
  obtain ⟨hp1,_⟩:=hR.pred hp
  have hpr:0≤p∧p<f.blocks.length:=Classical.byContradiction fun hn=>by rw[kQ hn] at hp1;cases hp1
  obtain ⟨q,rfl⟩:∃q:Nat,p=(q:Int):=⟨p.toNat,by omega⟩
  have hq:=qi (show q<f.blocks.length by omega)
  obtain ⟨B,hB⟩:∃B,f.blocks[q]=B:=⟨_,rfl⟩
  rw[hB] at hq
  have hbq:=gB hq
  have hat:De f i=if B.term.kind=1∧B.term.to0≠B.term.to1 then jQ f B.term.var (decide (B.term.to0=i)) else[]:=by unfold De;rw[hp];dsimp only;rw[hbq]
  rw[hp] at hget
  refine zg<|zd<|zt (fun j=>false) (by kernel_rfl) Z (zm (.r (.rest _)))<|aj 0 Z (eF Z)<|aj 1 Z (yb Z)<|aj 2 Z (zn j7 Z jh (by decide) Z Z)<|aj 3 Z (zn je Z Z0 (by decide) Z Z)<|aj 4 Z (zq (c:=.fro _ _) Zb Z ⟨_,.head⟩ Z)<|aj 5 Z (eF Z)<|aj 6 Z (yb Z)<|aj 7 Z (zn j7 Z Yv (by decide) Z Z)<|aj 8 Z (zq (c:=.fro _ _) isAgg70 Z ⟨_,.head⟩ Z)<|aj 9 Z (dF Z)<|aj 10 Z (Gv.idxF (j:=i) jf j5 Z Z Z hget)<|aj 11 Z (eH j9 Z)<|aj 12 Z (bx 0 wx wz Z Z Z Z)<|aj 13 Z (da j6 Z)<|aj 14 Z (bx q ji ju Z Z Z hq)<|aj 15 Z (bK jg Z Zm Z Z)<|aj 16 Z (yt isAgg49 Zm Z Z)<|aY 17 Z<|y5 (cs:=[.int .i64 0,.int .i64 0,.int .i64 0,.int .i64 0]) zeroValue49 Z Z<|fun i4=>z6<|aY 18 Z<|zz Zm Z Z Z Z Z Z .head Z<|z6<|bV<|zy (yd (t:=4) Z .t1)<|zd<|zd<|yg (γ:=Bool) [0,1,4] (fun u=>[(44,.bool u)]) (fun u=>[(iw,.cells 75 (kF f t (rB f) js jp K.p.length a9 a10)),(js,.cells 136 [.int .i64 ((f.vars.length+1:Nat):Int),.own jl K.l.length,.own jm M.length]),(jl,.grow 3 180 (K.l.map bM).flatten),(jm,.grow 1 3 (cI M)),(jp,.grow 2 187 (K.p.map bO).flatten)]) (fun u=>u=decide (¬(B.term.kind=1∧B.term.to0≠B.term.to1))) ?_ (fun _ _ h=>h) ?_
  ·refine aV<|aq j8 Z Zv Z Z<|ay Y3 Z<|aL Z Z<|ai Z<|zp (s:=36) Z (fun c4=>?_) (fun c4=>?_)
   ·refine z7 Z Z c4<|z7 Z Z c4<|z7 Z Z c4<|z7 Z Z c4<|z7 Z Z c4<|z7 Z Z c4<|z7 Z Z c4<|ar Z c4 Z<|z6 ?_
    exact ⟨_,(by repeat (first|with_reducible exact y6 _ _|refine yh rfl ?_)),aJ,aE,by simp_all⟩
   ·refine z8 Z Z c4<|aq j8 Z Z7 Z Z<|z8 Z Z c4<|za (yw (j:=0) jw wz Z Z Z (by decide) Z)<|z8 Z Z c4<|ay j6 Z<|z8 Z Z c4<|aq j8 Z Z7 Z Z<|z8 Z Z c4<|za (yw (j:=1) jw wz Z Z Z (by decide) Z)<|z8 Z Z c4<|ay j6 Z<|z8 Z Z c4<|ak Z Z<|au Z c4 Z<|z6 ?_
    exact ⟨_,(by repeat (first|with_reducible exact y6 _ _|refine yh rfl ?_)),aJ,aE,by simp_all⟩
  ·rintro u hu
   refine zu Z (fun cu=>?_) (fun cu=>?_)
   ·rw[hat,if_neg (qz (hu▸cu))]
    refine zh<|yp ?_
    exact ⟨jl,rfl,⟨_,.refl _,rfl⟩,trivial⟩
   ·have hc:B.term.kind=1∧B.term.to0≠B.term.to1:=by rw[hu] at cu;simpa using cu
    rw[hat,if_pos hc]
    have hbm:=qs hq
    have hbT:=hR.hT B hbm
    have hvk:aT f B.term.var=true∧bj f B.term.var=1:=by
     have h1:=(hR.run.term _ hbm)
     unfold bv at h1
     rw[if_neg (by omega),if_pos hc.1] at h1
     unfold gt at hbT
     simp only[qx] at h1 hbT
     have h2:=hbT.2
     unfold dH at h2
     rw[if_neg (by omega),if_pos hc.1] at h2
     simp only[qx] at h2
     exact ⟨h1.1.1,by simpa using h2.1.1⟩
    have hN:∀r∈jQ f B.term.var (decide (B.term.to0=(i:Int))),s6 f r:=pX hR _ _ _ _ fun r hr=>(by cases hr)
    obtain ⟨R,hRe⟩:∃R,jQ f B.term.var (decide (B.term.to0=(i:Int)))=R:=⟨_,rfl⟩
    have hKn:=tx (E:=E) f hf hL hR ht hs B.term.var (decide (B.term.to0=(i:Int))) hvk.1 hvk.2
    have hRl:=xr hR (decide (B.term.to0=(i:Int))) hvk.1
    have hvl:=hf.1
    rw[hRe] at hN hKn hRl ⊢
    unfold bD at hKn
    refine zg<|zd<|zt (fun j=>false) (by kernel_rfl) Z (zm (.r (.rest _)))<|aj 0 Z (eF Z)<|aj 1 Z (yb Z)<|aj 2 Z (zn j7 Z jh (by decide) Z Z)<|aj 3 Z (Gv.loadAC (l:=[_,_,_]) jj jh Z ⟨_,.head⟩ Z Z)<|aj 4 Z (bK j8 Z wz Z Z)<|aj 5 Z (da j6 Z)<|aj 6 Z (bK j8 Z Z7 Z Z)<|aj 7 Z (yw (j:=0) jw wz Z Z Z (by decide) Z)<|aj 8 Z (da j6 Z)<|aj 9 Z (dF Z)<|aj 10 Z (Gv.eqlI Z Z)<|aj 13 Z (dF Z)<|aY 11 Z<|zf (hKn) Z<|z6<|aj 12 Z (Gv.lenM underlying181 Z)<|bV<|zj<|y8 (γ:=Nat × Nat) [0,56,57] (fun g=>[(58,.int .i64 g.1)]) (fun g=>[(iw,.cells 75 (kF f t (rB f) js jp K.p.length a9 a10)),(js,.cells 136 [.int .i64 ((f.vars.length+1:Nat):Int),.own g.2 ((R.take g.1).foldl gz K).l.length,.own jm M.length]),(g.2,.grow 3 180 (((R.take g.1).foldl gz K).l.map bM).flatten),(jm,.grow 1 3 (cI M)),(jp,.grow 2 187 (K.p.map bO).flatten)]) (fun g=>g.1≤R.length) (fun g=>R.length - g.1) (0,jl) aJ aE (ql _) ?_
    rintro ⟨g,jq⟩ hg
    try dsimp only at *
    have hKB:KB f ((R.take g).foldl gz K):=KB.rels _ _ hK fun r hr=>hN r (List.mem_of_mem_take hr)
    have hKp:=rA (R.take g) K
    refine ah<|aw Z Z<|z6<|zd<|zw Z (fun cg=>?_) (fun cg=>?_)
    ·have hg2:g<R.length:=by simp at cg;omega
     obtain ⟨r,hr⟩:∃r,R[g]=r:=⟨_,rfl⟩
     have hgr:R[g]?=some r:=by rw[qi hg2,hr]
     have hrn:=hN r (qs hgr)
     have hstep:(R.take (g+1)).foldl gz K=gz ((R.take g).foldl gz K) r:=by rw[List.take_add_one,hgr,List.foldl_append];rfl
     obtain ⟨Q,hQ⟩:∃Q,(R.take g).foldl gz K=Q:=⟨_,rfl⟩
     rw[hQ] at hKB hKp hstep
     have hQr:=Ax Q r
     rw[hQ]
     refine zg<|zd<|zj<|ah<|za (bx g underlying181 sizeOf183 Z Z Z hgr)<|ac isAgg183 sizeOf183 Z Z<|y5 (cs:=[.int .i64 0,.int .i64 0,.int .i64 0]) zeroValue183 Z Z<|fun i6=>zz sizeOf183 Z Z Z Z Z Z .head Z<|ze (yd (t:=6) Z .head)<|z6<|ah<|aq Yf Z Zo Z Z<|ay Zz Z<|z6<|zj<|ah<|ak Z Z<|ab Z<|z6<|zw Z (fun r0=>?_) (fun r0=>?_)
     ·have hre:gz Q r=dQ Q r.a r.b (-1):=by unfold gz;rw[if_pos (show r.n=0 from r0)]
      refine zt (fun j=>false) (by kernel_rfl) Z (zm (.r (.rest _)))<|aj 0 Z (eF Z)<|aj 1 Z (yb Z)<|aj 2 Z (zn j7 Z Z2 (by decide) Z Z)<|aj 3 Z (zq (c:=.po _ _) Z9 Z ⟨_,.head⟩ Z)<|aj 4 Z (bK Yf Z wz Z Z)<|aj 5 Z (da j6 Z)<|aj 6 Z (bK Yf Z wz Z Z)<|aj 7 Z (da j6 Z)<|aY 8 Z<|zr Z (zm (.l (.l (.l (.r (.rest _)))))) (add jq Q hKB _ _ hrn.1.1 hrn.1.2 (-1)) ?_
      rintro r74 O74 ⟨⟨j1,u1⟩,rfl,rfl,_⟩
      refine z6<|bV<|zy (zb (zc .t4))<|zy (zb (zc .t4))<|zy (zb (zc .t4))<|zy (zb (zc .t4))<|zy (zb (zc .t4))<|aV<|aC Z Z<|aa Z<|z6 ?_
      exact ⟨(g+1,j1),dy,aJ,⟨_,(.refl _),by rw[hstep,hre]⟩,hg2,by dsimp only;omega⟩
     ·refine ah<|ak Z Z<|ab Z<|z6<|zw Z (fun r1=>?_) (fun r1=>?_)
      ·have hre:gz Q r=dQ Q r.a r.b 0:=by unfold gz;rw[if_neg (show ¬r.n=0 from r0),if_pos (show r.n=1 from r1)]
       refine zt (fun j=>false) (by kernel_rfl) Z (zm (.r (.rest _)))<|aj 0 Z (eF Z)<|aj 1 Z (yb Z)<|aj 2 Z (zn j7 Z Z2 (by decide) Z Z)<|aj 3 Z (zq (c:=.po _ _) Z9 Z ⟨_,.head⟩ Z)<|aj 4 Z (bK Yf Z wz Z Z)<|aj 5 Z (da j6 Z)<|aj 6 Z (bK Yf Z wz Z Z)<|aj 7 Z (da j6 Z)<|aY 8 Z<|zr Z (zm (.l (.l (.l (.r (.rest _)))))) (add jq Q hKB _ _ hrn.1.1 hrn.1.2 0) ?_
       rintro r85 O85 ⟨⟨j1,u1⟩,rfl,rfl,_⟩
       refine z6<|bV<|zy (zb (zc .t4))<|zy (zb (zc .t4))<|zy (zb (zc .t4))<|zy (zb (zc .t4))<|zy (zb (zc .t4))<|aV<|aC Z Z<|aa Z<|z6 ?_
       exact ⟨(g+1,j1),dy,aJ,⟨_,(.refl _),by rw[hstep,hre]⟩,hg2,by dsimp only;omega⟩
      ·refine ah<|ak Z Z<|ab Z<|z6<|zw Z (fun r2=>?_) (fun r2=>?_)
       ·have hre:gz Q r=hU Q r.a r.b:=by unfold gz;rw[if_neg (show ¬r.n=0 from r0),if_neg (show ¬r.n=1 from r1),if_pos (show r.n=2 from r2)]
        refine aV<|aR Z<|aq Yf Z wz Z Z<|ay j6 Z<|aq Yf Z wz Z Z<|ay j6 Z<|zr Z (zm (.l (.l (.l (.l (.r (.rest _))))))) (same jq jp K.p.length Q hKB _ _ hrn.1.1 hrn.1.2) ?_
        rintro r93 O93 ⟨j1,rfl,rfl,_⟩
        refine z6<|zy (zb (zc .t4))<|zy (zb (zc .t4))<|zy (zb (zc .t4))<|zy (zb (zc .t4))<|zy (zb (zc .t4))<|aV<|aC Z Z<|aa Z<|z6 ?_
        exact ⟨(g+1,j1),dy,aJ,⟨_,(.refl _),by rw[hstep,hre]⟩,hg2,by dsimp only;omega⟩
       ·exfalso
        have h0:¬r.n=0:=r0
        have h1:¬r.n=1:=r1
        have h2:¬r.n=2:=r2
        have:=hrn.2
        omega
    ·obtain rfl:g=R.length:=by simp at cg;omega
     rw[qn]
     refine y7<|yp ?_
     exact ⟨jq,rfl,⟨_,.refl _,by rw[rA]⟩,trivial⟩
end Go.Proofs.YtdilpodccjlkgaaGreatDoor
namespace Go.Proofs.YtdilpodccjlkgaaGreatDoor
open Go.Proofs.Tryz
def dK (f:ad) (K:KS) (v:Int):Int:=fF f K 100000 v
section
variable {f:ad} (hR:b8 f) {K:KS} {v:Int}
include hR
theorem gJ:dK f K v=fF f K (oR f v+1) v:=jU hR K _ _ v (hR.rk_low v) (Nat.lt_succ_self _)
theorem vV (hm:cS f v=none):dK f K v=0:=by rw[gJ hR];unfold fF;rw[hm]
variable {x:aB} (hm:cS f v=some x)
include hm
theorem E2 (h:x.op=8):dK f K v=gG (et f K (bB x) (cK x) (-1)) (et f K (cK x) (bB x) 0):=by rw[gJ hR];unfold fF;rw[hm];dsimp only;rw[if_pos h]
theorem E3 (h:x.op=9):dK f K v=gG (et f K (bB x) (cK x) 0) (et f K (cK x) (bB x) (-1)):=by rw[gJ hR];unfold fF;rw[hm];dsimp only;rw[if_neg (by omega),if_pos h]
theorem E4 (h:x.op=7):dK f K v=gG (et f K (bB x) (cK x) 0&&et f K (cK x) (bB x) 0) (et f K (bB x) (cK x) (-1)||et f K (cK x) (bB x) (-1)):=by rw[gJ hR];unfold fF;rw[hm];dsimp only;rw[if_neg (by omega),if_neg (by omega),if_pos h]
theorem rC (h:0<x.args.length):fF f K (oR f v) (bB x)=dK f K (bB x):=jU hR K _ _ _ (hR.rk0 hm h) (hR.rk_low _)
theorem B9 (h:1<x.args.length):fF f K (oR f v) (cK x)=dK f K (cK x):=jU hR K _ _ _ (hR.rk1 hm h) (hR.rk_low _)
theorem E5 (h:x.op=1) (hl:0<x.args.length):dK f K v=dK f K (bB x):=by
 rw[gJ hR];unfold fF;rw[hm];dsimp only
 rw[if_neg (by omega),if_neg (by omega),if_neg (by omega),if_pos h,rC hR hm hl]
theorem Ep (h:x.op=10) (hl:0<x.args.length):dK f K v=gG (decide (dK f K (bB x)=2)) (decide (dK f K (bB x)=1)):=by
 rw[gJ hR];unfold fF;rw[hm];dsimp only
 rw[if_neg (by omega),if_neg (by omega),if_neg (by omega),if_neg (by omega),if_pos h,rC hR hm hl]
theorem Eq (h:x.op=11) (hl:1<x.args.length):dK f K v=gG (decide (dK f K (bB x)=1)&&decide (dK f K (cK x)=1)) (decide (dK f K (bB x)=2)||decide (dK f K (cK x)=2)):=by
 rw[gJ hR];unfold fF;rw[hm];dsimp only
 rw[if_neg (by omega),if_neg (by omega),if_neg (by omega),if_neg (by omega),if_neg (by omega),if_pos h,rC hR hm (by omega),B9 hR hm hl]
theorem Ca (h:¬x.op=8∧¬x.op=9∧¬x.op=7∧¬x.op=1∧¬x.op=10∧¬x.op=11):dK f K v=0:=by
 rw[gJ hR];unfold fF;rw[hm];dsimp only
 rw[if_neg h.1,if_neg h.2.1,if_neg h.2.2.1,if_neg h.2.2.2.1,if_neg h.2.2.2.2.1,if_neg h.2.2.2.2.2]
end
def mI (es:List (Int × Int)):List (Int × AV):=es.map fun p=>(p.1,.int .i64 p.2)
def DK (k n:Int):List (Int × Int)→List (Int × Int)
 |[]=>[(k,n)]
 |(k',m)::es=>if k=k' then (k,n)::es else (k',m)::DK k n es
theorem vW (k n:Int):∀es,am k (.int .i64 n) (mI es)=mI (DK k n es)
 |[]=>rfl
 |(k',m)::es=>by
  have ih:=vW k n es
  unfold mI at ih ⊢
  rw[List.map_cons]
  unfold am DK
  by_cases h:k=k'
  ·rw[if_pos h,if_pos h];rfl
  ·rw[if_neg h,if_neg h,ih];rfl
def AW (f:ad) (K:KS) (es:List (Int × Int)):Prop:=∀v x,ag v (mI es)=some x→x=.int .i64 (dK f K v)
theorem AW.emp (f:ad) (K:KS):AW f K []:=fun v x h=>by cases h
theorem AW.put {f:ad} {K:KS} {es:List (Int × Int)} (h:AW f K es) (v:Int):AW f K (DK v (dK f K v) es):=fun u x hx=>by
 rw[←vW,CC] at hx
 split at hx
 ·rename_i e;subst e;cases hx;rfl
 ·exact h u x hx
end Go.Proofs.YtdilpodccjlkgaaGreatDoor
