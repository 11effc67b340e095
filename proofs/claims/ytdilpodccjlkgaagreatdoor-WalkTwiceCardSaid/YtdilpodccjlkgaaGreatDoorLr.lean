/- The document's makers; its single and plain. Of programs that are little. -/
import Derived.Test.YtdilpodccjlkgaaGreatDoorLq
import Derived.Test.YtdilpodccjlkgaaGreatDoorLn
import Derived.Test.YtdilpodccjlkgaaGreatDoorLo
import Derived.Test.YtdilpodccjlkgaaGreatDoorLm
set_option linter.unusedVariables false
set_option linter.unusedSimpArgs false
set_option linter.unusedSectionVars false
namespace Go.Proofs.YtdilpodccjlkgaaGreatDoor
open Go.Proofs.Tryz
open Go.Proofs Go.Lib Go.Shelf Go.RowKit
variable {E:World}
set_option maxRecDepth 20000
theorem dE (p q:Bool):aI prog E 118 [.bool p,.bool q] (.int .i64 (gG p q)):=by
 refine zo func118 Z (by decide) Z<|ah<|ao Z<|z6<|zd<|zj<|ah<|ai Z<|ab Z<|z6<|zu Z (fun c=>?_) (fun c=>?_)
 ·refine ah<|ao Z<|z6<|zh<|zk (x:=.int _ _) Z ?_
  unfold gG;rw[if_pos (show p=true from c)]
 ·refine ah<|ai Z<|ab Z<|z6<|zu Z (fun d=>?_) (fun d=>?_)
  ·refine ah<|ao Z<|z6<|zh<|zk (x:=.int _ _) Z ?_
   unfold gG;rw[if_neg (by rw[show p=false from c];decide),if_pos (show q=true from d)]
  ·refine zg<|ah<|ao Z<|z6<|zh<|zk (x:=.int _ _) Z ?_
   unfold gG;rw[if_neg (by rw[show p=false from c];decide),if_neg (by rw[show q=false from d];decide)]
def vX (E:World) (f:ad) (K:KS) (t pr:AV) (bk n:Nat):Prop:=∀(es:List (Int × Int)) (v:Int),aT f v=true→oR f v<n→AW f K es →
 aU prog E 73 [uG f K t pr,.int .i64 v,cT bk] [(0,hZ bk (mI es))] (fun y O=>∃g:List (Int × Int),y=.int .i64 (dK f K v)∧O=[(0,hZ bk (mI g))]∧AW f K g)
set_option maxHeartbeats 16000000 in
theorem Ay (f:ad) (hR:b8 f) (hv:f.vars.length≤1000) (K:KS) (hK:KB f K) (t pr:AV) (bk n:Nat) (ih:vX E f K t pr bk n):vX E f K t pr bk (n+1):=by
 intro es v hvv hrk hKn
 refine yz (γ:=List (Int × Int)) (x:=fun _=>.int .i64 (dK f K v)) (M:=fun g=>[(0,hZ bk (mI g))]) (p:=fun g=>AW f K g) ?_
 have flw:=fun a b c ha hb=>Eg (E:=E) hv hK (a:=a) (b:=b) ha hb c
 have hM:=tb (E:=E) (K:=K) (t:=t) (pr:=pr) hvv
 have hM2:=fun y=>tc (E:=E) (K:=K) (t:=t) (pr:=pr) hvv (y:=y)
 unfold vX at ih
 unfold uG tX at *
 unfold vo at *
 refine zo func73 Z (by decide) Z ?_
 rcases hg:ag v (mI es) with _|z
 ·refine ah<|ao Z<|z6<|zd<|ah<|za (yr (v:=cT _) Z)<|aa Z<|za (Gv.lookupA (zx:=.int .i64 0) hg underlying139 Zp Zk (fun _=>Z) Z Z ⟨_,.head⟩)<|za (iW Z)<|za (iJ Z Z)<|za (ij Z Z)<|ao Z<|ab Z<|z6<|ah<|ai Z<|z6<|ye Z Z ?_
  rcases hm:cS f v with _|x
  ·refine zg<|ah<|za (ep Z)<|aa Z<|zf (hM hm) Z<|za (iW Z)<|za (q4 (v:=.agg _) Z Z)<|za (ij Z Z)<|y5 (cs:=[.int .i64 0,.int .i64 0,.raw (.slice none 0 0),.int .i64 0]) Z5 Z Z<|fun i9=>zz jk Z Z Z Z Z Z .head Z<|ze (yd (t:=9) Z .head)<|ab Z<|z6<|ah<|ao Z<|z6<|zd<|zj<|ah<|ai Z<|aD Z<|ab Z<|z6<|yl Z Z<|zg<|ah<|za (yr (v:=cT _) Z)<|aa Z<|aa Z<|ax.mapSetA (v:=.int _ _) underlying139 Zp Z Z Z .head<|z6<|ah<|aa Z<|ao Z<|z6<|zh<|zk (x:=.int _ _) Z ?_
   exact ⟨DK v (dK f K v) es,(by rw[vV hR hm]),⟨_,.refl _,by rw[←vW,vV hR hm]⟩,hKn.put v⟩
  ·obtain ⟨hF,_,_⟩:=hR.madeF hm
   have a0:∀{k:Int},x.op=k→0<([0,1,2,2,2,2,2,2,2,2,1,2,1,2,3,1,0,1,2,1,1,2,2,2,1,2,2][k.toNat]?).getD 0→(aT f (bB x)=true∧oR f (bB x)<n)∧0<x.args.length∧aO f (bB x):=fun e h=>by
    have hl:0<x.args.length:=by rw[hF.cnt e];exact h
    have:=hR.rk0 hm hl
    exact ⟨⟨oD (hF.a0 hl),by omega⟩,hl,bY (hF.a0 hl)⟩
   have a1:∀{k:Int},x.op=k→1<([0,1,2,2,2,2,2,2,2,2,1,2,1,2,3,1,0,1,2,1,1,2,2,2,1,2,2][k.toNat]?).getD 0→(aT f (cK x)=true∧oR f (cK x)<n)∧1<x.args.length∧aO f (cK x):=fun e h=>by
    have hl:1<x.args.length:=by rw[hF.cnt e];exact h
    have:=hR.rk1 hm hl
    exact ⟨⟨oD (hF.a1 hl),by omega⟩,hl,bY (hF.a1 hl)⟩
   refine zg<|ah<|za (ep Z)<|aa Z<|zf (hM2 x hm) Z<|za (iW Z)<|za (q4 (v:=.agg _) Z Z)<|za (ij Z Z)<|y5 (cs:=[.int .i64 0,.int .i64 0,.raw (.slice none 0 0),.int .i64 0]) Z5 Z Z<|fun i9=>zz jk Z Z Z Z Z Z .head Z<|ze (yd (t:=9) Z .head)<|ab Z<|z6<|ah<|ao Z<|z6<|zd<|yg (γ:=List (Int × Int)) [1,2] (fun g=>[(11,.int .i64 (dK f K v))]) (fun g=>[(0,hZ bk (mI g))]) (fun g=>AW f K g) ?_ (fun _ _ h=>h) ?_
   ·refine zj<|ah<|ai Z<|aD Z<|ab Z<|z6<|ye Z Z<|ah<|aq wy Z jv Z Z<|ay jy Z<|ak Z Z<|ab Z<|z6<|zw Z (fun c8=>?_) (fun c8=>?_)
    ·have c8:x.op=8:=c8
     obtain ⟨_,l0,n0⟩:=a0 c8 (by decide)
     obtain ⟨_,l1,n1⟩:=a1 c8 (by decide)
     rw[E2 hR hm c8]
     refine zt (fun j=>false) (by kernel_rfl) Z (zm (.rest _))<|aj 0 Z (ep Z)<|aj 1 Z (yf Z)<|aj 2 Z (bK j7 Z Z2 Z Z)<|aj 3 Z (yo (c:=.pf _) Z9 Z)<|aj 4 Z (bK wy Z j5 Z Z)<|aj 5 Z (eH j9 Z)<|aj 6 Z (bx 0 wx wz Z Z Z (b7 l0))<|aj 7 Z (da j6 Z)<|aj 8 Z (bK wy Z j5 Z Z)<|aj 9 Z (eH j9 Z)<|aj 10 Z (bx 1 wx wz Z Z Z (cO l1))<|aj 11 Z (da j6 Z)<|aj 13 Z (ep Z)<|aj 14 Z (yf Z)<|aj 15 Z (bK j7 Z Z2 Z Z)<|aj 16 Z (yo (c:=.pf _) Z9 Z)<|aj 17 Z (bK wy Z j5 Z Z)<|aj 18 Z (eH j9 Z)<|aj 19 Z (bx 1 wx wz Z Z Z (cO l1))<|aj 20 Z (da j6 Z)<|aj 21 Z (bK wy Z j5 Z Z)<|aj 22 Z (eH j9 Z)<|aj 23 Z (bx 0 wx wz Z Z Z (b7 l0))<|aj 24 Z (da j6 Z)<|aY 12 Z<|zf (flw _ _ (-1) n0 n1) Z<|z6<|aY 25 Z<|zf (flw _ _ 0 n1 n0) Z<|z6<|aY 26 Z<|zf (dE _ _) Z<|z6<|aj 27 Z (oZ Z)<|bV ?_
     exact ⟨es,(by repeat (first|with_reducible exact y6 _ _|refine yh rfl ?_)),aJ,aE,hKn⟩
    ·refine ah<|aq wy Z jv Z Z<|ay jy Z<|ak Z Z<|ab Z<|z6<|zw Z (fun c9=>?_) (fun c9=>?_)
     ·have c9:x.op=9:=c9
      obtain ⟨_,l0,n0⟩:=a0 c9 (by decide)
      obtain ⟨_,l1,n1⟩:=a1 c9 (by decide)
      rw[E3 hR hm c9]
      refine zt (fun j=>false) (by kernel_rfl) Z (zm (.rest _))<|aj 0 Z (ep Z)<|aj 1 Z (yf Z)<|aj 2 Z (bK j7 Z Z2 Z Z)<|aj 3 Z (yo (c:=.pf _) Z9 Z)<|aj 4 Z (bK wy Z j5 Z Z)<|aj 5 Z (eH j9 Z)<|aj 6 Z (bx 0 wx wz Z Z Z (b7 l0))<|aj 7 Z (da j6 Z)<|aj 8 Z (bK wy Z j5 Z Z)<|aj 9 Z (eH j9 Z)<|aj 10 Z (bx 1 wx wz Z Z Z (cO l1))<|aj 11 Z (da j6 Z)<|aj 13 Z (ep Z)<|aj 14 Z (yf Z)<|aj 15 Z (bK j7 Z Z2 Z Z)<|aj 16 Z (yo (c:=.pf _) Z9 Z)<|aj 17 Z (bK wy Z j5 Z Z)<|aj 18 Z (eH j9 Z)<|aj 19 Z (bx 1 wx wz Z Z Z (cO l1))<|aj 20 Z (da j6 Z)<|aj 21 Z (bK wy Z j5 Z Z)<|aj 22 Z (eH j9 Z)<|aj 23 Z (bx 0 wx wz Z Z Z (b7 l0))<|aj 24 Z (da j6 Z)<|aY 12 Z<|zf (flw _ _ 0 n0 n1) Z<|z6<|aY 25 Z<|zf (flw _ _ (-1) n1 n0) Z<|z6<|aY 26 Z<|zf (dE _ _) Z<|z6<|aj 27 Z (oZ Z)<|bV ?_
      exact ⟨es,(by repeat (first|with_reducible exact y6 _ _|refine yh rfl ?_)),aJ,aE,hKn⟩
     ·refine ah<|aq wy Z jv Z Z<|ay jy Z<|ak Z Z<|ab Z<|z6<|zw Z (fun c7=>?_) (fun c7=>?_)
      ·have c7:x.op=7:=c7
       obtain ⟨_,l0,n0⟩:=a0 c7 (by decide)
       obtain ⟨_,l1,n1⟩:=a1 c7 (by decide)
       rw[E4 hR hm c7]
       refine zd<|zt (fun j=>false) (by kernel_rfl) Z (zm (.rest _))<|aj 0 Z (bK wy Z j5 Z Z)<|aj 1 Z (eH j9 Z)<|aj 2 Z (bx 0 wx wz Z Z Z (b7 l0))<|aj 3 Z (da j6 Z)<|aj 4 Z (bK wy Z j5 Z Z)<|aj 5 Z (eH j9 Z)<|aj 6 Z (bx 1 wx wz Z Z Z (cO l1))<|aj 7 Z (da j6 Z)<|aj 8 Z (oZ Z)<|aj 9 Z (oZ Z)<|bV<|zt (fun j=>false) (by kernel_rfl) Z (zm (.rest _))<|aj 0 Z (ep Z)<|aj 1 Z (yf Z)<|aj 2 Z (bK j7 Z Z2 Z Z)<|aj 3 Z (yo (c:=.pf _) Z9 Z)<|aj 4 Z (dF Z)<|aj 5 Z (dF Z)<|aj 16 Z (ep Z)<|aj 17 Z (yf Z)<|aj 18 Z (bK j7 Z Z2 Z Z)<|aj 19 Z (yo (c:=.pf _) Z9 Z)<|aj 20 Z (dF Z)<|aj 21 Z (dF Z)<|aY 6 Z<|zf (flw _ _ 0 n0 n1) Z<|z6<|aj 7 Z (m4 Z)<|qe (s:=115) Z (fun c1=>?_) (fun c1=>?_)
       ·refine cC 8 Z Z Z c1 (ep Z)<|cC 9 Z Z Z c1 (yf Z)<|cC 10 Z Z Z c1 (bK j7 Z Z2 Z Z)<|cC 11 Z Z Z c1 (yo (c:=.pf _) Z9 Z)<|cC 12 Z Z Z c1 (dF Z)<|cC 13 Z Z Z c1 (dF Z)<|aY 14 Z<|z8 Z Z c1<|zf (flw _ _ 0 n1 n0) Z<|z6<|aj 15 Z (rR Z c1 Z)<|aY 22 Z<|zf (flw _ _ (-1) n0 n1) Z<|z6<|aj 23 Z (m4 Z)<|qe (s:=131) Z (fun c2=>?_) (fun c2=>?_)
        ·refine bR 24 Z Z Z c2<|bR 25 Z Z Z c2<|bR 26 Z Z Z c2<|bR 27 Z Z Z c2<|bR 28 Z Z Z c2<|bR 29 Z Z Z c2<|bR 30 Z Z Z c2<|aj 31 Z (rR Z c2 Z)<|aY 32 Z<|zf (dE _ _) Z<|z6<|aj 33 Z (oZ Z)<|bV ?_
         exact ⟨es,(by repeat (first|with_reducible exact y6 _ _|refine yh rfl ?_)),⟨(by show AV.int .i64 _=AV.int .i64 _;simp_all),trivial⟩,aE,hKn⟩
        ·refine cC 24 Z Z Z c2 (ep Z)<|cC 25 Z Z Z c2 (yf Z)<|cC 26 Z Z Z c2 (bK j7 Z Z2 Z Z)<|cC 27 Z Z Z c2 (yo (c:=.pf _) Z9 Z)<|cC 28 Z Z Z c2 (dF Z)<|cC 29 Z Z Z c2 (dF Z)<|aY 30 Z<|z8 Z Z c2<|zf (flw _ _ (-1) n1 n0) Z<|z6<|aj 31 Z (qD Z c2 Z)<|aY 32 Z<|zf (dE _ _) Z<|z6<|aj 33 Z (oZ Z)<|bV ?_
         exact ⟨es,(by repeat (first|with_reducible exact y6 _ _|refine yh rfl ?_)),⟨(by show AV.int .i64 _=AV.int .i64 _;simp_all),trivial⟩,aE,hKn⟩
       ·refine bR 8 Z Z Z c1<|bR 9 Z Z Z c1<|bR 10 Z Z Z c1<|bR 11 Z Z Z c1<|bR 12 Z Z Z c1<|bR 13 Z Z Z c1<|bR 14 Z Z Z c1<|aj 15 Z (qD Z c1 Z)<|aY 22 Z<|zf (flw _ _ (-1) n0 n1) Z<|z6<|aj 23 Z (m4 Z)<|qe (s:=131) Z (fun c3=>?_) (fun c3=>?_)
        ·refine bR 24 Z Z Z c3<|bR 25 Z Z Z c3<|bR 26 Z Z Z c3<|bR 27 Z Z Z c3<|bR 28 Z Z Z c3<|bR 29 Z Z Z c3<|bR 30 Z Z Z c3<|aj 31 Z (rR Z c3 Z)<|aY 32 Z<|zf (dE _ _) Z<|z6<|aj 33 Z (oZ Z)<|bV ?_
         exact ⟨es,(by repeat (first|with_reducible exact y6 _ _|refine yh rfl ?_)),⟨(by show AV.int .i64 _=AV.int .i64 _;simp_all),trivial⟩,aE,hKn⟩
        ·refine cC 24 Z Z Z c3 (ep Z)<|cC 25 Z Z Z c3 (yf Z)<|cC 26 Z Z Z c3 (bK j7 Z Z2 Z Z)<|cC 27 Z Z Z c3 (yo (c:=.pf _) Z9 Z)<|cC 28 Z Z Z c3 (dF Z)<|cC 29 Z Z Z c3 (dF Z)<|aY 30 Z<|z8 Z Z c3<|zf (flw _ _ (-1) n1 n0) Z<|z6<|aj 31 Z (qD Z c3 Z)<|aY 32 Z<|zf (dE _ _) Z<|z6<|aj 33 Z (oZ Z)<|bV ?_
         exact ⟨es,(by repeat (first|with_reducible exact y6 _ _|refine yh rfl ?_)),⟨(by show AV.int .i64 _=AV.int .i64 _;simp_all),trivial⟩,aE,hKn⟩
      ·refine ah<|aq wy Z jv Z Z<|ay jy Z<|ak Z Z<|ab Z<|z6<|zw Z (fun c1=>?_) (fun c1=>?_)
       ·have c1:x.op=1:=c1
        obtain ⟨h0,l0,n0⟩:=a0 c1 (by decide)
        rw[E5 hR hm c1 l0]
        refine aV<|za (ep Z)<|aq wy Z j5 Z Z<|aH j9 Z<|za (bx 0 wx wz Z Z Z (b7 l0))<|ay j6 Z<|za (yr (v:=cT _) Z)<|zr Z (zm (.l (.rest _))) (ih es _ h0.1 h0.2 hKn) ?_
        rintro r151 O151 ⟨g1,rfl,rfl,hk1⟩
        refine ao Z<|z6 ?_
        exact ⟨g1,(by repeat (first|with_reducible exact y6 _ _|refine yh rfl ?_)),aJ,aE,hk1⟩
       ·refine ah<|aq wy Z jv Z Z<|ay jy Z<|ak Z Z<|ab Z<|z6<|zw Z (fun c10=>?_) (fun c10=>?_)
        ·have c10:x.op=10:=c10
         obtain ⟨h0,l0,n0⟩:=a0 c10 (by decide)
         rw[Ep hR hm c10 l0]
         refine ah<|za (ep Z)<|aq wy Z j5 Z Z<|aH j9 Z<|za (bx 0 wx wz Z Z Z (b7 l0))<|ay j6 Z<|za (yr (v:=cT _) Z)<|zr Z (zm (.l (.rest _))) (ih es _ h0.1 h0.2 hKn) ?_
         rintro r162 O162 ⟨g1,rfl,rfl,hk1⟩
         refine ao Z<|z6<|aV<|aa Z<|ak Z Z<|aa Z<|ak Z Z<|zf (dE _ _) Z<|ao Z<|z6 ?_
         exact ⟨g1,(by repeat (first|with_reducible exact y6 _ _|refine yh rfl ?_)),aJ,aE,hk1⟩
        ·refine ah<|aq wy Z jv Z Z<|ay jy Z<|ak Z Z<|ab Z<|z6<|zw Z (fun c11=>?_) (fun c11=>?_)
         ·have c11:x.op=11:=c11
          obtain ⟨h0,l0,n0⟩:=a0 c11 (by decide)
          obtain ⟨h1,l1,n1⟩:=a1 c11 (by decide)
          rw[Eq hR hm c11 l1]
          refine zd<|zt (fun j=>false) (by kernel_rfl) Z (zm (.rest _))<|aj 0 Z (ep Z)<|aj 1 Z (bK wy Z j5 Z Z)<|aj 2 Z (eH j9 Z)<|aj 3 Z (bx 0 wx wz Z Z Z (b7 l0))<|aj 4 Z (da j6 Z)<|aj 5 Z (yr (v:=cT _) Z)<|aj 7 Z (ep Z)<|aj 8 Z (bK wy Z j5 Z Z)<|aj 9 Z (eH j9 Z)<|aj 10 Z (bx 1 wx wz Z Z Z (cO l1))<|aj 11 Z (da j6 Z)<|aj 12 Z (yr (v:=cT _) Z)<|aY 6 Z<|zr Z (zm (.l (.rest _))) (ih es _ h0.1 h0.2 hKn) ?_
          rintro r178 O178 ⟨g1,rfl,rfl,hk1⟩
          refine z6<|aY 13 Z<|zr Z (zm (.l (.rest _))) (ih g1 _ h1.1 h1.2 hk1) ?_
          rintro r185 O185 ⟨g2,rfl,rfl,hk2⟩
          refine z6<|aj 14 Z (oZ Z)<|aj 15 Z (oZ Z)<|bV<|aV<|aa Z<|ak Z Z<|ai Z<|zp (s:=188) Z (fun c4=>?_) (fun c4=>?_)
          ·refine z8 Z Z c4<|aa Z<|z8 Z Z c4<|ak Z Z<|ar Z c4 Z<|aa Z<|ak Z Z<|ai Z<|zp (s:=194) Z (fun c5=>?_) (fun c5=>?_)
           ·refine z7 Z Z c5<|z7 Z Z c5<|ar Z c5 Z<|zf (dE _ _) Z<|ao Z<|z6 ?_
            exact ⟨g2,(by repeat (first|with_reducible exact y6 _ _|refine yh rfl ?_)),⟨(by show AV.int .i64 _=AV.int .i64 _;simp_all),trivial⟩,aE,hk2⟩
           ·refine z8 Z Z c5<|aa Z<|z8 Z Z c5<|ak Z Z<|au Z c5 Z<|zf (dE _ _) Z<|ao Z<|z6 ?_
            exact ⟨g2,(by repeat (first|with_reducible exact y6 _ _|refine yh rfl ?_)),⟨(by show AV.int .i64 _=AV.int .i64 _;simp_all),trivial⟩,aE,hk2⟩
          ·refine z7 Z Z c4<|z7 Z Z c4<|au Z c4 Z<|aa Z<|ak Z Z<|ai Z<|zp (s:=194) Z (fun c6=>?_) (fun c6=>?_)
           ·refine z7 Z Z c6<|z7 Z Z c6<|ar Z c6 Z<|zf (dE _ _) Z<|ao Z<|z6 ?_
            exact ⟨g2,(by repeat (first|with_reducible exact y6 _ _|refine yh rfl ?_)),⟨(by show AV.int .i64 _=AV.int .i64 _;simp_all),trivial⟩,aE,hk2⟩
           ·refine z8 Z Z c6<|aa Z<|z8 Z Z c6<|ak Z Z<|au Z c6 Z<|zf (dE _ _) Z<|ao Z<|z6 ?_
            exact ⟨g2,(by repeat (first|with_reducible exact y6 _ _|refine yh rfl ?_)),⟨(by show AV.int .i64 _=AV.int .i64 _;simp_all),trivial⟩,aE,hk2⟩
         ·rw[Ca hR hm ⟨c8,c9,c7,c1,c10,c11⟩]
          refine zg ?_
          exact ⟨es,(by repeat (first|with_reducible exact y6 _ _|refine yh rfl ?_)),aJ,aE,hKn⟩
   ·rintro g1 hk1
    refine ah<|za (yr (v:=cT _) Z)<|aa Z<|aa Z<|ax.mapSetA (v:=.int _ _) underlying139 Zp Z Z Z .head<|z6<|ah<|aa Z<|ao Z<|z6<|zh<|zk (x:=.int _ _) Z ?_
    exact ⟨DK v (dK f K v) g1,rfl,⟨_,.refl _,by rw[←vW]⟩,hk1.put v⟩
 ·have hz:=hKn v z hg
  subst hz
  refine ah<|ao Z<|z6<|zd<|ah<|za (yr (v:=cT _) Z)<|aa Z<|za (Gv.lookupA (zx:=.int .i64 0) hg underlying139 Zp Zk (fun _=>Z) Z Z ⟨_,.head⟩)<|za (iW Z)<|za (iJ Z Z)<|za (ij Z Z)<|ao Z<|ab Z<|z6<|ah<|ai Z<|z6<|yl Z Z<|ah<|aa Z<|ao Z<|z6<|zh<|zk (x:=.int _ _) Z ?_
  exact ⟨es,rfl,⟨_,.refl _,rfl⟩,hKn⟩
theorem vY (f:ad) (hR:b8 f) (hv:f.vars.length≤1000) (K:KS) (hK:KB f K) (t pr:AV) (bk:Nat):∀n,vX E f K t pr bk n
 |0=>fun _ _ _ h=>by omega
 |n+1=>Ay f hR hv K hK t pr bk n (vY f hR hv K hK t pr bk n)
end Go.Proofs.YtdilpodccjlkgaaGreatDoor
namespace Go.Proofs.YtdilpodccjlkgaaGreatDoor
open Go.Proofs.Tryz
open Go.Proofs Go.Lib Go.Shelf Go.RowKit
variable {E:World}
set_option maxRecDepth 20000
theorem fH (t:ft) (b:Int):b∈cD t↔(t.kind=0∧t.to0=b)∨(t.kind=1∧(t.to0=b∨t.to1=b)):=by
 unfold cD
 by_cases h0:t.kind=0
 ·rw[if_pos h0];simp[h0];exact eq_comm
 ·rw[if_neg h0]
  by_cases h1:t.kind=1
  ·rw[if_pos h1]
   by_cases h2:t.to0=t.to1
   ·rw[if_pos h2];simp[h1,h2];exact eq_comm
   ·rw[if_neg h2];simp[h1]
    constructor
    ·rintro (h|h);exact .inl h.symm;exact .inr h.symm
    ·rintro (h|h);exact .inl h.symm;exact .inr h.symm
  ·rw[if_neg h1];simp[h0,h1]
theorem k7 (f:ad) (hn:f.blocks.length≤1000) (a b:Int) (h0:0≤a) (ha:a<f.blocks.length):aI prog E 82 [.agg (bD f),.int .i64 a,.int .i64 b] (.bool (decide (b∈ae f a))):=by
 obtain ⟨c,hc⟩:∃c,f.blocks[a.toNat]'(by omega)=c:=⟨_,rfl⟩
 have hget:f.blocks[a.toNat]?=some c:=by rw[qi (by omega),hc]
 have hE:ae f a=cD c.term:=by rw[kP h0 (by omega),hc]
 rw[hE]
 refine zo func82 Z (by decide) Z<|ah<|ya (cs:=_) Z Z Z<|ab Z<|z6<|ah<|aq je Z Z0 Z Z<|aH Zb Z<|aa Z<|za (bx a.toNat ji ju Z Z (by omega) hget)<|aq jg Z Zm Z Z<|ac isAgg49 Zm Z Z<|y5 (cs:=[.int .i64 0,.int .i64 0,.int .i64 0,.int .i64 0]) zeroValue49 Z Z<|fun i7=>zz Zm Z Z Z Z Z Z .head Z<|ze (yd (t:=7) Z .head)<|z6<|ah<|aq j8 Z Zv Z Z<|ay Y3 Z<|ak Z Z<|ai Z<|zp (s:=17) Z (fun c1=>?_) (fun c1=>?_)
 ·refine z8 Z Z c1<|aq j8 Z Z7 Z Z<|z8 Z Z c1<|za (yw (j:=0) jw wz Z Z Z (by decide) Z)<|z8 Z Z c1<|ay j6 Z<|z8 Z Z c1<|aa Z<|z8 Z Z c1<|ak Z Z<|ar Z c1 Z<|ai Z<|zp (s:=24) Z (fun c2=>?_) (fun c2=>?_)
  ·refine z7 Z Z c2<|z7 Z Z c2<|z7 Z Z c2<|z7 Z Z c2<|zi Z Z<|zi Z Z<|zi Z Z<|zi Z Z<|zi Z Z<|zi Z Z<|zi Z Z<|zi Z Z<|zi Z Z<|zi Z Z<|zi Z Z<|zi Z Z<|z7 Z Z c2<|ar Z c2 Z<|ab Z<|z6<|zh<|zk (x:=.bool _) Z<|congrArg AV.bool ?_;rw[qr];simp only[w1,fH];simp_all
  ·refine z8 Z Z c2<|aq j8 Z Zv Z Z<|z8 Z Z c2<|ay Y3 Z<|z8 Z Z c2<|ak Z Z<|z8 Z Z c2<|ai Z<|zp (s:=28) Z (fun c3=>?_) (fun c3=>?_)
   ·refine z8 Z Z c3<|aq j8 Z Z7 Z Z<|z8 Z Z c3<|za (yw (j:=0) jw wz Z Z Z (by decide) Z)<|z8 Z Z c3<|ay j6 Z<|z8 Z Z c3<|aa Z<|z8 Z Z c3<|ak Z Z<|z8 Z Z c3<|ai Z<|zp (s:=34) Z (fun c4=>?_) (fun c4=>?_)
    ·refine z7 Z Z c4<|z7 Z Z c4<|z7 Z Z c4<|z7 Z Z c4<|z7 Z Z c4<|z8 Z Z c3<|ar Z c4 Z<|z8 Z Z c2<|ar Z c3 Z<|au Z c2 Z<|ab Z<|z6<|zh<|zk (x:=.bool _) Z<|congrArg AV.bool ?_;rw[qr];simp only[w1,fH];simp_all
    ·refine z8 Z Z c4<|aq j8 Z Z7 Z Z<|z8 Z Z c4<|za (yw (j:=1) jw wz Z Z Z (by decide) Z)<|z8 Z Z c4<|ay j6 Z<|z8 Z Z c4<|aa Z<|z8 Z Z c4<|ak Z Z<|z8 Z Z c3<|au Z c4 Z<|z8 Z Z c2<|ar Z c3 Z<|au Z c2 Z<|ab Z<|z6<|zh<|zk (x:=.bool _) Z<|congrArg AV.bool ?_;rw[qr];simp only[w1,fH];simp_all
   ·refine z7 Z Z c3<|z7 Z Z c3<|z7 Z Z c3<|z7 Z Z c3<|z7 Z Z c3<|z7 Z Z c3<|zi Z Z<|zi Z Z<|zi Z Z<|zi Z Z<|zi Z Z<|z7 Z Z c3<|z8 Z Z c2<|au Z c3 Z<|au Z c2 Z<|ab Z<|z6<|zh<|zk (x:=.bool _) Z<|congrArg AV.bool ?_;rw[qr];simp only[w1,fH];simp_all
 ·refine z7 Z Z c1<|z7 Z Z c1<|z7 Z Z c1<|z7 Z Z c1<|z7 Z Z c1<|au Z c1 Z<|ai Z<|z8 Z Z Z<|aq j8 Z Zv Z Z<|z8 Z Z Z<|ay Y3 Z<|z8 Z Z Z<|ak Z Z<|z8 Z Z Z<|ai Z<|zp (s:=28) Z (fun c5=>?_) (fun c5=>?_)
  ·refine z8 Z Z c5<|aq j8 Z Z7 Z Z<|z8 Z Z c5<|za (yw (j:=0) jw wz Z Z Z (by decide) Z)<|z8 Z Z c5<|ay j6 Z<|z8 Z Z c5<|aa Z<|z8 Z Z c5<|ak Z Z<|z8 Z Z c5<|ai Z<|zp (s:=34) Z (fun c6=>?_) (fun c6=>?_)
   ·refine z7 Z Z c6<|z7 Z Z c6<|z7 Z Z c6<|z7 Z Z c6<|z7 Z Z c6<|z8 Z Z c5<|ar Z c6 Z<|z8 Z Z Z<|ar Z c5 Z<|au Z Z Z<|ab Z<|z6<|zh<|zk (x:=.bool _) Z<|congrArg AV.bool ?_;rw[qr];simp only[w1,fH];simp_all
   ·refine z8 Z Z c6<|aq j8 Z Z7 Z Z<|z8 Z Z c6<|za (yw (j:=1) jw wz Z Z Z (by decide) Z)<|z8 Z Z c6<|ay j6 Z<|z8 Z Z c6<|aa Z<|z8 Z Z c6<|ak Z Z<|z8 Z Z c5<|au Z c6 Z<|z8 Z Z Z<|ar Z c5 Z<|au Z Z Z<|ab Z<|z6<|zh<|zk (x:=.bool _) Z<|congrArg AV.bool ?_;rw[qr];simp only[w1,fH];simp_all
  ·refine z7 Z Z c5<|z7 Z Z c5<|z7 Z Z c5<|z7 Z Z c5<|z7 Z Z c5<|z7 Z Z c5<|zi Z Z<|zi Z Z<|zi Z Z<|zi Z Z<|zi Z Z<|z7 Z Z c5<|z8 Z Z Z<|au Z c5 Z<|au Z Z Z<|ab Z<|z6<|zh<|zk (x:=.bool _) Z<|congrArg AV.bool ?_;rw[qr];simp only[w1,fH];simp_all
theorem Cb {a shut x:Int} {out:List Bool} {y:Nat} (hx:uB a out shut x) (h0:0≤x) (hy:y<out.length):uB a (out.set y true) shut x:=by
 refine ⟨hx.1,?_⟩
 rcases hx.2 with h|h
 ·exact .inl h
 ·right
  unfold gb at h ⊢
  rw[List.getElem?_set]
  by_cases e:y=x.toNat
  ·rw[if_pos e,if_pos (by omega)];rfl
  ·rw[if_neg e];exact h
set_option maxHeartbeats 4000000 in
theorem Az (f:ad) (hE:bE f) (hn:f.blocks.length≤1000) (a shut:Int) (h0:0≤a) (ha:a<f.blocks.length):aU prog E 81 [.agg (bD f),.int .i64 a,.int .i64 shut] []
  fun x O=>∃i:Nat,x=.own i f.blocks.length∧O=[(i,.grow 1 4 (cB (jO (ae f) f.blocks.length a shut)))]:=by
 have hG:=hE.grph
 obtain ⟨n,hnn⟩:∃n,f.blocks.length=n:=⟨_,rfl⟩
 rw[hnn] at hG hn ha ⊢
 refine zo func81 Z (by decide) Z<|ah<|ya (cs:=_) Z Z Z<|za (iR Z)<|z6<|ah<|aq je Z Z0 Z Z<|aH Zb Z<|ap ji Z<|ao Z<|z6<|ah<|aa Z<|ax.makeB (m:=n) Z1 type4 Z Z Z Z Z (by omega) (by omega) (by show (1:Int)*_≤_;omega) (by omega)<|fun i16=>za (lj Z)<|z6<|zd<|ah<|ab Z<|z6<|zj<|y8 (γ:=List Bool × Bool) [1,2,3,7,8] (fun g=>[(9,.bool g.2)]) (fun g=>[(i16,.grow 1 4 (cB g.1))]) (fun g=>FrS (ae f) a shut n g.1∧(g.2=false→w8 (ae f) a shut g.1 n)) (fun g=>2*kX g.1+(if g.2=true then 1 else 0)) (List.replicate n false,true) aJ aE (⟨FrS.begin _ _ _ _,fun h=>by cases h⟩) ?_
 rintro ⟨o0,again⟩ ⟨hS0,hfin⟩
 try dsimp only at *
 refine zd<|ah<|ai Z<|z6<|zu Z (fun ca=>?_) (fun ca=>?_)
 ·have ca:again=true:=by simpa using ca
  subst ca
  refine zg<|zj<|ah<|ab Z<|z6<|ah<|aa Z<|aa Z<|z6<|zj<|y8 (γ:=Nat × List Bool × Bool) [1,2,3,7,8,18] (fun g=>[(19,.int .i64 g.1),(9,.bool g.2.2)]) (fun g=>[(i16,.grow 1 4 (cB g.2.1))]) (fun g=>g.1≤n∧D7 (ae f) a shut n o0 g.2.1 g.2.2∧(g.2.2=false→w8 (ae f) a shut g.2.1 g.1)) (fun g=>n - g.1) (0,o0,false) eZ aE (⟨ql _,⟨hS0,Nat.le_refl _,fun h=>(by cases h),fun _=>Z⟩,fun _ x hx=>by omega⟩) ?_
  rintro ⟨x,out,ag⟩ ⟨hx,hR,hcl⟩
  try dsimp only at *
  have hol:=hR.len
  refine ah<|aw Z Z<|z6<|zd<|zw Z (fun cx=>?_) (fun cx=>?_)
  ·have hx2:x<n:=by omega
   have hgx:out[x]?=some (gb out (x:Int)):=kj (by omega)
   refine zg<|zd<|zj<|ah<|aa Z<|ao Z<|z6<|zd<|zd<|yg (γ:=Bool) [1,2,3,7,8,9,10,18,19] (fun u=>[(36,.bool u)]) (fun u=>[(i16,.grow 1 4 (cB out))]) (fun u=>u=!decide (uB a out shut x)) ?_ (fun _ _ h=>h) ?_
   ·refine aV<|aa Z<|aa Z<|ak Z Z<|ai Z<|zp (s:=25) Z (fun c7=>?_) (fun c7=>?_)
    ·refine z7 Z Z c7<|z7 Z Z c7<|z7 Z Z c7<|z7 Z Z c7<|zi Z Z<|zi Z Z<|zi Z Z<|zi Z Z<|zi Z Z<|z7 Z Z c7<|ar Z c7 Z<|z6 ?_
     exact ⟨_,qE,aJ,aE,by simp_all[uB]⟩
    ·refine z8 Z Z c7<|aa Z<|z8 Z Z c7<|aa Z<|z8 Z Z c7<|aL Z Z<|z8 Z Z c7<|ai Z<|zp (s:=29) Z (fun c8=>?_) (fun c8=>?_)
     ·refine z8 Z Z c8<|za (gQ Z)<|z8 Z Z c8<|aa Z<|z8 Z Z c8<|za (yu (j:=x) Z1 Zj Z Z Z ⟨_,.head⟩ (by first|rfl|(simp[aQ,aS];done)|(simp[aQ,aS];omega)) hx2)<|z8 Z Z c8<|za (Gv.loadB (j:=x) Yh Z ⟨_,.head⟩ hgx)<|z8 Z Z c8<|aD Z<|z8 Z Z c7<|ar Z c8 Z<|au Z c7 Z<|z6 ?_
      exact ⟨_,qE,aJ,aE,by simp_all[uB]⟩
     ·refine z7 Z Z c8<|z7 Z Z c8<|z7 Z Z c8<|z7 Z Z c8<|z7 Z Z c8<|z8 Z Z c7<|au Z c8 Z<|au Z c7 Z<|z6 ?_
      exact ⟨_,qE,aJ,aE,by simp_all[uB]⟩
   ·rintro u hu
    subst hu
    refine zu Z (fun co=>?_) (fun co=>?_)
    ·have hno:¬uB a out shut x:=by simpa using co
     refine y7<|aV<|aC Z Z<|aa Z<|z6 ?_
     exact ⟨(x+1,out,ag),AP,eZ,aE,⟨hx2,hR,fun h z hz hok=>by rcases Nat.lt_succ_iff_lt_or_eq.1 hz with h1|h1;exact hcl h z h1 hok;exact absurd (h1▸hok) hno⟩,by dsimp only;omega⟩
    ·have hok:uB a out shut x:=by simpa using co
     refine zg<|ah<|aa Z<|aa Z<|z6<|zj<|y8 (γ:=Nat × List Bool × Bool) [1,2,3,7,8,10,18,19,37] (fun g=>[(38,.int .i64 g.1),(9,.bool g.2.2)]) (fun g=>[(i16,.grow 1 4 (cB g.2.1))]) (fun g=>g.1≤n∧D7 (ae f) a shut n o0 g.2.1 g.2.2∧uB a g.2.1 shut x∧(g.2.2=false→w8 (ae f) a shut g.2.1 x∧D6 (ae f) a shut g.2.1 x g.1)) (fun g=>n - g.1) (0,out,ag) eZ aE (⟨ql _,hR,hok,fun h=>⟨hcl h,fun _ y hy=>by omega⟩⟩) ?_
     rintro ⟨y,out,ag⟩ ⟨hy,hR,hok,hcl⟩
     try dsimp only at *
     have hol:=hR.len
     refine ah<|aw Z Z<|z6<|zd<|zw Z (fun cy=>?_) (fun cy=>?_)
     ·have hy2:y<n:=by omega
      have hgy:out[y]?=some (gb out (y:Int)):=kj (by omega)
      have hstep:(ag=false→(y:Int)∈ae f x→(y:Int)≠shut→gb out y=true)→(ag=false→w8 (ae f) a shut out x∧D6 (ae f) a shut out x (y+1)):=fun h1 h2=>⟨(hcl h2).1,fun ho z hz he hs=>by
       rcases Nat.lt_succ_iff_lt_or_eq.1 hz with h3|h3
       ·exact (hcl h2).2 ho z h3 he hs
       ·subst h3;exact h1 h2 he hs⟩
      refine zg<|zd<|zj<|ah<|aa Z<|ao Z<|z6<|ah<|aa Z<|aa Z<|aL Z Z<|ai Z<|zp (s:=44) Z (fun c1=>?_) (fun c1=>?_)
      ·have d1:(y:Int)≠shut:=by simpa using c1
       refine z8 Z Z c1<|za (gQ Z)<|z8 Z Z c1<|aa Z<|z8 Z Z c1<|za (yu (j:=y) Z1 Zj Z Z Z ⟨_,.head⟩ (by first|rfl|(simp[aQ,aS];done)|(simp[aQ,aS];omega)) hy2)<|z8 Z Z c1<|za (Gv.loadB (j:=y) Yh Z ⟨_,.head⟩ hgy)<|z8 Z Z c1<|aD Z<|ar Z c1 Z<|ai Z<|zp (s:=51) Z (fun c2=>?_) (fun c2=>?_)
       ·have d2:gb out (y:Int)=false:=by simpa using c2
        refine z8 Z Z c2<|ac jj jh Z Z<|z8 Z Z c2<|aa Z<|z8 Z Z c2<|aa Z<|z8 Z Z c2<|zf (k7 f (by omega) (x:Int) (y:Int) (by omega) (by omega)) Z<|ar Z c2 Z<|z6<|zu Z (fun c3=>?_) (fun c3=>?_)
        ·have d3:(y:Int)∈ae f x:=by simpa using c3
         refine ah<|za (gQ Z)<|aa Z<|za (yu (j:=y) Z1 Zj Z Z Z ⟨_,.head⟩ (by first|rfl|(simp[aQ,aS];done)|(simp[aQ,aS];omega)) hy2)<|ax.storeB (j:=y) Zj Z Z .head (by first|omega|(simp;omega))<|z6<|aV<|ab Z<|z6<|aV<|aC Z Z<|aa Z<|z6 ?_
         exact ⟨(y+1,out.set y true,true),qE,eZ,aE,⟨hy2,hR.hit hok d3 d1 hy2 d2,Cb hok (by omega) (by omega),fun h=>by cases h⟩,by dsimp only;omega⟩
        ·have d3:¬(y:Int)∈ae f x:=by simpa using c3
         refine zg<|aV<|aC Z Z<|aa Z<|z6 ?_
         exact ⟨(y+1,out,ag),qE,eZ,aE,⟨hy2,hR,hok,hstep fun _ h _=>absurd h d3⟩,by dsimp only;omega⟩
       ·have d2:gb out (y:Int)=true:=by simpa using c2
        refine z7 Z Z c2<|z7 Z Z c2<|z7 Z Z c2<|z7 Z Z c2<|au Z c2 Z<|z6<|ye Z Z<|zg<|aV<|aC Z Z<|aa Z<|z6 ?_
        exact ⟨(y+1,out,ag),qE,eZ,aE,⟨hy2,hR,hok,hstep fun _ _ _=>d2⟩,by dsimp only;omega⟩
      ·have d1:(y:Int)=shut:=by simpa using c1
       refine z7 Z Z c1<|z7 Z Z c1<|z7 Z Z c1<|z7 Z Z c1<|z7 Z Z c1<|au Z c1 Z<|ai Z<|z7 Z Z Z<|z7 Z Z Z<|z7 Z Z Z<|z7 Z Z Z<|au Z Z Z<|z6<|ye Z Z<|zg<|aV<|aC Z Z<|aa Z<|z6 ?_
       exact ⟨(y+1,out,ag),qE,eZ,aE,⟨hy2,hR,hok,hstep fun _ _ h=>absurd d1 h⟩,by dsimp only;omega⟩
     ·have hyn:y=n:=by omega
      refine y7<|aV<|aC Z Z<|aa Z<|z6 ?_
      exact ⟨(x+1,out,ag),AP,eZ,aE,⟨hx2,hR,fun h z hz ho=>by rcases Nat.lt_succ_iff_lt_or_eq.1 hz with h1|h1;exact (hcl h).1 z h1 ho;subst h1;exact fun y2 he hs=>(by by_cases hlt:y2<n;exact (hcl h).2 ho y2 (by omega) he hs;exact absurd (hG.rng z (by omega) (by omega) _ he).2 (by omega))⟩,by dsimp only;omega⟩
  ·have hxn:x=n:=by omega
   subst hxn
   refine y7 ?_
   exact ⟨(out,ag),wi,aJ,aE,⟨hR.toFrS,hcl⟩,by dsimp only;have h1:=hR.less;have h2:=hR.more;cases ag;simp;omega;have:=h2 rfl;simp;omega⟩
 ·have ca:again=false:=by simpa using ca
  rw[hS0.eq hG ⟨h0,ha⟩ (hfin ca)]
  refine y7<|ah<|za (gQ Z)<|za (lj Z)<|z6<|zh<|zk (x:=.own _ _) Z ?_
  exact ⟨i16,rfl,rfl⟩
theorem lH (f:ad) (hE:bE f) (hn:f.blocks.length≤1000) (shut:Int):aI prog E 41 [.agg (bD f),.int .i64 shut] (.fro 1 ((l4 (ae f) f.blocks.length shut).map wR)):=by
 have hpos:=hE.grph.npos
 refine zo func41 Z (by decide) Z<|ah<|ya (cs:=_) Z Z Z<|za (iR Z)<|z6<|ah<|ac jj jh Z Z<|aa Z<|zr Z (zm (.rest _)) (Az f hE hn 0 shut (Int.le_refl _) (by omega)) ?_
 rintro r8 O8 ⟨i8,rfl,rfl⟩
 refine za (lj Z)<|z6<|ah<|za (gQ Z)<|aa Z<|aL Z Z<|za (yu (j:=0) Z1 Zj Z Z Z ⟨_,.head⟩ (by rw[aS,km]) hpos)<|ax.storeB (j:=0) Zj Z Z .head (by rw[km];exact hpos)<|z6<|ah<|za (gQ Z)<|za (lj Z)<|z6 ?_
 rw[show (!decide (shut=0))=decide (shut≠0) by simp,xa]
 refine zy (aX.knowB (t:=4) Z .head (om _ _ _))<|zh<|zk (x:=.fro _ _) Z ?_
 rfl
end Go.Proofs.YtdilpodccjlkgaaGreatDoor
namespace Go.Proofs.YtdilpodccjlkgaaGreatDoor
open Go.Proofs.Tryz
open Go.Proofs Go.Lib Go.Shelf Go.RowKit
variable {E:World}
set_option maxRecDepth 20000
set_option maxHeartbeats 4000000 in
theorem uW (f:ad) (hf:small f) (v:Nat):aI prog E 42 [.agg (bD f),.int .i64 v] (.tup [.int .i64 (aF f v).1,.int .i64 (aF f v).2]):=by
 have hn:=hf.2.2.1
 refine zo func42 Z (by decide) Z<|ah<|ya (cs:=_) Z Z Z<|ao Z<|ao Z<|z6<|zd<|ah<|aq je Z Z0 Z Z<|aH Zb Z<|ap ji Z<|aa Z<|z6<|zj<|y8 (γ:=Nat) [1,13,14] (fun k=>[(15,.int .i64 k)]) (fun k=>[]) (fun k=>k≤f.blocks.length∧iU v (cX f k)=0) (fun k=>f.blocks.length - k) 0 aJ aE (⟨ql _,Z⟩) ?_
 rintro k ⟨hk,hc⟩
 refine ah<|aw Z Z<|z6<|zd<|zw Z (fun ck=>?_) (fun ck=>?_)
 ·have hk2:k<f.blocks.length:=by simp at ck;omega
  obtain ⟨b,hbk⟩:∃b,f.blocks[k]=b:=⟨_,rfl⟩
  have hget:f.blocks[k]?=some b:=by rw[qi hk2,hbk]
  have hmem:b∈f.blocks:=hbk▸qm hk2
  obtain ⟨hb0,hb1,hb2,hb3,hb4⟩:=hf.2.2.2.2 b hmem
  refine zg<|zd<|zj<|ah<|aa Z<|za (bx k ji ju Z Z Z hget)<|ac Y4 ju Z Z<|y5 (cs:=[.str ⟨#[]⟩,.raw (.slice none 0 0),.raw (.slice none 0 0),.int .i64 0,.int .i64 0,.int .i64 0,.int .i64 0]) Zc Z Z<|fun i7=>ao Z<|zz ju Z Z Z Z Z Z .head Z<|ze (yd (t:=7) Z .head)<|z6<|zd<|ah<|aq jg Z Y9 Z Z<|aH Yj Z<|ap jz Z<|aa Z<|z6<|zj<|y8 (γ:=Nat) [1,6,7,13,14,15,21,22] (fun j=>[(23,.int .i64 j)]) (fun j=>[]) (fun j=>j≤b.phis.length∧iU v (cX f k++cZ k (b.phis.take j))=0) (fun j=>b.phis.length - j) 0 aJ aE (⟨ql _,by rw[show cZ k (b.phis.take 0)=[] from rfl,qu];exact hc⟩) ?_
  rintro j ⟨hj,hcj⟩
  refine ah<|aw Z Z<|z6<|zd<|zw Z (fun cj=>?_) (fun cj=>?_)
  ·have hj2:j<b.phis.length:=by simp at cj;omega
   have hpre:=BI hk2 hbk hj2
   have hsc:=kn v (cX f k++cZ k (b.phis.take j)) b.phis[j].dst ((k:Int),(-1:Int))
   rw[qk,←kh k hj2] at hsc
   refine zg<|zd<|zj<|ah<|za (bx j jz Z8 Z Z Z (qi hj2))<|ac Yo Z8 Z Z<|y5 (cs:=[.int .i64 0,.raw (.slice none 0 0),.raw (.slice none 0 0)]) Y6 Z Z<|fun i9=>zz Z8 Z Z Z Z Z Z .head Z<|ze (yd (t:=9) Z .head)<|z6<|ah<|aq jx Z wz Z Z<|ay j6 Z<|aa Z<|ak Z Z<|z6<|zu Z (fun cd=>?_) (fun cd=>?_)
   ·have hd:b.phis[j].dst=(v:Int):=by simpa using cd
    rw[hd] at hpre
    refine ah<|aa Z<|ao Z<|ao Z<|z6<|zh<|qc (x:=.int _ _) (y:=.int _ _) Z Z ?_
    rw[pU hpre hcj]
   ·have hd:¬b.phis[j].dst=(v:Int):=by simpa using cd
    refine zg<|aV<|aC Z Z<|aa Z<|z6 ?_
    exact ⟨j+1,vh,aJ,aE,⟨hj2,by rw[hsc,if_neg hd,hcj]⟩,by omega⟩
  ·have hjn:j=b.phis.length:=by simp at cj;omega
   subst hjn
   rw[qn] at hcj
   refine y7<|ah<|aq jg Z Zd Z Z<|aH Zs Z<|ap jt Z<|aa Z<|z6<|zj<|y8 (γ:=Nat) [1,6,13,14,15,34,35] (fun j=>[(36,.int .i64 j)]) (fun j=>[]) (fun j=>j≤b.insts.length∧iU v (cX f k++cZ k b.phis++fQ k (b.insts.take j))=0) (fun j=>b.insts.length - j) 0 aJ aE (⟨ql _,by rw[show fQ k (b.insts.take 0)=[] from rfl,qu];exact hcj⟩) ?_
   rintro j ⟨hj,hci⟩
   refine ah<|aw Z Z<|z6<|zd<|zw Z (fun cj=>?_) (fun cj=>?_)
   ·have hj2:j<b.insts.length:=by simp at cj;omega
    have hev:=gY k hj2
    refine zg<|zd<|zj<|ah<|aa Z<|za (bx j jt jk Z Z Z (qi hj2))<|ac Zn jk Z Z<|y5 (cs:=[.int .i64 0,.int .i64 0,.raw (.slice none 0 0),.int .i64 0]) Z5 Z Z<|fun i11=>ao Z<|zz jk Z Z Z Z Z Z .head Z<|ze (yd (t:=11) Z .head)<|z6<|ah<|aq wy Z wz Z Z<|ay j6 Z<|aa Z<|ak Z Z<|z6<|zu Z (fun cd=>?_) (fun cd=>?_)
    ·have hd:b.insts[j].dst=(v:Int):=by simpa using cd
     have hpre:=zQ hk2 hbk hj2 (by omega)
     rw[hd] at hpre
     refine ah<|aa Z<|aa Z<|ao Z<|ao Z<|z6<|zh<|qc (x:=.int _ _) (y:=.int _ _) Z Z ?_
     rw[pU hpre hci]
    ·have hd:¬b.insts[j].dst=(v:Int):=by simpa using cd
     have hsc:iU v (cX f k++cZ k b.phis++fQ k (b.insts.take (j+1)))=0:=by
      rw[hev]
      split
      ·rw[←qk,kn,if_neg hd,hci]
      ·rw[qu];exact hci
     refine zg<|aV<|aC Z Z<|aa Z<|z6 ?_
     exact ⟨j+1,kA,aJ,aE,⟨hj2,hsc⟩,by omega⟩
   ·have hjn:j=b.insts.length:=by simp at cj;omega
    subst hjn
    rw[qn] at hci
    refine y7<|aV<|aC Z Z<|aa Z<|z6 ?_
    exact ⟨k+1,dy,aJ,aE,⟨hk2,by rw[fD hk2,hbk,n7,←qk];exact hci⟩,by omega⟩
 ·have hkn:k=f.blocks.length:=by simp at ck;omega
  subst hkn
  refine y7<|ah<|ao Z<|ao Z<|z6<|zh<|qc (x:=.int _ _) (y:=.int _ _) Z Z ?_
  rw[uD hc]
set_option maxHeartbeats 4000000 in
theorem mX (f:ad) (hf:small f) (v:Nat):aI prog E 79 [.agg (bD f),.int .i64 v] (.int .i64 (aZ f v).length):=by
 have hn:=hf.2.2.1
 refine zo func79 Z (by decide) Z<|ah<|ya (cs:=_) Z Z Z<|ao Z<|z6<|ah<|ao Z<|z6<|zd<|ah<|aq je Z Z0 Z Z<|aH Zb Z<|ap ji Z<|aa Z<|z6<|zj<|y8 (γ:=Nat) [1,13,14] (fun k=>[(15,.int .i64 k),(5,.int .i64 (iU v (cX f k)))]) (fun k=>[]) (fun k=>k≤f.blocks.length) (fun k=>f.blocks.length - k) 0 eZ aE (ql _) ?_
 rintro k hk
 refine ah<|aw Z Z<|z6<|zd<|zw Z (fun ck=>?_) (fun ck=>?_)
 ·have hk2:k<f.blocks.length:=by simp at ck;omega
  obtain ⟨b,hbk⟩:∃b,f.blocks[k]=b:=⟨_,rfl⟩
  have hget:f.blocks[k]?=some b:=by rw[qi hk2,hbk]
  have hmem:b∈f.blocks:=hbk▸qm hk2
  obtain ⟨hb0,hb1,hb2,hb3,hb4⟩:=hf.2.2.2.2 b hmem
  have hel:=hf.evs hk
  refine zg<|zd<|zj<|ah<|za (bx k ji ju Z Z Z hget)<|ac Y4 ju Z Z<|y5 (cs:=[.str ⟨#[]⟩,.raw (.slice none 0 0),.raw (.slice none 0 0),.int .i64 0,.int .i64 0,.int .i64 0,.int .i64 0]) Zc Z Z<|fun i7=>zz ju Z Z Z Z Z Z .head Z<|ze (yd (t:=7) Z .head)<|z6<|zd<|ah<|aq jg Z Y9 Z Z<|aH Yj Z<|ap jz Z<|aa Z<|z6<|zj<|y8 (γ:=Nat) [1,7,13,14,15,20,21] (fun j=>[(22,.int .i64 j),(5,.int .i64 (iU v (cX f k++cZ k (b.phis.take j))))]) (fun j=>[]) (fun j=>j≤b.phis.length) (fun j=>b.phis.length - j) 0 ⟨Z,(by rw[show cZ k (b.phis.take 0)=[] from rfl,qu];rfl),trivial⟩ aE (ql _) ?_
  rintro j hj
  refine ah<|aw Z Z<|z6<|zd<|zw Z (fun cj=>?_) (fun cj=>?_)
  ·have hj2:j<b.phis.length:=by simp at cj;omega
   have hsc:=kn v (cX f k++cZ k (b.phis.take j)) b.phis[j].dst ((k:Int),(-1:Int))
   rw[qk,←kh k hj2] at hsc
   have hcl:iU v (cX f k++cZ k (b.phis.take j))≤2001000:=by
    have h1:=vJ v (cX f k++cZ k (b.phis.take j))
    have h2:(cZ k (b.phis.take j)).length≤1000:=by unfold cZ;rw[qp,List.length_take];omega
    rw[qo] at h1;omega
   refine zg<|zd<|zj<|ah<|za (bx j jz Z8 Z Z Z (qi hj2))<|ac Yo Z8 Z Z<|y5 (cs:=[.int .i64 0,.raw (.slice none 0 0),.raw (.slice none 0 0)]) Y6 Z Z<|fun i9=>zz Z8 Z Z Z Z Z Z .head Z<|ze (yd (t:=9) Z .head)<|z6<|ah<|aq jx Z wz Z Z<|ay j6 Z<|aa Z<|ak Z Z<|z6<|zu Z (fun cd=>?_) (fun cd=>?_)
   ·have hd:b.phis[j].dst=(v:Int):=by simpa using cd
    rw[if_pos hd] at hsc
    refine aV<|aa Z<|aC Z Z<|ao Z<|z6<|aV<|aC Z Z<|aa Z<|z6 ?_
    exact ⟨j+1,kA,⟨rfl,(by rw[hsc];rfl),trivial⟩,aE,hj2,by omega⟩
   ·have hd:¬b.phis[j].dst=(v:Int):=by simpa using cd
    rw[if_neg hd] at hsc
    refine zg<|aV<|aC Z Z<|aa Z<|z6 ?_
    exact ⟨j+1,kA,⟨rfl,(by rw[hsc];rfl),trivial⟩,aE,hj2,by omega⟩
  ·have hjn:j=b.phis.length:=by simp at cj;omega
   subst hjn
   rw[qn]
   refine y7<|ah<|aq jg Z Zd Z Z<|aH Zs Z<|ap jt Z<|aa Z<|z6<|zj<|y8 (γ:=Nat) [1,13,14,15,34,35] (fun j=>[(36,.int .i64 j),(5,.int .i64 (iU v (cX f k++cZ k b.phis++fQ k (b.insts.take j))))]) (fun j=>[]) (fun j=>j≤b.insts.length) (fun j=>b.insts.length - j) 0 ⟨Z,(by rw[show fQ k (b.insts.take 0)=[] from rfl,qu];rfl),trivial⟩ aE (ql _) ?_
   rintro j hj
   refine ah<|aw Z Z<|z6<|zd<|zw Z (fun cj=>?_) (fun cj=>?_)
   ·have hj2:j<b.insts.length:=by simp at cj;omega
    have hcl:iU v (cX f k++cZ k b.phis++fQ k (b.insts.take j))≤2002000:=by
     have h1:=vJ v (cX f k++cZ k b.phis++fQ k (b.insts.take j))
     have h2:(cZ k b.phis).length≤1000:=by unfold cZ;rw[qp];omega
     have h3:=n8 k (b.insts.take j)
     rw[List.length_take] at h3
     rw[qo,qo] at h1;omega
    have hsc:iU v (cX f k++cZ k b.phis++fQ k (b.insts.take (j+1)))=iU v (cX f k++cZ k b.phis++fQ k (b.insts.take j))+if b.insts[j].dst=(v:Int) then 1 else 0:=by
     rw[gY k hj2]
     split
     ·rw[←qk,kn]
     ·rw[qu,if_neg (by omega)];rfl
    refine zg<|zd<|zj<|ah<|za (bx j jt jk Z Z Z (qi hj2))<|ac Zn jk Z Z<|y5 (cs:=[.int .i64 0,.int .i64 0,.raw (.slice none 0 0),.int .i64 0]) Z5 Z Z<|fun i11=>zz jk Z Z Z Z Z Z .head Z<|ze (yd (t:=11) Z .head)<|z6<|ah<|aq wy Z wz Z Z<|ay j6 Z<|aa Z<|ak Z Z<|z6<|zu Z (fun cd=>?_) (fun cd=>?_)
    ·have hd:b.insts[j].dst=(v:Int):=by simpa using cd
     rw[if_pos hd] at hsc
     refine aV<|aa Z<|aC Z Z<|ao Z<|z6<|aV<|aC Z Z<|aa Z<|z6 ?_
     exact ⟨j+1,AP,⟨rfl,(by rw[hsc];rfl),trivial⟩,aE,hj2,by omega⟩
    ·have hd:¬b.insts[j].dst=(v:Int):=by simpa using cd
     rw[if_neg hd] at hsc
     refine zg<|aV<|aC Z Z<|aa Z<|z6 ?_
     exact ⟨j+1,AP,⟨rfl,(by rw[hsc];rfl),trivial⟩,aE,hj2,by omega⟩
   ·have hjn:j=b.insts.length:=by simp at cj;omega
    subst hjn
    rw[qn]
    refine y7<|aV<|aC Z Z<|aa Z<|z6 ?_
    exact ⟨k+1,dy,⟨rfl,(by rw[fD hk2,hbk,n7,←qk];rfl),trivial⟩,aE,hk2,by omega⟩
 ·have hkn:k=f.blocks.length:=by simp at ck;omega
  subst hkn
  refine y7<|ah<|aa Z<|ao Z<|z6<|zh<|zk (x:=.int _ _) Z ?_
  rw[sX]
theorem pg (f:ad) (hE:bE f) (hf:small f) (v:Nat) (b a:Int) (h0:0≤b) (hb:b<f.blocks.length):aI prog E 80 [.agg (bD f),.int .i64 v,.int .i64 b,.int .i64 a] (.bool (dW f (aF f v) b a)):=by
 have hn:=hf.2.2.1
 refine zo func80 Z (by decide) Z<|ah<|ya (cs:=_) Z Z Z<|ab Z<|z6<|ah<|ac jj jh Z Z<|aa Z<|zf (uW f hf v) Z<|za (iW Z)<|za (iJ Z Z)<|za (iJ Z Z)<|ao Z<|ao Z<|z6<|zd<|zj<|ah<|aa Z<|aw Z Z<|ab Z<|z6<|zw Z (fun c0=>?_) (fun c0=>?_)
 ·refine ah<|ab Z<|z6<|zh<|zk (x:=.bool _) Z ?_
  rw[dW,if_pos c0]
 ·refine ah<|aa Z<|aa Z<|ak Z Z<|ab Z<|z6<|zu Z (fun c1=>?_) (fun c1=>?_)
  ·have d1:(aF f v).1=b:=by simpa using c1
   refine ah<|aa Z<|aa Z<|aw Z Z<|ab Z<|z6<|zh<|zk (x:=.bool _) Z ?_
   rw[dW,if_neg c0,if_pos d1]
  ·have d1:¬(aF f v).1=b:=by simpa using c1
   have hg:=kY (E:=ae f) (n:=f.blocks.length) (k:=b.toNat) (shut:=(aF f v).1) (by omega)
   rw[show ((b.toNat:Nat):Int)=b by omega] at hg
   refine zg<|ah<|ac jj jh Z Z<|aa Z<|zf (lH f hE hn (aF f v).1) Z<|aa Z<|za (bx b.toNat Z1 Zj Z Z (by omega) hg)<|za (yo (c:=.bool _) Yh Z)<|aD Z<|ab Z<|z6<|zh<|zk (x:=.bool _) Z ?_
   rw[dW,if_neg c0,if_neg d1]
end Go.Proofs.YtdilpodccjlkgaaGreatDoor
