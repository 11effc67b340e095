/- The document's makers; its single and plain. Of programs that are little. -/
import Derived.Test.YtdilpodccjlkgaaGreatDoorZr
import Derived.Test.YtdilpodccjlkgaaGreatDoorZo
import Derived.Test.YtdilpodccjlkgaaGreatDoorZq
import Derived.Test.YtdilpodccjlkgaaGreatDoorZp
import Derived.Test.YtdilpodccjlkgaaGreatDoorZm
set_option linter.unusedVariables false
set_option linter.unusedSimpArgs false
set_option linter.unusedSectionVars false
namespace Go.Proofs.YtdilpodccjlkgaaGreatDoor
open Go.Proofs.Tryz
open Go.Proofs Go.Lib Go.Shelf Go.RowKit
variable {E:World}
set_option maxRecDepth 20000
theorem eb (p q:Bool):aM prog E 118 [.bool p,.bool q] (.int .i64 (fY p q)):=by
 refine zp func118 Z (by decide) Z<|ai<|ao Z<|z6<|zd<|zm<|ai<|aj Z<|ab Z<|z6<|zy Z (fun c=>?_) (fun c=>?_)
 ·refine ai<|ao Z<|z6<|zg<|zn (x:=.int _ _) Z ?_
  unfold fY;rw[if_pos (show p=true from c)]
 ·refine ai<|aj Z<|ab Z<|z6<|zy Z (fun d=>?_) (fun d=>?_)
  ·refine ai<|ao Z<|z6<|zg<|zn (x:=.int _ _) Z ?_
   unfold fY;rw[if_neg (by rw[show p=false from c];decide),if_pos (show q=true from d)]
  ·refine zi<|ai<|ao Z<|z6<|zg<|zn (x:=.int _ _) Z ?_
   unfold fY;rw[if_neg (by rw[show p=false from c];decide),if_neg (by rw[show q=false from d];decide)]
def Af (E:World) (f:ac) (K:KS) (t pr:AV) (bk n:Nat):Prop:=∀(es:List (Int × Int)) (v:Int),bc f v=true→ro f v<n→Ec f K es →
 aY prog E 73 [xE f K t pr,.int .i64 v,dy bk] [(0,iZ bk (mI es))] (fun y O=>∃g:List (Int × Int),y=.int .i64 (dK f K v)∧O=[(0,iZ bk (mI g))]∧Ec f K g)
set_option maxHeartbeats 16000000 in
theorem DM (f:ac) (hR:b5 f) (hv:f.vars.length≤1000) (K:KS) (hK:KB f K) (t pr:AV) (bk n:Nat) (ih:Af E f K t pr bk n):Af E f K t pr bk (n+1):=by
 intro es v hvv hrk hKn
 refine qa (γ:=List (Int × Int)) (x:=fun _=>.int .i64 (dK f K v)) (M:=fun g=>[(0,iZ bk (mI g))]) (p:=fun g=>Ec f K g) ?_
 have flw:=fun a b c ha hb=>HQ (E:=E) hv hK (a:=a) (b:=b) ha hb c
 have hM:=vH (E:=E) (K:=K) (t:=t) (pr:=pr) hvv
 have hM2:=fun y=>vI (E:=E) (K:=K) (t:=t) (pr:=pr) hvv (y:=y)
 unfold Af at ih
 unfold xE wQ at *
 unfold yO at *
 refine zp func73 Z (by decide) Z ?_
 rcases hg:ag v (mI es) with _|z
 ·refine ai<|ao Z<|z6<|zd<|ai<|za (yv (v:=dy _) Z)<|aa Z<|za (Gv.lookupA (zx:=.int .i64 0) hg underlying139 Zy Zv (fun _=>Z) Z Z ⟨_,.head⟩)<|za (ke Z)<|za (iN Z Z)<|za (jJ Z Z)<|ao Z<|ab Z<|z6<|ai<|aj Z<|z6<|yg Z Z ?_
  rcases hm:dx f v with _|x
  ·refine zi<|ai<|za (fc Z)<|aa Z<|zh (hM hm) Z<|za (ke Z)<|za (q9 (v:=.agg _) Z Z)<|za (jJ Z Z)<|y7 (cs:=[.int .i64 0,.int .i64 0,.raw (.slice none 0 0),.int .i64 0]) Zh Z Z<|fun i9=>y1 jy Z Z Z Z Z Z .head Z<|ze (yd (t:=9) Z .head)<|ab Z<|z6<|ai<|ao Z<|z6<|zd<|zm<|ai<|aj Z<|aC Z<|ab Z<|z6<|yt Z Z<|zi<|ai<|za (yv (v:=dy _) Z)<|aa Z<|aa Z<|az.mapSetA (v:=.int _ _) underlying139 Zy Z Z Z .head<|z6<|ai<|aa Z<|ao Z<|z6<|zg<|zn (x:=.int _ _) Z ?_
   exact ⟨Hk v (dK f K v) es,(by rw[Ad hR hm]),⟨_,.refl _,by rw[←Ae,Ad hR hm]⟩,hKn.put v⟩
  ·obtain ⟨hF,_,_⟩:=hR.madeF hm
   have a0:∀{k:Int},x.op=k→0<([0,1,2,2,2,2,2,2,2,2,1,2,1,2,3,1,0,1,2,1,1,2,2,2,1,2,2][k.toNat]?).getD 0→(bc f (bj x)=true∧ro f (bj x)<n)∧0<x.args.length∧aU f (bj x):=fun e h=>by
    have hl:0<x.args.length:=by rw[hF.cnt e];exact h
    have:=hR.rk0 hm hl
    exact ⟨⟨qW (hF.a0 hl),by omega⟩,hl,cO (hF.a0 hl)⟩
   have a1:∀{k:Int},x.op=k→1<([0,1,2,2,2,2,2,2,2,2,1,2,1,2,3,1,0,1,2,1,1,2,2,2,1,2,2][k.toNat]?).getD 0→(bc f (b7 x)=true∧ro f (b7 x)<n)∧1<x.args.length∧aU f (b7 x):=fun e h=>by
    have hl:1<x.args.length:=by rw[hF.cnt e];exact h
    have:=hR.rk1 hm hl
    exact ⟨⟨qW (hF.a1 hl),by omega⟩,hl,cO (hF.a1 hl)⟩
   refine zi<|ai<|za (fc Z)<|aa Z<|zh (hM2 x hm) Z<|za (ke Z)<|za (q9 (v:=.agg _) Z Z)<|za (jJ Z Z)<|y7 (cs:=[.int .i64 0,.int .i64 0,.raw (.slice none 0 0),.int .i64 0]) Zh Z Z<|fun i9=>y1 jy Z Z Z Z Z Z .head Z<|ze (yd (t:=9) Z .head)<|ab Z<|z6<|ai<|ao Z<|z6<|zd<|ye (γ:=List (Int × Int)) [1,2] (fun g=>[(11,.int .i64 (dK f K v))]) (fun g=>[(0,iZ bk (mI g))]) (fun g=>Ec f K g) ?_ (fun _ _ h=>h) ?_
   ·refine zm<|ai<|aj Z<|aC Z<|ab Z<|z6<|yg Z Z<|ai<|au j5 Z Z2 Z Z<|aA Z4 Z<|ak Z Z<|ab Z<|z6<|zt Z (fun c8=>?_) (fun c8=>?_)
    ·have c8:x.op=8:=c8
     obtain ⟨_,l0,n0⟩:=a0 c8 (by decide)
     obtain ⟨_,l1,n1⟩:=a1 c8 (by decide)
     rw[IE hR hm c8]
     refine zr (fun j=>false) (by kernel_rfl) Z (zj (.rest _))<|ad 0 Z (fc Z)<|ad 1 Z (yk Z)<|ad 2 Z (bK j9 Z Z7 Z Z)<|ad 3 Z (yx (c:=.pf _) Zf Z)<|ad 4 Z (bK j5 Z j7 Z Z)<|ad 5 Z (e9 jf Z)<|ad 6 Z (bv 0 wy wz Z Z Z (cU l0))<|ad 7 Z (cQ j6 Z)<|ad 8 Z (bK j5 Z j7 Z Z)<|ad 9 Z (e9 jf Z)<|ad 10 Z (bv 1 wy wz Z Z Z (du l1))<|ad 11 Z (cQ j6 Z)<|ad 13 Z (fc Z)<|ad 14 Z (yk Z)<|ad 15 Z (bK j9 Z Z7 Z Z)<|ad 16 Z (yx (c:=.pf _) Zf Z)<|ad 17 Z (bK j5 Z j7 Z Z)<|ad 18 Z (e9 jf Z)<|ad 19 Z (bv 1 wy wz Z Z Z (du l1))<|ad 20 Z (cQ j6 Z)<|ad 21 Z (bK j5 Z j7 Z Z)<|ad 22 Z (e9 jf Z)<|ad 23 Z (bv 0 wy wz Z Z Z (cU l0))<|ad 24 Z (cQ j6 Z)<|aQ 12 Z<|zh (flw _ _ (-1) n0 n1) Z<|z6<|aQ 25 Z<|zh (flw _ _ 0 n1 n0) Z<|z6<|aQ 26 Z<|zh (eb _ _) Z<|z6<|ad 27 Z (mY Z)<|bI ?_
     exact ⟨es,(by repeat (first|with_reducible exact y5 _ _|refine yn rfl ?_)),aK,aH,hKn⟩
    ·refine ai<|au j5 Z Z2 Z Z<|aA Z4 Z<|ak Z Z<|ab Z<|z6<|zt Z (fun c9=>?_) (fun c9=>?_)
     ·have c9:x.op=9:=c9
      obtain ⟨_,l0,n0⟩:=a0 c9 (by decide)
      obtain ⟨_,l1,n1⟩:=a1 c9 (by decide)
      rw[IF hR hm c9]
      refine zr (fun j=>false) (by kernel_rfl) Z (zj (.rest _))<|ad 0 Z (fc Z)<|ad 1 Z (yk Z)<|ad 2 Z (bK j9 Z Z7 Z Z)<|ad 3 Z (yx (c:=.pf _) Zf Z)<|ad 4 Z (bK j5 Z j7 Z Z)<|ad 5 Z (e9 jf Z)<|ad 6 Z (bv 0 wy wz Z Z Z (cU l0))<|ad 7 Z (cQ j6 Z)<|ad 8 Z (bK j5 Z j7 Z Z)<|ad 9 Z (e9 jf Z)<|ad 10 Z (bv 1 wy wz Z Z Z (du l1))<|ad 11 Z (cQ j6 Z)<|ad 13 Z (fc Z)<|ad 14 Z (yk Z)<|ad 15 Z (bK j9 Z Z7 Z Z)<|ad 16 Z (yx (c:=.pf _) Zf Z)<|ad 17 Z (bK j5 Z j7 Z Z)<|ad 18 Z (e9 jf Z)<|ad 19 Z (bv 1 wy wz Z Z Z (du l1))<|ad 20 Z (cQ j6 Z)<|ad 21 Z (bK j5 Z j7 Z Z)<|ad 22 Z (e9 jf Z)<|ad 23 Z (bv 0 wy wz Z Z Z (cU l0))<|ad 24 Z (cQ j6 Z)<|aQ 12 Z<|zh (flw _ _ 0 n0 n1) Z<|z6<|aQ 25 Z<|zh (flw _ _ (-1) n1 n0) Z<|z6<|aQ 26 Z<|zh (eb _ _) Z<|z6<|ad 27 Z (mY Z)<|bI ?_
      exact ⟨es,(by repeat (first|with_reducible exact y5 _ _|refine yn rfl ?_)),aK,aH,hKn⟩
     ·refine ai<|au j5 Z Z2 Z Z<|aA Z4 Z<|ak Z Z<|ab Z<|z6<|zt Z (fun c7=>?_) (fun c7=>?_)
      ·have c7:x.op=7:=c7
       obtain ⟨_,l0,n0⟩:=a0 c7 (by decide)
       obtain ⟨_,l1,n1⟩:=a1 c7 (by decide)
       rw[IG hR hm c7]
       refine zd<|zr (fun j=>false) (by kernel_rfl) Z (zj (.rest _))<|ad 0 Z (bK j5 Z j7 Z Z)<|ad 1 Z (e9 jf Z)<|ad 2 Z (bv 0 wy wz Z Z Z (cU l0))<|ad 3 Z (cQ j6 Z)<|ad 4 Z (bK j5 Z j7 Z Z)<|ad 5 Z (e9 jf Z)<|ad 6 Z (bv 1 wy wz Z Z Z (du l1))<|ad 7 Z (cQ j6 Z)<|ad 8 Z (mY Z)<|ad 9 Z (mY Z)<|bI<|zr (fun j=>false) (by kernel_rfl) Z (zj (.rest _))<|ad 0 Z (fc Z)<|ad 1 Z (yk Z)<|ad 2 Z (bK j9 Z Z7 Z Z)<|ad 3 Z (yx (c:=.pf _) Zf Z)<|ad 4 Z (cD Z)<|ad 5 Z (cD Z)<|ad 16 Z (fc Z)<|ad 17 Z (yk Z)<|ad 18 Z (bK j9 Z Z7 Z Z)<|ad 19 Z (yx (c:=.pf _) Zf Z)<|ad 20 Z (cD Z)<|ad 21 Z (cD Z)<|aQ 6 Z<|zh (flw _ _ 0 n0 n1) Z<|z6<|ad 7 Z (m5 Z)<|qj (s:=115) Z (fun c1=>?_) (fun c1=>?_)
       ·refine cG 8 Z Z Z c1 (fc Z)<|cG 9 Z Z Z c1 (yk Z)<|cG 10 Z Z Z c1 (bK j9 Z Z7 Z Z)<|cG 11 Z Z Z c1 (yx (c:=.pf _) Zf Z)<|cG 12 Z Z Z c1 (cD Z)<|cG 13 Z Z Z c1 (cD Z)<|aQ 14 Z<|z8 Z Z c1<|zh (flw _ _ 0 n1 n0) Z<|z6<|ad 15 Z (sX Z c1 Z)<|aQ 22 Z<|zh (flw _ _ (-1) n0 n1) Z<|z6<|ad 23 Z (m5 Z)<|qj (s:=131) Z (fun c2=>?_) (fun c2=>?_)
        ·refine bX 24 Z Z Z c2<|bX 25 Z Z Z c2<|bX 26 Z Z Z c2<|bX 27 Z Z Z c2<|bX 28 Z Z Z c2<|bX 29 Z Z Z c2<|bX 30 Z Z Z c2<|ad 31 Z (sX Z c2 Z)<|aQ 32 Z<|zh (eb _ _) Z<|z6<|ad 33 Z (mY Z)<|bI ?_
         exact ⟨es,(by repeat (first|with_reducible exact y5 _ _|refine yn rfl ?_)),⟨(by show AV.int .i64 _=AV.int .i64 _;simp_all),trivial⟩,aH,hKn⟩
        ·refine cG 24 Z Z Z c2 (fc Z)<|cG 25 Z Z Z c2 (yk Z)<|cG 26 Z Z Z c2 (bK j9 Z Z7 Z Z)<|cG 27 Z Z Z c2 (yx (c:=.pf _) Zf Z)<|cG 28 Z Z Z c2 (cD Z)<|cG 29 Z Z Z c2 (cD Z)<|aQ 30 Z<|z8 Z Z c2<|zh (flw _ _ (-1) n1 n0) Z<|z6<|ad 31 Z (rz Z c2 Z)<|aQ 32 Z<|zh (eb _ _) Z<|z6<|ad 33 Z (mY Z)<|bI ?_
         exact ⟨es,(by repeat (first|with_reducible exact y5 _ _|refine yn rfl ?_)),⟨(by show AV.int .i64 _=AV.int .i64 _;simp_all),trivial⟩,aH,hKn⟩
       ·refine bX 8 Z Z Z c1<|bX 9 Z Z Z c1<|bX 10 Z Z Z c1<|bX 11 Z Z Z c1<|bX 12 Z Z Z c1<|bX 13 Z Z Z c1<|bX 14 Z Z Z c1<|ad 15 Z (rz Z c1 Z)<|aQ 22 Z<|zh (flw _ _ (-1) n0 n1) Z<|z6<|ad 23 Z (m5 Z)<|qj (s:=131) Z (fun c3=>?_) (fun c3=>?_)
        ·refine bX 24 Z Z Z c3<|bX 25 Z Z Z c3<|bX 26 Z Z Z c3<|bX 27 Z Z Z c3<|bX 28 Z Z Z c3<|bX 29 Z Z Z c3<|bX 30 Z Z Z c3<|ad 31 Z (sX Z c3 Z)<|aQ 32 Z<|zh (eb _ _) Z<|z6<|ad 33 Z (mY Z)<|bI ?_
         exact ⟨es,(by repeat (first|with_reducible exact y5 _ _|refine yn rfl ?_)),⟨(by show AV.int .i64 _=AV.int .i64 _;simp_all),trivial⟩,aH,hKn⟩
        ·refine cG 24 Z Z Z c3 (fc Z)<|cG 25 Z Z Z c3 (yk Z)<|cG 26 Z Z Z c3 (bK j9 Z Z7 Z Z)<|cG 27 Z Z Z c3 (yx (c:=.pf _) Zf Z)<|cG 28 Z Z Z c3 (cD Z)<|cG 29 Z Z Z c3 (cD Z)<|aQ 30 Z<|z8 Z Z c3<|zh (flw _ _ (-1) n1 n0) Z<|z6<|ad 31 Z (rz Z c3 Z)<|aQ 32 Z<|zh (eb _ _) Z<|z6<|ad 33 Z (mY Z)<|bI ?_
         exact ⟨es,(by repeat (first|with_reducible exact y5 _ _|refine yn rfl ?_)),⟨(by show AV.int .i64 _=AV.int .i64 _;simp_all),trivial⟩,aH,hKn⟩
      ·refine ai<|au j5 Z Z2 Z Z<|aA Z4 Z<|ak Z Z<|ab Z<|z6<|zt Z (fun c1=>?_) (fun c1=>?_)
       ·have c1:x.op=1:=c1
        obtain ⟨h0,l0,n0⟩:=a0 c1 (by decide)
        rw[IH hR hm c1 l0]
        refine aW<|za (fc Z)<|au j5 Z j7 Z Z<|aI jf Z<|za (bv 0 wy wz Z Z Z (cU l0))<|aA j6 Z<|za (yv (v:=dy _) Z)<|zu Z (zj (.l (.rest _))) (ih es _ h0.1 h0.2 hKn) ?_
        rintro r151 O151 ⟨g1,rfl,rfl,hk1⟩
        refine ao Z<|z6 ?_
        exact ⟨g1,(by repeat (first|with_reducible exact y5 _ _|refine yn rfl ?_)),aK,aH,hk1⟩
       ·refine ai<|au j5 Z Z2 Z Z<|aA Z4 Z<|ak Z Z<|ab Z<|z6<|zt Z (fun c10=>?_) (fun c10=>?_)
        ·have c10:x.op=10:=c10
         obtain ⟨h0,l0,n0⟩:=a0 c10 (by decide)
         rw[H0 hR hm c10 l0]
         refine ai<|za (fc Z)<|au j5 Z j7 Z Z<|aI jf Z<|za (bv 0 wy wz Z Z Z (cU l0))<|aA j6 Z<|za (yv (v:=dy _) Z)<|zu Z (zj (.l (.rest _))) (ih es _ h0.1 h0.2 hKn) ?_
         rintro r162 O162 ⟨g1,rfl,rfl,hk1⟩
         refine ao Z<|z6<|aW<|aa Z<|ak Z Z<|aa Z<|ak Z Z<|zh (eb _ _) Z<|ao Z<|z6 ?_
         exact ⟨g1,(by repeat (first|with_reducible exact y5 _ _|refine yn rfl ?_)),aK,aH,hk1⟩
        ·refine ai<|au j5 Z Z2 Z Z<|aA Z4 Z<|ak Z Z<|ab Z<|z6<|zt Z (fun c11=>?_) (fun c11=>?_)
         ·have c11:x.op=11:=c11
          obtain ⟨h0,l0,n0⟩:=a0 c11 (by decide)
          obtain ⟨h1,l1,n1⟩:=a1 c11 (by decide)
          rw[H1 hR hm c11 l1]
          refine zd<|zr (fun j=>false) (by kernel_rfl) Z (zj (.rest _))<|ad 0 Z (fc Z)<|ad 1 Z (bK j5 Z j7 Z Z)<|ad 2 Z (e9 jf Z)<|ad 3 Z (bv 0 wy wz Z Z Z (cU l0))<|ad 4 Z (cQ j6 Z)<|ad 5 Z (yv (v:=dy _) Z)<|ad 7 Z (fc Z)<|ad 8 Z (bK j5 Z j7 Z Z)<|ad 9 Z (e9 jf Z)<|ad 10 Z (bv 1 wy wz Z Z Z (du l1))<|ad 11 Z (cQ j6 Z)<|ad 12 Z (yv (v:=dy _) Z)<|aQ 6 Z<|zu Z (zj (.l (.rest _))) (ih es _ h0.1 h0.2 hKn) ?_
          rintro r178 O178 ⟨g1,rfl,rfl,hk1⟩
          refine z6<|aQ 13 Z<|zu Z (zj (.l (.rest _))) (ih g1 _ h1.1 h1.2 hk1) ?_
          rintro r185 O185 ⟨g2,rfl,rfl,hk2⟩
          refine z6<|ad 14 Z (mY Z)<|ad 15 Z (mY Z)<|bI<|aW<|aa Z<|ak Z Z<|aj Z<|zq (s:=188) Z (fun c4=>?_) (fun c4=>?_)
          ·refine z8 Z Z c4<|aa Z<|z8 Z Z c4<|ak Z Z<|aw Z c4 Z<|aa Z<|ak Z Z<|aj Z<|zq (s:=194) Z (fun c5=>?_) (fun c5=>?_)
           ·refine z7 Z Z c5<|z7 Z Z c5<|aw Z c5 Z<|zh (eb _ _) Z<|ao Z<|z6 ?_
            exact ⟨g2,(by repeat (first|with_reducible exact y5 _ _|refine yn rfl ?_)),⟨(by show AV.int .i64 _=AV.int .i64 _;simp_all),trivial⟩,aH,hk2⟩
           ·refine z8 Z Z c5<|aa Z<|z8 Z Z c5<|ak Z Z<|ax Z c5 Z<|zh (eb _ _) Z<|ao Z<|z6 ?_
            exact ⟨g2,(by repeat (first|with_reducible exact y5 _ _|refine yn rfl ?_)),⟨(by show AV.int .i64 _=AV.int .i64 _;simp_all),trivial⟩,aH,hk2⟩
          ·refine z7 Z Z c4<|z7 Z Z c4<|ax Z c4 Z<|aa Z<|ak Z Z<|aj Z<|zq (s:=194) Z (fun c6=>?_) (fun c6=>?_)
           ·refine z7 Z Z c6<|z7 Z Z c6<|aw Z c6 Z<|zh (eb _ _) Z<|ao Z<|z6 ?_
            exact ⟨g2,(by repeat (first|with_reducible exact y5 _ _|refine yn rfl ?_)),⟨(by show AV.int .i64 _=AV.int .i64 _;simp_all),trivial⟩,aH,hk2⟩
           ·refine z8 Z Z c6<|aa Z<|z8 Z Z c6<|ak Z Z<|ax Z c6 Z<|zh (eb _ _) Z<|ao Z<|z6 ?_
            exact ⟨g2,(by repeat (first|with_reducible exact y5 _ _|refine yn rfl ?_)),⟨(by show AV.int .i64 _=AV.int .i64 _;simp_all),trivial⟩,aH,hk2⟩
         ·rw[Fq hR hm ⟨c8,c9,c7,c1,c10,c11⟩]
          refine zi ?_
          exact ⟨es,(by repeat (first|with_reducible exact y5 _ _|refine yn rfl ?_)),aK,aH,hKn⟩
   ·rintro g1 hk1
    refine ai<|za (yv (v:=dy _) Z)<|aa Z<|aa Z<|az.mapSetA (v:=.int _ _) underlying139 Zy Z Z Z .head<|z6<|ai<|aa Z<|ao Z<|z6<|zg<|zn (x:=.int _ _) Z ?_
    exact ⟨Hk v (dK f K v) g1,rfl,⟨_,.refl _,by rw[←Ae]⟩,hk1.put v⟩
 ·have hz:=hKn v z hg
  subst hz
  refine ai<|ao Z<|z6<|zd<|ai<|za (yv (v:=dy _) Z)<|aa Z<|za (Gv.lookupA (zx:=.int .i64 0) hg underlying139 Zy Zv (fun _=>Z) Z Z ⟨_,.head⟩)<|za (ke Z)<|za (iN Z Z)<|za (jJ Z Z)<|ao Z<|ab Z<|z6<|ai<|aj Z<|z6<|yt Z Z<|ai<|aa Z<|ao Z<|z6<|zg<|zn (x:=.int _ _) Z ?_
  exact ⟨es,rfl,⟨_,.refl _,rfl⟩,hKn⟩
theorem Ag (f:ac) (hR:b5 f) (hv:f.vars.length≤1000) (K:KS) (hK:KB f K) (t pr:AV) (bk:Nat):∀n,Af E f K t pr bk n
 |0=>fun _ _ _ h=>by omega
 |n+1=>DM f hR hv K hK t pr bk n (Ag f hR hv K hK t pr bk n)
end Go.Proofs.YtdilpodccjlkgaaGreatDoor
namespace Go.Proofs.YtdilpodccjlkgaaGreatDoor
open Go.Proofs.Tryz
open Go.Proofs Go.Lib Go.Shelf Go.RowKit
variable {E:World}
set_option maxRecDepth 20000
theorem gh (t:fi) (b:Int):b∈cL t↔(t.kind=0∧t.to0=b)∨(t.kind=1∧(t.to0=b∨t.to1=b)):=by
 unfold cL
 by_cases h0:t.kind=0
 ·rw[if_pos h0];simp[h0];exact eq_comm
 ·rw[if_neg h0]
  by_cases h1:t.kind=1
  ·rw[if_pos h1]
   by_cases h2:t.to0=t.to1
   ·rw[if_pos h2];simp[h1,h2];exact eq_comm
   ·rw[if_neg h2];simp[h1]
    constructor
    ·rintro (h|h);exact .inl h.symm;exact .inr h.symm
    ·rintro (h|h);exact .inl h.symm;exact .inr h.symm
  ·rw[if_neg h1];simp[h0,h1]
theorem mf (f:ac) (hn:f.blocks.length≤1000) (a b:Int) (h0:0≤a) (ha:a<f.blocks.length):aM prog E 82 [.agg (bE f),.int .i64 a,.int .i64 b] (.bool (decide (b∈ah f a))):=by
 obtain ⟨c,hc⟩:∃c,f.blocks[a.toNat]'(by omega)=c:=⟨_,rfl⟩
 have hget:f.blocks[a.toNat]?=some c:=by rw[qt (by omega),hc]
 have hE:ah f a=cL c.term:=by rw[jO h0 (by omega),hc]
 rw[hE]
 refine zp func82 Z (by decide) Z<|ai<|ya (cs:=_) Z Z Z<|ab Z<|z6<|ai<|au jg Z Z8 Z Z<|aI Zg Z<|aa Z<|za (bv a.toNat ju jx Z Z (by omega) hget)<|au ji Z Zo Z Z<|ae isAgg49 Zo Z Z<|y7 (cs:=[.int .i64 0,.int .i64 0,.int .i64 0,.int .i64 0]) zeroValue49 Z Z<|fun i7=>y1 Zo Z Z Z Z Z Z .head Z<|ze (yd (t:=7) Z .head)<|z6<|ai<|au je Z Y0 Z Z<|aA Ye Z<|ak Z Z<|aj Z<|zq (s:=17) Z (fun c1=>?_) (fun c1=>?_)
 ·refine z8 Z Z c1<|au je Z Zd Z Z<|z8 Z Z c1<|za (q3 (j:=0) Z1 wz Z Z Z (by decide) Z)<|z8 Z Z c1<|aA j6 Z<|z8 Z Z c1<|aa Z<|z8 Z Z c1<|ak Z Z<|aw Z c1 Z<|aj Z<|zq (s:=24) Z (fun c2=>?_) (fun c2=>?_)
  ·refine z7 Z Z c2<|z7 Z Z c2<|z7 Z Z c2<|z7 Z Z c2<|zk Z Z<|zk Z Z<|zk Z Z<|zk Z Z<|zk Z Z<|zk Z Z<|zk Z Z<|zk Z Z<|zk Z Z<|zk Z Z<|zk Z Z<|zk Z Z<|z7 Z Z c2<|aw Z c2 Z<|ab Z<|z6<|zg<|zn (x:=.bool _) Z<|congrArg AV.bool ?_;rw[w3];simp only[wg,gh];simp_all
  ·refine z8 Z Z c2<|au je Z Y0 Z Z<|z8 Z Z c2<|aA Ye Z<|z8 Z Z c2<|ak Z Z<|z8 Z Z c2<|aj Z<|zq (s:=28) Z (fun c3=>?_) (fun c3=>?_)
   ·refine z8 Z Z c3<|au je Z Zd Z Z<|z8 Z Z c3<|za (q3 (j:=0) Z1 wz Z Z Z (by decide) Z)<|z8 Z Z c3<|aA j6 Z<|z8 Z Z c3<|aa Z<|z8 Z Z c3<|ak Z Z<|z8 Z Z c3<|aj Z<|zq (s:=34) Z (fun c4=>?_) (fun c4=>?_)
    ·refine z7 Z Z c4<|z7 Z Z c4<|z7 Z Z c4<|z7 Z Z c4<|z7 Z Z c4<|z8 Z Z c3<|aw Z c4 Z<|z8 Z Z c2<|aw Z c3 Z<|ax Z c2 Z<|ab Z<|z6<|zg<|zn (x:=.bool _) Z<|congrArg AV.bool ?_;rw[w3];simp only[wg,gh];simp_all
    ·refine z8 Z Z c4<|au je Z Zd Z Z<|z8 Z Z c4<|za (q3 (j:=1) Z1 wz Z Z Z (by decide) Z)<|z8 Z Z c4<|aA j6 Z<|z8 Z Z c4<|aa Z<|z8 Z Z c4<|ak Z Z<|z8 Z Z c3<|ax Z c4 Z<|z8 Z Z c2<|aw Z c3 Z<|ax Z c2 Z<|ab Z<|z6<|zg<|zn (x:=.bool _) Z<|congrArg AV.bool ?_;rw[w3];simp only[wg,gh];simp_all
   ·refine z7 Z Z c3<|z7 Z Z c3<|z7 Z Z c3<|z7 Z Z c3<|z7 Z Z c3<|z7 Z Z c3<|zk Z Z<|zk Z Z<|zk Z Z<|zk Z Z<|zk Z Z<|z7 Z Z c3<|z8 Z Z c2<|ax Z c3 Z<|ax Z c2 Z<|ab Z<|z6<|zg<|zn (x:=.bool _) Z<|congrArg AV.bool ?_;rw[w3];simp only[wg,gh];simp_all
 ·refine z7 Z Z c1<|z7 Z Z c1<|z7 Z Z c1<|z7 Z Z c1<|z7 Z Z c1<|ax Z c1 Z<|aj Z<|z8 Z Z Z<|au je Z Y0 Z Z<|z8 Z Z Z<|aA Ye Z<|z8 Z Z Z<|ak Z Z<|z8 Z Z Z<|aj Z<|zq (s:=28) Z (fun c5=>?_) (fun c5=>?_)
  ·refine z8 Z Z c5<|au je Z Zd Z Z<|z8 Z Z c5<|za (q3 (j:=0) Z1 wz Z Z Z (by decide) Z)<|z8 Z Z c5<|aA j6 Z<|z8 Z Z c5<|aa Z<|z8 Z Z c5<|ak Z Z<|z8 Z Z c5<|aj Z<|zq (s:=34) Z (fun c6=>?_) (fun c6=>?_)
   ·refine z7 Z Z c6<|z7 Z Z c6<|z7 Z Z c6<|z7 Z Z c6<|z7 Z Z c6<|z8 Z Z c5<|aw Z c6 Z<|z8 Z Z Z<|aw Z c5 Z<|ax Z Z Z<|ab Z<|z6<|zg<|zn (x:=.bool _) Z<|congrArg AV.bool ?_;rw[w3];simp only[wg,gh];simp_all
   ·refine z8 Z Z c6<|au je Z Zd Z Z<|z8 Z Z c6<|za (q3 (j:=1) Z1 wz Z Z Z (by decide) Z)<|z8 Z Z c6<|aA j6 Z<|z8 Z Z c6<|aa Z<|z8 Z Z c6<|ak Z Z<|z8 Z Z c5<|ax Z c6 Z<|z8 Z Z Z<|aw Z c5 Z<|ax Z Z Z<|ab Z<|z6<|zg<|zn (x:=.bool _) Z<|congrArg AV.bool ?_;rw[w3];simp only[wg,gh];simp_all
  ·refine z7 Z Z c5<|z7 Z Z c5<|z7 Z Z c5<|z7 Z Z c5<|z7 Z Z c5<|z7 Z Z c5<|zk Z Z<|zk Z Z<|zk Z Z<|zk Z Z<|zk Z Z<|z7 Z Z c5<|z8 Z Z Z<|ax Z c5 Z<|ax Z Z Z<|ab Z<|z6<|zg<|zn (x:=.bool _) Z<|congrArg AV.bool ?_;rw[w3];simp only[wg,gh];simp_all
theorem Fr {a shut x:Int} {out:List Bool} {y:Nat} (hx:xt a out shut x) (h0:0≤x) (hy:y<out.length):xt a (out.set y true) shut x:=by
 refine ⟨hx.1,?_⟩
 rcases hx.2 with h|h
 ·exact .inl h
 ·right
  unfold gb at h ⊢
  rw[List.getElem?_set]
  by_cases e:y=x.toNat
  ·rw[if_pos e,if_pos (by omega)];rfl
  ·rw[if_neg e];exact h
set_option maxHeartbeats 4000000 in
theorem DN (f:ac) (hE:bW f) (hn:f.blocks.length≤1000) (a shut:Int) (h0:0≤a) (ha:a<f.blocks.length):aY prog E 81 [.agg (bE f),.int .i64 a,.int .i64 shut] []
  fun x O=>∃i:Nat,x=.own i f.blocks.length∧O=[(i,.grow 1 4 (cB (kU (ah f) f.blocks.length a shut)))]:=by
 have hG:=hE.grph
 obtain ⟨n,hnn⟩:∃n,f.blocks.length=n:=⟨_,rfl⟩
 rw[hnn] at hG hn ha ⊢
 refine zp func81 Z (by decide) Z<|ai<|ya (cs:=_) Z Z Z<|za (jI Z)<|z6<|ai<|au jg Z Z8 Z Z<|aI Zg Z<|aq ju Z<|ao Z<|z6<|ai<|aa Z<|az.makeB (m:=n) jk Yp Z Z Z Z Z (by omega) (by omega) (by show (1:Int)*_≤_;omega) (by omega)<|fun i16=>za (eD Z)<|z6<|zd<|ai<|ab Z<|z6<|zm<|y8 (γ:=List Bool × Bool) [1,2,3,7,8] (fun g=>[(9,.bool g.2)]) (fun g=>[(i16,.grow 1 4 (cB g.1))]) (fun g=>FrS (ah f) a shut n g.1∧(g.2=false→Bm (ah f) a shut g.1 n)) (fun g=>2*l8 g.1+(if g.2=true then 1 else 0)) (List.replicate n false,true) aK aH (⟨FrS.begin _ _ _ _,fun h=>by cases h⟩) ?_
 rintro ⟨o0,again⟩ ⟨hS0,hfin⟩
 try dsimp only at *
 refine zd<|ai<|aj Z<|z6<|zy Z (fun ca=>?_) (fun ca=>?_)
 ·have ca:again=true:=by simpa using ca
  subst ca
  refine zi<|zm<|ai<|ab Z<|z6<|ai<|aa Z<|aa Z<|z6<|zm<|y8 (γ:=Nat × List Bool × Bool) [1,2,3,7,8,18] (fun g=>[(19,.int .i64 g.1),(9,.bool g.2.2)]) (fun g=>[(i16,.grow 1 4 (cB g.2.1))]) (fun g=>g.1≤n∧HJ (ah f) a shut n o0 g.2.1 g.2.2∧(g.2.2=false→Bm (ah f) a shut g.2.1 g.1)) (fun g=>n - g.1) (0,o0,false) eo aH (⟨qw _,⟨hS0,Nat.le_refl _,fun h=>(by cases h),fun _=>Z⟩,fun _ x hx=>by omega⟩) ?_
  rintro ⟨x,out,ag⟩ ⟨hx,hR,hcl⟩
  try dsimp only at *
  have hol:=hR.len
  refine ai<|ay Z Z<|z6<|zd<|zt Z (fun cx=>?_) (fun cx=>?_)
  ·have hx2:x<n:=by omega
   have hgx:out[x]?=some (gb out (x:Int)):=lw (by omega)
   refine zi<|zd<|zm<|ai<|aa Z<|ao Z<|z6<|zd<|zd<|ye (γ:=Bool) [1,2,3,7,8,9,10,18,19] (fun u=>[(36,.bool u)]) (fun u=>[(i16,.grow 1 4 (cB out))]) (fun u=>u=!decide (xt a out shut x)) ?_ (fun _ _ h=>h) ?_
   ·refine aW<|aa Z<|aa Z<|ak Z Z<|aj Z<|zq (s:=25) Z (fun c7=>?_) (fun c7=>?_)
    ·refine z7 Z Z c7<|z7 Z Z c7<|z7 Z Z c7<|z7 Z Z c7<|zk Z Z<|zk Z Z<|zk Z Z<|zk Z Z<|zk Z Z<|z7 Z Z c7<|aw Z c7 Z<|z6 ?_
     exact ⟨_,sY,aK,aH,by simp_all[xt]⟩
    ·refine z8 Z Z c7<|aa Z<|z8 Z Z c7<|aa Z<|z8 Z Z c7<|aO Z Z<|z8 Z Z c7<|aj Z<|zq (s:=29) Z (fun c8=>?_) (fun c8=>?_)
     ·refine z8 Z Z c8<|za (im Z)<|z8 Z Z c8<|aa Z<|z8 Z Z c8<|za (yi (j:=x) jk Z6 Z Z Z ⟨_,.head⟩ (by first|rfl|(simp[aD,aN];done)|(simp[aD,aN];omega)) hx2)<|z8 Z Z c8<|za (Gv.loadB (j:=x) Ym Z ⟨_,.head⟩ hgx)<|z8 Z Z c8<|aC Z<|z8 Z Z c7<|aw Z c8 Z<|ax Z c7 Z<|z6 ?_
      exact ⟨_,sY,aK,aH,by simp_all[xt]⟩
     ·refine z7 Z Z c8<|z7 Z Z c8<|z7 Z Z c8<|z7 Z Z c8<|z7 Z Z c8<|z8 Z Z c7<|ax Z c8 Z<|ax Z c7 Z<|z6 ?_
      exact ⟨_,sY,aK,aH,by simp_all[xt]⟩
   ·rintro u hu
    subst hu
    refine zy Z (fun co=>?_) (fun co=>?_)
    ·have hno:¬xt a out shut x:=by simpa using co
     refine y6<|aW<|aE Z Z<|aa Z<|z6 ?_
     exact ⟨(x+1,out,ag),yI,eo,aH,⟨hx2,hR,fun h z hz hok=>by rcases Nat.lt_succ_iff_lt_or_eq.1 hz with h1|h1;exact hcl h z h1 hok;exact absurd (h1▸hok) hno⟩,by dsimp only;omega⟩
    ·have hok:xt a out shut x:=by simpa using co
     refine zi<|ai<|aa Z<|aa Z<|z6<|zm<|y8 (γ:=Nat × List Bool × Bool) [1,2,3,7,8,10,18,19,37] (fun g=>[(38,.int .i64 g.1),(9,.bool g.2.2)]) (fun g=>[(i16,.grow 1 4 (cB g.2.1))]) (fun g=>g.1≤n∧HJ (ah f) a shut n o0 g.2.1 g.2.2∧xt a g.2.1 shut x∧(g.2.2=false→Bm (ah f) a shut g.2.1 x∧HI (ah f) a shut g.2.1 x g.1)) (fun g=>n - g.1) (0,out,ag) eo aH (⟨qw _,hR,hok,fun h=>⟨hcl h,fun _ y hy=>by omega⟩⟩) ?_
     rintro ⟨y,out,ag⟩ ⟨hy,hR,hok,hcl⟩
     try dsimp only at *
     have hol:=hR.len
     refine ai<|ay Z Z<|z6<|zd<|zt Z (fun cy=>?_) (fun cy=>?_)
     ·have hy2:y<n:=by omega
      have hgy:out[y]?=some (gb out (y:Int)):=lw (by omega)
      have hstep:(ag=false→(y:Int)∈ah f x→(y:Int)≠shut→gb out y=true)→(ag=false→Bm (ah f) a shut out x∧HI (ah f) a shut out x (y+1)):=fun h1 h2=>⟨(hcl h2).1,fun ho z hz he hs=>by
       rcases Nat.lt_succ_iff_lt_or_eq.1 hz with h3|h3
       ·exact (hcl h2).2 ho z h3 he hs
       ·subst h3;exact h1 h2 he hs⟩
      refine zi<|zd<|zm<|ai<|aa Z<|ao Z<|z6<|ai<|aa Z<|aa Z<|aO Z Z<|aj Z<|zq (s:=44) Z (fun c1=>?_) (fun c1=>?_)
      ·have d1:(y:Int)≠shut:=by simpa using c1
       refine z8 Z Z c1<|za (im Z)<|z8 Z Z c1<|aa Z<|z8 Z Z c1<|za (yi (j:=y) jk Z6 Z Z Z ⟨_,.head⟩ (by first|rfl|(simp[aD,aN];done)|(simp[aD,aN];omega)) hy2)<|z8 Z Z c1<|za (Gv.loadB (j:=y) Ym Z ⟨_,.head⟩ hgy)<|z8 Z Z c1<|aC Z<|aw Z c1 Z<|aj Z<|zq (s:=51) Z (fun c2=>?_) (fun c2=>?_)
       ·have d2:gb out (y:Int)=false:=by simpa using c2
        refine z8 Z Z c2<|ae jv jj Z Z<|z8 Z Z c2<|aa Z<|z8 Z Z c2<|aa Z<|z8 Z Z c2<|zh (mf f (by omega) (x:Int) (y:Int) (by omega) (by omega)) Z<|aw Z c2 Z<|z6<|zy Z (fun c3=>?_) (fun c3=>?_)
        ·have d3:(y:Int)∈ah f x:=by simpa using c3
         refine ai<|za (im Z)<|aa Z<|za (yi (j:=y) jk Z6 Z Z Z ⟨_,.head⟩ (by first|rfl|(simp[aD,aN];done)|(simp[aD,aN];omega)) hy2)<|qb (j:=y) Z6 Z Z .head (by first|omega|(simp;omega))<|z6<|aW<|ab Z<|z6<|aW<|aE Z Z<|aa Z<|z6 ?_
         exact ⟨(y+1,out.set y true,true),sY,eo,aH,⟨hy2,hR.hit hok d3 d1 hy2 d2,Fr hok (by omega) (by omega),fun h=>by cases h⟩,by dsimp only;omega⟩
        ·have d3:¬(y:Int)∈ah f x:=by simpa using c3
         refine zi<|aW<|aE Z Z<|aa Z<|z6 ?_
         exact ⟨(y+1,out,ag),sY,eo,aH,⟨hy2,hR,hok,hstep fun _ h _=>absurd h d3⟩,by dsimp only;omega⟩
       ·have d2:gb out (y:Int)=true:=by simpa using c2
        refine z7 Z Z c2<|z7 Z Z c2<|z7 Z Z c2<|z7 Z Z c2<|ax Z c2 Z<|z6<|yg Z Z<|zi<|aW<|aE Z Z<|aa Z<|z6 ?_
        exact ⟨(y+1,out,ag),sY,eo,aH,⟨hy2,hR,hok,hstep fun _ _ _=>d2⟩,by dsimp only;omega⟩
      ·have d1:(y:Int)=shut:=by simpa using c1
       refine z7 Z Z c1<|z7 Z Z c1<|z7 Z Z c1<|z7 Z Z c1<|z7 Z Z c1<|ax Z c1 Z<|aj Z<|z7 Z Z Z<|z7 Z Z Z<|z7 Z Z Z<|z7 Z Z Z<|ax Z Z Z<|z6<|yg Z Z<|zi<|aW<|aE Z Z<|aa Z<|z6 ?_
       exact ⟨(y+1,out,ag),sY,eo,aH,⟨hy2,hR,hok,hstep fun _ _ h=>absurd d1 h⟩,by dsimp only;omega⟩
     ·have hyn:y=n:=by omega
      refine y6<|aW<|aE Z Z<|aa Z<|z6 ?_
      exact ⟨(x+1,out,ag),yI,eo,aH,⟨hx2,hR,fun h z hz ho=>by rcases Nat.lt_succ_iff_lt_or_eq.1 hz with h1|h1;exact (hcl h).1 z h1 ho;subst h1;exact fun y2 he hs=>(by by_cases hlt:y2<n;exact (hcl h).2 ho y2 (by omega) he hs;exact absurd (hG.rng z (by omega) (by omega) _ he).2 (by omega))⟩,by dsimp only;omega⟩
  ·have hxn:x=n:=by omega
   subst hxn
   refine y6 ?_
   exact ⟨(out,ag),nJ,aK,aH,⟨hR.toFrS,hcl⟩,by dsimp only;have h1:=hR.less;have h2:=hR.more;cases ag;simp;omega;have:=h2 rfl;simp;omega⟩
 ·have ca:again=false:=by simpa using ca
  rw[hS0.eq hG ⟨h0,ha⟩ (hfin ca)]
  refine y6<|ai<|za (im Z)<|za (eD Z)<|z6<|zg<|zn (x:=.own _ _) Z ?_
  exact ⟨i16,rfl,rfl⟩
theorem mU (f:ac) (hE:bW f) (hn:f.blocks.length≤1000) (shut:Int):aM prog E 41 [.agg (bE f),.int .i64 shut] (.fro 1 ((nl (ah f) f.blocks.length shut).map A9)):=by
 have hpos:=hE.grph.npos
 refine zp func41 Z (by decide) Z<|ai<|ya (cs:=_) Z Z Z<|za (jI Z)<|z6<|ai<|ae jv jj Z Z<|aa Z<|zu Z (zj (.rest _)) (DN f hE hn 0 shut (Int.le_refl _) (by omega)) ?_
 rintro r8 O8 ⟨i8,rfl,rfl⟩
 refine za (eD Z)<|z6<|ai<|za (im Z)<|aa Z<|aO Z Z<|za (yi (j:=0) jk Z6 Z Z Z ⟨_,.head⟩ (by rw[aN,lx]) hpos)<|qb (j:=0) Z6 Z Z .head (by rw[lx];exact hpos)<|z6<|ai<|za (im Z)<|za (eD Z)<|z6 ?_
 rw[show (!decide (shut=0))=decide (shut≠0) by simp,Bo]
 refine zz (aS.knowB (t:=4) Z .head (p8 _ _ _))<|zg<|zn (x:=.fro _ _) Z ?_
 rfl
end Go.Proofs.YtdilpodccjlkgaaGreatDoor
namespace Go.Proofs.YtdilpodccjlkgaaGreatDoor
open Go.Proofs.Tryz
open Go.Proofs Go.Lib Go.Shelf Go.RowKit
variable {E:World}
set_option maxRecDepth 20000
set_option maxHeartbeats 4000000 in
theorem xR (f:ac) (hf:small f) (v:Nat):aM prog E 42 [.agg (bE f),.int .i64 v] (.tup [.int .i64 (aL f v).1,.int .i64 (aL f v).2]):=by
 have hn:=hf.2.2.1
 refine zp func42 Z (by decide) Z<|ai<|ya (cs:=_) Z Z Z<|ao Z<|ao Z<|z6<|zd<|ai<|au jg Z Z8 Z Z<|aI Zg Z<|aq ju Z<|aa Z<|z6<|zm<|y8 (γ:=Nat) [1,13,14] (fun k=>[(15,.int .i64 k)]) (fun k=>[]) (fun k=>k≤f.blocks.length∧ku v (dC f k)=0) (fun k=>f.blocks.length - k) 0 aK aH (⟨qw _,Z⟩) ?_
 rintro k ⟨hk,hc⟩
 refine ai<|ay Z Z<|z6<|zd<|zt Z (fun ck=>?_) (fun ck=>?_)
 ·have hk2:k<f.blocks.length:=by simp at ck;omega
  obtain ⟨b,hbk⟩:∃b,f.blocks[k]=b:=⟨_,rfl⟩
  have hget:f.blocks[k]?=some b:=by rw[qt hk2,hbk]
  have hmem:b∈f.blocks:=hbk▸qx hk2
  obtain ⟨hb0,hb1,hb2,hb3,hb4⟩:=hf.2.2.2.2 b hmem
  refine zi<|zd<|zm<|ai<|aa Z<|za (bv k ju jx Z Z Z hget)<|ae Yo jx Z Z<|y7 (cs:=[.str ⟨#[]⟩,.raw (.slice none 0 0),.raw (.slice none 0 0),.int .i64 0,.int .i64 0,.int .i64 0,.int .i64 0]) Zl Z Z<|fun i7=>ao Z<|y1 jx Z Z Z Z Z Z .head Z<|ze (yd (t:=7) Z .head)<|z6<|zd<|ai<|au ji Z Yl Z Z<|aI Yv Z<|aq Z3 Z<|aa Z<|z6<|zm<|y8 (γ:=Nat) [1,6,7,13,14,15,21,22] (fun j=>[(23,.int .i64 j)]) (fun j=>[]) (fun j=>j≤b.phis.length∧ku v (dC f k++dH k (b.phis.take j))=0) (fun j=>b.phis.length - j) 0 aK aH (⟨qw _,by rw[show dH k (b.phis.take 0)=[] from rfl,w6];exact hc⟩) ?_
  rintro j ⟨hj,hcj⟩
  refine ai<|ay Z Z<|z6<|zd<|zt Z (fun cj=>?_) (fun cj=>?_)
  ·have hj2:j<b.phis.length:=by simp at cj;omega
   have hpre:=EV hk2 hbk hj2
   have hsc:=ly v (dC f k++dH k (b.phis.take j)) b.phis[j].dst ((k:Int),(-1:Int))
   rw[qv,←lu k hj2] at hsc
   refine zi<|zd<|zm<|ai<|za (bv j Z3 Zb Z Z Z (qt hj2))<|ae X1 Zb Z Z<|y7 (cs:=[.int .i64 0,.raw (.slice none 0 0),.raw (.slice none 0 0)]) Yg Z Z<|fun i9=>y1 Zb Z Z Z Z Z Z .head Z<|ze (yd (t:=9) Z .head)<|z6<|ai<|au jz Z wz Z Z<|aA j6 Z<|aa Z<|ak Z Z<|z6<|zy Z (fun cd=>?_) (fun cd=>?_)
   ·have hd:b.phis[j].dst=(v:Int):=by simpa using cd
    rw[hd] at hpre
    refine ai<|aa Z<|ao Z<|ao Z<|z6<|zg<|qd (x:=.int _ _) (y:=.int _ _) Z Z ?_
    rw[sD hpre hcj]
   ·have hd:¬b.phis[j].dst=(v:Int):=by simpa using cd
    refine zi<|aW<|aE Z Z<|aa Z<|z6 ?_
    exact ⟨j+1,wH,aK,aH,⟨hj2,by rw[hsc,if_neg hd,hcj]⟩,by omega⟩
  ·have hjn:j=b.phis.length:=by simp at cj;omega
   subst hjn
   rw[qy] at hcj
   refine y6<|ai<|au ji Z Zt Z Z<|aI Y9 Z<|aq Z0 Z<|aa Z<|z6<|zm<|y8 (γ:=Nat) [1,6,13,14,15,34,35] (fun j=>[(36,.int .i64 j)]) (fun j=>[]) (fun j=>j≤b.insts.length∧ku v (dC f k++dH k b.phis++gq k (b.insts.take j))=0) (fun j=>b.insts.length - j) 0 aK aH (⟨qw _,by rw[show gq k (b.insts.take 0)=[] from rfl,w6];exact hcj⟩) ?_
   rintro j ⟨hj,hci⟩
   refine ai<|ay Z Z<|z6<|zd<|zt Z (fun cj=>?_) (fun cj=>?_)
   ·have hj2:j<b.insts.length:=by simp at cj;omega
    have hev:=iT k hj2
    refine zi<|zd<|zm<|ai<|aa Z<|za (bv j Z0 jy Z Z Z (qt hj2))<|ae Zz jy Z Z<|y7 (cs:=[.int .i64 0,.int .i64 0,.raw (.slice none 0 0),.int .i64 0]) Zh Z Z<|fun i11=>ao Z<|y1 jy Z Z Z Z Z Z .head Z<|ze (yd (t:=11) Z .head)<|z6<|ai<|au j5 Z wz Z Z<|aA j6 Z<|aa Z<|ak Z Z<|z6<|zy Z (fun cd=>?_) (fun cd=>?_)
    ·have hd:b.insts[j].dst=(v:Int):=by simpa using cd
     have hpre:=C8 hk2 hbk hj2 (by omega)
     rw[hd] at hpre
     refine ai<|aa Z<|aa Z<|ao Z<|ao Z<|z6<|zg<|qd (x:=.int _ _) (y:=.int _ _) Z Z ?_
     rw[sD hpre hci]
    ·have hd:¬b.insts[j].dst=(v:Int):=by simpa using cd
     have hsc:ku v (dC f k++dH k b.phis++gq k (b.insts.take (j+1)))=0:=by
      rw[hev]
      split
      ·rw[←qv,ly,if_neg hd,hci]
      ·rw[w6];exact hci
     refine zi<|aW<|aE Z Z<|aa Z<|z6 ?_
     exact ⟨j+1,lf,aK,aH,⟨hj2,hsc⟩,by omega⟩
   ·have hjn:j=b.insts.length:=by simp at cj;omega
    subst hjn
    rw[qy] at hci
    refine y6<|aW<|aE Z Z<|aa Z<|z6 ?_
    exact ⟨k+1,db,aK,aH,⟨hk2,by rw[gc hk2,hbk,pS,←qv];exact hci⟩,by omega⟩
 ·have hkn:k=f.blocks.length:=by simp at ck;omega
  subst hkn
  refine y6<|ai<|ao Z<|ao Z<|z6<|zg<|qd (x:=.int _ _) (y:=.int _ _) Z Z ?_
  rw[xv hc]
set_option maxHeartbeats 4000000 in
theorem oz (f:ac) (hf:small f) (v:Nat):aM prog E 79 [.agg (bE f),.int .i64 v] (.int .i64 (bu f v).length):=by
 have hn:=hf.2.2.1
 refine zp func79 Z (by decide) Z<|ai<|ya (cs:=_) Z Z Z<|ao Z<|z6<|ai<|ao Z<|z6<|zd<|ai<|au jg Z Z8 Z Z<|aI Zg Z<|aq ju Z<|aa Z<|z6<|zm<|y8 (γ:=Nat) [1,13,14] (fun k=>[(15,.int .i64 k),(5,.int .i64 (ku v (dC f k)))]) (fun k=>[]) (fun k=>k≤f.blocks.length) (fun k=>f.blocks.length - k) 0 eo aH (qw _) ?_
 rintro k hk
 refine ai<|ay Z Z<|z6<|zd<|zt Z (fun ck=>?_) (fun ck=>?_)
 ·have hk2:k<f.blocks.length:=by simp at ck;omega
  obtain ⟨b,hbk⟩:∃b,f.blocks[k]=b:=⟨_,rfl⟩
  have hget:f.blocks[k]?=some b:=by rw[qt hk2,hbk]
  have hmem:b∈f.blocks:=hbk▸qx hk2
  obtain ⟨hb0,hb1,hb2,hb3,hb4⟩:=hf.2.2.2.2 b hmem
  have hel:=hf.evs hk
  refine zi<|zd<|zm<|ai<|za (bv k ju jx Z Z Z hget)<|ae Yo jx Z Z<|y7 (cs:=[.str ⟨#[]⟩,.raw (.slice none 0 0),.raw (.slice none 0 0),.int .i64 0,.int .i64 0,.int .i64 0,.int .i64 0]) Zl Z Z<|fun i7=>y1 jx Z Z Z Z Z Z .head Z<|ze (yd (t:=7) Z .head)<|z6<|zd<|ai<|au ji Z Yl Z Z<|aI Yv Z<|aq Z3 Z<|aa Z<|z6<|zm<|y8 (γ:=Nat) [1,7,13,14,15,20,21] (fun j=>[(22,.int .i64 j),(5,.int .i64 (ku v (dC f k++dH k (b.phis.take j))))]) (fun j=>[]) (fun j=>j≤b.phis.length) (fun j=>b.phis.length - j) 0 ⟨Z,(by rw[show dH k (b.phis.take 0)=[] from rfl,w6];rfl),trivial⟩ aH (qw _) ?_
  rintro j hj
  refine ai<|ay Z Z<|z6<|zd<|zt Z (fun cj=>?_) (fun cj=>?_)
  ·have hj2:j<b.phis.length:=by simp at cj;omega
   have hsc:=ly v (dC f k++dH k (b.phis.take j)) b.phis[j].dst ((k:Int),(-1:Int))
   rw[qv,←lu k hj2] at hsc
   have hcl:ku v (dC f k++dH k (b.phis.take j))≤2001000:=by
    have h1:=zI v (dC f k++dH k (b.phis.take j))
    have h2:(dH k (b.phis.take j)).length≤1000:=by unfold dH;rw[w1,w7];omega
    rw[qz] at h1;omega
   refine zi<|zd<|zm<|ai<|za (bv j Z3 Zb Z Z Z (qt hj2))<|ae X1 Zb Z Z<|y7 (cs:=[.int .i64 0,.raw (.slice none 0 0),.raw (.slice none 0 0)]) Yg Z Z<|fun i9=>y1 Zb Z Z Z Z Z Z .head Z<|ze (yd (t:=9) Z .head)<|z6<|ai<|au jz Z wz Z Z<|aA j6 Z<|aa Z<|ak Z Z<|z6<|zy Z (fun cd=>?_) (fun cd=>?_)
   ·have hd:b.phis[j].dst=(v:Int):=by simpa using cd
    rw[if_pos hd] at hsc
    refine aW<|aa Z<|aE Z Z<|ao Z<|z6<|aW<|aE Z Z<|aa Z<|z6 ?_
    exact ⟨j+1,lf,⟨rfl,(by rw[hsc];rfl),trivial⟩,aH,hj2,by omega⟩
   ·have hd:¬b.phis[j].dst=(v:Int):=by simpa using cd
    rw[if_neg hd] at hsc
    refine zi<|aW<|aE Z Z<|aa Z<|z6 ?_
    exact ⟨j+1,lf,⟨rfl,(by rw[hsc];rfl),trivial⟩,aH,hj2,by omega⟩
  ·have hjn:j=b.phis.length:=by simp at cj;omega
   subst hjn
   rw[qy]
   refine y6<|ai<|au ji Z Zt Z Z<|aI Y9 Z<|aq Z0 Z<|aa Z<|z6<|zm<|y8 (γ:=Nat) [1,13,14,15,34,35] (fun j=>[(36,.int .i64 j),(5,.int .i64 (ku v (dC f k++dH k b.phis++gq k (b.insts.take j))))]) (fun j=>[]) (fun j=>j≤b.insts.length) (fun j=>b.insts.length - j) 0 ⟨Z,(by rw[show gq k (b.insts.take 0)=[] from rfl,w6];rfl),trivial⟩ aH (qw _) ?_
   rintro j hj
   refine ai<|ay Z Z<|z6<|zd<|zt Z (fun cj=>?_) (fun cj=>?_)
   ·have hj2:j<b.insts.length:=by simp at cj;omega
    have hcl:ku v (dC f k++dH k b.phis++gq k (b.insts.take j))≤2002000:=by
     have h1:=zI v (dC f k++dH k b.phis++gq k (b.insts.take j))
     have h2:(dH k b.phis).length≤1000:=by unfold dH;rw[w1];omega
     have h3:=pT k (b.insts.take j)
     rw[w7] at h3
     rw[qz,qz] at h1;omega
    have hsc:ku v (dC f k++dH k b.phis++gq k (b.insts.take (j+1)))=ku v (dC f k++dH k b.phis++gq k (b.insts.take j))+if b.insts[j].dst=(v:Int) then 1 else 0:=by
     rw[iT k hj2]
     split
     ·rw[←qv,ly]
     ·rw[w6,if_neg (by omega)];rfl
    refine zi<|zd<|zm<|ai<|za (bv j Z0 jy Z Z Z (qt hj2))<|ae Zz jy Z Z<|y7 (cs:=[.int .i64 0,.int .i64 0,.raw (.slice none 0 0),.int .i64 0]) Zh Z Z<|fun i11=>y1 jy Z Z Z Z Z Z .head Z<|ze (yd (t:=11) Z .head)<|z6<|ai<|au j5 Z wz Z Z<|aA j6 Z<|aa Z<|ak Z Z<|z6<|zy Z (fun cd=>?_) (fun cd=>?_)
    ·have hd:b.insts[j].dst=(v:Int):=by simpa using cd
     rw[if_pos hd] at hsc
     refine aW<|aa Z<|aE Z Z<|ao Z<|z6<|aW<|aE Z Z<|aa Z<|z6 ?_
     exact ⟨j+1,yI,⟨rfl,(by rw[hsc];rfl),trivial⟩,aH,hj2,by omega⟩
    ·have hd:¬b.insts[j].dst=(v:Int):=by simpa using cd
     rw[if_neg hd] at hsc
     refine zi<|aW<|aE Z Z<|aa Z<|z6 ?_
     exact ⟨j+1,yI,⟨rfl,(by rw[hsc];rfl),trivial⟩,aH,hj2,by omega⟩
   ·have hjn:j=b.insts.length:=by simp at cj;omega
    subst hjn
    rw[qy]
    refine y6<|aW<|aE Z Z<|aa Z<|z6 ?_
    exact ⟨k+1,db,⟨rfl,(by rw[gc hk2,hbk,pS,←qv];rfl),trivial⟩,aH,hk2,by omega⟩
 ·have hkn:k=f.blocks.length:=by simp at ck;omega
  subst hkn
  refine y6<|ai<|aa Z<|ao Z<|z6<|zg<|zn (x:=.int _ _) Z ?_
  rw[vt]
theorem rM (f:ac) (hE:bW f) (hf:small f) (v:Nat) (b a:Int) (h0:0≤b) (hb:b<f.blocks.length):aM prog E 80 [.agg (bE f),.int .i64 v,.int .i64 b,.int .i64 a] (.bool (eF f (aL f v) b a)):=by
 have hn:=hf.2.2.1
 refine zp func80 Z (by decide) Z<|ai<|ya (cs:=_) Z Z Z<|ab Z<|z6<|ai<|ae jv jj Z Z<|aa Z<|zh (xR f hf v) Z<|za (ke Z)<|za (iN Z Z)<|za (iN Z Z)<|ao Z<|ao Z<|z6<|zd<|zm<|ai<|aa Z<|ay Z Z<|ab Z<|z6<|zt Z (fun c0=>?_) (fun c0=>?_)
 ·refine ai<|ab Z<|z6<|zg<|zn (x:=.bool _) Z ?_
  rw[eF,if_pos c0]
 ·refine ai<|aa Z<|aa Z<|ak Z Z<|ab Z<|z6<|zy Z (fun c1=>?_) (fun c1=>?_)
  ·have d1:(aL f v).1=b:=by simpa using c1
   refine ai<|aa Z<|aa Z<|ay Z Z<|ab Z<|z6<|zg<|zn (x:=.bool _) Z ?_
   rw[eF,if_neg c0,if_pos d1]
  ·have d1:¬(aL f v).1=b:=by simpa using c1
   have hg:=l9 (E:=ah f) (n:=f.blocks.length) (k:=b.toNat) (shut:=(aL f v).1) (by omega)
   rw[show ((b.toNat:Nat):Int)=b by omega] at hg
   refine zi<|ai<|ae jv jj Z Z<|aa Z<|zh (mU f hE hn (aL f v).1) Z<|aa Z<|za (bv b.toNat jk Z6 Z Z (by omega) hg)<|za (yx (c:=.bool _) Ym Z)<|aC Z<|ab Z<|z6<|zg<|zn (x:=.bool _) Z ?_
   rw[eF,if_neg c0,if_neg d1]
end Go.Proofs.YtdilpodccjlkgaaGreatDoor
