/- The document's makers; its single and plain. Of programs that are little. -/
import Derived.Test.YtdilpodccjlkgaaGreatDoorJr
import Derived.Test.YtdilpodccjlkgaaGreatDoorJo
import Derived.Test.YtdilpodccjlkgaaGreatDoorJp
import Derived.Test.YtdilpodccjlkgaaGreatDoorJm
set_option linter.unusedVariables false
set_option linter.unusedSimpArgs false
set_option linter.unusedSectionVars false
namespace Go.Proofs.YtdilpodccjlkgaaGreatDoor
open Go.Proofs.Tryz
open Go.Proofs Go.Lib Go.Shelf Go.RowKit
variable {E:World}
set_option maxRecDepth 20000
theorem ee (p q:Bool):aM prog E 118 [.bool p,.bool q] (.int .i64 (iC p q)):=by
 refine zp func118 Z (by decide) Z<|ai<|ak Z<|z6<|zd<|zk<|ai<|aj Z<|ab Z<|z6<|zy Z (fun c=>?_) (fun c=>?_)
 ·refine ai<|ak Z<|z6<|zi<|zn (x:=.int _ _) Z ?_
  unfold iC;rw[if_pos (show p=true from c)]
 ·refine ai<|aj Z<|ab Z<|z6<|zy Z (fun d=>?_) (fun d=>?_)
  ·refine ai<|ak Z<|z6<|zi<|zn (x:=.int _ _) Z ?_
   unfold iC;rw[if_neg (by rw[show p=false from c];decide),if_pos (show q=true from d)]
  ·refine zh<|ai<|ak Z<|z6<|zi<|zn (x:=.int _ _) Z ?_
   unfold iC;rw[if_neg (by rw[show p=false from c];decide),if_neg (by rw[show q=false from d];decide)]
def Ar (E:World) (f:ac) (K:KS) (t pr:AV) (bk n:Nat):Prop:=∀(es:List (Int × Int)) (v:Int),bd f v=true→rz f v<n→Eq f K es →
 aZ prog E 73 [xQ f K t pr,.int .i64 v,dA bk] [(0,jC bk (mI es))] (fun y O=>∃g:List (Int × Int),y=.int .i64 (dK f K v)∧O=[(0,jC bk (mI g))]∧Eq f K g)
set_option maxHeartbeats 16000000 in
theorem DZ (f:ac) (hR:b7 f) (hv:f.vars.length≤1000) (K:KS) (hK:KB f K) (t pr:AV) (bk n:Nat) (ih:Ar E f K t pr bk n):Ar E f K t pr bk (n+1):=by
 intro es v hvv hrk hKn
 refine q9 (γ:=List (Int × Int)) (x:=fun _=>.int .i64 (dK f K v)) (M:=fun g=>[(0,jC bk (mI g))]) (p:=fun g=>Eq f K g) ?_
 have flw:=fun a b c ha hb=>H3 (E:=E) hv hK (a:=a) (b:=b) ha hb c
 have hM:=vQ (E:=E) (K:=K) (t:=t) (pr:=pr) hvv
 have hM2:=fun y=>vR (E:=E) (K:=K) (t:=t) (pr:=pr) hvv (y:=y)
 unfold Ar at ih
 unfold xQ xc at *
 unfold zB at *
 refine zp func73 Z (by decide) Z ?_
 rcases hg:ag v (mI es) with _|z
 ·refine ai<|ak Z<|z6<|zd<|ai<|za (yw (v:=dA _) Z)<|aa Z<|za (Gv.lookupA (zx:=.int .i64 0) hg underlying139 Zy Zv (fun _=>Z) Z Z ⟨_,.head⟩)<|za (kw Z)<|za (jL Z Z)<|za (jO Z Z)<|ak Z<|ab Z<|z6<|ai<|aj Z<|z6<|yg Z Z ?_
  rcases hm:dz f v with _|x
  ·refine zh<|ai<|za (fe Z)<|aa Z<|zg (hM hm) Z<|za (kw Z)<|za (qa (v:=.agg _) Z Z)<|za (jO Z Z)<|y6 (cs:=[.int .i64 0,.int .i64 0,.raw (.slice none 0 0),.int .i64 0]) Zf Z Z<|fun i9=>y1 jx Z Z Z Z Z Z .head Z<|ze (yc (t:=9) Z .head)<|ab Z<|z6<|ai<|ak Z<|z6<|zd<|zk<|ai<|aj Z<|aD Z<|ab Z<|z6<|yu Z Z<|zh<|ai<|za (yw (v:=dA _) Z)<|aa Z<|aa Z<|az.mapSetA (v:=.int _ _) underlying139 Zy Z Z Z .head<|z6<|ai<|aa Z<|ak Z<|z6<|zi<|zn (x:=.int _ _) Z ?_
   exact ⟨Hx v (dK f K v) es,(by rw[Ap hR hm]),⟨_,.refl _,by rw[←Aq,Ap hR hm]⟩,hKn.put v⟩
  ·obtain ⟨hF,_,_⟩:=hR.madeF hm
   have a0:∀{k:Int},x.op=k→0<([0,1,2,2,2,2,2,2,2,2,1,2,1,2,3,1,0,1,2,1,1,2,2,2,1,2,2][k.toNat]?).getD 0→(bd f (bj x)=true∧rz f (bj x)<n)∧0<x.args.length∧aV f (bj x):=fun e h=>by
    have hl:0<x.args.length:=by rw[hF.cnt e];exact h
    have:=hR.rk0 hm hl
    exact ⟨⟨rh (hF.a0 hl),by omega⟩,hl,cM (hF.a0 hl)⟩
   have a1:∀{k:Int},x.op=k→1<([0,1,2,2,2,2,2,2,2,2,1,2,1,2,3,1,0,1,2,1,1,2,2,2,1,2,2][k.toNat]?).getD 0→(bd f (bY x)=true∧rz f (bY x)<n)∧1<x.args.length∧aV f (bY x):=fun e h=>by
    have hl:1<x.args.length:=by rw[hF.cnt e];exact h
    have:=hR.rk1 hm hl
    exact ⟨⟨rh (hF.a1 hl),by omega⟩,hl,cM (hF.a1 hl)⟩
   refine zh<|ai<|za (fe Z)<|aa Z<|zg (hM2 x hm) Z<|za (kw Z)<|za (qa (v:=.agg _) Z Z)<|za (jO Z Z)<|y6 (cs:=[.int .i64 0,.int .i64 0,.raw (.slice none 0 0),.int .i64 0]) Zf Z Z<|fun i9=>y1 jx Z Z Z Z Z Z .head Z<|ze (yc (t:=9) Z .head)<|ab Z<|z6<|ai<|ak Z<|z6<|zd<|ye (γ:=List (Int × Int)) [1,2] (fun g=>[(11,.int .i64 (dK f K v))]) (fun g=>[(0,jC bk (mI g))]) (fun g=>Eq f K g) ?_ (fun _ _ h=>h) ?_
   ·refine zk<|ai<|aj Z<|aD Z<|ab Z<|z6<|yg Z Z<|ai<|au j5 Z Z2 Z Z<|aA Z3 Z<|ao Z Z<|ab Z<|z6<|zt Z (fun c8=>?_) (fun c8=>?_)
    ·have c8:x.op=8:=c8
     obtain ⟨_,l0,n0⟩:=a0 c8 (by decide)
     obtain ⟨_,l1,n1⟩:=a1 c8 (by decide)
     rw[IQ hR hm c8]
     refine zr (fun j=>false) (by kernel_rfl) Z (zj (.rest _))<|ad 0 Z (fe Z)<|ad 1 Z (yk Z)<|ad 2 Z (bM j8 Z Z7 Z Z)<|ad 3 Z (yv (c:=.pf _) Zg Z)<|ad 4 Z (bM j5 Z j7 Z Z)<|ad 5 Z (fa je Z)<|ad 6 Z (bv 0 wy wz Z Z Z (cU l0))<|ad 7 Z (cR j6 Z)<|ad 8 Z (bM j5 Z j7 Z Z)<|ad 9 Z (fa je Z)<|ad 10 Z (bv 1 wy wz Z Z Z (dx l1))<|ad 11 Z (cR j6 Z)<|ad 13 Z (fe Z)<|ad 14 Z (yk Z)<|ad 15 Z (bM j8 Z Z7 Z Z)<|ad 16 Z (yv (c:=.pf _) Zg Z)<|ad 17 Z (bM j5 Z j7 Z Z)<|ad 18 Z (fa je Z)<|ad 19 Z (bv 1 wy wz Z Z Z (dx l1))<|ad 20 Z (cR j6 Z)<|ad 21 Z (bM j5 Z j7 Z Z)<|ad 22 Z (fa je Z)<|ad 23 Z (bv 0 wy wz Z Z Z (cU l0))<|ad 24 Z (cR j6 Z)<|aQ 12 Z<|zg (flw _ _ (-1) n0 n1) Z<|z6<|aQ 25 Z<|zg (flw _ _ 0 n1 n0) Z<|z6<|aQ 26 Z<|zg (ee _ _) Z<|z6<|ad 27 Z (m8 Z)<|bJ ?_
     exact ⟨es,(by repeat (first|with_reducible exact ya _ _|refine yt rfl ?_)),aK,aH,hKn⟩
    ·refine ai<|au j5 Z Z2 Z Z<|aA Z3 Z<|ao Z Z<|ab Z<|z6<|zt Z (fun c9=>?_) (fun c9=>?_)
     ·have c9:x.op=9:=c9
      obtain ⟨_,l0,n0⟩:=a0 c9 (by decide)
      obtain ⟨_,l1,n1⟩:=a1 c9 (by decide)
      rw[IR hR hm c9]
      refine zr (fun j=>false) (by kernel_rfl) Z (zj (.rest _))<|ad 0 Z (fe Z)<|ad 1 Z (yk Z)<|ad 2 Z (bM j8 Z Z7 Z Z)<|ad 3 Z (yv (c:=.pf _) Zg Z)<|ad 4 Z (bM j5 Z j7 Z Z)<|ad 5 Z (fa je Z)<|ad 6 Z (bv 0 wy wz Z Z Z (cU l0))<|ad 7 Z (cR j6 Z)<|ad 8 Z (bM j5 Z j7 Z Z)<|ad 9 Z (fa je Z)<|ad 10 Z (bv 1 wy wz Z Z Z (dx l1))<|ad 11 Z (cR j6 Z)<|ad 13 Z (fe Z)<|ad 14 Z (yk Z)<|ad 15 Z (bM j8 Z Z7 Z Z)<|ad 16 Z (yv (c:=.pf _) Zg Z)<|ad 17 Z (bM j5 Z j7 Z Z)<|ad 18 Z (fa je Z)<|ad 19 Z (bv 1 wy wz Z Z Z (dx l1))<|ad 20 Z (cR j6 Z)<|ad 21 Z (bM j5 Z j7 Z Z)<|ad 22 Z (fa je Z)<|ad 23 Z (bv 0 wy wz Z Z Z (cU l0))<|ad 24 Z (cR j6 Z)<|aQ 12 Z<|zg (flw _ _ 0 n0 n1) Z<|z6<|aQ 25 Z<|zg (flw _ _ (-1) n1 n0) Z<|z6<|aQ 26 Z<|zg (ee _ _) Z<|z6<|ad 27 Z (m8 Z)<|bJ ?_
      exact ⟨es,(by repeat (first|with_reducible exact ya _ _|refine yt rfl ?_)),aK,aH,hKn⟩
     ·refine ai<|au j5 Z Z2 Z Z<|aA Z3 Z<|ao Z Z<|ab Z<|z6<|zt Z (fun c7=>?_) (fun c7=>?_)
      ·have c7:x.op=7:=c7
       obtain ⟨_,l0,n0⟩:=a0 c7 (by decide)
       obtain ⟨_,l1,n1⟩:=a1 c7 (by decide)
       rw[IU hR hm c7]
       refine zd<|zr (fun j=>false) (by kernel_rfl) Z (zj (.rest _))<|ad 0 Z (bM j5 Z j7 Z Z)<|ad 1 Z (fa je Z)<|ad 2 Z (bv 0 wy wz Z Z Z (cU l0))<|ad 3 Z (cR j6 Z)<|ad 4 Z (bM j5 Z j7 Z Z)<|ad 5 Z (fa je Z)<|ad 6 Z (bv 1 wy wz Z Z Z (dx l1))<|ad 7 Z (cR j6 Z)<|ad 8 Z (m8 Z)<|ad 9 Z (m8 Z)<|bJ<|zr (fun j=>false) (by kernel_rfl) Z (zj (.rest _))<|ad 0 Z (fe Z)<|ad 1 Z (yk Z)<|ad 2 Z (bM j8 Z Z7 Z Z)<|ad 3 Z (yv (c:=.pf _) Zg Z)<|ad 4 Z (cD Z)<|ad 5 Z (cD Z)<|ad 16 Z (fe Z)<|ad 17 Z (yk Z)<|ad 18 Z (bM j8 Z Z7 Z Z)<|ad 19 Z (yv (c:=.pf _) Zg Z)<|ad 20 Z (cD Z)<|ad 21 Z (cD Z)<|aQ 6 Z<|zg (flw _ _ 0 n0 n1) Z<|z6<|ad 7 Z (nT Z)<|ql (s:=115) Z (fun c1=>?_) (fun c1=>?_)
       ·refine cO 8 Z Z Z c1 (fe Z)<|cO 9 Z Z Z c1 (yk Z)<|cO 10 Z Z Z c1 (bM j8 Z Z7 Z Z)<|cO 11 Z Z Z c1 (yv (c:=.pf _) Zg Z)<|cO 12 Z Z Z c1 (cD Z)<|cO 13 Z Z Z c1 (cD Z)<|aQ 14 Z<|z8 Z Z c1<|zg (flw _ _ 0 n1 n0) Z<|z6<|ad 15 Z (uo Z c1 Z)<|aQ 22 Z<|zg (flw _ _ (-1) n0 n1) Z<|z6<|ad 23 Z (nT Z)<|ql (s:=131) Z (fun c2=>?_) (fun c2=>?_)
        ·refine b5 24 Z Z Z c2<|b5 25 Z Z Z c2<|b5 26 Z Z Z c2<|b5 27 Z Z Z c2<|b5 28 Z Z Z c2<|b5 29 Z Z Z c2<|b5 30 Z Z Z c2<|ad 31 Z (uo Z c2 Z)<|aQ 32 Z<|zg (ee _ _) Z<|z6<|ad 33 Z (m8 Z)<|bJ ?_
         exact ⟨es,(by repeat (first|with_reducible exact ya _ _|refine yt rfl ?_)),⟨(by show AV.int .i64 _=AV.int .i64 _;simp_all),trivial⟩,aH,hKn⟩
        ·refine cO 24 Z Z Z c2 (fe Z)<|cO 25 Z Z Z c2 (yk Z)<|cO 26 Z Z Z c2 (bM j8 Z Z7 Z Z)<|cO 27 Z Z Z c2 (yv (c:=.pf _) Zg Z)<|cO 28 Z Z Z c2 (cD Z)<|cO 29 Z Z Z c2 (cD Z)<|aQ 30 Z<|z8 Z Z c2<|zg (flw _ _ (-1) n1 n0) Z<|z6<|ad 31 Z (si Z c2 Z)<|aQ 32 Z<|zg (ee _ _) Z<|z6<|ad 33 Z (m8 Z)<|bJ ?_
         exact ⟨es,(by repeat (first|with_reducible exact ya _ _|refine yt rfl ?_)),⟨(by show AV.int .i64 _=AV.int .i64 _;simp_all),trivial⟩,aH,hKn⟩
       ·refine b5 8 Z Z Z c1<|b5 9 Z Z Z c1<|b5 10 Z Z Z c1<|b5 11 Z Z Z c1<|b5 12 Z Z Z c1<|b5 13 Z Z Z c1<|b5 14 Z Z Z c1<|ad 15 Z (si Z c1 Z)<|aQ 22 Z<|zg (flw _ _ (-1) n0 n1) Z<|z6<|ad 23 Z (nT Z)<|ql (s:=131) Z (fun c3=>?_) (fun c3=>?_)
        ·refine b5 24 Z Z Z c3<|b5 25 Z Z Z c3<|b5 26 Z Z Z c3<|b5 27 Z Z Z c3<|b5 28 Z Z Z c3<|b5 29 Z Z Z c3<|b5 30 Z Z Z c3<|ad 31 Z (uo Z c3 Z)<|aQ 32 Z<|zg (ee _ _) Z<|z6<|ad 33 Z (m8 Z)<|bJ ?_
         exact ⟨es,(by repeat (first|with_reducible exact ya _ _|refine yt rfl ?_)),⟨(by show AV.int .i64 _=AV.int .i64 _;simp_all),trivial⟩,aH,hKn⟩
        ·refine cO 24 Z Z Z c3 (fe Z)<|cO 25 Z Z Z c3 (yk Z)<|cO 26 Z Z Z c3 (bM j8 Z Z7 Z Z)<|cO 27 Z Z Z c3 (yv (c:=.pf _) Zg Z)<|cO 28 Z Z Z c3 (cD Z)<|cO 29 Z Z Z c3 (cD Z)<|aQ 30 Z<|z8 Z Z c3<|zg (flw _ _ (-1) n1 n0) Z<|z6<|ad 31 Z (si Z c3 Z)<|aQ 32 Z<|zg (ee _ _) Z<|z6<|ad 33 Z (m8 Z)<|bJ ?_
         exact ⟨es,(by repeat (first|with_reducible exact ya _ _|refine yt rfl ?_)),⟨(by show AV.int .i64 _=AV.int .i64 _;simp_all),trivial⟩,aH,hKn⟩
      ·refine ai<|au j5 Z Z2 Z Z<|aA Z3 Z<|ao Z Z<|ab Z<|z6<|zt Z (fun c1=>?_) (fun c1=>?_)
       ·have c1:x.op=1:=c1
        obtain ⟨h0,l0,n0⟩:=a0 c1 (by decide)
        rw[IV hR hm c1 l0]
        refine aT<|za (fe Z)<|au j5 Z j7 Z Z<|aI je Z<|za (bv 0 wy wz Z Z Z (cU l0))<|aA j6 Z<|za (yw (v:=dA _) Z)<|zu Z (zj (.l (.rest _))) (ih es _ h0.1 h0.2 hKn) ?_
        rintro r151 O151 ⟨g1,rfl,rfl,hk1⟩
        refine ak Z<|z6 ?_
        exact ⟨g1,(by repeat (first|with_reducible exact ya _ _|refine yt rfl ?_)),aK,aH,hk1⟩
       ·refine ai<|au j5 Z Z2 Z Z<|aA Z3 Z<|ao Z Z<|ab Z<|z6<|zt Z (fun c10=>?_) (fun c10=>?_)
        ·have c10:x.op=10:=c10
         obtain ⟨h0,l0,n0⟩:=a0 c10 (by decide)
         rw[Ic hR hm c10 l0]
         refine ai<|za (fe Z)<|au j5 Z j7 Z Z<|aI je Z<|za (bv 0 wy wz Z Z Z (cU l0))<|aA j6 Z<|za (yw (v:=dA _) Z)<|zu Z (zj (.l (.rest _))) (ih es _ h0.1 h0.2 hKn) ?_
         rintro r162 O162 ⟨g1,rfl,rfl,hk1⟩
         refine ak Z<|z6<|aT<|aa Z<|ao Z Z<|aa Z<|ao Z Z<|zg (ee _ _) Z<|ak Z<|z6 ?_
         exact ⟨g1,(by repeat (first|with_reducible exact ya _ _|refine yt rfl ?_)),aK,aH,hk1⟩
        ·refine ai<|au j5 Z Z2 Z Z<|aA Z3 Z<|ao Z Z<|ab Z<|z6<|zt Z (fun c11=>?_) (fun c11=>?_)
         ·have c11:x.op=11:=c11
          obtain ⟨h0,l0,n0⟩:=a0 c11 (by decide)
          obtain ⟨h1,l1,n1⟩:=a1 c11 (by decide)
          rw[Id hR hm c11 l1]
          refine zd<|zr (fun j=>false) (by kernel_rfl) Z (zj (.rest _))<|ad 0 Z (fe Z)<|ad 1 Z (bM j5 Z j7 Z Z)<|ad 2 Z (fa je Z)<|ad 3 Z (bv 0 wy wz Z Z Z (cU l0))<|ad 4 Z (cR j6 Z)<|ad 5 Z (yw (v:=dA _) Z)<|ad 7 Z (fe Z)<|ad 8 Z (bM j5 Z j7 Z Z)<|ad 9 Z (fa je Z)<|ad 10 Z (bv 1 wy wz Z Z Z (dx l1))<|ad 11 Z (cR j6 Z)<|ad 12 Z (yw (v:=dA _) Z)<|aQ 6 Z<|zu Z (zj (.l (.rest _))) (ih es _ h0.1 h0.2 hKn) ?_
          rintro r178 O178 ⟨g1,rfl,rfl,hk1⟩
          refine z6<|aQ 13 Z<|zu Z (zj (.l (.rest _))) (ih g1 _ h1.1 h1.2 hk1) ?_
          rintro r185 O185 ⟨g2,rfl,rfl,hk2⟩
          refine z6<|ad 14 Z (m8 Z)<|ad 15 Z (m8 Z)<|bJ<|aT<|aa Z<|ao Z Z<|aj Z<|zq (s:=188) Z (fun c4=>?_) (fun c4=>?_)
          ·refine z8 Z Z c4<|aa Z<|z8 Z Z c4<|ao Z Z<|aw Z c4 Z<|aa Z<|ao Z Z<|aj Z<|zq (s:=194) Z (fun c5=>?_) (fun c5=>?_)
           ·refine z7 Z Z c5<|z7 Z Z c5<|aw Z c5 Z<|zg (ee _ _) Z<|ak Z<|z6 ?_
            exact ⟨g2,(by repeat (first|with_reducible exact ya _ _|refine yt rfl ?_)),⟨(by show AV.int .i64 _=AV.int .i64 _;simp_all),trivial⟩,aH,hk2⟩
           ·refine z8 Z Z c5<|aa Z<|z8 Z Z c5<|ao Z Z<|ay Z c5 Z<|zg (ee _ _) Z<|ak Z<|z6 ?_
            exact ⟨g2,(by repeat (first|with_reducible exact ya _ _|refine yt rfl ?_)),⟨(by show AV.int .i64 _=AV.int .i64 _;simp_all),trivial⟩,aH,hk2⟩
          ·refine z7 Z Z c4<|z7 Z Z c4<|ay Z c4 Z<|aa Z<|ao Z Z<|aj Z<|zq (s:=194) Z (fun c6=>?_) (fun c6=>?_)
           ·refine z7 Z Z c6<|z7 Z Z c6<|aw Z c6 Z<|zg (ee _ _) Z<|ak Z<|z6 ?_
            exact ⟨g2,(by repeat (first|with_reducible exact ya _ _|refine yt rfl ?_)),⟨(by show AV.int .i64 _=AV.int .i64 _;simp_all),trivial⟩,aH,hk2⟩
           ·refine z8 Z Z c6<|aa Z<|z8 Z Z c6<|ao Z Z<|ay Z c6 Z<|zg (ee _ _) Z<|ak Z<|z6 ?_
            exact ⟨g2,(by repeat (first|with_reducible exact ya _ _|refine yt rfl ?_)),⟨(by show AV.int .i64 _=AV.int .i64 _;simp_all),trivial⟩,aH,hk2⟩
         ·rw[FE hR hm ⟨c8,c9,c7,c1,c10,c11⟩]
          refine zh ?_
          exact ⟨es,(by repeat (first|with_reducible exact ya _ _|refine yt rfl ?_)),aK,aH,hKn⟩
   ·rintro g1 hk1
    refine ai<|za (yw (v:=dA _) Z)<|aa Z<|aa Z<|az.mapSetA (v:=.int _ _) underlying139 Zy Z Z Z .head<|z6<|ai<|aa Z<|ak Z<|z6<|zi<|zn (x:=.int _ _) Z ?_
    exact ⟨Hx v (dK f K v) g1,rfl,⟨_,.refl _,by rw[←Aq]⟩,hk1.put v⟩
 ·have hz:=hKn v z hg
  subst hz
  refine ai<|ak Z<|z6<|zd<|ai<|za (yw (v:=dA _) Z)<|aa Z<|za (Gv.lookupA (zx:=.int .i64 0) hg underlying139 Zy Zv (fun _=>Z) Z Z ⟨_,.head⟩)<|za (kw Z)<|za (jL Z Z)<|za (jO Z Z)<|ak Z<|ab Z<|z6<|ai<|aj Z<|z6<|yu Z Z<|ai<|aa Z<|ak Z<|z6<|zi<|zn (x:=.int _ _) Z ?_
  exact ⟨es,rfl,⟨_,.refl _,rfl⟩,hKn⟩
theorem As (f:ac) (hR:b7 f) (hv:f.vars.length≤1000) (K:KS) (hK:KB f K) (t pr:AV) (bk:Nat):∀n,Ar E f K t pr bk n
 |0=>fun _ _ _ h=>by omega
 |n+1=>DZ f hR hv K hK t pr bk n (As f hR hv K hK t pr bk n)
end Go.Proofs.YtdilpodccjlkgaaGreatDoor
namespace Go.Proofs.YtdilpodccjlkgaaGreatDoor
open Go.Proofs.Tryz
open Go.Proofs Go.Lib Go.Shelf Go.RowKit
variable {E:World}
set_option maxRecDepth 20000
theorem gh (t:fk) (b:Int):b∈cJ t↔(t.kind=0∧t.to0=b)∨(t.kind=1∧(t.to0=b∨t.to1=b)):=by
 unfold cJ
 by_cases h0:t.kind=0
 ·rw[if_pos h0];simp[h0];exact eq_comm
 ·rw[if_neg h0]
  by_cases h1:t.kind=1
  ·rw[if_pos h1]
   by_cases h2:t.to0=t.to1
   ·rw[if_pos h2];simp[h1,h2];exact eq_comm
   ·rw[if_neg h2];simp[h1]
    constructor
    ·rintro (h|h);exact .inl h.symm;exact .inr h.symm
    ·rintro (h|h);exact .inl h.symm;exact .inr h.symm
  ·rw[if_neg h1];simp[h0,h1]
theorem mq (f:ac) (hn:f.blocks.length≤1000) (a b:Int) (h0:0≤a) (ha:a<f.blocks.length):aM prog E 82 [.agg (bD f),.int .i64 a,.int .i64 b] (.bool (decide (b∈ah f a))):=by
 obtain ⟨c,hc⟩:∃c,f.blocks[a.toNat]'(by omega)=c:=⟨_,rfl⟩
 have hget:f.blocks[a.toNat]?=some c:=by rw[qt (by omega),hc]
 have hE:ah f a=cJ c.term:=by rw[jT h0 (by omega),hc]
 rw[hE]
 refine zp func82 Z (by decide) Z<|ai<|y9 (cs:=_) Z Z Z<|ab Z<|z6<|ai<|au jg Z Z8 Z Z<|aI Zh Z<|aa Z<|za (bv a.toNat ju jy Z Z (by omega) hget)<|au ji Z Zo Z Z<|ae isAgg49 Zo Z Z<|y6 (cs:=[.int .i64 0,.int .i64 0,.int .i64 0,.int .i64 0]) zeroValue49 Z Z<|fun i7=>y1 Zo Z Z Z Z Z Z .head Z<|ze (yc (t:=7) Z .head)<|z6<|ai<|au jf Z Y7 Z Z<|aA Yh Z<|ao Z Z<|aj Z<|zq (s:=17) Z (fun c1=>?_) (fun c1=>?_)
 ·refine z8 Z Z c1<|au jf Z Zd Z Z<|z8 Z Z c1<|za (q3 (j:=0) Z1 wz Z Z Z (by decide) Z)<|z8 Z Z c1<|aA j6 Z<|z8 Z Z c1<|aa Z<|z8 Z Z c1<|ao Z Z<|aw Z c1 Z<|aj Z<|zq (s:=24) Z (fun c2=>?_) (fun c2=>?_)
  ·refine z7 Z Z c2<|z7 Z Z c2<|z7 Z Z c2<|z7 Z Z c2<|zm Z Z<|zm Z Z<|zm Z Z<|zm Z Z<|zm Z Z<|zm Z Z<|zm Z Z<|zm Z Z<|zm Z Z<|zm Z Z<|zm Z Z<|zm Z Z<|z7 Z Z c2<|aw Z c2 Z<|ab Z<|z6<|zi<|zn (x:=.bool _) Z<|congrArg AV.bool ?_;rw[w3];simp only[wg,gh];simp_all
  ·refine z8 Z Z c2<|au jf Z Y7 Z Z<|z8 Z Z c2<|aA Yh Z<|z8 Z Z c2<|ao Z Z<|z8 Z Z c2<|aj Z<|zq (s:=28) Z (fun c3=>?_) (fun c3=>?_)
   ·refine z8 Z Z c3<|au jf Z Zd Z Z<|z8 Z Z c3<|za (q3 (j:=0) Z1 wz Z Z Z (by decide) Z)<|z8 Z Z c3<|aA j6 Z<|z8 Z Z c3<|aa Z<|z8 Z Z c3<|ao Z Z<|z8 Z Z c3<|aj Z<|zq (s:=34) Z (fun c4=>?_) (fun c4=>?_)
    ·refine z7 Z Z c4<|z7 Z Z c4<|z7 Z Z c4<|z7 Z Z c4<|z7 Z Z c4<|z8 Z Z c3<|aw Z c4 Z<|z8 Z Z c2<|aw Z c3 Z<|ay Z c2 Z<|ab Z<|z6<|zi<|zn (x:=.bool _) Z<|congrArg AV.bool ?_;rw[w3];simp only[wg,gh];simp_all
    ·refine z8 Z Z c4<|au jf Z Zd Z Z<|z8 Z Z c4<|za (q3 (j:=1) Z1 wz Z Z Z (by decide) Z)<|z8 Z Z c4<|aA j6 Z<|z8 Z Z c4<|aa Z<|z8 Z Z c4<|ao Z Z<|z8 Z Z c3<|ay Z c4 Z<|z8 Z Z c2<|aw Z c3 Z<|ay Z c2 Z<|ab Z<|z6<|zi<|zn (x:=.bool _) Z<|congrArg AV.bool ?_;rw[w3];simp only[wg,gh];simp_all
   ·refine z7 Z Z c3<|z7 Z Z c3<|z7 Z Z c3<|z7 Z Z c3<|z7 Z Z c3<|z7 Z Z c3<|zm Z Z<|zm Z Z<|zm Z Z<|zm Z Z<|zm Z Z<|z7 Z Z c3<|z8 Z Z c2<|ay Z c3 Z<|ay Z c2 Z<|ab Z<|z6<|zi<|zn (x:=.bool _) Z<|congrArg AV.bool ?_;rw[w3];simp only[wg,gh];simp_all
 ·refine z7 Z Z c1<|z7 Z Z c1<|z7 Z Z c1<|z7 Z Z c1<|z7 Z Z c1<|ay Z c1 Z<|aj Z<|z8 Z Z Z<|au jf Z Y7 Z Z<|z8 Z Z Z<|aA Yh Z<|z8 Z Z Z<|ao Z Z<|z8 Z Z Z<|aj Z<|zq (s:=28) Z (fun c5=>?_) (fun c5=>?_)
  ·refine z8 Z Z c5<|au jf Z Zd Z Z<|z8 Z Z c5<|za (q3 (j:=0) Z1 wz Z Z Z (by decide) Z)<|z8 Z Z c5<|aA j6 Z<|z8 Z Z c5<|aa Z<|z8 Z Z c5<|ao Z Z<|z8 Z Z c5<|aj Z<|zq (s:=34) Z (fun c6=>?_) (fun c6=>?_)
   ·refine z7 Z Z c6<|z7 Z Z c6<|z7 Z Z c6<|z7 Z Z c6<|z7 Z Z c6<|z8 Z Z c5<|aw Z c6 Z<|z8 Z Z Z<|aw Z c5 Z<|ay Z Z Z<|ab Z<|z6<|zi<|zn (x:=.bool _) Z<|congrArg AV.bool ?_;rw[w3];simp only[wg,gh];simp_all
   ·refine z8 Z Z c6<|au jf Z Zd Z Z<|z8 Z Z c6<|za (q3 (j:=1) Z1 wz Z Z Z (by decide) Z)<|z8 Z Z c6<|aA j6 Z<|z8 Z Z c6<|aa Z<|z8 Z Z c6<|ao Z Z<|z8 Z Z c5<|ay Z c6 Z<|z8 Z Z Z<|aw Z c5 Z<|ay Z Z Z<|ab Z<|z6<|zi<|zn (x:=.bool _) Z<|congrArg AV.bool ?_;rw[w3];simp only[wg,gh];simp_all
  ·refine z7 Z Z c5<|z7 Z Z c5<|z7 Z Z c5<|z7 Z Z c5<|z7 Z Z c5<|z7 Z Z c5<|zm Z Z<|zm Z Z<|zm Z Z<|zm Z Z<|zm Z Z<|z7 Z Z c5<|z8 Z Z Z<|ay Z c5 Z<|ay Z Z Z<|ab Z<|z6<|zi<|zn (x:=.bool _) Z<|congrArg AV.bool ?_;rw[w3];simp only[wg,gh];simp_all
theorem FF {a shut x:Int} {out:List Bool} {y:Nat} (hx:xD a out shut x) (h0:0≤x) (hy:y<out.length):xD a (out.set y true) shut x:=by
 refine ⟨hx.1,?_⟩
 rcases hx.2 with h|h
 ·exact .inl h
 ·right
  unfold gb at h ⊢
  rw[List.getElem?_set]
  by_cases e:y=x.toNat
  ·rw[if_pos e,if_pos (by omega)];rfl
  ·rw[if_neg e];exact h
set_option maxHeartbeats 4000000 in
theorem D0 (f:ac) (hE:bV f) (hn:f.blocks.length≤1000) (a shut:Int) (h0:0≤a) (ha:a<f.blocks.length):aZ prog E 81 [.agg (bD f),.int .i64 a,.int .i64 shut] []
  fun x O=>∃i:Nat,x=.own i f.blocks.length∧O=[(i,.grow 1 4 (cB (k6 (ah f) f.blocks.length a shut)))]:=by
 have hG:=hE.grph
 obtain ⟨n,hnn⟩:∃n,f.blocks.length=n:=⟨_,rfl⟩
 rw[hnn] at hG hn ha ⊢
 refine zp func81 Z (by decide) Z<|ai<|y9 (cs:=_) Z Z Z<|za (jK Z)<|z6<|ai<|au jg Z Z8 Z Z<|aI Zh Z<|ap ju Z<|ak Z<|z6<|ai<|aa Z<|az.makeB (m:=n) jk Yp Z Z Z Z Z (by omega) (by omega) (by show (1:Int)*_≤_;omega) (by omega)<|fun i16=>za (eu Z)<|z6<|zd<|ai<|ab Z<|z6<|zk<|y7 (γ:=List Bool × Bool) [1,2,3,7,8] (fun g=>[(9,.bool g.2)]) (fun g=>[(i16,.grow 1 4 (cB g.1))]) (fun g=>FrS (ah f) a shut n g.1∧(g.2=false→Bw (ah f) a shut g.1 n)) (fun g=>2*mh g.1+(if g.2=true then 1 else 0)) (List.replicate n false,true) aK aH (⟨FrS.begin _ _ _ _,fun h=>by cases h⟩) ?_
 rintro ⟨o0,again⟩ ⟨hS0,hfin⟩
 try dsimp only at *
 refine zd<|ai<|aj Z<|z6<|zy Z (fun ca=>?_) (fun ca=>?_)
 ·have ca:again=true:=by simpa using ca
  subst ca
  refine zh<|zk<|ai<|ab Z<|z6<|ai<|aa Z<|aa Z<|z6<|zk<|y7 (γ:=Nat × List Bool × Bool) [1,2,3,7,8,18] (fun g=>[(19,.int .i64 g.1),(9,.bool g.2.2)]) (fun g=>[(i16,.grow 1 4 (cB g.2.1))]) (fun g=>g.1≤n∧HX (ah f) a shut n o0 g.2.1 g.2.2∧(g.2.2=false→Bw (ah f) a shut g.2.1 g.1)) (fun g=>n - g.1) (0,o0,false) eh aH (⟨qw _,⟨hS0,Nat.le_refl _,fun h=>(by cases h),fun _=>Z⟩,fun _ x hx=>by omega⟩) ?_
  rintro ⟨x,out,ag⟩ ⟨hx,hR,hcl⟩
  try dsimp only at *
  have hol:=hR.len
  refine ai<|ax Z Z<|z6<|zd<|zt Z (fun cx=>?_) (fun cx=>?_)
  ·have hx2:x<n:=by omega
   have hgx:out[x]?=some (gb out (x:Int)):=lF (by omega)
   refine zh<|zd<|zk<|ai<|aa Z<|ak Z<|z6<|zd<|zd<|ye (γ:=Bool) [1,2,3,7,8,9,10,18,19] (fun u=>[(36,.bool u)]) (fun u=>[(i16,.grow 1 4 (cB out))]) (fun u=>u=!decide (xD a out shut x)) ?_ (fun _ _ h=>h) ?_
   ·refine aT<|aa Z<|aa Z<|ao Z Z<|aj Z<|zq (s:=25) Z (fun c7=>?_) (fun c7=>?_)
    ·refine z7 Z Z c7<|z7 Z Z c7<|z7 Z Z c7<|z7 Z Z c7<|zm Z Z<|zm Z Z<|zm Z Z<|zm Z Z<|zm Z Z<|z7 Z Z c7<|aw Z c7 Z<|z6 ?_
     exact ⟨_,tg,aK,aH,by simp_all[xD]⟩
    ·refine z8 Z Z c7<|aa Z<|z8 Z Z c7<|aa Z<|z8 Z Z c7<|aO Z Z<|z8 Z Z c7<|aj Z<|zq (s:=29) Z (fun c8=>?_) (fun c8=>?_)
     ·refine z8 Z Z c8<|za (gQ Z)<|z8 Z Z c8<|aa Z<|z8 Z Z c8<|za (yj (j:=x) jk Z6 Z Z Z ⟨_,.head⟩ (by first|rfl|(simp[aE,aN];done)|(simp[aE,aN];omega)) hx2)<|z8 Z Z c8<|za (Gv.loadB (j:=x) Ym Z ⟨_,.head⟩ hgx)<|z8 Z Z c8<|aD Z<|z8 Z Z c7<|aw Z c8 Z<|ay Z c7 Z<|z6 ?_
      exact ⟨_,tg,aK,aH,by simp_all[xD]⟩
     ·refine z7 Z Z c8<|z7 Z Z c8<|z7 Z Z c8<|z7 Z Z c8<|z7 Z Z c8<|z8 Z Z c7<|ay Z c8 Z<|ay Z c7 Z<|z6 ?_
      exact ⟨_,tg,aK,aH,by simp_all[xD]⟩
   ·rintro u hu
    subst hu
    refine zy Z (fun co=>?_) (fun co=>?_)
    ·have hno:¬xD a out shut x:=by simpa using co
     refine y5<|aT<|aC Z Z<|aa Z<|z6 ?_
     exact ⟨(x+1,out,ag),yV,eh,aH,⟨hx2,hR,fun h z hz hok=>by rcases Nat.lt_succ_iff_lt_or_eq.1 hz with h1|h1;exact hcl h z h1 hok;exact absurd (h1▸hok) hno⟩,by dsimp only;omega⟩
    ·have hok:xD a out shut x:=by simpa using co
     refine zh<|ai<|aa Z<|aa Z<|z6<|zk<|y7 (γ:=Nat × List Bool × Bool) [1,2,3,7,8,10,18,19,37] (fun g=>[(38,.int .i64 g.1),(9,.bool g.2.2)]) (fun g=>[(i16,.grow 1 4 (cB g.2.1))]) (fun g=>g.1≤n∧HX (ah f) a shut n o0 g.2.1 g.2.2∧xD a g.2.1 shut x∧(g.2.2=false→Bw (ah f) a shut g.2.1 x∧HW (ah f) a shut g.2.1 x g.1)) (fun g=>n - g.1) (0,out,ag) eh aH (⟨qw _,hR,hok,fun h=>⟨hcl h,fun _ y hy=>by omega⟩⟩) ?_
     rintro ⟨y,out,ag⟩ ⟨hy,hR,hok,hcl⟩
     try dsimp only at *
     have hol:=hR.len
     refine ai<|ax Z Z<|z6<|zd<|zt Z (fun cy=>?_) (fun cy=>?_)
     ·have hy2:y<n:=by omega
      have hgy:out[y]?=some (gb out (y:Int)):=lF (by omega)
      have hstep:(ag=false→(y:Int)∈ah f x→(y:Int)≠shut→gb out y=true)→(ag=false→Bw (ah f) a shut out x∧HW (ah f) a shut out x (y+1)):=fun h1 h2=>⟨(hcl h2).1,fun ho z hz he hs=>by
       rcases Nat.lt_succ_iff_lt_or_eq.1 hz with h3|h3
       ·exact (hcl h2).2 ho z h3 he hs
       ·subst h3;exact h1 h2 he hs⟩
      refine zh<|zd<|zk<|ai<|aa Z<|ak Z<|z6<|ai<|aa Z<|aa Z<|aO Z Z<|aj Z<|zq (s:=44) Z (fun c1=>?_) (fun c1=>?_)
      ·have d1:(y:Int)≠shut:=by simpa using c1
       refine z8 Z Z c1<|za (gQ Z)<|z8 Z Z c1<|aa Z<|z8 Z Z c1<|za (yj (j:=y) jk Z6 Z Z Z ⟨_,.head⟩ (by first|rfl|(simp[aE,aN];done)|(simp[aE,aN];omega)) hy2)<|z8 Z Z c1<|za (Gv.loadB (j:=y) Ym Z ⟨_,.head⟩ hgy)<|z8 Z Z c1<|aD Z<|aw Z c1 Z<|aj Z<|zq (s:=51) Z (fun c2=>?_) (fun c2=>?_)
       ·have d2:gb out (y:Int)=false:=by simpa using c2
        refine z8 Z Z c2<|ae jv jj Z Z<|z8 Z Z c2<|aa Z<|z8 Z Z c2<|aa Z<|z8 Z Z c2<|zg (mq f (by omega) (x:Int) (y:Int) (by omega) (by omega)) Z<|aw Z c2 Z<|z6<|zy Z (fun c3=>?_) (fun c3=>?_)
        ·have d3:(y:Int)∈ah f x:=by simpa using c3
         refine ai<|za (gQ Z)<|aa Z<|za (yj (j:=y) jk Z6 Z Z Z ⟨_,.head⟩ (by first|rfl|(simp[aE,aN];done)|(simp[aE,aN];omega)) hy2)<|qb (j:=y) Z6 Z Z .head (by first|omega|(simp;omega))<|z6<|aT<|ab Z<|z6<|aT<|aC Z Z<|aa Z<|z6 ?_
         exact ⟨(y+1,out.set y true,true),tg,eh,aH,⟨hy2,hR.hit hok d3 d1 hy2 d2,FF hok (by omega) (by omega),fun h=>by cases h⟩,by dsimp only;omega⟩
        ·have d3:¬(y:Int)∈ah f x:=by simpa using c3
         refine zh<|aT<|aC Z Z<|aa Z<|z6 ?_
         exact ⟨(y+1,out,ag),tg,eh,aH,⟨hy2,hR,hok,hstep fun _ h _=>absurd h d3⟩,by dsimp only;omega⟩
       ·have d2:gb out (y:Int)=true:=by simpa using c2
        refine z7 Z Z c2<|z7 Z Z c2<|z7 Z Z c2<|z7 Z Z c2<|ay Z c2 Z<|z6<|yg Z Z<|zh<|aT<|aC Z Z<|aa Z<|z6 ?_
        exact ⟨(y+1,out,ag),tg,eh,aH,⟨hy2,hR,hok,hstep fun _ _ _=>d2⟩,by dsimp only;omega⟩
      ·have d1:(y:Int)=shut:=by simpa using c1
       refine z7 Z Z c1<|z7 Z Z c1<|z7 Z Z c1<|z7 Z Z c1<|z7 Z Z c1<|ay Z c1 Z<|aj Z<|z7 Z Z Z<|z7 Z Z Z<|z7 Z Z Z<|z7 Z Z Z<|ay Z Z Z<|z6<|yg Z Z<|zh<|aT<|aC Z Z<|aa Z<|z6 ?_
       exact ⟨(y+1,out,ag),tg,eh,aH,⟨hy2,hR,hok,hstep fun _ _ h=>absurd d1 h⟩,by dsimp only;omega⟩
     ·have hyn:y=n:=by omega
      refine y5<|aT<|aC Z Z<|aa Z<|z6 ?_
      exact ⟨(x+1,out,ag),yV,eh,aH,⟨hx2,hR,fun h z hz ho=>by rcases Nat.lt_succ_iff_lt_or_eq.1 hz with h1|h1;exact (hcl h).1 z h1 ho;subst h1;exact fun y2 he hs=>(by by_cases hlt:y2<n;exact (hcl h).2 ho y2 (by omega) he hs;exact absurd (hG.rng z (by omega) (by omega) _ he).2 (by omega))⟩,by dsimp only;omega⟩
  ·have hxn:x=n:=by omega
   subst hxn
   refine y5 ?_
   exact ⟨(out,ag),sj,aK,aH,⟨hR.toFrS,hcl⟩,by dsimp only;have h1:=hR.less;have h2:=hR.more;cases ag;simp;omega;have:=h2 rfl;simp;omega⟩
 ·have ca:again=false:=by simpa using ca
  rw[hS0.eq hG ⟨h0,ha⟩ (hfin ca)]
  refine y5<|ai<|za (gQ Z)<|za (eu Z)<|z6<|zi<|zn (x:=.own _ _) Z ?_
  exact ⟨i16,rfl,rfl⟩
theorem m3 (f:ac) (hE:bV f) (hn:f.blocks.length≤1000) (shut:Int):aM prog E 41 [.agg (bD f),.int .i64 shut] (.fro 1 ((nz (ah f) f.blocks.length shut).map xw)):=by
 have hpos:=hE.grph.npos
 refine zp func41 Z (by decide) Z<|ai<|y9 (cs:=_) Z Z Z<|za (jK Z)<|z6<|ai<|ae jv jj Z Z<|aa Z<|zu Z (zj (.rest _)) (D0 f hE hn 0 shut (Int.le_refl _) (by omega)) ?_
 rintro r8 O8 ⟨i8,rfl,rfl⟩
 refine za (eu Z)<|z6<|ai<|za (gQ Z)<|aa Z<|aO Z Z<|za (yj (j:=0) jk Z6 Z Z Z ⟨_,.head⟩ (by rw[aN,lG]) hpos)<|qb (j:=0) Z6 Z Z .head (by rw[lG];exact hpos)<|z6<|ai<|za (gQ Z)<|za (eu Z)<|z6 ?_
 rw[show (!decide (shut=0))=decide (shut≠0) by simp,Bz]
 refine zz (aS.knowB (t:=4) Z .head (qI _ _ _))<|zi<|zn (x:=.fro _ _) Z ?_
 rfl
end Go.Proofs.YtdilpodccjlkgaaGreatDoor
namespace Go.Proofs.YtdilpodccjlkgaaGreatDoor
open Go.Proofs.Tryz
open Go.Proofs Go.Lib Go.Shelf Go.RowKit
variable {E:World}
set_option maxRecDepth 20000
set_option maxHeartbeats 4000000 in
theorem yB (f:ac) (hf:small f) (v:Nat):aM prog E 42 [.agg (bD f),.int .i64 v] (.tup [.int .i64 (aL f v).1,.int .i64 (aL f v).2]):=by
 have hn:=hf.2.2.1
 refine zp func42 Z (by decide) Z<|ai<|y9 (cs:=_) Z Z Z<|ak Z<|ak Z<|z6<|zd<|ai<|au jg Z Z8 Z Z<|aI Zh Z<|ap ju Z<|aa Z<|z6<|zk<|y7 (γ:=Nat) [1,13,14] (fun k=>[(15,.int .i64 k)]) (fun k=>[]) (fun k=>k≤f.blocks.length∧ky v (dG f k)=0) (fun k=>f.blocks.length - k) 0 aK aH (⟨qw _,Z⟩) ?_
 rintro k ⟨hk,hc⟩
 refine ai<|ax Z Z<|z6<|zd<|zt Z (fun ck=>?_) (fun ck=>?_)
 ·have hk2:k<f.blocks.length:=by simp at ck;omega
  obtain ⟨b,hbk⟩:∃b,f.blocks[k]=b:=⟨_,rfl⟩
  have hget:f.blocks[k]?=some b:=by rw[qt hk2,hbk]
  have hmem:b∈f.blocks:=hbk▸qx hk2
  obtain ⟨hb0,hb1,hb2,hb3,hb4⟩:=hf.2.2.2.2 b hmem
  refine zh<|zd<|zk<|ai<|aa Z<|za (bv k ju jy Z Z Z hget)<|ae Yo jy Z Z<|y6 (cs:=[.str ⟨#[]⟩,.raw (.slice none 0 0),.raw (.slice none 0 0),.int .i64 0,.int .i64 0,.int .i64 0,.int .i64 0]) Zl Z Z<|fun i7=>ak Z<|y1 jy Z Z Z Z Z Z .head Z<|ze (yc (t:=7) Z .head)<|z6<|zd<|ai<|au ji Z Yl Z Z<|aI Yv Z<|ap Z4 Z<|aa Z<|z6<|zk<|y7 (γ:=Nat) [1,6,7,13,14,15,21,22] (fun j=>[(23,.int .i64 j)]) (fun j=>[]) (fun j=>j≤b.phis.length∧ky v (dG f k++dJ k (b.phis.take j))=0) (fun j=>b.phis.length - j) 0 aK aH (⟨qw _,by rw[show dJ k (b.phis.take 0)=[] from rfl,w6];exact hc⟩) ?_
  rintro j ⟨hj,hcj⟩
  refine ai<|ax Z Z<|z6<|zd<|zt Z (fun cj=>?_) (fun cj=>?_)
  ·have hj2:j<b.phis.length:=by simp at cj;omega
   have hpre:=E9 hk2 hbk hj2
   have hsc:=lH v (dG f k++dJ k (b.phis.take j)) b.phis[j].dst ((k:Int),(-1:Int))
   rw[qv,←lE k hj2] at hsc
   refine zh<|zd<|zk<|ai<|za (bv j Z4 Zb Z Z Z (qt hj2))<|ae X1 Zb Z Z<|y6 (cs:=[.int .i64 0,.raw (.slice none 0 0),.raw (.slice none 0 0)]) Yf Z Z<|fun i9=>y1 Zb Z Z Z Z Z Z .head Z<|ze (yc (t:=9) Z .head)<|z6<|ai<|au Z0 Z wz Z Z<|aA j6 Z<|aa Z<|ao Z Z<|z6<|zy Z (fun cd=>?_) (fun cd=>?_)
   ·have hd:b.phis[j].dst=(v:Int):=by simpa using cd
    rw[hd] at hpre
    refine ai<|aa Z<|ak Z<|ak Z<|z6<|zi<|qh (x:=.int _ _) (y:=.int _ _) Z Z ?_
    rw[sO hpre hcj]
   ·have hd:¬b.phis[j].dst=(v:Int):=by simpa using cd
    refine zh<|aT<|aC Z Z<|aa Z<|z6 ?_
    exact ⟨j+1,wU,aK,aH,⟨hj2,by rw[hsc,if_neg hd,hcj]⟩,by omega⟩
  ·have hjn:j=b.phis.length:=by simp at cj;omega
   subst hjn
   rw[qy] at hcj
   refine y5<|ai<|au ji Z Zq Z Z<|aI Y4 Z<|ap jz Z<|aa Z<|z6<|zk<|y7 (γ:=Nat) [1,6,13,14,15,34,35] (fun j=>[(36,.int .i64 j)]) (fun j=>[]) (fun j=>j≤b.insts.length∧ky v (dG f k++dJ k b.phis++gt k (b.insts.take j))=0) (fun j=>b.insts.length - j) 0 aK aH (⟨qw _,by rw[show gt k (b.insts.take 0)=[] from rfl,w6];exact hcj⟩) ?_
   rintro j ⟨hj,hci⟩
   refine ai<|ax Z Z<|z6<|zd<|zt Z (fun cj=>?_) (fun cj=>?_)
   ·have hj2:j<b.insts.length:=by simp at cj;omega
    have hev:=iW k hj2
    refine zh<|zd<|zk<|ai<|aa Z<|za (bv j jz jx Z Z Z (qt hj2))<|ae Y0 jx Z Z<|y6 (cs:=[.int .i64 0,.int .i64 0,.raw (.slice none 0 0),.int .i64 0]) Zf Z Z<|fun i11=>ak Z<|y1 jx Z Z Z Z Z Z .head Z<|ze (yc (t:=11) Z .head)<|z6<|ai<|au j5 Z wz Z Z<|aA j6 Z<|aa Z<|ao Z Z<|z6<|zy Z (fun cd=>?_) (fun cd=>?_)
    ·have hd:b.insts[j].dst=(v:Int):=by simpa using cd
     have hpre:=Dl hk2 hbk hj2 (by omega)
     rw[hd] at hpre
     refine ai<|aa Z<|aa Z<|ak Z<|ak Z<|z6<|zi<|qh (x:=.int _ _) (y:=.int _ _) Z Z ?_
     rw[sO hpre hci]
    ·have hd:¬b.insts[j].dst=(v:Int):=by simpa using cd
     have hsc:ky v (dG f k++dJ k b.phis++gt k (b.insts.take (j+1)))=0:=by
      rw[hev]
      split
      ·rw[←qv,lH,if_neg hd,hci]
      ·rw[w6];exact hci
     refine zh<|aT<|aC Z Z<|aa Z<|z6 ?_
     exact ⟨j+1,lu,aK,aH,⟨hj2,hsc⟩,by omega⟩
   ·have hjn:j=b.insts.length:=by simp at cj;omega
    subst hjn
    rw[qy] at hci
    refine y5<|aT<|aC Z Z<|aa Z<|z6 ?_
    exact ⟨k+1,de,aK,aH,⟨hk2,by rw[ga hk2,hbk,p6,←qv];exact hci⟩,by omega⟩
 ·have hkn:k=f.blocks.length:=by simp at ck;omega
  subst hkn
  refine y5<|ai<|ak Z<|ak Z<|z6<|zi<|qh (x:=.int _ _) (y:=.int _ _) Z Z ?_
  rw[xF hc]
set_option maxHeartbeats 4000000 in
theorem oH (f:ac) (hf:small f) (v:Nat):aM prog E 79 [.agg (bD f),.int .i64 v] (.int .i64 (bu f v).length):=by
 have hn:=hf.2.2.1
 refine zp func79 Z (by decide) Z<|ai<|y9 (cs:=_) Z Z Z<|ak Z<|z6<|ai<|ak Z<|z6<|zd<|ai<|au jg Z Z8 Z Z<|aI Zh Z<|ap ju Z<|aa Z<|z6<|zk<|y7 (γ:=Nat) [1,13,14] (fun k=>[(15,.int .i64 k),(5,.int .i64 (ky v (dG f k)))]) (fun k=>[]) (fun k=>k≤f.blocks.length) (fun k=>f.blocks.length - k) 0 eh aH (qw _) ?_
 rintro k hk
 refine ai<|ax Z Z<|z6<|zd<|zt Z (fun ck=>?_) (fun ck=>?_)
 ·have hk2:k<f.blocks.length:=by simp at ck;omega
  obtain ⟨b,hbk⟩:∃b,f.blocks[k]=b:=⟨_,rfl⟩
  have hget:f.blocks[k]?=some b:=by rw[qt hk2,hbk]
  have hmem:b∈f.blocks:=hbk▸qx hk2
  obtain ⟨hb0,hb1,hb2,hb3,hb4⟩:=hf.2.2.2.2 b hmem
  have hel:=hf.evs hk
  refine zh<|zd<|zk<|ai<|za (bv k ju jy Z Z Z hget)<|ae Yo jy Z Z<|y6 (cs:=[.str ⟨#[]⟩,.raw (.slice none 0 0),.raw (.slice none 0 0),.int .i64 0,.int .i64 0,.int .i64 0,.int .i64 0]) Zl Z Z<|fun i7=>y1 jy Z Z Z Z Z Z .head Z<|ze (yc (t:=7) Z .head)<|z6<|zd<|ai<|au ji Z Yl Z Z<|aI Yv Z<|ap Z4 Z<|aa Z<|z6<|zk<|y7 (γ:=Nat) [1,7,13,14,15,20,21] (fun j=>[(22,.int .i64 j),(5,.int .i64 (ky v (dG f k++dJ k (b.phis.take j))))]) (fun j=>[]) (fun j=>j≤b.phis.length) (fun j=>b.phis.length - j) 0 ⟨Z,(by rw[show dJ k (b.phis.take 0)=[] from rfl,w6];rfl),trivial⟩ aH (qw _) ?_
  rintro j hj
  refine ai<|ax Z Z<|z6<|zd<|zt Z (fun cj=>?_) (fun cj=>?_)
  ·have hj2:j<b.phis.length:=by simp at cj;omega
   have hsc:=lH v (dG f k++dJ k (b.phis.take j)) b.phis[j].dst ((k:Int),(-1:Int))
   rw[qv,←lE k hj2] at hsc
   have hcl:ky v (dG f k++dJ k (b.phis.take j))≤2001000:=by
    have h1:=zV v (dG f k++dJ k (b.phis.take j))
    have h2:(dJ k (b.phis.take j)).length≤1000:=by unfold dJ;rw[w1,w7];omega
    rw[qz] at h1;omega
   refine zh<|zd<|zk<|ai<|za (bv j Z4 Zb Z Z Z (qt hj2))<|ae X1 Zb Z Z<|y6 (cs:=[.int .i64 0,.raw (.slice none 0 0),.raw (.slice none 0 0)]) Yf Z Z<|fun i9=>y1 Zb Z Z Z Z Z Z .head Z<|ze (yc (t:=9) Z .head)<|z6<|ai<|au Z0 Z wz Z Z<|aA j6 Z<|aa Z<|ao Z Z<|z6<|zy Z (fun cd=>?_) (fun cd=>?_)
   ·have hd:b.phis[j].dst=(v:Int):=by simpa using cd
    rw[if_pos hd] at hsc
    refine aT<|aa Z<|aC Z Z<|ak Z<|z6<|aT<|aC Z Z<|aa Z<|z6 ?_
    exact ⟨j+1,lu,⟨rfl,(by rw[hsc];rfl),trivial⟩,aH,hj2,by omega⟩
   ·have hd:¬b.phis[j].dst=(v:Int):=by simpa using cd
    rw[if_neg hd] at hsc
    refine zh<|aT<|aC Z Z<|aa Z<|z6 ?_
    exact ⟨j+1,lu,⟨rfl,(by rw[hsc];rfl),trivial⟩,aH,hj2,by omega⟩
  ·have hjn:j=b.phis.length:=by simp at cj;omega
   subst hjn
   rw[qy]
   refine y5<|ai<|au ji Z Zq Z Z<|aI Y4 Z<|ap jz Z<|aa Z<|z6<|zk<|y7 (γ:=Nat) [1,13,14,15,34,35] (fun j=>[(36,.int .i64 j),(5,.int .i64 (ky v (dG f k++dJ k b.phis++gt k (b.insts.take j))))]) (fun j=>[]) (fun j=>j≤b.insts.length) (fun j=>b.insts.length - j) 0 ⟨Z,(by rw[show gt k (b.insts.take 0)=[] from rfl,w6];rfl),trivial⟩ aH (qw _) ?_
   rintro j hj
   refine ai<|ax Z Z<|z6<|zd<|zt Z (fun cj=>?_) (fun cj=>?_)
   ·have hj2:j<b.insts.length:=by simp at cj;omega
    have hcl:ky v (dG f k++dJ k b.phis++gt k (b.insts.take j))≤2002000:=by
     have h1:=zV v (dG f k++dJ k b.phis++gt k (b.insts.take j))
     have h2:(dJ k b.phis).length≤1000:=by unfold dJ;rw[w1];omega
     have h3:=p7 k (b.insts.take j)
     rw[w7] at h3
     rw[qz,qz] at h1;omega
    have hsc:ky v (dG f k++dJ k b.phis++gt k (b.insts.take (j+1)))=ky v (dG f k++dJ k b.phis++gt k (b.insts.take j))+if b.insts[j].dst=(v:Int) then 1 else 0:=by
     rw[iW k hj2]
     split
     ·rw[←qv,lH]
     ·rw[w6,if_neg (by omega)];rfl
    refine zh<|zd<|zk<|ai<|za (bv j jz jx Z Z Z (qt hj2))<|ae Y0 jx Z Z<|y6 (cs:=[.int .i64 0,.int .i64 0,.raw (.slice none 0 0),.int .i64 0]) Zf Z Z<|fun i11=>y1 jx Z Z Z Z Z Z .head Z<|ze (yc (t:=11) Z .head)<|z6<|ai<|au j5 Z wz Z Z<|aA j6 Z<|aa Z<|ao Z Z<|z6<|zy Z (fun cd=>?_) (fun cd=>?_)
    ·have hd:b.insts[j].dst=(v:Int):=by simpa using cd
     rw[if_pos hd] at hsc
     refine aT<|aa Z<|aC Z Z<|ak Z<|z6<|aT<|aC Z Z<|aa Z<|z6 ?_
     exact ⟨j+1,yV,⟨rfl,(by rw[hsc];rfl),trivial⟩,aH,hj2,by omega⟩
    ·have hd:¬b.insts[j].dst=(v:Int):=by simpa using cd
     rw[if_neg hd] at hsc
     refine zh<|aT<|aC Z Z<|aa Z<|z6 ?_
     exact ⟨j+1,yV,⟨rfl,(by rw[hsc];rfl),trivial⟩,aH,hj2,by omega⟩
   ·have hjn:j=b.insts.length:=by simp at cj;omega
    subst hjn
    rw[qy]
    refine y5<|aT<|aC Z Z<|aa Z<|z6 ?_
    exact ⟨k+1,de,⟨rfl,(by rw[ga hk2,hbk,p6,←qv];rfl),trivial⟩,aH,hk2,by omega⟩
 ·have hkn:k=f.blocks.length:=by simp at ck;omega
  subst hkn
  refine y5<|ai<|aa Z<|ak Z<|z6<|zi<|zn (x:=.int _ _) Z ?_
  rw[vC]
theorem rT (f:ac) (hE:bV f) (hf:small f) (v:Nat) (b a:Int) (h0:0≤b) (hb:b<f.blocks.length):aM prog E 80 [.agg (bD f),.int .i64 v,.int .i64 b,.int .i64 a] (.bool (eJ f (aL f v) b a)):=by
 have hn:=hf.2.2.1
 refine zp func80 Z (by decide) Z<|ai<|y9 (cs:=_) Z Z Z<|ab Z<|z6<|ai<|ae jv jj Z Z<|aa Z<|zg (yB f hf v) Z<|za (kw Z)<|za (jL Z Z)<|za (jL Z Z)<|ak Z<|ak Z<|z6<|zd<|zk<|ai<|aa Z<|ax Z Z<|ab Z<|z6<|zt Z (fun c0=>?_) (fun c0=>?_)
 ·refine ai<|ab Z<|z6<|zi<|zn (x:=.bool _) Z ?_
  rw[eJ,if_pos c0]
 ·refine ai<|aa Z<|aa Z<|ao Z Z<|ab Z<|z6<|zy Z (fun c1=>?_) (fun c1=>?_)
  ·have d1:(aL f v).1=b:=by simpa using c1
   refine ai<|aa Z<|aa Z<|ax Z Z<|ab Z<|z6<|zi<|zn (x:=.bool _) Z ?_
   rw[eJ,if_neg c0,if_pos d1]
  ·have d1:¬(aL f v).1=b:=by simpa using c1
   have hg:=mi (E:=ah f) (n:=f.blocks.length) (k:=b.toNat) (shut:=(aL f v).1) (by omega)
   rw[show ((b.toNat:Nat):Int)=b by omega] at hg
   refine zh<|ai<|ae jv jj Z Z<|aa Z<|zg (m3 f hE hn (aL f v).1) Z<|aa Z<|za (bv b.toNat jk Z6 Z Z (by omega) hg)<|za (yv (c:=.bool _) Ym Z)<|aD Z<|ab Z<|z6<|zi<|zn (x:=.bool _) Z ?_
   rw[eJ,if_neg c0,if_neg d1]
end Go.Proofs.YtdilpodccjlkgaaGreatDoor
