/- The program's rule for whoever asks; tables of ranges. Of programs that are little. -/
import Derived.Test.YtbbonnfjealmpaaGreatDoorZXg
import Derived.Test.YtbbonnfjealmpaaGreatDoorZXf
import Derived.Test.YtbbonnfjealmpaaGreatDoorZXd
set_option linter.unusedVariables false
set_option linter.unusedSimpArgs false
set_option linter.unusedSectionVars false
namespace Go.Proofs.YtbbonnfjealmpaaGreatDoor
section
open Go.Proofs.Tryz
open Go.Proofs
variable {E:World}
set_option maxRecDepth 20000
theorem MY (t:Int) (a b:aO):aS prog E 169 [.i t,.agg (bM a),.agg (bM b)] (.agg (bM (vE (fK t) a b))):=by
 obtain ⟨tt,htt⟩:∃tt,fK t=tt:=⟨_,rfl⟩;obtain ⟨j,hj⟩:∃j,bU a b=j:=⟨_,rfl⟩;have hw:vE (fK t) a b=if a.2<a.1 then j else (if j.1<a.1∧tt.1≤tt.2 then dM j.1 tt.1 else j.1,if a.2<j.2∧tt.1≤tt.2 then dx j.2 tt.2 else j.2):=by subst htt hj;rfl
 rw[hw];have hJ:=D4 (E:=E) a b;rw[hj] at hJ;have hT:=D3 (E:=E) t;rw[htt] at hT;refine zm func169 U (by decide) U<|Z<|zx (cs:=_) U U U<|zx (cs:=_) U U U<|zp (cs:=[.i 0,.i 0]) Za U U<|fun i6=>Y<|Z<|ae jw j8 U U<|ae jw j8 U U<|zb (hJ) U<|C U<|zb (hT) U<|zp (cs:=[.i 0,.i 0]) Za U U<|fun i7=>zp (cs:=[.i 0,.i 0]) Za U U<|fun i8=>zi j8 U U U U U U .t1 U<|zi j8 U U U U U U .head U<|Y<|yd (zz (t:=8) U .head)<|za<|Z<|ae jw j8 U U<|zb (ff _) U<|Y<|zh U (fun ce=>?_) (fun ce=>?_)
 ·refine Z<|X (qb jw j8 U ⟨_,.head⟩ U)<|zi j8 U U U U U U .t1 U<|Y<|zf<|yi U ⟨_,.t1⟩ jw j8 U ?_;rw[if_pos ce];try rfl
 rw[if_neg ce];refine zc<|za<|za<|y3 (γ:=Bool) [4,6,7,8] (fun u=>[(26,.bool u)]) (fun u=>[(i7,.cells 63 (bM j)),(i6,.cells 63 [.i 0,.i 0])]) (fun u=>u=decide (j.1<a.1∧tt.1≤tt.2)) ?_ (fun _ _ h=>h) ?_
 ·refine bZ<|X (ze jx U Z0 (by decide) U U)<|X (zj (c:=.int _ _) Zb U ⟨_,.head⟩ U)<|ao jx U Z0 U U<|aD Zb U<|aq U U<|aw U<|zo (s:=22) U (fun c1=>?_) (fun c1=>?_)
  ·refine M U U c1<|ae jw j8 U U<|M U U c1<|zb (ff _) U<|M U U c1<|aL U<|aA U c1 U<|Y ?_;exact ⟨_,f7,aN,aJ,by have:j.1<a.1:=(by simpa using c1);simp[this];rw[w4];simp⟩
  refine H U U c1<|H U U c1<|H U U c1<|ay U c1 U<|Y ?_;exact ⟨_,f7,aN,aJ,by have:¬j.1<a.1:=(by simpa using c1);simp[this]⟩
 rintro u hu;subst hu;refine y3 (γ:=Int) [4,6,7,8] (fun x=>[]) (fun x=>[(i7,.cells 63 [.i x,.i j.2]),(i6,.cells 63 [.i 0,.i 0])]) (fun x=>x=if j.1<a.1∧tt.1≤tt.2 then dM j.1 tt.1 else j.1) ?_ (fun _ _ h=>h) ?_
 ·refine zh U (fun c1=>?_) (fun c1=>?_)
  ·refine bZ<|X (ze jx U Z0 (by decide) U U)<|X (zj (c:=.int _ _) Zb U ⟨_,.head⟩ U)<|ao jx U Z0 U U<|aD Zb U<|X (Gv.minI U U)<|X (ze jx U Z0 (by decide) U U)<|yh (l:=[_]) (new:=[_,_]) Z0 U U U U U U .head U U<|Y ?_;exact ⟨dM j.1 tt.1,f7,trivial,aJ,by rw[if_pos c1]⟩
  refine zc ?_;exact ⟨j.1,f7,trivial,aJ,by rw[if_neg c1]⟩
 rintro x hx;refine za<|za<|y3 (γ:=Bool) [6,7,8] (fun u=>[(42,.bool u)]) (fun u=>[(i7,.cells 63 [.i x,.i j.2]),(i6,.cells 63 [.i 0,.i 0])]) (fun u=>u=decide (a.2<j.2∧tt.1≤tt.2)) ?_ (fun _ _ h=>h) ?_
 ·refine bZ<|X (ze jx U Z0 (by decide) U U)<|X (zj (c:=.int _ _) Zb U ⟨_,.head⟩ U)<|ao jx U Z0 U U<|aD Zb U<|bg U U<|aw U<|zo (s:=38) U (fun c1=>?_) (fun c1=>?_)
  ·refine M U U c1<|ae jw j8 U U<|M U U c1<|zb (ff _) U<|M U U c1<|aL U<|aA U c1 U<|Y ?_;exact ⟨_,eX,aN,aJ,by have:a.2<j.2:=(by simpa using c1);simp[this];rw[w4];simp⟩
  refine H U U c1<|H U U c1<|H U U c1<|ay U c1 U<|Y ?_;exact ⟨_,eX,aN,aJ,by have:¬a.2<j.2:=(by simpa using c1);simp[this]⟩
 rintro u hu;subst hu;rw[←hx];refine zh U (fun c1=>?_) (fun c1=>?_)
 ·refine bZ<|X (ze jx U Z0 (by decide) U U)<|X (zj (c:=.int _ _) Zb U ⟨_,.head⟩ U)<|ao jx U Z0 U U<|aD Zb U<|X (Gv.maxI U U)<|X (ze jx U Z0 (by decide) U U)<|yh (l:=[_]) (new:=[_,_]) Z0 U U U U U U .head U U<|Y<|Z<|X (qb jw j8 U ⟨_,.head⟩ U)<|zi j8 U U U U U U .t1 U<|Y<|zf<|yi U ⟨_,.t1⟩ jw j8 U ?_;rw[if_pos c1];try rfl
 refine zc<|Z<|X (qb jw j8 U ⟨_,.head⟩ U)<|zi j8 U U U U U U .t1 U<|Y<|zf<|yi U ⟨_,.t1⟩ jw j8 U ?_;rw[if_neg c1];try rfl
def AU (op:Int) (a b:aO):Bool:=if op=7 then decide (a.1=a.2)&&decide (a=b) else if op=8 then decide (a.2<b.1) else if op=9 then decide (a.2≤b.1) else false
def AW (op:Int) (a b:aO):Bool:=if op=7 then decide ((bR a b).2<(bR a b).1) else if op=8 then decide (b.2≤a.1) else if op=9 then decide (b.2<a.1) else false
theorem Ij (op:Int) (a b:aO):lR op a b=if a.2<a.1∨b.2<b.1 then fD else Fi (AU op a b) (AW op a b):=by
 unfold lR AU AW
 by_cases h:a.2<a.1∨b.2<b.1
 ·rw[if_pos h,if_pos h]
 rw[if_neg h,if_neg h]
 by_cases h7:op=7
 ·rw[if_pos h7,if_pos h7,if_pos h7]
 rw[if_neg h7,if_neg h7,if_neg h7]
 by_cases h8:op=8
 ·rw[if_pos h8,if_pos h8,if_pos h8]
 rw[if_neg h8,if_neg h8,if_neg h8]
 by_cases h9:op=9
 ·rw[if_pos h9,if_pos h9,if_pos h9]
 rw[if_neg h9,if_neg h9,if_neg h9];rfl
theorem Ik (a b:aO):decide (a.1=b.1∧a.2=b.2)=decide (a=b):=decide_eq_decide.2 ⟨fun h=>Prod.ext h.1 h.2,fun h=>by rw[h];exact ⟨rfl,rfl⟩⟩
theorem MZ (op:Int) (a b:aO):aS prog E 145 [.i op,.agg (bM a),.agg (bM b)] (.agg (bM (lR op a b))):=by
 rw[Ij];refine zm func145 U (by decide) U<|Z<|zx (cs:=_) U U U<|zx (cs:=_) U U U<|zp (cs:=[.i 0,.i 0]) Za U U<|fun i6=>Y<|Z<|ah U<|ah U<|Y<|za<|Z<|C U<|Y<|y3 (γ:=Bool × Bool) [4,5,6] (fun g=>[(8,.bool g.1),(7,.bool g.2)]) (fun g=>[(i6,.cells 63 [.i 0,.i 0])]) (fun g=>g.1=AU op a b∧g.2=AW op a b) ?_ (fun _ _ h=>h) ?_
 ·refine zd<|Z<|au U U<|ah U<|Y<|zh U (fun c7=>?_) (fun c7=>?_)
  ·refine Z<|ao jx U Z0 U U<|aD Zb U<|ao jx U Z0 U U<|aD Zb U<|au U U<|aw U<|zo (s:=17) U (fun c=>?_) (fun c=>?_)
   ·refine M U U c<|ae jw j8 U U<|M U U c<|ae jw j8 U U<|M U U c<|X (Gv.eqlP (xs:=[.int _ _,.int _ _]) (ys:=[.int _ _,.int _ _]) (by kernel_rfl) U U (fun w=>pd _ _ _ _ w))<|aA U c U<|ah U<|Y<|bZ<|ae jw j8 U U<|ae jw j8 U U<|zb (pe _ _) U<|zb (ff _) U<|ah U<|Y ?_;exact ⟨(decide (a.1=b.1∧a.2=b.2),decide ((bR a b).2<(bR a b).1)),eX,cV,aJ,by dsimp only;exact ⟨by rw[AU,if_pos c7,Ik,show decide (a.1=a.2)=true from c];rfl,by rw[AW,if_pos c7]⟩⟩
   refine H U U c<|H U U c<|H U U c<|ay U c U<|ah U<|Y<|bZ<|ae jw j8 U U<|ae jw j8 U U<|zb (pe _ _) U<|zb (ff _) U<|ah U<|Y ?_;exact ⟨(false,decide ((bR a b).2<(bR a b).1)),eX,cV,aJ,by dsimp only;exact ⟨by rw[AU,if_pos c7,show decide (a.1=a.2)=false from c];rfl,by rw[AW,if_pos c7]⟩⟩
  refine Z<|au U U<|ah U<|Y<|zh U (fun c8=>?_) (fun c8=>?_)
  ·refine zn (fun j=>false) (by kernel_rfl) U (zk (.rest _))<|D 0 U (dk jx U Z0 U U)<|D 1 U (d9 Zb U)<|D 2 U (dk jx U Z0 U U)<|D 3 U (d9 Zb U)<|D 4 U (Gv.lss U U)<|D 5 U (dk jx U Z0 U U)<|D 6 U (d9 Zb U)<|D 7 U (dk jx U Z0 U U)<|D 8 U (d9 Zb U)<|D 9 U (q7 U U)<|D 10 U (sx U)<|D 11 U (sx U)<|dS ?_;exact ⟨(decide (a.2<b.1),decide (b.2≤a.1)),eX,cV,aJ,by dsimp only;exact ⟨by rw[AU,if_neg c7,if_pos c8],by rw[AW,if_neg c7,if_pos c8]⟩⟩
  refine Z<|au U U<|ah U<|Y<|zh U (fun c9=>?_) (fun c9=>?_)
  ·refine zn (fun j=>false) (by kernel_rfl) U (zk (.rest _))<|D 0 U (dk jx U Z0 U U)<|D 1 U (d9 Zb U)<|D 2 U (dk jx U Z0 U U)<|D 3 U (d9 Zb U)<|D 4 U (Gv.leq U U)<|D 5 U (dk jx U Z0 U U)<|D 6 U (d9 Zb U)<|D 7 U (dk jx U Z0 U U)<|D 8 U (d9 Zb U)<|D 9 U (Gv.gtr U U)<|D 10 U (sx U)<|D 11 U (sx U)<|dS ?_;exact ⟨(decide (a.2≤b.1),decide (b.2<a.1)),eX,cV,aJ,by dsimp only;exact ⟨by rw[AU,if_neg c7,if_neg c8,if_pos c9],by rw[AW,if_neg c7,if_neg c8,if_pos c9]⟩⟩
  refine zc ?_;exact ⟨(false,false),eX,cV,aJ,by dsimp only;exact ⟨by rw[AU,if_neg c7,if_neg c8,if_neg c9],by rw[AW,if_neg c7,if_neg c8,if_neg c9]⟩⟩
 rintro ⟨al,ne⟩ ⟨h1,h2⟩;dsimp only at h1 h2;rw[←h1,←h2];refine za<|zd<|za<|y3 (γ:=Bool) [6,7,8] (fun u=>[(50,.bool u)]) (fun u=>[(i6,.cells 63 [.i 0,.i 0])]) (fun u=>u=decide (a.2<a.1∨b.2<b.1)) ?_ (fun _ _ h=>h) ?_
 ·refine bZ<|ae jw j8 U U<|zb (ff _) U<|aw U<|zo (s:=53) U (fun c1=>?_) (fun c1=>?_)
  ·refine H U U c1<|H U U c1<|aA U c1 U<|ah U<|Y ?_;exact ⟨_,eX,aN,aJ,by simp_all<;>omega⟩
  refine M U U c1<|ae jw j8 U U<|M U U c1<|zb (ff _) U<|ay U c1 U<|ah U<|Y ?_;exact ⟨_,eX,aN,aJ,by simp_all<;>omega⟩
 rintro u hu;subst hu;refine zh U (fun cn=>?_) (fun cn=>?_)
 ·refine Z<|zb (jA) U<|zi j8 U U U U U U .head U<|Y<|zf<|yi U ⟨_,.head⟩ jw j8 U ?_;rw[if_pos cn];try rfl
 rw[if_neg cn];refine Z<|aw U<|ah U<|Y<|zq U (fun c1=>?_) (fun c1=>?_)
 ·refine Z<|zb (LW _) U<|zi j8 U U U U U U .head U<|Y<|zf<|yi U ⟨_,.head⟩ jw j8 U ?_;rw[show al=true from c1];try rfl
 refine Z<|aw U<|ah U<|Y<|zq U (fun c2=>?_) (fun c2=>?_)
 ·refine Z<|zb (LW _) U<|zi j8 U U U U U U .head U<|Y<|zf<|yi U ⟨_,.head⟩ jw j8 U ?_;rw[show al=false from c1,show ne=true from c2];try rfl
 refine zc<|Z<|X (y5 (cps:=[(0,[_]),(1,[_])]) (rs:=[_,_]) pb U U U)<|zi j8 U U U U U U .head U<|Y<|zf<|yi U ⟨_,.head⟩ jw j8 U ?_;rw[show al=false from c1,show ne=false from c2];try rfl
theorem Oj (num:Int) {a b:aO} (hb:bw b):aS prog E 147 [.i num,.agg (bM a),.agg (bM b)] (.agg (bM (CD num a b))):=by
 have hb1:=hb.1;have hb2:=hb.2;unfold aY at hb1 hb2;have hm:gf=-9223372036854775808:=rfl;have hM:gW=9223372036854775807:=rfl;refine zm func147 U (by decide) U<|Z<|zx (cs:=_) U U U<|zx (cs:=_) U U U<|zp (cs:=[.i 0,.i 0]) Za U U<|fun i6=>Y<|za<|za<|y3 (γ:=Bool) [0,4,5,6] (fun u=>[(12,.bool u)]) (fun u=>[(i6,.cells 63 [.i 0,.i 0])]) (fun u=>u=decide (a.2<a.1∨b.2<b.1)) ?_ (fun _ _ h=>h) ?_
 ·refine bZ<|ae jw j8 U U<|zb (ff _) U<|aw U<|zo (s:=9) U (fun c2=>?_) (fun c2=>?_)
  ·refine H U U c2<|H U U c2<|aA U c2 U<|Y ?_;exact ⟨_,f7,aN,aJ,by simp_all<;>omega⟩
  refine M U U c2<|ae jw j8 U U<|M U U c2<|zb (ff _) U<|ay U c2 U<|Y ?_;exact ⟨_,f7,aN,aJ,by simp_all<;>omega⟩
 rintro u hu;subst hu;refine zh U (fun cn=>?_) (fun cn=>?_)
 ·refine Z<|zb (jA) U<|zi j8 U U U U U U .head U<|Y<|zf<|yi U ⟨_,.head⟩ jw j8 U ?_;rw[CD,if_pos cn];try rfl
 rw[CD,if_neg cn];refine zc<|za<|Z<|C U<|Y<|zd<|Z<|au U U<|ah U<|Y<|zh U (fun c0=>?_) (fun c0=>?_)
 ·refine za<|Z<|ao jx U Z0 U U<|aD Zb U<|au U U<|Y<|zh U (fun cm=>?_) (fun cm=>?_)
  ·refine Z<|zb (jA) U<|zi j8 U U U U U U .head U<|Y<|zf<|yi U ⟨_,.head⟩ jw j8 U ?_;rw[if_pos c0,if_pos (show b.2=gf from cm)];try rfl
  refine zc<|Z<|ao jx U Z0 U U<|aD Zb U<|ao jx U Z0 U U<|aD Zb U<|ao jx U Z0 U U<|aD Zb U<|X (Gv.sub U U (by unfold mB;omega))<|X (Gv.minI U U)<|zb (wm _ _) U<|zi j8 U U U U U U .head U<|Y<|zf<|yi U ⟨_,.head⟩ jw j8 U ?_;rw[if_pos c0,if_neg (show ¬b.2=gf from cm)];try rfl
 rw[if_neg c0];refine Z<|au U U<|ah U<|Y<|zh U (fun c1=>?_) (fun c1=>?_)
 ·refine Z<|ao jx U Z0 U U<|aD Zb U<|ao jx U Z0 U U<|aD Zb U<|ao jx U Z0 U U<|aD Zb U<|X (Gv.minI U U)<|zb (wm _ _) U<|zi j8 U U U U U U .head U<|Y<|zf<|yi U ⟨_,.head⟩ jw j8 U ?_;rw[if_pos c1];try rfl
 rw[if_neg c1];refine Z<|au U U<|ah U<|Y<|zh U (fun c2=>?_) (fun c2=>?_)
 ·refine Z<|ae jw j8 U U<|ae jw j8 U U<|zb (pe _ _) U<|zi j8 U U U U U U .head U<|Y<|zf<|yi U ⟨_,.head⟩ jw j8 U ?_;rw[if_pos c2];try rfl
 rw[if_neg c2];refine Z<|au U U<|ah U<|Y<|zh U (fun c3=>?_) (fun c3=>?_)
 ·refine Z<|ao jx U Z0 U U<|aD Zb U<|ao jx U Z0 U U<|aD Zb U<|X (Gv.maxI U U)<|ao jx U Z0 U U<|aD Zb U<|zb (wm _ _) U<|zi j8 U U U U U U .head U<|Y<|zf<|yi U ⟨_,.head⟩ jw j8 U ?_;rw[if_pos c3];try rfl
 rw[if_neg c3];refine Z<|au U U<|ah U<|Y<|zh U (fun c4=>?_) (fun c4=>?_)
 ·refine za<|Z<|ao jx U Z0 U U<|aD Zb U<|au U U<|Y<|zh U (fun cm=>?_) (fun cm=>?_)
  ·refine Z<|zb (jA) U<|zi j8 U U U U U U .head U<|Y<|zf<|yi U ⟨_,.head⟩ jw j8 U ?_;rw[if_pos c4,if_pos (show b.1=gW from cm)];try rfl
  refine zc<|Z<|ao jx U Z0 U U<|aD Zb U<|ao jx U Z0 U U<|aD Zb U<|X (ky U U)<|X (Gv.maxI U U)<|ao jx U Z0 U U<|aD Zb U<|zb (wm _ _) U<|zi j8 U U U U U U .head U<|Y<|zf<|yi U ⟨_,.head⟩ jw j8 U ?_;rw[if_pos c4,if_neg (show ¬b.1=gW from cm)];try rfl
 refine zc<|Z<|ae jw j8 U U<|zi j8 U U U U U U .head U<|Y<|zf<|yi U ⟨_,.head⟩ jw j8 U ?_;rw[if_neg c4];try rfl
end
section
open Go.Proofs.Tryz
open Go.Proofs Go.Lib Go.Shelf Go.RowKit
variable {E:World}
set_option maxRecDepth 20000
theorem Ma {rs:List aO} {i:Nat} (h:i<rs.length):rs[i]?=some (ra rs i):=by unfold ra;rw[qt h];rfl
def M0 (rs:List aO):Prop:=∀r∈rs,bw r∧r.1≤r.2
theorem M0.at {rs:List aO} (h:M0 rs) {i:Nat} (hi:i<rs.length):bw (ra rs i)∧(ra rs i).1≤(ra rs i).2:=by
 have:=Ma hi;exact h _ (w5 this)
end
section
open Go.Proofs.Tryz
theorem wQ {α β:Type} {g:α→List β}:∀{l:List α} {i:Nat} {x:α},l[i]?=some x→(g x).length≤(l.flatMap g).length
 |y::l,0,x,h=>by simp at h;subst h;rw[List.flatMap_cons,qz];omega
 |y::l,i+1,x,h=>by
  have:=wQ (g:=g) (l:=l) (i:=i) (x:=x) (by simpa using h);rw[List.flatMap_cons,qz];omega
theorem F2 {f:ab} {v:Int} (hl:(aZ f v).length≤1) {i:Nat} {b:aF} (h:f.q[i]?=some b):(ll v i b).length≤1:=by
 have h2:f.q.zipIdx[i]?=some (b,i):=by rw[List.getElem?_zipIdx,h];simp
 exact Nat.le_trans (wQ (g:=fun b:aF × Nat=>ll v (b.2:Int) b.1) h2) hl
theorem EB {f:ab} {v:Int} (hl:(aZ f v).length≤1) {i:Nat} {b:aF} (h:f.q[i]?=some b) {p:dh} (hp:p∈b.p) (hd:p.dst=v):b.p.filter (fun q=>decide (q.dst=v))=[p]:=by
 have h1:=F2 hl h;unfold ll at h1;rw[qz,w2] at h1;have h2:p∈b.p.filter (fun q=>decide (q.dst=v)):=List.mem_filter.2 ⟨hp,by simpa using hd⟩;cases hf:b.p.filter (fun q=>decide (q.dst=v)) with
 |nil=>rw[hf] at h2;cases h2
 |cons x l=>
  rw[hf] at h1 h2;have:l=[]:=w6 (by simp only[List.length_cons] at h1;omega);subst this;simp at h2;rw[h2]
theorem AX {f:ab} {v:Int} (hl:(aZ f v).length≤1) {i:Nat} {b:aF} (h:f.q[i]?=some b) {p:dh} (hp:p∈b.p) (hd:p.dst=v):(b.p.find? fun q=>decide (q.dst=v))=some p:=by
 rw[←List.head?_filter,EB hl h hp hd];rfl
def qS (f:ab) (l:List aO) (acc:aO) (xs:List Int):aO:=xs.foldl (fun acc v=>bU acc (mu f l v)) acc
theorem AY (f:ab) (l:List aO) (acc:aO) (xs:List Int) (v:Int):qS f l acc (xs++[v])=bU (qS f l acc xs) (mu f l v):=by unfold qS;rw[List.foldl_append];rfl
theorem pC {f:ab} {chk:Int→Bool} {l:List aO} {v:Int} (hl:(aZ f v).length≤1) {i:Nat} {b:aF} (h:f.q[i]?=some b) {p:dh} (hp:p∈b.p) (hd:p.dst=v) (hm:aE f v=((i:Int),-1)):ly f chk l v=qS f l fD p.args:=by
 unfold ly;rw[hm];dsimp only;rw[show (i:Int).toNat=i from rfl,h];dsimp only;rw[if_neg (by decide),AX hl h hp hd]
 rfl
theorem nI {f:ab} {chk:Int→Bool} {l:List aO} {v:Int} {i k:Nat} {b:aF} (h:f.q[i]?=some b) {x:aB} (hx:b.s[k]?=some x) (hm:aE f v=((i:Int),(k:Int))):ly f chk l v=pA f chk l x:=by
 unfold ly;rw[hm];dsimp only;rw[show (i:Int).toNat=i from rfl,h];dsimp only;rw[if_pos (by omega),show (k:Int).toNat=k from rfl,hx]
def iX (f:ab) (v:Int):aO:=if v<f.z.length then fK (Cp f v) else (0,0)
def jH (f:ab) (v:Int):aO:=if (aE f v).1<0 then iX f v else fD
def fB (f:ab):List aO:=(List.range f.v.length).map fun (v:Nat)=>jH f v
theorem l7 (f:ab):(fB f).length=f.v.length:=by simp[fB]
theorem AZ {f:ab} {k:Nat} (h:k<f.v.length):(fB f).take (k+1)=(fB f).take k++[jH f k]:=by
 rw[qu (by rw[l7];exact h)]
 congr 1
 unfold fB;simp
def uq (b:aF):List (Int × Bool):=b.p.map fun p=>(p.dst,true)
def nc (xs:List aB):List (Int × Bool):=(xs.filter fun x=>decide (0≤x.dst)).map fun x=>(x.dst,false)
def nf (f:ab) (k:Nat):List (Int × Bool):=(f.q.take k).flatMap fun b=>uq b++nc b.s
def f8 (f:ab):List (Int × Bool):=f.q.flatMap fun b=>uq b++nc b.s
theorem Db (f:ab):nf f f.q.length=f8 f:=by unfold nf f8;rw[qy]
theorem A3 {f:ab} {k:Nat} (h:k<f.q.length):nf f (k+1)=nf f k++(uq f.q[k]++nc f.q[k].s):=by
 unfold nf;rw[qu h,List.flatMap_append];simp
theorem A4 {b:aF} {j:Nat} (h:j<b.p.length):(b.p.take (j+1)).map (fun p=>((p.dst,true):Int × Bool))=(b.p.take j).map (fun p=>((p.dst,true):Int × Bool))++[(b.p[j].dst,true)]:=by
 rw[qu h,w7];rfl
theorem A5 {xs:List aB} {j:Nat} (h:j<xs.length):nc (xs.take (j+1))=nc (xs.take j)++if 0≤xs[j].dst then[(xs[j].dst,false)] else[]:=by
 unfold nc;rw[qu h,List.filter_append,w7]
 congr 1
 by_cases c:0≤xs[j].dst
 ·rw[if_pos c];simp[c]
 rw[if_neg c];simp[c]
theorem qT {f:ab} {v:Int} {p:Bool}:(v,p)∈f8 f↔∃b∈f.q,(p=true∧∃q∈b.p,q.dst=v)∨(p=false∧0≤v∧∃x∈b.s,x.dst=v):=by
 unfold f8;rw[List.mem_flatMap]
 constructor
 ·rintro ⟨b,hb,h⟩;refine ⟨b,hb,?_⟩;rcases List.mem_append.1 h with h|h
  ·obtain ⟨q,hq,e⟩:=List.mem_map.1 h;simp only[Prod.mk.injEq] at e;exact .inl ⟨e.2.symm,q,hq,e.1⟩
  obtain ⟨x,hx,e⟩:=List.mem_map.1 h;obtain ⟨h1,h2⟩:=List.mem_filter.1 hx;simp only[Prod.mk.injEq] at e;exact .inr ⟨e.2.symm,by rw[←e.1];simpa using h2,x,h1,e.1⟩
 rintro ⟨b,hb,h⟩;refine ⟨b,hb,?_⟩;rcases h with ⟨rfl,q,hq,rfl⟩|⟨rfl,h0,x,hx,rfl⟩
 ·exact List.mem_append_left _ (List.mem_map.2 ⟨q,hq,rfl⟩)
 exact List.mem_append_right _ (List.mem_map.2 ⟨x,List.mem_filter.2 ⟨hx,by simpa using h0⟩,rfl⟩)
end
section
open Go.Proofs.Tryz
open Go.Proofs Go.Lib Go.Shelf Go.RowKit
variable {E:World}
set_option maxRecDepth 20000
theorem Dc {l:List aO} {a:Int} (h:a.toNat<l.length):l[a.toNat]?=some (lv l a):=by unfold lv;rw[qt h];rfl
theorem iO {f:ab} {v:Int} (h:bn f v=true):0≤v∧v<f.v.length:=by simpa [bn] using h
theorem M1 {f:ab} (hS:bN f) {a:Int} (h:bn f a=true):∃x,f.v[a.toNat]?=some x∧x.ty=Cp f a∧0≤x.ty∧x.ty≤2:=by
 obtain ⟨h0,h1⟩:=iO h;have hl:a.toNat<f.v.length:=by omega
 have h2:=hS.2.2.1 _ hl;refine ⟨f.v[a.toNat],qt hl,?_,h2.2.1,h2.2.2.1⟩;unfold Cp;rw[qt hl];rfl
theorem F3 {f:ab} {l:List aO} {x:aB} {m:Nat} (h:m<x.args.length):(dy f l x).take (m+1)=(dy f l x).take m++[mu f l x.args[m]]:=by
 unfold dy;rw[qu (by rw[w2];exact h),List.getElem_map]
theorem Left.d1 {x:Nat × bC} {O:OL}:Left (x::O) O:=⟨_,.drop (.refl _),rfl⟩
theorem Left.d2 {x y:Nat × bC} {O:OL}:Left (x::y::O) O:=⟨_,.drop (.drop (.refl _)),rfl⟩
theorem aX.same {P:Program} {E:World} {f:FuncId} {ars:List AV} {O:OL} {x:AV} (h:aX P E f ars O fun y O'=>y=x∧Left O' O):aX P E f ars O fun y O'=>y=x∧O'=O:=
 (aX.exact (γ:=Unit) (x:=fun _=>x) (Mq0:=fun _=>O) (p:=fun _=>True) (h.mono fun _ _ h=>⟨(),h.1,h.2,trivial⟩)).mono fun _ _ ⟨_,h1,h2,_⟩=>⟨h1,h2⟩
end
section
open Go.Proofs.Tryz
open Go.Proofs Go.Lib Go.Shelf Go.RowKit
theorem Ok:lJ prog 212 2 [.int .i64 0,.int .i64 0,.int .i64 0,.int .i64 0,.int .i64 0,.int .i64 0]:=⟨_,_,_,Yy,zeroValue212,j8,rfl⟩
variable {E:World}
set_option maxRecDepth 20000
def A6 (f:ab) (chk:List Bool) (Lv:AV):List AV:=bH f++[.fro 2 ((dG f).map eP.row),.fro 1 (chk.map vB),Lv]
def ki (f:ab) (chk:List Bool) (Lv:AV):AV:=.pf (A6 f chk Lv)
def mw (i:Nat) (HL:bC) (x:AV):AV→OL→Prop:=fun y O=>y=x∧O=[(i,HL)]
theorem M2 (f:ab) (hS:bN f) (chk:List Bool) (l:List aO) (hll:l.length=f.v.length) (i:Nat) (HL:bC) {a:Int} (ha:bn f a=true) :
  aX prog E 142 [ki f chk (.fro 2 (l.map bM)),.i a] [(i,HL)] (mw i HL (.agg (bM (mu f l a)))):=by
 obtain ⟨ha0,ha1⟩:=iO ha;obtain ⟨y,hy,hyt,hy0,hy2⟩:=M1 hS ha;refine aX.same<|zm func142 U (by decide) U<|Z<|zp (cs:=[.i 0,.i 0]) Za U U<|fun i4=>Y<|za<|zn (fun j=>Nat.beq j 18) (by kernel_rfl) U (zk (.rest _))<|D 0 U (nT U)<|D 1 U (q5 U)<|D 2 U (dk Zq U Xm U U)<|D 3 U (gJ isAgg40 U)<|D 4 U (dC U)<|D 5 U (bD a.toNat Yo j8 U U (by omega) (Dc (by omega)))<|D 6 U (yj jw j8 U U)<|D 7 U (nT U)<|D 8 U (q5 U)<|D 9 U (dk Zq U jk U U)<|D 10 U (dk jf U Zs U U)<|D 11 U (gJ Y4 U)<|D 12 U (dC U)<|D 13 U (bD a.toNat Z7 Yc U U (by omega) hy)<|D 14 U (dk Zr U X5 U U)<|D 15 U (d9 Xh U)<|bp 16 U<|zb (D3 _) U<|Y<|bp 17 U<|zb (pe _ _) U<|Y<|y4<|yg (i:=18) U (by kernel_rfl) (by kernel_rfl)<|zi j8 U U U U U U .head U<|Y<|y8 (by kernel_rfl)<|zf<|yi U ⟨_,.head⟩ jw j8 U ?_;exact ⟨by unfold mu;rw[←hyt];rfl,.d1⟩
theorem F4 (f:ab) (l:List aO) {w:AV} {i:Nat} {HL:bC} (hof:∀{a:Int},bn f a=true→aX prog E 142 [w,.i a] [(i,HL)] (mw i HL (.agg (bM (mu f l a)))))
  (p:dh) (hpa:p.args.all (bn f)=true) (hpl:p.args.length≤1000):aX prog E 107 [w,.agg (dQ p)] [(i,HL)] (mw i HL (.agg (bM (qS f l fD p.args)))):=by
 refine aX.same<|zm func107 U (by decide) U<|Z<|zx (cs:=_) U U U<|zp (cs:=[.i 0,.i 0]) Za U U<|fun i4=>Y<|Z<|zb (jA) U<|zp (cs:=[.i 0,.i 0]) Za U U<|fun i5=>zi j8 U U U U U U .head U<|Y<|za<|Z<|ao Z3 U jh U U<|aK jy U<|am j7 U<|C U<|Y<|zd<|zu (γ:=Nat) [0,4,5,10,11] (fun m=>[(12,.i m)]) (fun m=>[(i5,.cells 63 (bM (qS f l fD (p.args.take m)))),(i4,.cells 63 [.i 0,.i 0]),(i,HL)]) (fun m=>m≤p.args.length) (fun m=>p.args.length - m) 0 aN aJ (qw _) ?_;rintro m hm;refine Z<|aq U U<|Y<|za<|zh U (fun cm=>?_) (fun cm=>?_)
 ·have hm2:m<p.args.length:=by simp at cm;omega
  obtain ⟨a,ha⟩:∃a,p.args[m]=a:=⟨_,rfl⟩;have hav:=List.all_eq_true.1 hpa a (ha▸qx hm2);refine zc<|za<|zd<|Z<|X (bD m j7 j9 U U U (by rw[qt hm2,ha])) ?_;refine aD jg U<|ap U<|Y<|zn (fun j=>Nat.beq j 5) (by kernel_rfl) U (zk (.r (.rest _)))<|D 0 U (qb jw j8 U ⟨_,.head⟩ U)<|D 1 U (yn (v:=_) U)<|D 2 U (dC U)<|bp 3 U<|zy U (zk (.r (.l (.rest _)))) (hof hav) ?_;rintro r19 O19 ⟨rfl,rfl⟩;refine Y<|bp 4 U<|zb (D4 _ _) U<|Y<|y4<|yg (i:=5) U (by kernel_rfl) (by kernel_rfl)<|zi j8 U U U U U U .head U<|cC .t1<|cC .t2<|cC .t2<|Y<|y8 (by kernel_rfl)<|bQ U U ?_;exact ⟨m+1,lf,aN,⟨_,(.refl _),by rw[qu hm2,ha,AY];rfl⟩,hm2,by omega⟩
 have hmn:m=p.args.length:=by simp at cm;omega
 rw[hmn,qy];refine zt<|Z<|X (qb jw j8 U ⟨_,.head⟩ U)<|zi j8 U U U U U U .t1 U<|Y<|zf<|yi U ⟨_,.t1⟩ jw j8 U ?_;exact ⟨rfl,.d2⟩
theorem F5 (f:ab) (chk:List Bool) (Lv:AV) (x:aB) {a b:aO} (ha:bw a) (hb:bw b) (h0:0≤x.dst) (h1:x.dst.toNat<chk.length):aS prog E 143 [ki f chk Lv,.agg (bu x),.agg (bM a),.agg (bM b)] (.agg (bM (if gb chk x.dst=true then uo x.op a b else iB x.op a b))):=by
 refine zm func143 U (by decide) U<|Z<|zx (cs:=_) U U U<|zx (cs:=_) U U U<|zx (cs:=_) U U U<|zp (cs:=[.int .i64 0,.int .i64 0]) Za U U<|fun i8=>Y<|za<|za<|zn (fun j=>false) (by kernel_rfl) U (zk (.rest _))<|D 0 U (nT U)<|D 1 U (q5 U)<|D 2 U (dk Zq U Yi U U)<|D 3 U (gJ Yu U)<|D 4 U (dk jd U j9 U U)<|D 5 U (d9 jg U)<|D 6 U (bD x.dst.toNat ju Zc U U (by omega) (show chk[x.dst.toNat]?=some (gb chk x.dst) by unfold gb;rw[qt h1];rfl))<|D 7 U (q8 (c:=.bool _) Yn U)<|dS<|zq U (fun c=>?_) (fun c=>?_)
 ·refine Z<|ao jd U Zu U U<|aD Y2 U<|ae jw j8 U U<|ae jw j8 U U<|zb (Oi x.op ha hb) U<|zi j8 U U U U U U .head U<|Y<|zf<|yi U ⟨_,.head⟩ jw j8 U ?_;rw[if_pos c];try rfl
 refine zc<|Z<|ao jd U Zu U U<|aD Y2 U<|ae jw j8 U U<|ae jw j8 U U<|zb (Da x.op ha hb) U<|zi j8 U U U U U U .head U<|Y<|zf<|yi U ⟨_,.head⟩ jw j8 U ?_;rw[if_neg (by rw[show gb chk x.dst=false from c];decide)];try rfl
theorem M3 {r s:aO} (h:r=s):AV.agg (bM r)=AV.agg (bM s):=by rw[h]
def c3 (rs:List aO):List AV:=bM (ra rs 0)++bM (ra rs 1)++bM (ra rs 2)
theorem KY {a b:aO} (ha:bw a) (hn:nrm a) (nb:b.1≤b.2):CD 0 a b=qB 0 a b:=by
 by_cases na:a.1≤a.2
 ·exact D1 ha na nb
 have:=hn (by omega);subst this;unfold CD qB;rw[if_pos (.inl (by decide)),if_pos rfl]
 by_cases hb:b.2=gf
 ·rw[if_pos hb]
 rw[if_neg hb];have h1:∀z:Int,dM 0 z≤0:=fun z=>by unfold dM;split<;>omega
 have h2:(1:Int)≤dx 1 gf:=by decide
 have h3:=h1 (b.2 - 1);show fD=et (dx 1 gf) (dM 0 (b.2 - 1));rw[et,if_pos (by omega)]
theorem F6 {op:Int} {k:Nat} (hk:k≤2) (h:op=2+(k:Int)) {a b:aO} (na:a.1≤a.2) (nb:b.1≤b.2) (c:Bool):(if c=true then uo op a b else iB op a b)=o9 k a b c:=by
 have h2:=qR hk h (a:=a) (b:=b) (by omega);cases c
 ·rw[if_neg (by decide),h2.1,D0]
 rw[if_pos rfl,h2.2,D0]
theorem M4 {a b:aO} (ha:bw a) (hb:bw b) (na:a.1≤a.2) (nb:b.1≤b.2):iB 5 a b=fN a b:=by unfold iB;rw[if_neg (by omega),if_neg (by decide),if_neg (by decide),if_neg (by decide),if_pos rfl,Hk ha hb na nb]
theorem M5 {a b:aO} (na:a.1≤a.2) (nb:b.1≤b.2):iB 6 a b=tb a b:=by unfold iB;rw[if_neg (by omega),if_neg (by decide),if_neg (by decide),if_neg (by decide),if_neg (by decide),if_pos rfl,Hl nb]
set_option maxHeartbeats 8000000 in
theorem Dd (f:ab) (l:List aO) (chk:List Bool) (Lv:AV) {i:Nat} {HL:bC} (hof:∀{a:Int},bn f a=true→aX prog E 142 [ki f chk Lv,.i a] [(i,HL)] (mw i HL (.agg (bM (mu f l a)))))
  (ho:∀u:Int,0≤u→bw (lv l u)) (x:aB) (hI:dT f x) (hb:x.op=10∨x.op=11→∀v∈x.args,Cp f v=1) (h1:0≤x.dst→x.dst.toNat<chk.length) (hd:x.op=2∨x.op=3∨x.op=4→0≤x.dst) :
  aX prog E 104 [ki f chk Lv,.agg (bu x)] [(i,HL)] (mw i HL (.agg (bM (if (dy f l x).any nR=true then fD else nW x.op x.num (dy f l x) (gb chk x.dst))))):=by
 have hal:(dy f l x).length=x.args.length:=by unfold dy;rw[w2]
 have hx3:x.args.length≤3:=by
  rw[hI.len];rcases oZ x.op with h|h
  ·unfold aW;rw[h];decide
  have:∀r∈iJ,r.2.1.data.toList.length≤3:=by decide
  have:=this _ h;unfold aW;simpa using this
 refine aX.same<|zm func104 U (by decide) U<|Z<|zx (cs:=_) U U U<|zp (cs:=[.int .i64 0,.int .i64 0]) Za U U<|fun i4=>Y<|Z<|X (Gv.buildA (cps:=[]) (rs:=[.int .i64 0,.int .i64 0,.int .i64 0,.int .i64 0,.int .i64 0,.int .i64 0]) Ok U U U)<|zp (cs:=[.int .i64 0,.int .i64 0,.int .i64 0,.int .i64 0,.int .i64 0,.int .i64 0]) zeroValue212 U U<|fun i5=>zi sizeOf212 U U U U U U .head U<|Y<|za<|Z<|ao jd U jh U U<|aK jy U<|am j7 U<|C U<|Y<|zd<|zu (γ:=Nat) [0,3,4,5,12,13] (fun m=>[(14,.i m)]) (fun m=>[(i5,.cells 212 (c3 ((dy f l x).take m))),(i4,.cells 63 [.int .i64 0,.int .i64 0]),(i,HL)]) (fun m=>m≤x.args.length∧((dy f l x).take m).any nR=false) (fun m=>x.args.length - m) 0 aN aJ (⟨qw _,U⟩) ?_;rintro m ⟨hm,hne⟩;refine Z<|aq U U<|Y<|za<|zh U (fun cm=>?_) (fun cm=>?_)
 ·have hm2:m<x.args.length:=by simp at cm;omega
  obtain ⟨a,ha⟩:∃a,x.args[m]=a:=⟨_,rfl⟩;have hav:=hI.args a (ha▸qx hm2);have htk:=F3 (f:=f) (l:=l) hm2;rw[ha] at htk;have hta:(dy f l x)[m]?=some (mu f l a):=by unfold dy;rw[w3,qt hm2,ha];rfl
  have hAl:((dy f l x).take m).length=m:=by rw[w9];omega
  have hne2:¬(mu f l a).2<(mu f l a).1→((dy f l x).take (m+1)).any nR=false:=fun h=>by rw[htk,List.any_append,hne];simp[nR];omega
  have hyes:(mu f l a).2<(mu f l a).1→(dy f l x).any nR=true:=fun h=>List.any_eq_true.2 ⟨_,w5 hta,by unfold nR;exact wa h⟩;obtain ⟨A,hA⟩:∃A,(dy f l x).take m=A:=⟨_,rfl⟩;rw[hA] at hAl htk hne ⊢;refine zc<|za<|zd<|Z<|C U<|X (bD m j7 j9 U U U (by rw[qt hm2,ha])) ?_;refine aD jg U<|ap U<|ap U<|Y ?_;rcases (by omega:m=0∨m=1∨m=2) with rfl|rfl|rfl
  ·obtain rfl:A=[]:=w6 hAl;refine Z<|C U<|X (yn (v:=_) U)<|C U<|zy U (zk (.r (.r (.l (.rest _))))) (hof hav) ?_;rintro r22 O22 ⟨rfl,rfl⟩;refine X (qa (j:=0) Yy j8 U U U (by decide) U)<|yh (l:=[_,_]) (new:=[_,_,_,_,_,_]) j8 U U U U U U .t1 U U<|Y<|gd .t2<|gd .t2<|Z<|C U<|X (qa (j:=0) Yy j8 U U U (by decide) U)<|X (qh (l:=[_,_]) jw j8 U ⟨_,.head⟩ U U)<|zb (ff _) U<|Y<|zh U (fun ce=>?_) (fun ce=>?_)
   ·refine Z<|zb (jA) U<|zi j8 U U U U U U .t1 U<|Y<|zf<|yi U ⟨_,.t1⟩ jw j8 U ?_;exact ⟨by rw[if_pos (hyes ce)];rfl,.d2⟩
   refine zc<|bQ U U ?_;exact ⟨1,rX,aN,⟨_,(.refl _),by rw[htk];rfl⟩,⟨hm2,hne2 ce⟩,by omega⟩
  ·obtain ⟨r0,rfl⟩:=List.length_eq_one_iff.1 hAl;refine Z<|C U<|X (yn (v:=_) U)<|C U<|zy U (zk (.r (.r (.l (.rest _))))) (hof hav) ?_;rintro r22 O22 ⟨rfl,rfl⟩;refine X (qa (j:=1) Yy j8 U U U (by decide) U)<|yh (l:=[_,_]) (new:=[_,_,_,_,_,_]) j8 U U U U U U .t1 U U<|Y<|gd .t2<|gd .t2<|Z<|C U<|X (qa (j:=1) Yy j8 U U U (by decide) U)<|X (qh (l:=[_,_]) jw j8 U ⟨_,.head⟩ U U)<|zb (ff _) U<|Y<|zh U (fun ce=>?_) (fun ce=>?_)
   ·refine Z<|zb (jA) U<|zi j8 U U U U U U .t1 U<|Y<|zf<|yi U ⟨_,.t1⟩ jw j8 U ?_;exact ⟨by rw[if_pos (hyes ce)];rfl,.d2⟩
   refine zc<|bQ U U ?_;exact ⟨2,rX,aN,⟨_,(.refl _),by rw[htk];rfl⟩,⟨hm2,hne2 ce⟩,by omega⟩
  obtain ⟨r0,r1,rfl⟩:∃r0 r1,A=[r0,r1]:=by
   match A,hAl with
   |[r0,r1],_=>exact ⟨r0,r1,rfl⟩
  refine Z<|C U<|X (yn (v:=_) U)<|C U<|zy U (zk (.r (.r (.l (.rest _))))) (hof hav) ?_;rintro r22 O22 ⟨rfl,rfl⟩;refine X (qa (j:=2) Yy j8 U U U (by decide) U)<|yh (l:=[_,_]) (new:=[_,_,_,_,_,_]) j8 U U U U U U .t1 U U<|Y<|gd .t2<|gd .t2<|Z<|C U<|X (qa (j:=2) Yy j8 U U U (by decide) U)<|X (qh (l:=[_,_]) jw j8 U ⟨_,.head⟩ U U)<|zb (ff _) U<|Y<|zh U (fun ce=>?_) (fun ce=>?_)
  ·refine Z<|zb (jA) U<|zi j8 U U U U U U .t1 U<|Y<|zf<|yi U ⟨_,.t1⟩ jw j8 U ?_;exact ⟨by rw[if_pos (hyes ce)];rfl,.d2⟩
  refine zc<|bQ U U ?_;exact ⟨3,rX,aN,⟨_,(.refl _),by rw[htk];rfl⟩,⟨hm2,hne2 ce⟩,by omega⟩
 have hmn:m=x.args.length:=by simp at cm;omega
 subst hmn;rw[←hal,qy] at hne;rw[←hal,qy];obtain ⟨rs,hrs⟩:∃rs,dy f l x=rs:=⟨_,rfl⟩;have hokr:M0 rs:=fun r hr=>by
  rw[←hrs] at hr;have hnn:=List.any_eq_false.1 hne _ hr;obtain ⟨a,ha,rfl⟩:=List.mem_map.1 hr;have hav:=iO (hI.args a ha);exact ⟨qP ho hav.1,by simpa [nR] using hnn⟩
 have hbl:x.op=10∨x.op=11→∀j,j<rs.length→0≤(ra rs j).1∧(ra rs j).2≤1:=fun h j hj=>by
  have h3:=hokr.at hj;have h4:=Ma hj;rw[←hrs] at h4;have h5:=w5 h4;rw[hrs] at h5;rw[←hrs] at h5;obtain ⟨a,ha,e⟩:=List.mem_map.1 h5;rw[hrs] at e;rw[←e] at h3 ⊢;exact ui (hb h a ha) h3.2
 rw[hrs] at hne hal ⊢;rw[if_neg (by rw[hne];decide)];have hl:rs.length=(aW x.op).length:=by rw[hal];exact hI.len
 rw[nW];refine zt<|za<|y3 (γ:=Nat × Nat) [0,3,4] (fun z=>[(8,.po z.1 0),(9,.po z.2 0)]) (fun z=>[(i5,.cells 212 (c3 rs)),(z.1,.cells 63 (bM (ra rs 0))),(z.2,.cells 63 (bM (ra rs 1))),(i4,.cells 63 [.i 0,.i 0]),(i,HL)]) (fun z=>True) ?_ (fun _ _ h=>h) ?_
 ·refine zn (fun j=>false) (by kernel_rfl) U (zk (.r (.rest _)))<|D 0 U (qa (j:=0) Yy j8 U U U (by decide) U)<|D 1 U (qh (l:=[_,_]) jw j8 U ⟨_,.head⟩ U U)<|D 2 U (qa (j:=1) Yy j8 U U U (by decide) U)<|D 3 U (qh (l:=[_,_]) jw j8 U ⟨_,.head⟩ U U)<|yq (i:=4) (j:=5) U U (by kernel_rfl) ?_ ?_
  ·refine zp (cs:=[.i 0,.i 0]) Za U U<|fun i8=>Y<|bp 5 U<|zp (cs:=[.i 0,.i 0]) Za U U<|fun i9=>Y<|bp 6 U<|zi j8 U U U U U U .t1 U<|Y<|bp 7 U<|zi j8 U U U U U U .head U<|cC .t3<|cC .t3<|cC .t2<|cC .t3<|Y<|dS ?_;exact ⟨(i8,i9),eX,cV,aJ,trivial⟩
  refine zp (cs:=[.i 0,.i 0]) Za U U<|fun i9=>Y<|bp 4 U<|zp (cs:=[.i 0,.i 0]) Za U U<|fun i8=>Y<|bp 6 U<|zi j8 U U U U U U .head U<|Y<|bp 7 U<|zi j8 U U U U U U .t1 U<|Y<|dS ?_;exact ⟨(i8,i9),eX,cV,aJ,trivial⟩
 rintro ⟨i8,i9⟩ _;refine gd .t2<|gd .t2<|yd (zz (t:=8) U .head)<|yd (zz (t:=9) U .head)<|yd (qe .head)<|za<|Z<|ao jd U Zu U U<|aD Y2 U<|Y<|zd<|Z<|au U U<|ah U<|Y<|zh U (fun c0=>?_) (fun c0=>?_)
 ·refine Z<|ao jd U Z0 U U<|aD Zb U<|zb (LW _) U<|zi j8 U U U U U U .head U<|Y<|zf<|yi U ⟨_,.head⟩ jw j8 U ?_;exact ⟨by rw[if_pos c0];rfl,.d1⟩
 rw[if_neg c0];refine za<|Z<|au U U<|ah U<|Y<|y3 (γ:=Bool) [0,3,4,8,9,35] (fun u=>[(41,.bool u)]) (fun u=>[(i4,.cells 63 [.i 0,.i 0]),(i,HL)]) (fun u=>u=decide (x.op=1∨x.op=12)) ?_ (fun _ _ h=>h) ?_
 ·refine zq U (fun c1=>?_) (fun c1=>?_)
  ·refine zc ?_;exact ⟨_,rX,aN,aJ,by simp_all⟩
  refine bZ<|au U U<|ah U<|Y ?_;exact ⟨_,rX,aN,aJ,by simp_all⟩
 rintro u hu;subst hu;refine zh U (fun c1=>?_) (fun c1=>?_)
 ·refine Z<|ae jw j8 U U<|zi j8 U U U U U U .head U<|Y<|zf<|yi U ⟨_,.head⟩ jw j8 U ?_;exact ⟨by rw[if_pos c1];rfl,.d1⟩
 rw[if_neg c1];refine za<|Z<|au U U<|ah U<|Y<|y3 (γ:=Bool) [0,3,4,8,9,35] (fun u=>[(45,.bool u)]) (fun u=>[(i4,.cells 63 [.i 0,.i 0]),(i,HL)]) (fun u=>u=decide (x.op=2∨x.op=3∨x.op=4)) ?_ (fun _ _ h=>h) ?_
 ·refine zq U (fun c2=>?_) (fun c2=>?_)
  ·refine zc ?_;exact ⟨_,rX,aN,aJ,by simp_all⟩
  refine Z<|au U U<|ah U<|Y<|zq U (fun c3=>?_) (fun c3=>?_)
  ·refine zc ?_;exact ⟨_,rX,aN,aJ,by simp_all⟩
  refine bZ<|au U U<|ah U<|Y ?_;exact ⟨_,rX,aN,aJ,by simp_all⟩
 rintro u hu;subst hu;refine zh U (fun c2=>?_) (fun c2=>?_)
 ·have hl1:rs.length=2:=by rw[hl];rcases c2 with c|c|c<;>rw[c]<;>rfl
  obtain ⟨ha,na⟩:=hokr.at (i:=0) (by omega);obtain ⟨hb,nb⟩:=hokr.at (i:=1) (by omega);obtain ⟨k,hk,hk2⟩:=C8 c2;have hd0:=hd c2;refine Z<|X (yn (v:=_) U)<|ae Yg Z9 U U<|ae jw j8 U U<|ae jw j8 U U<|zb (F5 f chk Lv x ha hb hd0 (h1 hd0)) U<|zi j8 U U U U U U .head U<|Y<|zf<|yi U ⟨_,.head⟩ jw j8 U ?_;exact ⟨M3 (by rw[F6 hk hk2 na nb];rcases (by omega:k=0∨k=1∨k=2) with rfl|rfl|rfl;rw[if_pos (by omega)];rw[if_neg (by omega),if_pos (by omega)];rw[if_neg (by omega),if_neg (by omega),if_pos (by omega)]),.d1⟩
 rw[if_neg (by omega),if_neg (by omega),if_neg (by omega)];refine za<|Z<|au U U<|ah U<|Y<|y3 (γ:=Bool) [3,4,8,9,35] (fun u=>[(54,.bool u)]) (fun u=>[(i4,.cells 63 [.i 0,.i 0]),(i,HL)]) (fun u=>u=decide (x.op=5∨x.op=6)) ?_ (fun _ _ h=>h) ?_
 ·refine zq U (fun c4=>?_) (fun c4=>?_)
  ·refine zc ?_;exact ⟨_,lf,aN,aJ,by simp_all⟩
  refine bZ<|au U U<|ah U<|Y ?_;exact ⟨_,lf,aN,aJ,by simp_all⟩
 rintro u hu;subst hu;refine zh U (fun c5=>?_) (fun c5=>?_)
 ·have hl1:rs.length=2:=by rw[hl];rcases c5 with c|c<;>rw[c]<;>rfl
  obtain ⟨ha,na⟩:=hokr.at (i:=0) (by omega);obtain ⟨hb,nb⟩:=hokr.at (i:=1) (by omega);refine Z<|ao jd U Zu U U<|aD Y2 U<|ae jw j8 U U<|ae jw j8 U U<|zb (Da x.op ha hb) U<|zi j8 U U U U U U .head U<|Y<|zf<|yi U ⟨_,.head⟩ jw j8 U ?_;exact ⟨M3 (by rcases c5 with c|c;rw[if_pos c,c,M4 ha hb na nb];rw[if_neg (by omega),if_pos c,c,M5 na nb]),.d1⟩
 rw[if_neg (by omega),if_neg (by omega)];refine za<|Z<|au U U<|ah U<|Y<|y3 (γ:=Bool) [3,4,8,9,35] (fun u=>[(62,.bool u)]) (fun u=>[(i4,.cells 63 [.i 0,.i 0]),(i,HL)]) (fun u=>u=decide (x.op=7∨x.op=8∨x.op=9)) ?_ (fun _ _ h=>h) ?_
 ·refine zq U (fun c5=>?_) (fun c5=>?_)
  ·refine zc ?_;exact ⟨_,lf,aN,aJ,by simp_all⟩
  refine Z<|au U U<|ah U<|Y<|zq U (fun c6=>?_) (fun c6=>?_)
  ·refine zc ?_;exact ⟨_,lf,aN,aJ,by simp_all⟩
  refine bZ<|au U U<|ah U<|Y ?_;exact ⟨_,lf,aN,aJ,by simp_all⟩
 rintro u hu;subst hu;refine zh U (fun c7=>?_) (fun c7=>?_)
 ·have hl1:rs.length=2:=by rw[hl];rcases c7 with c|c|c<;>rw[c]<;>rfl
  obtain ⟨ha,na⟩:=hokr.at (i:=0) (by omega);obtain ⟨hb,nb⟩:=hokr.at (i:=1) (by omega);refine Z<|ao jd U Zu U U<|aD Y2 U<|ae jw j8 U U<|ae jw j8 U U<|zb (MZ x.op (ra rs 0) (ra rs 1)) U<|zi j8 U U U U U U .head U<|Y<|zf<|yi U ⟨_,.head⟩ jw j8 U ?_;exact ⟨M3 (by rcases c7 with c|c|c;rw[if_pos c,c,Mx na nb];rw[if_neg (by omega),if_pos c,c,My na nb];rw[if_neg (by omega),if_neg (by omega),if_pos c,c,Mz na nb]),.d1⟩
 rw[if_neg (by omega),if_neg (by omega),if_neg (by omega)];refine Z<|au U U<|ah U<|Y<|zh U (fun c10=>?_) (fun c10=>?_)
 ·have hl1:rs.length=1:=by rw[hl,c10];rfl
  obtain ⟨ha,na⟩:=hokr.at (i:=0) (by omega);obtain ⟨hb1,hb2⟩:=hbl (.inl c10) 0 (by omega);refine Z<|ao jx U Z0 U U<|aD Zb U<|X (Gv.sub U U (by unfold mB;omega))<|ao jx U Z0 U U<|aD Zb U<|X (Gv.sub U U (by unfold mB;omega))<|X (y5 (cps:=[(0,[_]),(1,[_])]) (rs:=[_,_]) pb U U U)<|zi j8 U U U U U U .head U<|Y<|zf<|yi U ⟨_,.head⟩ jw j8 U ?_;exact ⟨by rw[if_pos c10,←Ko na hb1 hb2];rfl,.d1⟩
 rw[if_neg c10];refine Z<|au U U<|ah U<|Y<|zh U (fun c11=>?_) (fun c11=>?_)
 ·have hl1:rs.length=2:=by rw[hl,c11];rfl
  obtain ⟨ha,na⟩:=hokr.at (i:=0) (by omega);obtain ⟨hb,nb⟩:=hokr.at (i:=1) (by omega);obtain ⟨hb1,hb2⟩:=hbl (.inr c11) 0 (by omega);obtain ⟨hb3,hb4⟩:=hbl (.inr c11) 1 (by omega);refine Z<|ao jx U Z0 U U<|aD Zb U<|ao jx U Z0 U U<|aD Zb U<|X (Gv.minI U U)<|ao jx U Z0 U U<|aD Zb U<|ao jx U Z0 U U<|aD Zb U<|X (Gv.minI U U)<|X (y5 (cps:=[(0,[_]),(1,[_])]) (rs:=[_,_]) pb U U U)<|zi j8 U U U U U U .head U<|Y<|zf<|yi U ⟨_,.head⟩ jw j8 U ?_;exact ⟨by rw[if_pos c11,←Kp na nb hb1 hb2 hb3 hb4];rfl,.d1⟩
 rw[if_neg c11];refine Z<|au U U<|ah U<|Y<|zh U (fun c15=>?_) (fun c15=>?_)
 ·refine za<|zn (fun j=>Nat.beq j 3) (by kernel_rfl) U (zk (.rest _))<|D 0 U (yj jw j8 U U)<|bp 1 U<|zb (D3 _) U<|Y<|bp 2 U<|zb (pe (ra rs 0) (fK 2)) U<|Y<|y4<|yg (i:=3) U (by kernel_rfl) (by kernel_rfl)<|zi j8 U U U U U U .head U<|Y<|y8 (by kernel_rfl)<|zf<|yi U ⟨_,.head⟩ jw j8 U ?_;exact ⟨by rw[if_pos c15];rfl,.d1⟩
 rw[if_neg c15];refine Z<|au U U<|ah U<|Y<|zh U (fun c16=>?_) (fun c16=>?_)
 ·refine Z<|zb (LW _) U<|zi j8 U U U U U U .head U<|Y<|zf<|yi U ⟨_,.head⟩ jw j8 U ?_;exact ⟨M3 (by rw[if_pos c16]),.d1⟩
 rw[if_neg c16];refine Z<|au U U<|ah U<|Y<|zh U (fun c25=>?_) (fun c25=>?_)
 ·have hl1:rs.length=2:=by rw[hl,c25];rfl
  obtain ⟨ha,na⟩:=hokr.at (i:=0) (by omega);obtain ⟨hb,nb⟩:=hokr.at (i:=1) (by omega);refine Z<|ao jd U Z0 U U<|aD Zb U<|ae jw j8 U U<|ae jw j8 U U<|zb (Oj x.num hb) U<|zi j8 U U U U U U .head U<|Y<|zf<|yi U ⟨_,.head⟩ jw j8 U ?_;exact ⟨M3 (by rw[if_pos c25,D1 ha na nb]),.d1⟩
 rw[if_neg c25];refine Z<|au U U<|ah U<|Y<|zh U (fun c26=>?_) (fun c26=>?_)
 ·have hl1:rs.length=2:=by rw[hl,c26];rfl
  obtain ⟨ha,na⟩:=hokr.at (i:=0) (by omega);obtain ⟨hb,nb⟩:=hokr.at (i:=1) (by omega);refine za<|zn (fun j=>Nat.beq j 5) (by kernel_rfl) U (zk (.rest _))<|D 0 U (yj jw j8 U U)<|D 1 U (y5 (cps:=[(0,[_]),(1,[_])]) (rs:=[_,_]) pb U U U)<|D 3 U (yj jw j8 U U)<|bp 2 U<|zb (pe (ra rs 0) (0,gW)) U<|Y<|bp 4 U<|zb (Oj 0 hb) U<|Y<|y4<|yg (i:=5) U (by kernel_rfl) (by kernel_rfl)<|zi j8 U U U U U U .head U<|Y<|y8 (by kernel_rfl)<|zf<|yi U ⟨_,.head⟩ jw j8 U ?_;exact ⟨M3 (by rw[if_pos c26,KY (fL ha ⟨by decide,by decide⟩) (FX _ _) nb]),.d1⟩
 refine zc<|Z<|zb (Hq) U<|zi j8 U U U U U U .head U<|Y<|zf<|yi U ⟨_,.head⟩ jw j8 U ?_;exact ⟨M3 (by rw[if_neg c26]),.d1⟩
end
section
open Go.Proofs.Tryz
open Go.Proofs Go.Lib Go.Shelf Go.RowKit
variable {E:World}
set_option maxRecDepth 20000
theorem rL {α:Type} {p:α→Bool} {x:α}:∀{xs:List α} (j:Nat),xs.find? p=some x→∃k:Nat,di p xs j=((j+k:Nat):Int)∧xs[k]?=some x
 |[],j,h=>by simp at h
 |y::xs,j,h=>by
  by_cases c:p y=true
  ·rw[List.find?_cons_of_pos c] at h;exact ⟨0,by rw[di,if_pos c];rfl,by simpa using h⟩
  rw[List.find?_cons_of_neg (by simpa using c)] at h;obtain ⟨k,h1,h2⟩:=rL (j+1) h;exact ⟨k+1,by rw[di,if_neg c,h1];congr 1;omega,by simpa using h2⟩
theorem De (v:Int) (p:dh):aS prog E 106 ([.agg (dQ p)]++[.pf [.i v]]) (.bool (decide (p.dst=v))):=by
 refine zm func106 U (by decide) U<|Z<|zx (cs:=_) U U U<|ah U<|Y<|Z<|ao Z3 U j9 U U<|aD jg U<|aD jg U<|au U U<|ah U<|Y<|zf ?_
 repeat (first|refine ad ?_|refine aa ?_)
 refine bt U ?_
 rfl
structure mx (f:ab):Prop where
 small:small f
 shaped:bN f
 once:mV f
 bool:∀b∈f.q,∀x∈b.s,x.op=10∨x.op=11→∀v∈x.args,Cp f v=1
theorem Df {op:Int} (h:op=2∨op=3∨op=4):bF op=true:=by rcases h with rfl|rfl|rfl<;>decide
theorem Dg (f:ab) (hF:mx f) (l:List aO) (chk:List Bool) (hck:chk.length=f.v.length) (Lv:AV) {i:Nat} {HL:bC} (hof:∀{a:Int},bn f a=true→aX prog E 142 [ki f chk Lv,.i a] [(i,HL)] (mw i HL (.agg (bM (mu f l a)))))
  (ho:∀u:Int,0≤u→bw (lv l u)) (v:Nat) (hv:v<f.v.length) (hm:0≤(aE f v).1) :
  aX prog E 67 [ki f chk Lv,.i v] [(i,HL)] (mw i HL (.agg (bM (ly f (gb chk) l v)))):=by
 have hS:=hF.shaped;have hf:=hF.small;have hn:=hf.2.2.1;have hone:=(hF.once v hv).1;obtain ⟨bi,b,hget,hcase⟩:=iN hm;have hbi:bi<f.q.length:=(List.getElem?_eq_some_iff.1 hget).1;have hmem:=w5 hget;obtain ⟨hb0,hb1,hb2,hb3,hb4⟩:=hf.2.2.2.2 b hmem;obtain ⟨hPh,hIn,hTm⟩:=hS.2.2.2.2.2 b hmem;have hmk0:=kJ (f:=f) hv;refine aX.same<|zm func67 U (by decide) U<|Z<|zx (cs:=[_]) U U U<|zp (cs:=[.i 0,.i 0]) Za U U<|fun i4=>Y ?_;rcases hcase with ⟨p0,hp0,hd0,hmk⟩|⟨k,x,hxk,hxd,hmk⟩
 ·have hrule:=pC (chk:=gb chk) (l:=l) hone hget hp0 hd0 hmk;rw[hrule];rw[hmk] at hmk0;obtain ⟨k,hk1,hk2⟩:=rL 0 (AX hone hget hp0 hd0);rw[Nat.zero_add] at hk1;obtain ⟨hpd,hpl,hpn,hpa,hpf⟩:=hPh p0 hp0;have hpb:=(hb3 p0 hp0).1;have hix:=mr (E:=E) b.p (by omega) (fun p _=>De (v:Int) p);rw[hk1] at hix
  refine za<|zn (fun j=>false) (by kernel_rfl) U (zk (.rest _))<|D 0 U (nT U)<|D 1 U (q5 U)<|D 2 U (dk Zq U Yt U U)<|D 3 U (gJ Xa U)<|D 4 U (d9 jg U)<|D 5 U (bD v Zm Ya U U U hmk0)<|D 6 U (yj isAgg114 Ya U U)<|bp 7 U<|zp (cs:=[.int .i64 0,.int .i64 0]) zeroValue114 U U<|fun i5=>Y<|bp 8 U<|zi Ya U U U U U U .head U<|Y<|dS<|yd (zz (t:=5) U .head)<|za<|zn (fun j=>false) (by kernel_rfl) U (zk (.rest _))<|D 0 U (nT U)<|D 1 U (q5 U)<|D 2 U (dk Zq U jk U U)<|D 3 U (dk jf U Zd U U)<|D 4 U (gJ Zf U)<|D 5 U (dk Y9 U j9 U U)<|D 6 U (d9 jg U)<|D 7 U (bD bi jr Z1 U U U hget)<|D 8 U (yj Ye Z1 U U)<|bp 9 U<|zp (cs:=[.e,.n,.n,.int .i64 0,.int .i64 0,.int .i64 0,.int .i64 0]) Zh U U<|fun i6=>Y<|bp 10 U<|zi Z1 U U U U U U .head U<|Y<|dS<|yd (zz (t:=6) U .head)<|za<|Z<|ao Y9 U j9 U U ?_
  refine aD jg U<|X (q7 U U)<|Y<|yl U U<|zc<|Z<|ao ji U Zv U U<|aK Yf U<|X (Gv.func U U)<|zb (hix) U<|ap U<|Y<|Z<|X (nT U)<|ao ji U Zv U U<|aK Yf U<|C U<|X (bD k Z6 Ze U U U hk2)<|ae Ys Ze U U<|zy U (zk (.r (.l (.rest _)))) (F4 f l hof p0 hpa hpb) ?_;rintro r45 O45 ⟨rfl,rfl⟩;refine zi j8 U U U U U U .t1 U<|Y<|gd .t1<|zf<|yi U ⟨_,.head⟩ jw j8 U ?_;exact ⟨rfl,.d1⟩
 have hI:=fG (hIn x (w5 hxk));have hrule:=nI (chk:=gb chk) (l:=l) hget hxk hmk;rw[hrule,pA];rw[hmk] at hmk0
 refine za<|zn (fun j=>false) (by kernel_rfl) U (zk (.rest _))<|D 0 U (nT U)<|D 1 U (q5 U)<|D 2 U (dk Zq U Yt U U)<|D 3 U (gJ Xa U)<|D 4 U (d9 jg U)<|D 5 U (bD v Zm Ya U U U hmk0)<|D 6 U (yj isAgg114 Ya U U)<|bp 7 U<|zp (cs:=[.int .i64 0,.int .i64 0]) zeroValue114 U U<|fun i5=>Y<|bp 8 U<|zi Ya U U U U U U .head U<|Y<|dS<|yd (zz (t:=5) U .head)<|za<|zn (fun j=>false) (by kernel_rfl) U (zk (.rest _))<|D 0 U (nT U)<|D 1 U (q5 U)<|D 2 U (dk Zq U jk U U)<|D 3 U (dk jf U Zd U U)<|D 4 U (gJ Zf U)<|D 5 U (dk Y9 U j9 U U)<|D 6 U (d9 jg U)<|D 7 U (bD bi jr Z1 U U U hget)<|D 8 U (yj Ye Z1 U U)<|bp 9 U<|zp (cs:=[.e,.n,.n,.int .i64 0,.int .i64 0,.int .i64 0,.int .i64 0]) Zh U U<|fun i6=>Y<|bp 10 U<|zi Z1 U U U U U U .head U<|Y<|dS<|yd (zz (t:=6) U .head)<|za<|Z<|ao Y9 U j9 U U ?_
 refine aD jg U<|X (q7 U U)<|Y<|ym U (wa (by show (0:Int)≤(k:Int);omega))<|Z<|X (nT U)<|ao ji U Zw U U<|aK Y3 U<|ao Y9 U j9 U U<|aD jg U<|X (bD k Z4 Z9 U U U hxk)<|ae Yg Z9 U U<|zy U (zk (.r (.l (.rest _)))) (Dd f l chk Lv hof ho x hI (hF.bool b hmem x (w5 hxk)) (fun _=>by rw[hxd,hck];exact hv) (fun _=>by rw[hxd];omega)) ?_;rintro r34 O34 ⟨rfl,rfl⟩;refine zi j8 U U U U U U .t1 U<|Y<|gd .t1<|zf<|yi U ⟨_,.head⟩ jw j8 U ?_;exact ⟨rfl,.d1⟩
end
section
open Go.Proofs.Tryz
def kj (q:Int):Prop:=21≤q∧q≤23
instance (q:Int):Decidable (kj q):=by unfold kj;infer_instance
def ur (q:Int) (i:Nat) (xs:List aB):List lk:=if kj q then (xs.zipIdx.filter fun x=>decide (x.1.op=q)).map fun x=>((i:Int),(x.2:Int)) else[]
def qU (f:ab) (k:Nat) (q:Int):List lk:=(f.q.take k).zipIdx.flatMap fun b=>ur q b.2 b.1.s
theorem F7 (q:Int) (i:Nat) {xs:List aB} {j:Nat} (h:j<xs.length):ur q i (xs.take (j+1))=ur q i (xs.take j)++if kj q∧xs[j].op=q then[((i:Int),(j:Int))] else[]:=by
 unfold ur
 by_cases hq:kj q
 ·rw[if_pos hq,if_pos hq,pv h,List.filter_append,w7]
  congr 1
  by_cases c:xs[j].op=q
  ·rw[if_pos ⟨hq,c⟩];simp[c]
  rw[if_neg (fun h=>c h.2)];simp[c]
 rw[if_neg hq,if_neg hq,if_neg (fun h=>hq h.1)];rfl
theorem wS {f:ab} {k:Nat} (q:Int) (h:k<f.q.length):qU f (k+1) q=qU f k q++ur q k f.q[k].s:=by
 unfold qU;rw[pv h,List.flatMap_append];simp
theorem A7 (q:Int) (i:Nat) (xs:List aB):(ur q i xs).length≤xs.length:=by
 unfold ur;split
 ·rw[w2];have:=List.length_filter_le (fun x:aB × Nat=>decide (x.1.op=q)) xs.zipIdx
  simpa using this
 simp
theorem ut {f:ab} {q:Int} {m:Nat} (h:∀b∈f.q,b.s.length≤m):∀k,k≤f.q.length→(qU f k q).length≤k*m
 |0,_=>by simp[qU]
 |k+1,hk=>by
  have h1:=ut (q:=q) h k (by omega);have h2:=A7 q k (f.q[k]'(by omega)).s;have h3:=h _ (qx (show k<f.q.length by omega));rw[wS q (by omega),qz,Nat.add_mul];omega
theorem pD {f:ab} {q:Int} {m:lk}:m∈qU f f.q.length q↔kj q∧∃(i k:Nat) (b:aF) (z:aB),f.q[i]?=some b∧b.s[k]?=some z∧z.op=q∧m=((i:Int),(k:Int)):=by
 unfold qU ur;rw[qy,List.mem_flatMap]
 constructor
 ·rintro ⟨⟨b,i⟩,h1,h2⟩;have hb:=List.mem_zipIdx_iff_getElem?.1 h1;dsimp only at h2 hb;split at h2
  ·rename_i hq;obtain ⟨⟨z,k⟩,h3,h4⟩:=List.mem_map.1 h2;obtain ⟨h5,h6⟩:=List.mem_filter.1 h3;exact ⟨hq,i,k,b,z,hb,List.mem_zipIdx_iff_getElem?.1 h5,by simpa using h6,h4.symm⟩
  cases h2
 rintro ⟨hq,i,k,b,z,h1,h2,h3,rfl⟩;refine ⟨(b,i),List.mem_zipIdx_iff_getElem?.2 h1,?_⟩;dsimp only;rw[if_pos hq];exact List.mem_map.2 ⟨(z,k),List.mem_filter.2 ⟨List.mem_zipIdx_iff_getElem?.2 h2,by simpa using h3⟩,rfl⟩
def x8 (f:ab) (x:aB) (i k:Nat) (m:lk):Bool:=((l6 f m).map fun c=>decide (c.args=x.args)).getD false&&eW f m i k
theorem A8 {f:ab} {x:aB} {i k:Nat} {q:Int}:MV f q x.args i k=true↔∃(i' k':Nat) (b:aF) (z:aB),f.q[i']?=some b∧b.s[k']?=some z∧z.op=q∧z.args=x.args∧eW f ((i':Int),(k':Int)) i k=true:=by
 unfold MV;rw[List.any_eq_true]
 constructor
 ·rintro ⟨i',hi,h⟩;rw[List.mem_range] at hi;rw[Ey (qt hi)] at h;obtain ⟨⟨z,k'⟩,h1,h2⟩:=List.any_eq_true.1 h;unfold KX at h2;simp only[wc,wi] at h2;exact ⟨i',k',_,z,qt hi,List.mem_zipIdx_iff_getElem?.1 h1,h2.1.1,h2.1.2,h2.2⟩
 rintro ⟨i',k',b,z,h1,h2,h3,h4,h5⟩;have hi:=(List.getElem?_eq_some_iff.1 h1).1;refine ⟨i',List.mem_range.2 hi,?_⟩;rw[Ey h1];refine List.any_eq_true.2 ⟨(z,k'),List.mem_zipIdx_iff_getElem?.2 h2,?_⟩;unfold KX;simp only[wc,wi];exact ⟨⟨h3,h4⟩,h5⟩
theorem oM {f:ab} {i k:Nat} {b:aF} {z:aB} (h1:f.q[i]?=some b) (h2:b.s[k]?=some z):l6 f ((i:Int),(k:Int))=some z:=by
 unfold l6;rw[if_pos ⟨by dsimp only;omega,by dsimp only;omega⟩];show ((f.q[i]?).bind fun b=>b.s[k]?)=_;rw[h1];exact h2
def l8 (op:Int):Int:=if op=2∨op=3∨op=4 then op+19 else 0
theorem Il {f:ab} {x:aB} {i k:Nat}:vG f x i k=true↔∃m∈qU f f.q.length (l8 x.op),x8 f x i k m=true:=by
 unfold vG L8 l8
 by_cases hs:x.op=2∨x.op=3∨x.op=4
 ·rw[wa hs,Bool.true_and,if_pos hs,A8]
  constructor
  ·rintro ⟨i',k',b,z,h1,h2,h3,h4,h5⟩;refine ⟨((i':Int),(k':Int)),pD.2 ⟨by unfold kj;omega,i',k',b,z,h1,h2,h3,rfl⟩,?_⟩;unfold x8;rw[oM h1 h2,h5];simp[h4]
  rintro ⟨m,hm,hh⟩;obtain ⟨hq,i',k',b,z,h1,h2,h3,rfl⟩:=pD.1 hm;unfold x8 at hh;rw[oM h1 h2] at hh;simp at hh;exact ⟨i',k',b,z,h1,h2,h3,hh.1,hh.2⟩
 rw[wb hs,Bool.false_and,if_neg hs]
 constructor
 ·intro h;cases h
 rintro ⟨m,hm,_⟩;obtain ⟨hq,_⟩:=pD.1 hm;unfold kj at hq;omega
def mG (f:ab) (i k:Nat) (v:Int):Prop:=∃(i' k':Nat) (b:aF) (z:aB),f.q[i']?=some b∧b.s[k']?=some z∧z.dst=v∧vG f z i' k'=true∧(i'<i∨i'=i∧k'<k)
theorem mG.step {f:ab} {i k:Nat} {b:aF} {z:aB} (h1:f.q[i]?=some b) (h2:b.s[k]?=some z) (v:Int):mG f i (k+1) v↔mG f i k v∨(v=z.dst∧vG f z i k=true):=by
 constructor
 ·rintro ⟨i',k',b',z',g1,g2,g3,g4,g5⟩
  by_cases e:i'=i∧k'=k
  ·obtain ⟨rfl,rfl⟩:=e;rw[h1] at g1;cases g1;rw[h2] at g2;cases g2;exact .inr ⟨g3.symm,g4⟩
  exact .inl ⟨i',k',b',z',g1,g2,g3,g4,by omega⟩
 rintro (⟨i',k',b',z',g1,g2,g3,g4,g5⟩|⟨rfl,h⟩)
 ·exact ⟨i',k',b',z',g1,g2,g3,g4,by omega⟩
 exact ⟨i,k,b,z,h1,h2,rfl,h,.inr ⟨rfl,by omega⟩⟩
theorem mG.next {f:ab} {i:Nat} {b:aF} (h1:f.q[i]?=some b) (v:Int):mG f (i+1) 0 v↔mG f i b.s.length v:=by
 constructor
 ·rintro ⟨i',k',b',z',g1,g2,g3,g4,g5⟩;refine ⟨i',k',b',z',g1,g2,g3,g4,?_⟩
  by_cases e:i'=i
  ·subst e;rw[h1] at g1;cases g1;exact .inr ⟨rfl,(List.getElem?_eq_some_iff.1 g2).1⟩
  exact .inl (by omega)
 rintro ⟨i',k',b',z',g1,g2,g3,g4,g5⟩;exact ⟨i',k',b',z',g1,g2,g3,g4,.inl (by omega)⟩
theorem mG.zero (f:ab) (v:Int):¬mG f 0 0 v:=by
 rintro ⟨i',k',b',z',g1,g2,g3,g4,g5⟩;omega
theorem mG.all {f:ab} (ho:mV f) {v:Nat} (hv:v<f.v.length):mG f f.q.length 0 v↔pB f v=true:=by
 constructor
 ·rintro ⟨i',k',b',z',g1,g2,g3,g4,g5⟩;have hm:((i':Int),(k':Int))∈aZ f v:=de.2 ⟨i',b',g1,d8.2 (.inr ⟨k',z',g2,g3,rfl⟩)⟩;have:=lz (ho v hv).1 hm;rw[Ez g1 g2 this];exact g4
 intro h
 by_cases h0:0≤(aE f v).1
 ·obtain ⟨i,b,h1,⟨p,h2,h3,h4⟩|⟨k,x,h2,h3,h4⟩⟩:=iN h0
  ·unfold pB l6 at h;rw[h4,if_neg (by dsimp only;omega)] at h;cases h
  rw[Ez h1 h2 h4] at h;exact ⟨i,k,b,x,h1,h2,h3,h,.inl (List.getElem?_eq_some_iff.1 h1).1⟩
 unfold pB l6 at h;rw[if_neg (fun hh=>h0 hh.1)] at h;cases h
def k4 (f:ab):List Bool:=(List.range f.v.length).map fun (v:Nat)=>pB f v
theorem uu (f:ab):(k4 f).length=f.v.length:=by simp[k4]
theorem KZ {f:ab} {v:Int} (h0:0≤v) (h:v<f.v.length):gb (k4 f) v=pB f v:=by
 obtain ⟨k,rfl⟩:∃k:Nat,v=(k:Int):=⟨v.toNat,by omega⟩;rw[oG];unfold k4;rw[w3,List.getElem?_range (by omega)];rfl
theorem K0 {f:ab} (ho:mV f) {L:List Bool} (hl:L.length=f.v.length) (h:∀v:Nat,v<f.v.length→(gb L v=true↔mG f f.q.length 0 v)):L=k4 f:=by
 apply List.ext_getElem?;intro v
 by_cases hv:v<f.v.length
 ·have h1:=h v hv;rw[mG.all ho hv] at h1;unfold k4;rw[w3,List.getElem?_range hv,kL (out:=L) (by omega)];simp only[Option.map_some];rw[Bool.eq_iff_iff.2 h1]
 rw[List.getElem?_eq_none (by omega),List.getElem?_eq_none (by rw[uu];omega)]
theorem K1 {L:List Bool} {d v:Nat} (hd:d<L.length):gb (L.set d true) v=true↔v=d∨gb L v=true:=by
 rw[oG,oG,List.getElem?_set]
 by_cases e:d=v
 ·subst e;rw[if_pos rfl,if_pos hd];simp
 rw[if_neg e]
 constructor
 ·exact .inr
 rintro (h|h)
 ·exact absurd h.symm e
 exact h
end
section
open Go.Proofs.Tryz
open Go.Proofs Go.Lib Go.Shelf Go.RowKit
set_option maxRecDepth 20000
variable {E:World}
theorem pE {α:Type} (g:α→Nat):∀(l:List α) (k:Nat),((l.take k).map g).sum≤(l.map g).sum
 |[],k=>by simp
 |x::l,0=>by simp
 |x::l,k+1=>by
  have:=pE g l k;simp only[List.take_succ_cons,List.map_cons,List.sum_cons];omega
theorem K2 (l:List dh) (k:Nat):wP (l.take k)≤wP l:=pE _ l k
theorem K3 (l:List aB) (k:Nat):wX (l.take k)≤wX l:=pE _ l k
theorem qV {f:ab} (h:ox f) {k:Nat} (hk:k<f.q.length):wV f.v+CL (f.q.take k)+wB f.q[k]≤4000:=by
 have h1:=h.2.2.2.2.2 (fun e=>by rw[e] at hk;exact absurd hk (Nat.not_lt_zero _));have h2:CL (f.q.take (k+1))≤CL f.q:=pE _ f.q (k+1);rw[Aj hk] at h2;omega
set_option maxHeartbeats 8000000 in
theorem A9 (f:ab) (hf:wy f):aX prog E 44 [.agg (bH f)] [] (fun x _=>∃b:Bool,x=.bool b∧(b=true↔ox f)):=by
 obtain ⟨hf1,hf2,hf3,hf4⟩:=hf;have hl1:=hf1.lt;have hl3:=hf3.lt;refine zm func44 U (by decide) U<|Z<|zx (cs:=_) U U U<|ah U<|Y<|za<|za<|y3 (γ:=Unit) [1] (fun u=>[(27,.bool (Fz f))]) (fun u=>[]) (fun u=>True) ?_ (fun _ _ h=>h) ?_
 ·refine bZ<|ao jf U Zs U U<|aK Y4 U<|am Z7 U<|bg U U<|aw U<|zo (s:=16) U (fun c1=>?_) (fun c1=>?_)
  ·refine H U U c1<|H U U c1<|H U U c1<|H U U c1<|aA U c1 U<|aw U<|H U U U<|H U U U<|H U U U<|H U U U<|aA U U U<|Y ?_;exact ⟨(),aN,⟨jb (by simp_all[Fz]<;>grind),trivial⟩,aJ,trivial⟩
  refine M U U c1<|ao jf U Zd U U<|M U U c1<|aK Zf U<|M U U c1<|am jr U<|M U U c1<|bg U U<|ay U c1 U<|aw U<|zo (s:=22) U (fun c2=>?_) (fun c2=>?_)
  ·refine H U U c2<|H U U c2<|H U U c2<|H U U c2<|aA U c2 U<|Y ?_;exact ⟨(),aN,⟨jb (by simp_all[Fz]<;>grind),trivial⟩,aJ,trivial⟩
  refine M U U c2<|ao jf U jh U U<|M U U c2<|aK jy U<|M U U c2<|am j7 U<|M U U c2<|bg U U<|ay U c2 U<|Y ?_;exact ⟨(),aN,⟨jb (by simp_all[Fz]<;>grind),trivial⟩,aJ,trivial⟩
 rintro _ _;refine zq U (fun c1=>?_) (fun c1=>?_)
 ·refine Z<|ah U<|Y<|zf ?_
  repeat (first|refine ad ?_|refine aa ?_)
  refine bt U ?_;exact ⟨_,rfl,fun h=>(by cases h),fun hl=>absurd hl (fun hl=>by have h1:=hl.1;have h2:=hl.2.1;have h3:=hl.2.2.1;unfold Fz at c1;simp at c1;omega)⟩
 have hsz:f.v.length≤100∧f.q.length≤40∧f.z.length≤20:=by unfold Fz at c1;simp at c1;omega
 refine zc<|Z<|ap U<|Y<|za<|Z<|ao jf U Zs U U<|aK Y4 U<|am Z7 U<|C U<|Y<|zd<|zu (γ:=Nat) [1,29,30] (fun k=>[(31,.i k),(3,.i (wV (f.v.take k)))]) (fun k=>[]) (fun k=>k≤f.v.length∧wV (f.v.take k)≤400*k∧∀v∈f.v.take k,v.name.size≤400) (fun k=>f.v.length - k) 0 cV aJ (⟨qw _,Nat.le_refl _,by simp⟩) ?_;rintro k ⟨hk,hw,hv⟩;refine Z<|aq U U<|Y<|za<|zh U (fun ck=>?_) (fun ck=>?_)
 ·have hk1:k<f.v.length:=by omega
  have hs:=KA hk1;refine zc<|za<|zd<|Z<|X (qf Z7 Yc U U U (qt (by omega)))<|ae isAgg48 Yc U U<|zp (cs:=[.e,.i 0]) Xf U U<|fun i5=>zi Yc U U U U U U .head U<|Y<|za<|Z<|X (ze Zr U Y7 (by decide) U U)<|X (zj (c:=.str _) Ym U ⟨_,.head⟩ U)<|X (Gv.lenT Zy U)<|bg U U<|Y<|zh U (fun cn=>?_) (fun cn=>?_)
  ·refine Z<|ah U<|Y<|zf ?_
   repeat (first|refine ad ?_|refine aa ?_)
   refine bt U ?_;exact ⟨_,rfl,fun h=>(by cases h),fun hl=>absurd hl (fun hl=>by have h1:=hl.2.2.2.1 _ (qx hk1);omega)⟩
  refine zc<|bZ<|C U<|X (ze Zr U Y7 (by decide) U U)<|X (zj (c:=.str _) Ym U ⟨_,.head⟩ U)<|X (Gv.lenT Zy U)<|X (ky U U)<|ap U<|Y<|bQ U U ?_;exact ⟨k+1,eX,⟨rfl,congrArg (AV.int .i64) (by rw[hs];omega),trivial⟩,⟨_,(.drop (.refl _)),rfl⟩,⟨hk1,by omega,fQ hk1 hv (by omega)⟩,by omega⟩
 obtain rfl:k=f.v.length:=by omega
 rw[qy] at hw hv;rw[qy];refine zt<|za<|Z<|ao jf U Zd U U<|aK Zf U<|am jr U<|C U<|Y<|zd<|zu (γ:=Nat) [46,47] (fun k=>[(48,.i k),(3,.i (wV f.v+CL (f.q.take k):Nat))]) (fun k=>[]) (fun k=>k≤f.q.length∧(0<k→wV f.v+CL (f.q.take k)≤4000)∧CL (f.q.take k)≤4000∧∀b∈f.q.take k,Ef b) (fun k=>f.q.length - k) 0 cV aJ (⟨qw _,by omega,by simp[CL],by simp⟩) ?_;rintro k ⟨hk,hw2,hw3,hb⟩;refine Z<|aq U U<|Y<|za<|zh U (fun ck=>?_) (fun ck=>?_)
 ·have hk1:k<f.q.length:=by omega
  obtain ⟨hb1,hb2,hb3,hb4⟩:=hf4 _ (qx hk1);have hs:=Aj hk1;refine zc<|za<|zd<|Z<|X (qf jr Z1 U U U (qt (by omega)))<|ae Ye Z1 U U<|zp (cs:=[.e,.n,.n,.i 0,.i 0,.i 0,.i 0]) Zh U U<|fun i7=>zi Z1 U U U U U U .head U<|Y<|za<|za<|y3 (γ:=Unit) [3,7,46,47,48] (fun u=>[(67,.bool (FA f.q[k]))]) (fun u=>[(i7,.cells 59 (bK f.q[k]))]) (fun u=>True) ?_ (fun _ _ h=>h) ?_
  ·refine bZ<|X (ze ji U Y7 (by decide) U U)<|X (zj (c:=.str _) Ym U ⟨_,.head⟩ U)<|X (Gv.lenT Zy U)<|bg U U<|aw U<|zo (s:=56) U (fun c3=>?_) (fun c3=>?_)
   ·refine H U U c3<|H U U c3<|H U U c3<|H U U c3<|aA U c3 U<|aw U<|H U U U<|H U U U<|H U U U<|H U U U<|aA U U U<|Y ?_;exact ⟨(),lf,⟨jb (by simp_all[FA]<;>grind),trivial⟩,aJ,trivial⟩
   refine M U U c3<|X (ze ji U Zv (by decide) U U)<|M U U c3<|X (zj (c:=.fro _ _) Yf U ⟨_,.head⟩ U)<|M U U c3<|am Z6 U<|M U U c3<|bg U U<|ay U c3 U<|aw U<|zo (s:=62) U (fun c4=>?_) (fun c4=>?_)
   ·refine H U U c4<|H U U c4<|H U U c4<|H U U c4<|aA U c4 U<|Y ?_;exact ⟨(),lf,⟨jb (by simp_all[FA]<;>grind),trivial⟩,aJ,trivial⟩
   refine M U U c4<|X (ze ji U Zw (by decide) U U)<|M U U c4<|X (zj (c:=.fro _ _) Y3 U ⟨_,.head⟩ U)<|M U U c4<|am Z4 U<|M U U c4<|bg U U<|ay U c4 U<|Y ?_;exact ⟨(),lf,⟨jb (by simp_all[FA]<;>grind),trivial⟩,aJ,trivial⟩
  rintro _ _;refine zq U (fun c2=>?_) (fun c2=>?_)
  ·refine Z<|ah U<|Y<|zf ?_
   repeat (first|refine ad ?_|refine aa ?_)
   refine bt U ?_;exact ⟨_,rfl,fun h=>(by cases h),fun hl=>absurd hl (fun hl=>by obtain ⟨h1,h2,h3,_⟩:=hl.2.2.2.2.1 _ (qx hk1);unfold FA at c2;simp at c2;omega)⟩
  have hsb:f.q[k].name.size≤400∧f.q[k].p.length≤400∧f.q[k].s.length≤400:=by unfold FA at c2;simp at c2;omega
  refine zc<|Z<|C U<|X (ze ji U Y7 (by decide) U U)<|X (zj (c:=.str _) Ym U ⟨_,.head⟩ U)<|X (Gv.lenT Zy U)<|X (ze ji U Zv (by decide) U U)<|X (zj (c:=.fro _ _) Yf U ⟨_,.head⟩ U)<|am Z6 U<|X (ze ji U Zw (by decide) U U)<|X (zj (c:=.fro _ _) Y3 U ⟨_,.head⟩ U)<|am Z4 U<|X (ky U U)<|X (Gv.mul U U (by unfold mB;omega))<|X (ky U U)<|X (ky U U)<|ap U<|Y<|za<|Z<|X (ze ji U Zv (by decide) U U)<|X (zj (c:=.fro _ _) Yf U ⟨_,.head⟩ U)<|am Z6 U<|C U<|Y<|zd<|zu (γ:=Nat) [7,46,47,48,83,84] (fun m=>[(85,.i m),(3,.i (wV f.v+CL (f.q.take k)+(f.q[k].name.size+10*(f.q[k].p.length+f.q[k].s.length))+wP (f.q[k].p.take m):Nat))]) (fun m=>[(i7,.cells 59 (bK f.q[k]))]) (fun m=>m≤f.q[k].p.length∧wP (f.q[k].p.take m)≤800*m∧∀p∈f.q[k].p.take m,p.args.length≤400∧p.w.length≤400) (fun m=>f.q[k].p.length - m) 0 ⟨U,(congrArg (AV.int .i64) (by simp[wP]<;>omega)),trivial⟩ aJ (⟨qw _,by simp[wP],by simp⟩) ?_
  rintro m ⟨hm,hwp,hp⟩;refine Z<|aq U U<|Y<|za<|zh U (fun cm=>?_) (fun cm=>?_)
  ·have hm1:m<f.q[k].p.length:=by omega
   obtain ⟨hq1,hq2⟩:=hb3 _ (qx hm1);have hl6:=hq1.lt;have hl7:=hq2.lt;have hs2:=KC hm1;refine zc<|za<|zd<|Z<|X (qf Z6 Ze U U U (qt (by omega)))<|ae Ys Ze U U<|zp (cs:=[.i 0,.n,.n]) Y0 U U<|fun i9=>zi Ze U U U U U U .head U<|Y<|za<|za<|y3 (γ:=Unit) [3,7,9,46,47,48,83,84,85] (fun u=>[(102,.bool (decide ((4000:Int)<(wV f.v+CL (f.q.take k)+(f.q[k].name.size+10*(f.q[k].p.length+f.q[k].s.length))+wP (f.q[k].p.take m):Nat))||(decide ((400:Int)<f.q[k].p[m].args.length)||decide ((400:Int)<f.q[k].p[m].w.length))))]) (fun u=>[(i9,.cells 83 (dQ f.q[k].p[m])),(i7,.cells 59 (bK f.q[k]))]) (fun u=>True) ?_ (fun _ _ h=>h) ?_
   ·refine bZ<|C U<|bg U U<|aw U<|zo (s:=91) U (fun c5=>?_) (fun c5=>?_)
    ·refine H U U c5<|H U U c5<|H U U c5<|H U U c5<|aA U c5 U<|aw U<|H U U U<|H U U U<|H U U U<|H U U U<|aA U U U<|Y ?_;exact ⟨(),p9,⟨jb (by simp_all<;>grind),trivial⟩,aJ,trivial⟩
    refine M U U c5<|X (ze Z3 U jh (by decide) U U)<|M U U c5<|X (zj (c:=.fro _ _) jy U ⟨_,.head⟩ U)<|M U U c5<|am j7 U<|M U U c5<|bg U U<|ay U c5 U<|aw U<|zo (s:=97) U (fun c6=>?_) (fun c6=>?_)
    ·refine H U U c6<|H U U c6<|H U U c6<|H U U c6<|aA U c6 U<|Y ?_;exact ⟨(),p9,⟨jb (by simp_all<;>grind),trivial⟩,aJ,trivial⟩
    refine M U U c6<|X (ze Z3 U jh (by decide) U U)<|M U U c6<|X (zj (c:=.fro _ _) jy U ⟨_,.head⟩ U)<|M U U c6<|am j7 U<|M U U c6<|bg U U<|ay U c6 U<|Y ?_;exact ⟨(),p9,⟨jb (by simp_all<;>grind),trivial⟩,aJ,trivial⟩
   rintro _ _;refine zq U (fun cp=>?_) (fun cp=>?_)
   ·refine Z<|ah U<|Y<|zf ?_
    repeat (first|refine ad ?_|refine aa ?_)
    refine bt U ?_;exact ⟨_,rfl,fun h=>(by cases h),fun hl=>absurd hl (fun hl=>by obtain ⟨_,_,_,h4,_⟩:=hl.2.2.2.2.1 _ (qx hk1);have h5:=h4 _ (qx hm1);have h9:=qV hl hk1;have hwb:wB f.q[k]=f.q[k].name.size+10*(f.q[k].p.length+f.q[k].s.length)+wP f.q[k].p+wX f.q[k].s:=rfl;have h10:=K2 f.q[k].p m;simp only[Bool.or_eq_true,wi] at cp;omega)⟩
   rcases Bool.or_eq_false_iff.1 cp with ⟨a1,a2⟩
   rcases Bool.or_eq_false_iff.1 a2 with ⟨a3,a4⟩
   have a3:=wh a3;have a4:=wh a4;refine zc<|bZ<|C U<|X (ze Z3 U jh (by decide) U U)<|X (zj (c:=.fro _ _) jy U ⟨_,.head⟩ U)<|am j7 U<|X (ze Z3 U jh (by decide) U U)<|X (zj (c:=.fro _ _) jy U ⟨_,.head⟩ U)<|am j7 U<|X (ky U U)<|X (ky U U)<|ap U<|Y<|bQ U U ?_;exact ⟨m+1,rX,⟨rfl,congrArg (AV.int .i64) (by rw[hs2];omega),trivial⟩,⟨_,(.drop (.refl _)),rfl⟩,⟨hm1,by omega,fQ hm1 hp ⟨by omega,by omega⟩⟩,by omega⟩
  obtain rfl:m=f.q[k].p.length:=by omega
  rw[qy] at hwp hp;rw[qy];refine zt<|za<|Z<|X (ze ji U Zw (by decide) U U)<|X (zj (c:=.fro _ _) Y3 U ⟨_,.head⟩ U)<|am Z4 U<|C U<|Y<|zd<|zu (γ:=Nat) [46,47,48,114,115] (fun m=>[(116,.i m),(3,.i (wV f.v+CL (f.q.take k)+(f.q[k].name.size+10*(f.q[k].p.length+f.q[k].s.length))+wP f.q[k].p+wX (f.q[k].s.take m):Nat))]) (fun m=>[(i7,.cells 59 (bK f.q[k]))]) (fun m=>m≤f.q[k].s.length∧wX (f.q[k].s.take m)≤400*m∧∀p∈f.q[k].s.take m,p.args.length≤400) (fun m=>f.q[k].s.length - m) 0 ⟨U,(congrArg (AV.int .i64) (by simp[wX]<;>omega)),trivial⟩ aJ (⟨qw _,by simp[wX],by simp⟩) ?_;rintro m ⟨hm,hwx,hx⟩;refine Z<|aq U U<|Y<|za<|zh U (fun cm=>?_) (fun cm=>?_)
  ·have hm1:m<f.q[k].s.length:=by omega
   have hq1:=hb4 _ (qx hm1);have hl6:=hq1.lt;have hs2:=KD hm1;refine zc<|za<|zd<|Z<|X (qf Z4 Z9 U U U (qt (by omega)))<|ae Yg Z9 U U<|zp (cs:=[.i 0,.i 0,.n,.i 0]) Zo U U<|fun i11=>zi Z9 U U U U U U .head U<|Y<|za<|za<|y3 (γ:=Unit) [3,11,46,47,48,114,115,116] (fun u=>[(127,.bool (decide ((4000:Int)<(wV f.v+CL (f.q.take k)+(f.q[k].name.size+10*(f.q[k].p.length+f.q[k].s.length))+wP f.q[k].p+wX (f.q[k].s.take m):Nat))||decide ((400:Int)<f.q[k].s[m].args.length)))]) (fun u=>[(i11,.cells 51 (bu f.q[k].s[m])),(i7,.cells 59 (bK f.q[k]))]) (fun u=>True) ?_ (fun _ _ h=>h) ?_
   ·refine bZ<|C U<|bg U U<|aw U<|zo (s:=122) U (fun c7=>?_) (fun c7=>?_)
    ·refine H U U c7<|H U U c7<|H U U c7<|H U U c7<|aA U c7 U<|Y ?_;exact ⟨(),rY,⟨jb (by simp_all<;>grind),trivial⟩,aJ,trivial⟩
    refine M U U c7<|X (ze jd U jh (by decide) U U)<|M U U c7<|X (zj (c:=.fro _ _) jy U ⟨_,.head⟩ U)<|M U U c7<|am j7 U<|M U U c7<|bg U U<|ay U c7 U<|Y ?_;exact ⟨(),rY,⟨jb (by simp_all<;>grind),trivial⟩,aJ,trivial⟩
   rintro _ _;refine zq U (fun cp=>?_) (fun cp=>?_)
   ·refine Z<|ah U<|Y<|zf ?_
    repeat (first|refine ad ?_|refine aa ?_)
    refine bt U ?_;exact ⟨_,rfl,fun h=>(by cases h),fun hl=>absurd hl (fun hl=>by obtain ⟨_,_,_,_,h4⟩:=hl.2.2.2.2.1 _ (qx hk1);have h5:=h4 _ (qx hm1);have h9:=qV hl hk1;have hwb:wB f.q[k]=f.q[k].name.size+10*(f.q[k].p.length+f.q[k].s.length)+wP f.q[k].p+wX f.q[k].s:=rfl;have h10:=K3 f.q[k].s m;simp only[Bool.or_eq_true,wi] at cp;omega)⟩
   rcases Bool.or_eq_false_iff.1 cp with ⟨a1,a2⟩
   have a2:=wh a2;refine zc<|bZ<|C U<|X (ze jd U jh (by decide) U U)<|X (zj (c:=.fro _ _) jy U ⟨_,.head⟩ U)<|am j7 U<|X (ky U U)<|ap U<|Y<|bQ U U ?_;exact ⟨m+1,lf,⟨rfl,congrArg (AV.int .i64) (by rw[hs2];omega),trivial⟩,⟨_,(.drop (.refl _)),rfl⟩,⟨hm1,by omega,fQ hm1 hx (by omega)⟩,by omega⟩
  obtain rfl:m=f.q[k].s.length:=by omega
  rw[qy] at hwx hx;rw[qy];refine zt<|Z<|C U<|bg U U<|Y<|zh U (fun cz=>?_) (fun cz=>?_)
  ·refine Z<|ah U<|Y<|zf ?_
   repeat (first|refine ad ?_|refine aa ?_)
   refine bt U ?_;exact ⟨_,rfl,fun h=>(by cases h),fun hl=>absurd hl (fun hl=>by have h9:=qV hl hk1;have hwb:wB f.q[k]=f.q[k].name.size+10*(f.q[k].p.length+f.q[k].s.length)+wP f.q[k].p+wX f.q[k].s:=rfl;omega)⟩
  have hwb:wB f.q[k]=f.q[k].name.size+10*(f.q[k].p.length+f.q[k].s.length)+wP f.q[k].p+wX f.q[k].s:=rfl;refine zc<|bQ U U ?_;exact ⟨k+1,cV,⟨rfl,congrArg (AV.int .i64) (by rw[hs];omega),trivial⟩,⟨_,(.drop (.refl _)),rfl⟩,⟨hk1,by omega,by omega,fQ hk1 hb ⟨hsb.1,hsb.2.1,hsb.2.2,hp,hx⟩⟩,by omega⟩
 obtain rfl:k=f.q.length:=by omega
 rw[qy] at hw2 hw3 hb;refine zt<|Z<|ah U<|Y<|zf ?_
 repeat (first|refine ad ?_|refine aa ?_)
 refine bt U ?_;exact ⟨_,rfl,fun _=>⟨hsz.1,hsz.2.1,hsz.2.2,hv,hb,fun hne=>hw2 (List.length_pos_iff.2 hne)⟩,fun _=>rfl⟩
theorem so (f:ab) (hf:xx f) (hn:pq f) (hL:bS E):aS prog E 83 [.agg (bH f)] (.bool (decide (bN f))):=by
 refine zm func83 U (by decide) U<|Z<|zx (cs:=_) U U U<|ah U<|Y<|Z<|ae Z2 jk U U<|zb (tD _ (by assumption) (by assumption) hL) U<|ah U<|Y<|zf ?_
 repeat (first|refine ad ?_|refine aa ?_)
 refine bt U ?_
 rfl
noncomputable def Im (f:ab):Bool:=@decide (ox f) (Classical.propDecidable _)
theorem ng (f:ab):Im f=true↔ox f:=by unfold Im;exact @decide_eq_true_iff _ (Classical.propDecidable _)
theorem F8 (f:ab) (hf:wy f):aS prog E 44 [.agg (bH f)] (.bool (Im f)):=
 (A9 f hf).mono fun x O' ⟨b,e,h⟩=>by
  rw[e]
  congr 1
  rw[w4,h,ng]
theorem vI (f:ab) (hE:cK f) (hf:small f) (hS:bN f):aS prog E 21 [.agg (bH f)] (.bool (qM f&&lu f)):=by
 have hn:=hf.2.2.1;refine zm func21 U (by decide) U<|Z<|zx (cs:=_) U U U<|ah U<|Y<|za<|Z<|ao jf U Zd U U<|aK Zf U<|am jr U<|C U<|Y<|zd<|zu (γ:=Nat) [1,8,9] (fun i=>[(10,.i i)]) (fun i=>[]) (fun i=>i≤f.q.length∧(f.q.take i).all (fun b=>!(b.s.any fun x=>decide (x.op=25)||decide (x.op=26)))=true) (fun i=>f.q.length - i) 0 aN aJ (⟨qw _,U⟩) ?_;rintro i ⟨hi,hall⟩;refine Z<|aq U U<|Y<|za<|zh U (fun ci=>?_) (fun ci=>?_)
 ·have hi2:i<f.q.length:=by simp at ci;omega
  obtain ⟨b,hbi⟩:∃b,f.q[i]=b:=⟨_,rfl⟩;have hget:f.q[i]?=some b:=by rw[qt hi2,hbi]
  have hmem:b∈f.q:=hbi▸qx hi2;obtain ⟨hb0,hb1,hb2,hb3,hb4⟩:=hf.2.2.2.2 b hmem;obtain ⟨hPh,hIn,hTm⟩:=hS.2.2.2.2.2 b hmem;refine zc<|za<|zd<|Z<|X (bD i jr Z1 U U U hget)<|ae Ye Z1 U U<|zp (cs:=[.e,.n,.n,.i 0,.i 0,.i 0,.i 0]) Zh U U<|fun i4=>zi Z1 U U U U U U .head U<|y9 (zz (t:=4) U .head)<|Y<|Z<|ao ji U Zw U U<|aK Y3 U<|am Z4 U<|C U<|Y<|zd<|zu (γ:=Nat) [1,8,9,10,15,16] (fun k=>[(17,.i k)]) (fun k=>[]) (fun k=>k≤b.s.length∧(b.s.take k).all (fun x=>!(decide (x.op=25)||decide (x.op=26)))=true) (fun k=>b.s.length - k) 0 aN aJ (⟨qw _,U⟩) ?_;rintro k ⟨hk,hkall⟩;refine Z<|aq U U<|Y<|za<|zh U (fun ck=>?_) (fun ck=>?_)
  ·have hk2:k<b.s.length:=by simp at ck;omega
   have hI:=(fG (hIn _ (qx hk2))).op;refine zc<|za<|zd<|Z<|X (bD k Z4 Z9 U U U (qt hk2))<|ae Yg Z9 U U<|zp (cs:=[.i 0,.i 0,.n,.i 0]) Zo U U<|fun i6=>zi Z9 U U U U U U .head U<|y9 (zz (t:=6) U .head)<|Y<|Z<|ao jd U Zu U U<|aD Y2 U<|X (q7 U U)<|Y<|zh U (fun cq=>?_) (fun cq=>?_)
   ·have hbad:(b.s.any fun x=>decide (x.op=25)||decide (x.op=26))=true:=List.any_eq_true.2 ⟨_,qx hk2,by simp;omega⟩;refine Z<|ah U<|Y<|zf ?_
    repeat (first|refine ad ?_|refine aa ?_)
    refine bt U ?_;rw[show qM f=false from Bool.eq_false_iff.2 (dW hi2 (by rw[hbi,hbad];rfl))];rfl
   refine zc<|bQ U U ?_;exact ⟨k+1,rX,aN,aJ,⟨hk2,cD hk2 hkall (by simp;omega)⟩,by omega⟩
  have hkn:k=b.s.length:=by simp at ck;omega
  rw[hkn,qy] at hkall;have hgood:(b.s.any fun x=>decide (x.op=25)||decide (x.op=26))=false:=List.any_eq_false.2 fun x hx=>by have:=List.all_eq_true.1 hkall x hx;simpa using this
  refine zt<|bQ U U ?_;exact ⟨i+1,eX,aN,aJ,⟨hi2,cD hi2 hall (by rw[hbi,hgood];rfl)⟩,by omega⟩
 have hin:i=f.q.length:=by simp at ci;omega
 rw[hin,qy] at hall;refine zt<|Z<|ae Z2 jk U U<|zb (ub f hE hf hS) U<|ah U<|Y<|zf ?_
 repeat (first|refine ad ?_|refine aa ?_)
 refine bt U ?_;rw[show qM f=true from hall];rfl
theorem uv (f:ab) (hf:small f) (hL:bS E):aS prog E 45 [.agg (bH f)] (.bool (bv f)):=by
 have hs:=so (E:=E) f hf.ok hf.names hL;refine zm func45 U (by decide) U<|Z<|zx (cs:=_) U U U<|ah U<|Y<|Z<|ae Z2 jk U U<|zb (hs) U ?_
 by_cases g4:bN f
 ·refine aw U<|M U U (wa g4)<|ae Z2 jk U U<|M U U (wa g4)<|zb (vD f hf g4) U<|X (G4 U (wa g4) U)<|ah U<|Y<|zf ?_
  repeat (first|refine ad ?_|refine aa ?_)
  refine bt U ?_;exact jb (by unfold bv;rw[ij,wa g4];rfl)
 refine aw U<|H U U (wb g4)<|H U U (wb g4)<|X (GT U (wb g4) U)<|ah U<|Y<|zf ?_
 repeat (first|refine ad ?_|refine aa ?_)
 refine bt U ?_;exact jb (by unfold bv;rw[ij,wb g4];rfl)
theorem vJ (f:ab) (hw:wy f) (hL:bS E):aS prog E 20 [.agg (bH f)] (.bool (Im f&&bv f)):=by
 refine zm func20 U (by decide) U<|Z<|zx (cs:=_) U U U<|ah U<|Y<|Z<|ae Z2 jk U U<|zb (F8 f hw) U<|aw U<|zo (s:=5) U (fun g=>?_) (fun g=>?_)
 ·refine M U U g<|ae Z2 jk U U<|M U U g<|zb (uv f ((ng f).1 g).small hL) U<|aA U g U<|ah U<|Y<|zf ?_
  repeat (first|refine ad ?_|refine aa ?_)
  refine bt U ?_;exact jb (by rw[g];rfl)
 refine H U U g<|H U U g<|ay U g U<|ah U<|Y<|zf ?_
 repeat (first|refine ad ?_|refine aa ?_)
 refine bt U ?_;exact jb (by rw[g];rfl)
noncomputable def iP (f:ab):Bool:=Im f&&bv f&&(eC f&&qM f)
theorem uw {a b:Bool} (h:(a&&b)=true):a=true∧b=true:=by simpa using h
theorem Ba {f:ab} (h:bv f=true):lu f=eC f:=
 HY (d5 h) fun b hb p hp c hc=>by
  have h1:=((d6 h).2.2.2.2.2 b hb).1 p hp;have h2:=List.all_eq_true.1 h1.2.2.2.2 c hc
  simpa [eQ] using h2
theorem vK (f:ab) (hw:wy f) (hL:bS E):aS prog E 7 [.agg (bH f)] (.bool (iP f)):=by
 refine zm func7 U (by decide) U<|Z<|zx (cs:=_) U U U<|ah U<|Y<|Z<|ae Z2 jk U U<|zb (vJ f hw hL) U<|aw U<|zo (s:=5) U (fun g=>?_) (fun g=>?_)
 ·refine M U U g<|ae Z2 jk U U<|M U U g<|zb (vI f (d5 (uw g).2) ((ng f).1 (uw g).1).small (d6 (uw g).2)) U<|aA U g U<|ah U<|Y<|zf ?_
  repeat (first|refine ad ?_|refine aa ?_)
  refine bt U ?_;exact jb (by unfold iP;rw[g,Ba (uw g).2,Bool.and_comm];rfl)
 refine H U U g<|H U U g<|ay U g U<|ah U<|Y<|zf ?_
 repeat (first|refine ad ?_|refine aa ?_)
 refine bt U ?_;exact jb (by unfold iP;rw[g];rfl)
end
section
open Go.Proofs.Tryz
open Go.Proofs Go.Lib Go.Shelf Go.RowKit
theorem Mb:eS prog 111 #[(0,3),(3,1),(4,1),(5,1)] [.n,.n,.n,.n,.n,.n]:=⟨_,_,Zq,zeroValue111,fun w=>by kernel_rfl,rfl⟩
variable {E:World}
set_option maxRecDepth 20000
theorem vL (op:Int):aS prog E 77 [.i op] (.i (l8 op)):=by
 refine zm func77 U (by decide) U<|Z<|ap U<|Y<|za<|Z<|C U<|Y<|zd<|za<|Z<|au U U<|ah U<|Y<|y3 (γ:=Bool) [0] (fun u=>[(4,.bool u)]) (fun u=>[]) (fun u=>u=decide (op=2∨op=3∨op=4)) ?_ (fun _ _ h=>h) ?_
 ·refine zq U (fun c1=>?_) (fun c1=>?_)
  ·refine zc ?_;exact ⟨_,aN,aN,aJ,by simp_all⟩
  refine Z<|au U U<|ah U<|Y<|zq U (fun c2=>?_) (fun c2=>?_)
  ·refine zc ?_;exact ⟨_,aN,aN,aJ,by simp_all⟩
  refine bZ<|au U U<|ah U<|Y ?_;exact ⟨_,aN,aN,aJ,by simp_all⟩
 rintro u hu;subst hu;refine zh U (fun c=>?_) (fun c=>?_)
 ·refine Z<|C U<|X (Gv.addW U U)<|X (Gv.subW U U)<|ap U<|Y<|zf ?_
  repeat (first|refine ad ?_|refine aa ?_)
  refine gu U ?_;rw[l8,if_pos c,gj (z:=21+op) (by unfold aY;omega),gj (by unfold aY;omega)];congr 1;omega
 refine zc<|Z<|ap U<|Y<|zf ?_
 repeat (first|refine ad ?_|refine aa ?_)
 refine gu U ?_;rw[l8,if_neg c]
def Io (f:ab) (es:List (Int × List lk)):Prop:=∀q,mg q es=qU f f.q.length q
set_option maxHeartbeats 4000000 in
theorem Bb (f:ab) (hf:small f):aX prog E 76 [.agg (bH f)] [] fun x O=>∃g:Nat × List (Int × List lk),x=lh g.1∧O=[(0,rI eP g.1 g.2)]∧Io f g.2:=by
 have hn:=hf.2.2.1;have hpl:∀q k,k≤f.q.length→(qU f k q).length≤k*1000:=fun q k hk=>ut (fun b hb=>(hf.2.2.2.2 b hb).2.2.1) k hk;refine aX.exact (γ:=Nat × List (Int × List lk)) (x:=fun g=>lh g.1) (Mq0:=fun g=>[(0,rI eP g.1 g.2)]) (p:=fun g=>Io f g.2)<|zm func76 U (by decide) U<|Z<|zx (cs:=_) U U U<|X (kT U)<|Y<|Z<|ax.makeMapN eP 114<|fun b8=>X (q9 (v:=lh _) U)<|Y<|za<|Z<|ao jf U Zd U U<|aK Zf U<|am jr U<|C U<|Y<|zd<|zu (γ:=Nat × List (Int × List lk)) [3,10,11] (fun g=>[(12,.i g.1)]) (fun g=>[(0,m5 eP 114 b8 g.2)]) (fun g=>g.1≤f.q.length∧∀q,mg q g.2=qU f g.1 q) (fun g=>f.q.length - g.1) (0,[]) aN aJ (⟨qw _,fun q=>U⟩) ?_;rintro ⟨i,es⟩ ⟨hi,hes⟩;try dsimp only at *
 refine Z<|aq U U<|Y<|za<|zh U (fun ci=>?_) (fun ci=>?_)
 ·have hi2:i<f.q.length:=by simp at ci;omega
  obtain ⟨b,hbi⟩:∃b,f.q[i]=b:=⟨_,rfl⟩;have hget:f.q[i]?=some b:=by rw[qt hi2,hbi]
  obtain ⟨hb0,hb1,hb2,hb3,hb4⟩:=hf.2.2.2.2 b (hbi▸qx hi2);refine zc<|za<|zd<|Z<|C U<|X (bD i jr Z1 U U U hget)<|ae Ye Z1 U U<|zp (cs:=[.e,.n,.n,.int .i64 0,.int .i64 0,.int .i64 0,.int .i64 0]) Zh U U<|fun i5=>ap U<|zi Z1 U U U U U U .head U<|y9 (zz (t:=5) U .head)<|Y<|Z<|ao ji U Zw U U<|aK Y3 U<|am Z4 U<|C U<|Y<|zd<|zu (γ:=Nat × List (Int × List lk)) [3,4,10,11,12,18,19] (fun g=>[(20,.i g.1)]) (fun g=>[(0,m5 eP 114 b8 g.2)]) (fun g=>g.1≤b.s.length∧∀q,mg q g.2=qU f i q++ur q i (b.s.take g.1)) (fun g=>b.s.length - g.1) (0,es) aN aJ (⟨qw _,fun q=>by rw[hes q];unfold ur;split<;>simp⟩) ?_;rintro ⟨j,es⟩ ⟨hj,hes⟩;try dsimp only at *
  refine Z<|aq U U<|Y<|za<|zh U (fun cj=>?_) (fun cj=>?_)
  ·have hj2:j<b.s.length:=by simp at cj;omega
   obtain ⟨z,hz⟩:∃z,b.s[j]=z:=⟨_,rfl⟩;have hstep:∀q,qU f i q++ur q i (b.s.take (j+1))=mg q es++if kj q∧z.op=q then[((i:Int),(j:Int))] else[]:=fun q=>by rw[F7 q i hj2,hz,←qv,←hes q]
   have hlen:∀q,(mg q es).length≤2000000:=fun q=>by
    have h1:=hpl q i hi;have h2:=A7 q i (b.s.take j);rw[w9] at h2;rw[hes q,qz];omega
   refine zc<|za<|zd<|Z<|C U<|X (bD j Z4 Z9 U U U (by rw[qt hj2,hz])) ?_;refine ae Yg Z9 U U<|zp (cs:=[.i 0,.i 0,.n,.i 0]) Zo U U<|fun i7=>ap U<|zi Z9 U U U U U U .head U<|y9 (zz (t:=7) U .head)<|Y<|za<|y3 (γ:=Bool) [3,4,6,7,10,11,12,18,19,20] (fun u=>[(32,.bool u)]) (fun u=>[(0,m5 eP 114 b8 es)]) (fun u=>u=decide (kj z.op)) ?_ (fun _ _ h=>h) ?_
   ·refine bZ<|ao jd U Zu U U<|aD Y2 U<|X (q7 U U)<|aw U<|zo (s:=28) U (fun c1=>?_) (fun c1=>?_)
    ·refine M U U c1<|ao jd U Zu U U<|M U U c1<|aD Y2 U<|M U U c1<|X (Gv.leq U U)<|aA U c1 U<|Y ?_;exact ⟨_,jX,aN,aJ,decide_eq_decide.2 (by unfold kj;have:=wg c1;omega)⟩
    refine H U U c1<|H U U c1<|H U U c1<|ay U c1 U<|Y ?_;exact ⟨_,jX,aN,aJ,(wb (by unfold kj;have:=wh c1;omega)).symm⟩
   rintro u hu;subst hu;refine zh U (fun cc=>?_) (fun cc=>?_)
   ·have hlz:=hlen z.op;refine y3 (γ:=Unit) [3,4,10,11,12,18,19,20] (fun u=>[]) (fun u=>[(0,m5 eP 114 b8 (ms z.op (mg z.op es++[((i:Int),(j:Int))]) es))]) (fun u=>True) ?_ (fun _ _ h=>h) ?_
    ·refine zn (fun j=>false) (by kernel_rfl) U (zk (.rest _))<|D 0 U (yn (v:=lh _) U)<|D 1 U (dk jd U Zu U U)<|D 2 U (d9 Y2 U)<|D 3 U (yn (v:=lh _) U)<|D 4 U (dk jd U Zu U U)<|D 5 U (d9 Y2 U)<|D 7 U (dC U)<|D 8 U (dC U)<|D 9 U (y5 (cps:=[(0,[_]),(1,[_])]) (rs:=[_,_]) Eo U U U)<|yq (i:=6) (j:=10) U U (by kernel_rfl) ?_ ?_
     ·refine ax.mapTake underlying147 Xj zeroValue109 U U .head<|fun i39=>Y<|bp 10 U<|zw (rows:=[[_,_]]) kK U U U U U<|Y<|bp 11 U<|yb (k:=2) Zm type114 U U U U U (fun _=>.head) (by rw[eP.av_len];rfl) (by decide) U (by show (_+1)*16≤_;omega) (by show _+1≤_;omega)<|fun i44=>Y<|bp 12 U<|ax.mapPut (r:=mg z.op es++[((i:Int),(j:Int))]) underlying147 Xj U U U .head .head U (eP.av_push (mg z.op es) ((i:Int),(j:Int))) (by rw[qz];rfl)<|Y<|dS ?_;exact ⟨(),rY,trivial,aJ,trivial⟩
     refine zw (rows:=[[_,_]]) kK U U U U U<|Y<|bp 6 U<|ax.mapTake underlying147 Xj zeroValue109 U U .head<|fun i39=>Y<|bp 11 U<|yb (k:=2) Zm type114 U U U U U (fun _=>.head) (by rw[eP.av_len];rfl) (by decide) U (by show (_+1)*16≤_;omega) (by show _+1≤_;omega)<|fun i44=>Y<|bp 12 U<|ax.mapPut (r:=mg z.op es++[((i:Int),(j:Int))]) underlying147 Xj U U U .head .head U (eP.av_push (mg z.op es) ((i:Int),(j:Int))) (by rw[qz];rfl)<|Y<|dS ?_;exact ⟨(),rY,trivial,aJ,trivial⟩
    rintro _ _;refine bQ U U ?_;exact ⟨(j+1,ms z.op (mg z.op es++[((i:Int),(j:Int))]) es),lI,aN,aJ,⟨hj2,fun q=>by rw[hstep,L6];by_cases e:q=z.op;rw[if_pos e,if_pos ⟨e▸cc,e.symm⟩,e];rw[if_neg e,if_neg (fun h:kj q∧z.op=q=>e h.2.symm),w8]⟩,by dsimp only;omega⟩
   refine zc<|bQ U U ?_;exact ⟨(j+1,es),lI,aN,aJ,⟨hj2,fun q=>by rw[hstep,if_neg (fun h:kj q∧z.op=q=>cc (h.2▸h.1)),w8]⟩,by dsimp only;omega⟩
  have hjn:j=b.s.length:=by simp at cj;omega
  subst hjn;refine zt<|bQ U U ?_;exact ⟨(i+1,es),eX,aN,aJ,⟨hi2,fun q=>by rw[hes q,qy,wS q hi2,hbi]⟩,by dsimp only;omega⟩
 have hin:i=f.q.length:=by simp at ci;omega
 subst hin;refine zt<|yd (aR.mapKnow .head)<|Z<|X (yn (v:=lh _) U)<|X (q9 (v:=lh _) U)<|Y<|zf<|yz (x:=lh _) U ?_;exact ⟨(b8,es),rfl,⟨_,.refl _,rfl⟩,hes⟩
def Ol (f:ab) (x:AV) (O:OL):Prop:=∃iv:Nat,x=.tup [.po iv 0,.i 0]∧O=[(iv,.cells 111 (A6 f (k4 f) .n))]
set_option maxHeartbeats 8000000 in
theorem K5 (f:ab) (hf:small f) (hL:bS E) (h:(bv f&&eC f)=true):aX prog E 40 [.agg (bH f)] [] (Ol f):=by
 have hn:=hf.2.2.1;have hvn:=hf.1;have hR:=tY (E:=E) f hf hL;rw[h] at hR;have ht:=(uw h).1;have hs:=(uw h).2;have hE:=d5 ht;have hS:=d6 ht;have honce:mV f:=(qK f).1 (by unfold eC at hs;simp only[wc] at hs;exact hs.2.2.1);refine aX.exact (γ:=Nat) (x:=fun iv=>.tup [.po iv 0,.i 0]) (Mq0:=fun iv=>[(iv,.cells 111 (A6 f (k4 f) .n))]) (p:=fun _=>True) ?_ |>.mono fun x O ⟨iv,h1,h2,_⟩=>⟨iv,h1,h2⟩
 refine zm func40 U (by decide) U<|Z<|zx (cs:=_) U U U<|X (kT U)<|ap U<|Y<|za<|Z<|ae Z2 jk U U<|zb (hR) U<|ap U<|Y<|Z<|C U<|aT U U<|Y<|yl U U<|zc<|Z<|ae Z2 jk U U<|zb (AG f hf hL ht) U<|X (v8 U)<|X (Gv.extract (v:=.pf _) U U)<|X (nU U U)<|X (q9 (v:=.pf _) U)<|ap U<|Y<|za<|Z<|C U<|aT U U<|Y<|yl U U<|zc<|za<|y3 (γ:=Nat × Nat) [1,5] (fun z=>[(7,.po z.1 0)]) (fun z=>[(z.1,.cells 111 (bH f++[.fro 2 ((dG f).map eP.row),.j z.2 f.v.length,.n])),(z.2,.u 1 4 (cB (List.replicate f.v.length false)))]) (fun z=>True) ?_ (fun _ _ h=>h) ?_
 ·refine zn (fun j=>false) (by kernel_rfl) U (zk (.rest _))<|D 0 U (yj Z2 jk U U)<|D 1 U (yj Z2 jk U U)<|D 3 U (dk jf U Zs U U)<|D 4 U (gJ Y4 U)<|D 5 U (Gv.lenM Z7 U)<|yq (i:=2) (j:=6) U U (by kernel_rfl) ?_ ?_
  ·refine zb (m3 f hf hL ht) U<|Y<|bp 6 U<|qk (m:=f.v.length) ju Yr U U U U U (by simp) (by simp) (by show (1:Int)*_≤_;omega) (by omega)<|fun i35=>Y<|D 7 U (y5 (cps:=[(0,[_,_,_]),(1,[_]),(2,[_])]) (rs:=[_,_,_,_,_,.n]) Mb U U U)<|bp 8 U<|qi (cs:=_) U U U U<|fun i37=>Y<|D 9 U (xw U)<|dS ?_;exact ⟨(i37,i35),cV,aN,aJ,trivial⟩
  refine qk (m:=f.v.length) ju Yr U U U U U (by simp) (by simp) (by show (1:Int)*_≤_;omega) (by omega)<|fun i35=>Y<|bp 2 U<|zb (m3 f hf hL ht) U<|Y<|D 7 U (y5 (cps:=[(0,[_,_,_]),(1,[_]),(2,[_])]) (rs:=[_,_,_,_,_,.n]) Mb U U U)<|bp 8 U<|qi (cs:=_) U U U U<|fun i37=>Y<|D 9 U (xw U)<|dS ?_;exact ⟨(i37,i35),cV,aN,aJ,trivial⟩
 rintro ⟨iv,ck⟩ _;refine Z<|ae Z2 jk U U<|zy U (zk (.r (.r (.rest _)))) (Bb f hf) ?_;rintro r39 O39 ⟨⟨mb,es⟩,rfl,rfl,hes⟩;refine X (q9 (v:=lh _) U)<|Y<|za<|Z<|ao jf U Zd U U<|aK Zf U<|am jr U<|C U<|Y<|gd .t2<|gd .t2<|zd<|zu (γ:=Nat × List Bool) [1,5,7,8,41,42] (fun g=>[(43,.i g.1)]) (fun g=>[(iv,.cells 111 (bH f++[.fro 2 ((dG f).map eP.row),.j ck f.v.length,.n])),(ck,.u 1 4 (cB g.2)),(0,rI eP mb es)]) (fun g=>g.1≤f.q.length∧g.2.length=f.v.length∧∀v:Nat,v<f.v.length→(gb g.2 v=true↔mG f g.1 0 v)) (fun g=>f.q.length - g.1) (0,List.replicate f.v.length false) aN aJ (⟨qw _,by simp,fun v hv=>by rw[oG,List.getElem?_replicate,if_pos hv];simpa using mG.zero f v⟩) ?_;rintro ⟨i,L⟩ ⟨hi,hLl,hLd⟩;try dsimp only at *
 refine Z<|aq U U<|Y<|za<|zh U (fun ci=>?_) (fun ci=>?_)
 ·have hi2:i<f.q.length:=by simp at ci;omega
  obtain ⟨b,hbi⟩:∃b,f.q[i]=b:=⟨_,rfl⟩;have hget:f.q[i]?=some b:=by rw[qt hi2,hbi]
  have hmem:b∈f.q:=hbi▸qx hi2;obtain ⟨hb0,hb1,hb2,hb3,hb4⟩:=hf.2.2.2.2 b hmem;obtain ⟨hPh,hIn,hTm⟩:=hS.2.2.2.2.2 b hmem;refine zc<|za<|zd<|Z<|C U<|X (bD i jr Z1 U U U hget)<|ae Ye Z1 U U<|zp (cs:=[.e,.n,.n,.i 0,.i 0,.i 0,.i 0]) Zh U U<|fun i10=>ap U<|zi Z1 U U U U U U .head U<|y9 (zz (t:=10) U .head)<|Y<|Z<|ao ji U Zw U U<|aK Y3 U<|am Z4 U<|C U<|Y<|zd<|zu (γ:=Nat × List Bool) [1,5,7,8,9,41,42,43,49,50] (fun g=>[(51,.i g.1)]) (fun g=>[(iv,.cells 111 (bH f++[.fro 2 ((dG f).map eP.row),.j ck f.v.length,.n])),(ck,.u 1 4 (cB g.2)),(0,rI eP mb es)]) (fun g=>g.1≤b.s.length∧g.2.length=f.v.length∧∀v:Nat,v<f.v.length→(gb g.2 v=true↔mG f i g.1 v)) (fun g=>b.s.length - g.1) (0,L) aN aJ (⟨qw _,hLl,hLd⟩) ?_;rintro ⟨j,L⟩ ⟨hj,hLl,hLd⟩;try dsimp only at *
  refine Z<|aq U U<|Y<|za<|zh U (fun cj=>?_) (fun cj=>?_)
  ·have hj2:j<b.s.length:=by simp at cj;omega
   obtain ⟨z,hz⟩:∃z,b.s[j]=z:=⟨_,rfl⟩;have hzg:b.s[j]?=some z:=by rw[qt hj2,hz]
   have hzm:z∈b.s:=hz▸qx hj2;have hI:=fG (hIn z hzm);have hzl:=hb4 z hzm;have hstep:=fun v:Int=>mG.step (f:=f) hget hzg v;have hmq:=hes (l8 z.op);obtain ⟨ps,hps⟩:∃ps,mg (l8 z.op) es=ps:=⟨_,rfl⟩;have hpl:ps.length≤2000000:=by
    have:=ut (f:=f) (q:=l8 z.op) (fun b hb=>(hf.2.2.2.2 b hb).2.2.1) f.q.length (Nat.le_refl _);rw[←hps,hmq];omega
   have hcx:vG f z i j=true↔∃m∈ps,x8 f z i j m=true:=by rw[Il,←hps,hmq]
   have hpm:∀m∈ps,∃(i' k':Nat) (b':aF) (c:aB),f.q[i']?=some b'∧b'.s[k']?=some c∧m=((i':Int),(k':Int))∧0≤z.dst∧z.dst.toNat<f.v.length:=fun m hm=>by
    rw[←hps,hmq] at hm;obtain ⟨hq,i',k',b',c,g1,g2,g3,g4⟩:=pD.1 hm;have hso:z.op=2∨z.op=3∨z.op=4:=Classical.byContradiction fun hno=>by
     unfold l8 at hq;rw[if_neg hno] at hq;unfold kj at hq;omega
    rcases hI.dst with ⟨d1,_⟩|⟨_,_,d3⟩
    ·rw[Df hso] at d1;cases d1
    have:=iO d3;exact ⟨i',k',b',c,g1,g2,g4,this.1,by omega⟩
   refine zc<|za<|zd<|Z<|C U<|X (bD j Z4 Z9 U U U hzg)<|ae Yg Z9 U U<|zp (cs:=[.int .i64 0,.int .i64 0,.n,.int .i64 0]) Zo U U<|fun i12=>ap U<|zi Z9 U U U U U U .head U<|y9 (zz (t:=12) U .head)<|Y<|Z<|X (yn (v:=lh _) U)<|ao jd U Zu U U<|aD Y2 U<|zb (vL z.op) U<|X (Gv.lookupF underlying147 Xj zeroValue109 U U ⟨_,.t2⟩)<|am Zm U<|C U<|Y ?_;rw[hps];refine zd<|zu (γ:=Nat × List Bool) [1,5,7,8,9,11,12,41,42,43,49,50,51,60,61] (fun g=>[(62,.i g.1)]) (fun g=>[(iv,.cells 111 (bH f++[.fro 2 ((dG f).map eP.row),.j ck f.v.length,.n])),(ck,.u 1 4 (cB g.2)),(0,rI eP mb es)]) (fun g=>g.1≤ps.length∧g.2.length=f.v.length∧∀v:Nat,v<f.v.length→(gb g.2 v=true↔mG f i j v∨((v:Int)=z.dst∧∃m∈ps.take g.1,x8 f z i j m=true))) (fun g=>ps.length - g.1) (0,L) aN aJ (⟨qw _,hLl,fun v hv=>by rw[hLd v hv];simp⟩) ?_;rintro ⟨q,L⟩ ⟨hq,hLl,hLd⟩;try dsimp only at *
   refine Z<|aq U U<|Y<|za<|zh U (fun cq=>?_) (fun cq=>?_)
   ·have hq2:q<ps.length:=by simp at cq;omega
    obtain ⟨m,hm⟩:∃m,ps[q]=m:=⟨_,rfl⟩;obtain ⟨i',k',b',c,g1,g2,rfl,hz0,hz1⟩:=hpm m (hm▸qx hq2);have hcl:=(hf.2.2.2.2 b' (w5 g1)).2.2.2.2 c (w5 g2);have htk:∀P:lk→Prop,(∃m∈ps.take (q+1),P m)↔(∃m∈ps.take q,P m)∨P ((i':Int),(k':Int)):=fun P=>by
     rw[qu hq2,hm];simp only[List.mem_append,List.mem_singleton]
     constructor
     ·rintro ⟨m,h|rfl,hp⟩
      ·exact .inl ⟨m,h,hp⟩
      exact .inr hp
     rintro (⟨m,h,hp⟩|hp)
     ·exact ⟨m,.inl h,hp⟩
     exact ⟨_,.inr rfl,hp⟩
    have hhit:x8 f z i j ((i':Int),(k':Int))=(decide (c.args=z.args)&&eW f ((i':Int),(k':Int)) i j):=by unfold x8;rw[oM g1 g2];rfl
    refine zc<|za<|zd<|Z<|X (bD q Zm Ya U U U (by rw[qt hq2,hm])) ?_
    refine ae isAgg114 Ya U U<|zp (cs:=[.int .i64 0,.int .i64 0]) zeroValue114 U U<|fun i14=>zi Ya U U U U U U .head U<|y9 (zz (t:=14) U .head)<|Y<|za<|zn (fun j=>false) (by kernel_rfl) U (zk (.rest _))<|D 0 U (dk jf U Zd U U)<|D 1 U (gJ Zf U)<|D 2 U (dk Y9 U j9 U U)<|D 3 U (d9 jg U)<|D 4 U (bD (i') jr Z1 U U U g1)<|D 5 U (dk ji U Zw U U)<|D 6 U (gJ Y3 U)<|D 7 U (dk Y9 U j9 U U)<|D 8 U (d9 jg U)<|D 9 U (bD (k') Z4 Z9 U U U g2)<|D 10 U (yj Yg Z9 U U)<|bp 11 U<|zp (cs:=[.int .i64 0,.int .i64 0,.n,.int .i64 0]) Zo U U<|fun i15=>Y<|bp 12 U<|zi Z9 U U U U U U .head U<|Y<|dS<|yd (zz (t:=15) U .head)<|za<|y3 (γ:=Bool) [1,5,7,8,9,11,12,41,42,43,49,50,51,60,61,62] (fun u=>[(88,.bool u)]) (fun u=>[(iv,.cells 111 (bH f++[.fro 2 ((dG f).map eP.row),.j ck f.v.length,.n])),(ck,.u 1 4 (cB L)),(0,rI eP mb es)]) (fun u=>u=x8 f z i j ((i':Int),(k':Int))) ?_ (fun _ _ h=>h) ?_
    ·refine bZ<|ao jd U jh U U<|aK jy U<|ao jd U jh U U<|aK jy U<|zb (rv c.args z.args (by unfold s7;omega)) U<|aw U<|zo (s:=82) U (fun c1=>?_) (fun c1=>?_)
     ·refine M U U c1<|X (nT U)<|M U U c1<|ae isAgg114 Ya U U<|M U U c1<|C U<|M U U c1<|C U<|M U U c1<|zb (lZ f hE hn ((i':Int),(k':Int)) i j (sd eI (En f)) .any) U<|aA U c1 U<|Y ?_;exact ⟨_,⟨rfl,rfl,rfl,rfl,rfl,rfl,rfl,rfl,rfl,rfl,rfl,rfl,rfl,rfl,rfl,rfl,trivial⟩,aN,aJ,by rw[hhit,show decide (c.args=z.args)=true from c1];rfl⟩
     refine H U U c1<|H U U c1<|H U U c1<|H U U c1<|H U U c1<|ay U c1 U<|Y ?_;exact ⟨_,⟨rfl,rfl,rfl,rfl,rfl,rfl,rfl,rfl,rfl,rfl,rfl,rfl,rfl,rfl,rfl,rfl,trivial⟩,aN,aJ,by rw[hhit,show decide (c.args=z.args)=false from c1];rfl⟩
    rintro u hu;subst hu;refine zq U (fun ch=>?_) (fun ch=>?_)
    ·refine zn (fun j=>Nat.beq j 7) (by kernel_rfl) U (zk (.r (.r (.rest _))))<|D 0 U (dZ U)<|D 1 U (zr U)<|D 2 U (ze Zq U Yi (by decide) U U)<|D 3 U (zj (c:=.j _ _) Yu U ⟨_,.head⟩ U)<|D 4 U (dk jd U j9 U U)<|D 5 U (d9 jg U)<|D 6 U (y7 (j:=z.dst.toNat) ju Zc U U (by omega) ⟨_,.t1⟩ (by rw[aP];exact hLl) hz1)<|y4<|yg (i:=7) U (by kernel_rfl) (by kernel_rfl)<|yy (j:=z.dst.toNat) Zc U U .t1 (by omega)<|Y<|y8 (by kernel_rfl)<|bQ U U ?_;exact ⟨(q+1,L.set z.dst.toNat true),⟨rfl,rfl,rfl,rfl,rfl,rfl,rfl,rfl,rfl,rfl,rfl,rfl,rfl,rfl,rfl,trivial⟩,aN,aJ,⟨hq2,by rw[List.length_set];exact hLl,fun v hv=>by rw[K1 (by omega),hLd v hv,htk,ch];constructor;(rintro (h|h|h);exact .inr ⟨by omega,.inr rfl⟩;exact .inl h;exact .inr ⟨h.1,.inl h.2⟩);(rintro (h|⟨h1,h2⟩);exact .inr (.inl h);exact .inl (by omega))⟩,by dsimp only;omega⟩
    refine zc<|bQ U U ?_;exact ⟨(q+1,L),⟨rfl,rfl,rfl,rfl,rfl,rfl,rfl,rfl,rfl,rfl,rfl,rfl,rfl,rfl,rfl,trivial⟩,aN,aJ,⟨hq2,hLl,fun v hv=>by rw[hLd v hv,htk];simp[show x8 f z i j ((i':Int),(k':Int))=false from ch]⟩,by dsimp only;omega⟩
   have hqn:q=ps.length:=by simp at cq;omega
   subst hqn;refine zt<|bQ U U ?_;exact ⟨(j+1,L),jX,aN,aJ,⟨hj2,hLl,fun v hv=>by rw[hLd v hv,qy,hstep,hcx]⟩,by dsimp only;omega⟩
  have hjn:j=b.s.length:=by simp at cj;omega
  subst hjn;refine zt<|bQ U U ?_;exact ⟨(i+1,L),rX,aN,aJ,⟨hi2,hLl,fun v hv=>by rw[hLd v hv,mG.next hget]⟩,by dsimp only;omega⟩
 have hin:i=f.q.length:=by simp at ci;omega
 subst hin;have hLe:=K0 honce hLl hLd;subst hLe;refine zt<|yd (aR.knowBC (off:=4) .t1 .head U (uu f))<|Z<|bf U<|X (xw U)<|ap U<|Y<|zf<|ql (x:=.po _ _) (y:=.int _ _) U U ?_;exact ⟨iv,rfl,⟨_,.keep (.drop (.refl _)),rfl⟩,trivial⟩
end
section
open Go.Proofs.Tryz
open Go.Proofs Go.Lib Go.Shelf Go.RowKit
variable {E:World}
set_option maxRecDepth 20000
theorem Bc:aW 10=[1]:=by decide
theorem Bd:aW 11=[1,1]:=by decide
theorem Dh {f:ab} (h:bv f=true):∀b∈f.q,∀x∈b.s,x.op=10∨x.op=11→∀v∈x.args,Cp f v=1:=by
 intro b hb x hx hop v hv;unfold bv at h;rw[wc] at h;have h1:=List.all_eq_true.1 h.2 b hb;unfold gX at h1;simp only[wc] at h1;have h2:=List.all_eq_true.1 h1.1.2 x hx;unfold fl at h2;rw[if_neg (by omega)] at h2;rw[wc,wi] at h2;have h3:aM f v∈aW x.op:=by rw[←h2.1];exact List.mem_map_of_mem hv
 show aM f v=1;rcases hop with e|e<;>rw[e] at h3
 ·rw[Bc] at h3;simpa using h3
 rw[Bd] at h3;simpa using h3
theorem F9 {f:ab} (h:eC f=true):mV f:=(qK f).1 (by unfold eC at h;simp only[wc] at h;exact h.2.2.1)
theorem ux {f:ab} (hf:small f) (h:(bv f&&eC f)=true):mx f:=⟨hf,d6 (uw h).1,F9 (uw h).2,Dh (uw h).1⟩
theorem Ip {f:ab} (hS:bN f) {l:List aO} {v:Nat} (hv:v<f.v.length) (hm:0≤(aE f v).1) (ho:mV f):ly f (gb (k4 f)) l v=ly f (pB f) l v:=by
 obtain ⟨i,b,h1,⟨p,h2,h3,h4⟩|⟨k,x,h2,h3,h4⟩⟩:=iN hm
 ·rw[pC (ho v hv).1 h1 h2 h3 h4,pC (ho v hv).1 h1 h2 h3 h4]
 rw[nI h1 h2 h4,nI h1 h2 h4];unfold pA;rw[h3,KZ (by omega) (by omega)]
theorem EC {p:Prop} [Decidable p] (h:(!decide p)=true):¬p:=fun hp=>by rw[wa hp] at h;cases h
theorem ED {p:Prop} [Decidable p] (h:(!decide p)=false):p:=Classical.byContradiction fun hp=>by rw[wb hp] at h;cases h
def uy (f:ab) (v:Int):aO:=if bv f=true∧0≤v∧v<f.v.length then iX f v else fD
theorem Be (f:ab) (hf:small f) (hL:bS E) (v:Int):aS prog E 37 [.agg (bH f),.i v] (.agg (bM (uy f v))):=by
 have hvn:=hf.1;have hp:=hf.2.1;have hT:=oA (E:=E) f hf hL;refine zm func37 U (by decide) U<|Z<|zx (cs:=_) U U U<|zp (cs:=[.i 0,.i 0]) Za U U<|fun i4=>Y<|za<|zd<|za<|y3 (γ:=Bool) [1,2,4] (fun u=>[(5,.bool u)]) (fun u=>[(i4,.cells 63 [.i 0,.i 0])]) (fun u=>u=!decide (bv f=true∧0≤v∧v<f.v.length)) ?_ (fun _ _ h=>h) ?_
 ·refine bZ<|ae Z2 jk U U<|zb (hT) U<|aT U U<|aw U<|zo (s:=9) U (fun c1=>?_) (fun c1=>?_)
  ·refine H U U c1<|H U U c1<|aA U c1 U<|aw U<|H U U U<|H U U U<|H U U U<|H U U U<|H U U U<|aA U U U<|ah U<|Y ?_;exact ⟨_,eX,aN,aJ,by have h:bv f=false:=(by cases ht:bv f;rfl;rw[ht] at c1;simp at c1);simp[h]⟩
  have h1:bv f=true:=by cases ht:bv f;rw[ht] at c1;simp at c1;rfl
  refine M U U c1<|C U<|M U U c1<|aq U U<|ay U c1 U<|aw U<|zo (s:=13) U (fun c2=>?_) (fun c2=>?_)
  ·refine H U U c2<|H U U c2<|H U U c2<|H U U c2<|H U U c2<|aA U c2 U<|ah U<|Y ?_;exact ⟨_,eX,aN,aJ,by have h:v<0:=(by simpa using c2);simp;omega⟩
  refine M U U c2<|C U<|M U U c2<|ao jf U Zs U U<|M U U c2<|aK Y4 U<|M U U c2<|am Z7 U<|M U U c2<|X (q7 U U)<|ay U c2 U<|ah U<|Y ?_;exact ⟨_,eX,aN,aJ,by have h:¬v<0:=(by simpa using c2);rw[w4];simp[h1];omega⟩
 rintro u hu;subst hu;refine zq U (fun c=>?_) (fun c=>?_)
 ·refine Z<|zb (jA) U<|zi j8 U U U U U U .head U<|Y<|zf<|yi U ⟨_,.head⟩ jw j8 U ?_;rw[uy,if_neg (EC c)];try rfl
 have hc:bv f=true∧0≤v∧v<f.v.length:=ED c;rw[uy,if_pos hc,iX];have hvl:v.toNat<f.v.length:=by omega
 have hty:Cp f v=f.v[v.toNat].ty:=by unfold Cp;rw[qt hvl];rfl
 refine Z<|C U<|ao jf U jh U U<|aK jy U<|am j7 U<|aq U U<|ah U<|Y<|zh U (fun c2=>?_) (fun c2=>?_)
 ·refine Z<|ao jf U Zs U U<|aK Y4 U<|C U<|X (bD v.toNat Z7 Yc U U (by omega) (qt hvl))<|ao Zr U X5 U U<|aD Xh U<|zb (D3 _) U<|zi j8 U U U U U U .head U<|Y<|zf<|yi U ⟨_,.head⟩ jw j8 U ?_;rw[if_pos c2,hty];try rfl
 refine zc<|Z<|zb (LW _) U<|zi j8 U U U U U U .head U<|Y<|zf<|yi U ⟨_,.head⟩ jw j8 U ?_;rw[if_neg c2];try rfl
end
end Go.Proofs.YtbbonnfjealmpaaGreatDoor
