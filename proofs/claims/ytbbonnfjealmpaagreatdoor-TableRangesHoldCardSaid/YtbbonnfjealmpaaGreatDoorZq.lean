/- The program's rules. Of programs that are little. -/
import Derived.Test.YtbbonnfjealmpaaGreatDoorZp
set_option linter.unusedVariables false
set_option linter.unusedSimpArgs false
set_option linter.unusedSectionVars false
namespace Go.Proofs.YtbbonnfjealmpaaGreatDoor
section
open Go.Proofs.Tryz
open Go.Proofs
variable {E:World}
set_option maxRecDepth 20000
def xU (op:Int) (a b:bh):Bool:=if op=7 then decide (a.1=a.2)&&decide (a=b) else if op=8 then decide (a.2<b.1) else if op=9 then decide (a.2≤b.1) else false
def xV (op:Int) (a b:bh):Bool:=if op=7 then decide ((cF a b).2<(cF a b).1) else if op=8 then decide (b.2≤a.1) else if op=9 then decide (b.2<a.1) else false
theorem FJ (op:Int) (a b:bh):kM op a b=if a.2<a.1∨b.2<b.1 then fN else CX (xU op a b) (xV op a b):=by
 unfold kM xU xV
 by_cases h:a.2<a.1∨b.2<b.1
 ·rw[if_pos h,if_pos h]
 ·rw[if_neg h,if_neg h]
  by_cases h7:op=7
  ·rw[if_pos h7,if_pos h7,if_pos h7]
  ·rw[if_neg h7,if_neg h7,if_neg h7]
   by_cases h8:op=8
   ·rw[if_pos h8,if_pos h8,if_pos h8]
   ·rw[if_neg h8,if_neg h8,if_neg h8]
    by_cases h9:op=9
    ·rw[if_pos h9,if_pos h9,if_pos h9]
    ·rw[if_neg h9,if_neg h9,if_neg h9];rfl
theorem J3 (a b:bh):decide (a.1=b.1∧a.2=b.2)=decide (a=b):=decide_eq_decide.2 ⟨fun h=>Prod.ext h.1 h.2,fun h=>by rw[h];exact ⟨rfl,rfl⟩⟩
theorem J4 (op:Int) (a b:bh):aP prog E 145 [.int .i64 op,.agg (bP a),.agg (bP b)] (.agg (bP (kM op a b))):=by
 rw[FJ]
 refine zp func145 U (by decide) U<|ae<|y6 (cs:=_) U U U<|y6 (cs:=_) U U U<|zu (cs:=[.int .i64 0,.int .i64 0]) Z3 U U<|fun i6=>z2<|ae<|ad U<|ad U<|z2<|zb<|ae<|aa U<|z2<|yb (γ:=Bool × Bool) [4,5,6] (fun g=>[(8,.bool g.1),(7,.bool g.2)]) (fun g=>[(i6,.cells 63 [.int .i64 0,.int .i64 0])]) (fun g=>g.1=xU op a b∧g.2=xV op a b) ?_ (fun _ _ h=>h) ?_
 ·refine zi<|ae<|ao U U<|ad U<|z2<|zn U (fun c7=>?_) (fun c7=>?_)
  ·refine ae<|ak jz U Z1 U U<|aA Zc U<|ak jz U Z1 U U<|aA Zc U<|ao U U<|aq U<|zt (s:=17) U (fun c=>?_) (fun c=>?_)
   ·refine z7 U U c<|ac jk j8 U U<|z7 U U c<|ac jk j8 U U<|z7 U U c<|z8 (Gv.eqlP (xs:=[.int _ _,.int _ _]) (ys:=[.int _ _,.int _ _]) (by kernel_rfl) U U (fun w=>xa _ _ _ _ w))<|au U c U<|ad U<|z2<|aW<|ac jk j8 U U<|ac jk j8 U U<|ze (pm _ _) U<|ze (fi _) U<|ad U<|z2 ?_
    exact ⟨(decide (a.1=b.1∧a.2=b.2),decide ((cF a b).2<(cF a b).1)),bW,b7,aE,by dsimp only;exact ⟨by rw[xU,if_pos c7,J3,show decide (a.1=a.2)=true from c];rfl,by rw[xV,if_pos c7]⟩⟩
   ·refine z6 U U c<|z6 U U c<|z6 U U c<|aw U c U<|ad U<|z2<|aW<|ac jk j8 U U<|ac jk j8 U U<|ze (pm _ _) U<|ze (fi _) U<|ad U<|z2 ?_
    exact ⟨(false,decide ((cF a b).2<(cF a b).1)),bW,b7,aE,by dsimp only;exact ⟨by rw[xU,if_pos c7,show decide (a.1=a.2)=false from c];rfl,by rw[xV,if_pos c7]⟩⟩
  ·refine ae<|ao U U<|ad U<|z2<|zn U (fun c8=>?_) (fun c8=>?_)
   ·refine zr (fun j=>false) (by kernel_rfl) U (zo (.rest _))<|ai 0 U (db jz U Z1 U U)<|ai 1 U (dQ Zc U)<|ai 2 U (db jz U Z1 U U)<|ai 3 U (dQ Zc U)<|ai 4 U (Gv.lss U U)<|ai 5 U (db jz U Z1 U U)<|ai 6 U (dQ Zc U)<|ai 7 U (db jz U Z1 U U)<|ai 8 U (dQ Zc U)<|ai 9 U (q9 U U)<|ai 10 U (qO U)<|ai 11 U (qO U)<|bI ?_
    exact ⟨(decide (a.2<b.1),decide (b.2≤a.1)),bW,b7,aE,by dsimp only;exact ⟨by rw[xU,if_neg c7,if_pos c8],by rw[xV,if_neg c7,if_pos c8]⟩⟩
   ·refine ae<|ao U U<|ad U<|z2<|zn U (fun c9=>?_) (fun c9=>?_)
    ·refine zr (fun j=>false) (by kernel_rfl) U (zo (.rest _))<|ai 0 U (db jz U Z1 U U)<|ai 1 U (dQ Zc U)<|ai 2 U (db jz U Z1 U U)<|ai 3 U (dQ Zc U)<|ai 4 U (Gv.leq U U)<|ai 5 U (db jz U Z1 U U)<|ai 6 U (dQ Zc U)<|ai 7 U (db jz U Z1 U U)<|ai 8 U (dQ Zc U)<|ai 9 U (Gv.gtr U U)<|ai 10 U (qO U)<|ai 11 U (qO U)<|bI ?_
     exact ⟨(decide (a.2≤b.1),decide (b.2<a.1)),bW,b7,aE,by dsimp only;exact ⟨by rw[xU,if_neg c7,if_neg c8,if_pos c9],by rw[xV,if_neg c7,if_neg c8,if_pos c9]⟩⟩
    ·refine zf ?_
     exact ⟨(false,false),bW,b7,aE,by dsimp only;exact ⟨by rw[xU,if_neg c7,if_neg c8,if_neg c9],by rw[xV,if_neg c7,if_neg c8,if_neg c9]⟩⟩
 ·rintro ⟨al,ne⟩ ⟨h1,h2⟩
  dsimp only at h1 h2
  rw[←h1,←h2]
  refine zb<|zi<|zb<|yb (γ:=Bool) [6,7,8] (fun u=>[(50,.bool u)]) (fun u=>[(i6,.cells 63 [.int .i64 0,.int .i64 0])]) (fun u=>u=decide (a.2<a.1∨b.2<b.1)) ?_ (fun _ _ h=>h) ?_
  ·refine aW<|ac jk j8 U U<|ze (fi _) U<|aq U<|zt (s:=53) U (fun c1=>?_) (fun c1=>?_)
   ·refine z6 U U c1<|z6 U U c1<|au U c1 U<|ad U<|z2 ?_
    exact ⟨_,bW,aL,aE,by simp_all<;>omega⟩
   ·refine z7 U U c1<|ac jk j8 U U<|z7 U U c1<|ze (fi _) U<|aw U c1 U<|ad U<|z2 ?_
    exact ⟨_,bW,aL,aE,by simp_all<;>omega⟩
  ·rintro u hu
   subst hu
   refine zn U (fun cn=>?_) (fun cn=>?_)
   ·refine ae<|ze (gV) U<|zj j8 U U U U U U .head U<|z2<|zg<|ym U ⟨_,.head⟩ jk j8 U ?_
    rw[if_pos cn];try rfl
   ·rw[if_neg cn]
    refine ae<|aq U<|ad U<|z2<|zw U (fun c1=>?_) (fun c1=>?_)
    ·refine ae<|ze (I2 _) U<|zj j8 U U U U U U .head U<|z2<|zg<|ym U ⟨_,.head⟩ jk j8 U ?_
     rw[show al=true from c1];try rfl
    ·refine ae<|aq U<|ad U<|z2<|zw U (fun c2=>?_) (fun c2=>?_)
     ·refine ae<|ze (I2 _) U<|zj j8 U U U U U U .head U<|z2<|zg<|ym U ⟨_,.head⟩ jk j8 U ?_
      rw[show al=false from c1,show ne=true from c2];try rfl
     ·refine zf<|ae<|z8 (zz (cps:=[(0,[_]),(1,[_])]) (rs:=[_,_]) mL U U U)<|zj j8 U U U U U U .head U<|z2<|zg<|ym U ⟨_,.head⟩ jk j8 U ?_
      rw[show al=false from c1,show ne=false from c2];try rfl
theorem Lq (num:Int) {a b:bh} (hb:cO b):aP prog E 147 [.int .i64 num,.agg (bP a),.agg (bP b)] (.agg (bP (Au num a b))):=by
 have hb1:=hb.1;have hb2:=hb.2
 unfold bg at hb1 hb2
 have hm:ib=-9223372036854775808:=rfl
 have hM:ig=9223372036854775807:=rfl
 refine zp func147 U (by decide) U<|ae<|y6 (cs:=_) U U U<|y6 (cs:=_) U U U<|zu (cs:=[.int .i64 0,.int .i64 0]) Z3 U U<|fun i6=>z2<|zb<|zb<|yb (γ:=Bool) [0,4,5,6] (fun u=>[(12,.bool u)]) (fun u=>[(i6,.cells 63 [.int .i64 0,.int .i64 0])]) (fun u=>u=decide (a.2<a.1∨b.2<b.1)) ?_ (fun _ _ h=>h) ?_
 ·refine aW<|ac jk j8 U U<|ze (fi _) U<|aq U<|zt (s:=9) U (fun c2=>?_) (fun c2=>?_)
  ·refine z6 U U c2<|z6 U U c2<|au U c2 U<|z2 ?_
   exact ⟨_,fC,aL,aE,by simp_all<;>omega⟩
  ·refine z7 U U c2<|ac jk j8 U U<|z7 U U c2<|ze (fi _) U<|aw U c2 U<|z2 ?_
   exact ⟨_,fC,aL,aE,by simp_all<;>omega⟩
 ·rintro u hu
  subst hu
  refine zn U (fun cn=>?_) (fun cn=>?_)
  ·refine ae<|ze (gV) U<|zj j8 U U U U U U .head U<|z2<|zg<|ym U ⟨_,.head⟩ jk j8 U ?_
   rw[Au,if_pos cn];try rfl
  ·rw[Au,if_neg cn]
   refine zf<|zb<|ae<|aa U<|z2<|zi<|ae<|ao U U<|ad U<|z2<|zn U (fun c0=>?_) (fun c0=>?_)
   ·refine zb<|ae<|ak jz U Z1 U U<|aA Zc U<|ao U U<|z2<|zn U (fun cm=>?_) (fun cm=>?_)
    ·refine ae<|ze (gV) U<|zj j8 U U U U U U .head U<|z2<|zg<|ym U ⟨_,.head⟩ jk j8 U ?_
     rw[if_pos c0,if_pos (show b.2=ib from cm)];try rfl
    ·refine zf<|ae<|ak jz U Z1 U U<|aA Zc U<|ak jz U Z1 U U<|aA Zc U<|ak jz U Z1 U U<|aA Zc U<|z8 (Gv.sub U U (by unfold lz;omega))<|z8 (Gv.minI U U)<|ze (ul _ _) U<|zj j8 U U U U U U .head U<|z2<|zg<|ym U ⟨_,.head⟩ jk j8 U ?_
     rw[if_pos c0,if_neg (show ¬b.2=ib from cm)];try rfl
   ·rw[if_neg c0]
    refine ae<|ao U U<|ad U<|z2<|zn U (fun c1=>?_) (fun c1=>?_)
    ·refine ae<|ak jz U Z1 U U<|aA Zc U<|ak jz U Z1 U U<|aA Zc U<|ak jz U Z1 U U<|aA Zc U<|z8 (Gv.minI U U)<|ze (ul _ _) U<|zj j8 U U U U U U .head U<|z2<|zg<|ym U ⟨_,.head⟩ jk j8 U ?_
     rw[if_pos c1];try rfl
    ·rw[if_neg c1]
     refine ae<|ao U U<|ad U<|z2<|zn U (fun c2=>?_) (fun c2=>?_)
     ·refine ae<|ac jk j8 U U<|ac jk j8 U U<|ze (pm _ _) U<|zj j8 U U U U U U .head U<|z2<|zg<|ym U ⟨_,.head⟩ jk j8 U ?_
      rw[if_pos c2];try rfl
     ·rw[if_neg c2]
      refine ae<|ao U U<|ad U<|z2<|zn U (fun c3=>?_) (fun c3=>?_)
      ·refine ae<|ak jz U Z1 U U<|aA Zc U<|ak jz U Z1 U U<|aA Zc U<|z8 (Gv.maxI U U)<|ak jz U Z1 U U<|aA Zc U<|ze (ul _ _) U<|zj j8 U U U U U U .head U<|z2<|zg<|ym U ⟨_,.head⟩ jk j8 U ?_
       rw[if_pos c3];try rfl
      ·rw[if_neg c3]
       refine ae<|ao U U<|ad U<|z2<|zn U (fun c4=>?_) (fun c4=>?_)
       ·refine zb<|ae<|ak jz U Z1 U U<|aA Zc U<|ao U U<|z2<|zn U (fun cm=>?_) (fun cm=>?_)
        ·refine ae<|ze (gV) U<|zj j8 U U U U U U .head U<|z2<|zg<|ym U ⟨_,.head⟩ jk j8 U ?_
         rw[if_pos c4,if_pos (show b.1=ig from cm)];try rfl
        ·refine zf<|ae<|ak jz U Z1 U U<|aA Zc U<|ak jz U Z1 U U<|aA Zc U<|aC U U<|z8 (Gv.maxI U U)<|ak jz U Z1 U U<|aA Zc U<|ze (ul _ _) U<|zj j8 U U U U U U .head U<|z2<|zg<|ym U ⟨_,.head⟩ jk j8 U ?_
         rw[if_pos c4,if_neg (show ¬b.1=ig from cm)];try rfl
       ·refine zf<|ae<|ac jk j8 U U<|zj j8 U U U U U U .head U<|z2<|zg<|ym U ⟨_,.head⟩ jk j8 U ?_
        rw[if_neg c4];try rfl
end
section
open Go.Proofs.Tryz
open Go.Proofs Go.Lib Go.Shelf Go.RowKit
variable {E:World}
set_option maxRecDepth 20000
theorem Ja {rs:List bh} {i:Nat} (h:i<rs.length):rs[i]?=some (ra rs i):=by unfold ra;rw[qx h];rfl
def J5 (rs:List bh):Prop:=∀r∈rs,cO r∧r.1≤r.2
theorem J5.at {rs:List bh} (h:J5 rs) {i:Nat} (hi:i<rs.length):cO (ra rs i)∧(ra rs i).1≤(ra rs i).2:=by
 have:=Ja hi
 exact h _ (w9 this)
end
section
open Go.Proofs.Tryz
theorem uH {α β:Type} {g:α→List β}:∀{l:List α} {i:Nat} {x:α},l[i]?=some x→(g x).length≤(l.flatMap g).length
 |y::l,0,x,h=>by simp at h;subst h;rw[List.flatMap_cons,w5];omega
 |y::l,i+1,x,h=>by
  have:=uH (g:=g) (l:=l) (i:=i) (x:=x) (by simpa using h)
  rw[List.flatMap_cons,w5];omega
theorem DH {f:ab} {v:Int} (hl:(bp f v).length≤1) {i:Nat} {b:aK} (h:f.blocks[i]?=some b):(nR v i b).length≤1:=by
 have h2:f.blocks.zipIdx[i]?=some (b,i):=by rw[List.getElem?_zipIdx,h];simp
 exact Nat.le_trans (uH (g:=fun b:aK × Nat=>nR v (b.2:Int) b.1) h2) hl
theorem Cm {f:ab} {v:Int} (hl:(bp f v).length≤1) {i:Nat} {b:aK} (h:f.blocks[i]?=some b) {p:cZ} (hp:p∈b.phis) (hd:p.dst=v):b.phis.filter (fun q=>decide (q.dst=v))=[p]:=by
 have h1:=DH hl h
 unfold nR at h1
 rw[w5,w6] at h1
 have h2:p∈b.phis.filter (fun q=>decide (q.dst=v)):=List.mem_filter.2 ⟨hp,by simpa using hd⟩
 cases hf:b.phis.filter (fun q=>decide (q.dst=v)) with
 |nil=>rw[hf] at h2;cases h2
 |cons x l=>
  rw[hf] at h1 h2
  have:l=[]:=wa (by simp only[List.length_cons] at h1;omega)
  subst this
  simp at h2;rw[h2]
theorem xW {f:ab} {v:Int} (hl:(bp f v).length≤1) {i:Nat} {b:aK} (h:f.blocks[i]?=some b) {p:cZ} (hp:p∈b.phis) (hd:p.dst=v):(b.phis.find? fun q=>decide (q.dst=v))=some p:=by
 rw[←List.head?_filter,Cm hl h hp hd];rfl
def oV (f:ab) (l:List bh) (acc:bh) (xs:List Int):bh:=xs.foldl (fun acc v=>df acc (oR f l v)) acc
theorem xX (f:ab) (l:List bh) (acc:bh) (xs:List Int) (v:Int):oV f l acc (xs++[v])=df (oV f l acc xs) (oR f l v):=by unfold oV;rw[List.foldl_append];rfl
theorem n4 {f:ab} {chk:Int→Bool} {l:List bh} {v:Int} (hl:(bp f v).length≤1) {i:Nat} {b:aK} (h:f.blocks[i]?=some b) {p:cZ} (hp:p∈b.phis) (hd:p.dst=v) (hm:aD f v=((i:Int),-1)):l5 f chk l v=oV f l fN p.args:=by
 unfold l5
 rw[hm]
 dsimp only
 rw[show (i:Int).toNat=i from rfl,h]
 dsimp only
 rw[if_neg (by decide),xW hl h hp hd]
 rfl
theorem mC {f:ab} {chk:Int→Bool} {l:List bh} {v:Int} {i k:Nat} {b:aK} (h:f.blocks[i]?=some b) {x:aB} (hx:b.insts[k]?=some x) (hm:aD f v=((i:Int),(k:Int))):l5 f chk l v=Ci f chk l x:=by
 unfold l5
 rw[hm]
 dsimp only
 rw[show (i:Int).toNat=i from rfl,h]
 dsimp only
 rw[if_pos (by omega),show (k:Int).toNat=k from rfl,hx]
def nv (f:ab) (v:Int):bh:=if v<f.params.length then gU (FB f v) else (0,0)
end
section
open Go.Proofs.Tryz
open Go.Proofs Go.Lib Go.Shelf Go.RowKit
variable {E:World}
set_option maxRecDepth 20000
theorem J6 {l:List bh} {a:Int} (h:a.toNat<l.length):l[a.toNat]?=some (lv l a):=by unfold lv;rw[qx h];rfl
theorem n6 {f:ab} {v:Int} (h:bt f v=true):0≤v∧v<f.vars.length:=by simpa [bt] using h
theorem J7 {f:ab} (hS:bH f) {a:Int} (h:bt f a=true):∃x,f.vars[a.toNat]?=some x∧x.ty=FB f a∧0≤x.ty∧x.ty≤2:=by
 obtain ⟨h0,h1⟩:=n6 h
 have hl:a.toNat<f.vars.length:=by omega
 have h2:=hS.2.2.1 _ hl
 refine ⟨f.vars[a.toNat],qx hl,?_,h2.2.1,h2.2.2.1⟩
 unfold FB;rw[qx hl];rfl
theorem DI {f:ab} {l:List bh} {x:aB} {m:Nat} (h:m<x.args.length):(ef f l x).take (m+1)=(ef f l x).take m++[oR f l x.args[m]]:=by
 unfold ef
 rw[qy (by rw[w6];exact h),List.getElem_map]
theorem Left.d1 {x:Nat × bC} {O:OL}:Left (x::O) O:=⟨_,.drop (.refl _),rfl⟩
theorem Left.d2 {x y:Nat × bC} {O:OL}:Left (x::y::O) O:=⟨_,.drop (.drop (.refl _)),rfl⟩
theorem bn.same {P:Program} {E:World} {f:FuncId} {ars:List AV} {O:OL} {x:AV} (h:bn P E f ars O fun y O'=>y=x∧Left O' O):bn P E f ars O fun y O'=>y=x∧O'=O:=
 (bn.exact (γ:=Unit) (x:=fun _=>x) (M:=fun _=>O) (p:=fun _=>True) (h.mono fun _ _ h=>⟨(),h.1,h.2,trivial⟩)).mono fun _ _ ⟨_,h1,h2,_⟩=>⟨h1,h2⟩
end
section
open Go.Proofs.Tryz
open Go.Proofs Go.Lib Go.Shelf Go.RowKit
theorem Lt:kE prog 212 2 [.int .i64 0,.int .i64 0,.int .i64 0,.int .i64 0,.int .i64 0,.int .i64 0]:=⟨_,_,_,Yy,zeroValue212,j8,rfl⟩
variable {E:World}
set_option maxRecDepth 20000
def Cn (f:ab) (chk:List Bool) (Lv:AV):List AV:=bw f++[.fro 2 ((dp f).map eP.row),.fro 1 (chk.map tG),Lv]
def uI (f:ab) (chk:List Bool) (Lv:AV):AV:=.pf (Cn f chk Lv)
def sq (i:Nat) (HL:bC) (x:AV):AV→OL→Prop:=fun y O=>y=x∧O=[(i,HL)]
theorem J8 (f:ab) (hS:bH f) (chk:List Bool) (l:List bh) (hll:l.length=f.vars.length) (i:Nat) (HL:bC) {a:Int} (ha:bt f a=true) :
  bn prog E 142 [uI f chk (.fro 2 (l.map bP)),.int .i64 a] [(i,HL)] (sq i HL (.agg (bP (oR f l a)))):=by
 obtain ⟨ha0,ha1⟩:=n6 ha
 obtain ⟨y,hy,hyt,hy0,hy2⟩:=J7 hS ha
 refine bn.same<|zp func142 U (by decide) U<|ae<|zu (cs:=[.int .i64 0,.int .i64 0]) Z3 U U<|fun i4=>z2<|zb<|zr (fun j=>Nat.beq j 18) (by kernel_rfl) U (zo (.rest _))<|ai 0 U (tv U)<|ai 1 U (qg U)<|ai 2 U (db Ym U sizeOf40 U U)<|ai 3 U (gd isAgg40 U)<|ai 4 U (dx U)<|ai 5 U (bB a.toNat Yt j8 U U (by omega) (J6 (by omega)))<|ai 6 U (yp jk j8 U U)<|ai 7 U (tv U)<|ai 8 U (qg U)<|ai 9 U (db Ym U ji U U)<|ai 10 U (db je U Zn U U)<|ai 11 U (gd Zz U)<|ai 12 U (dx U)<|ai 13 U (bB a.toNat Z7 Yf U U (by omega) hy)<|ai 14 U (db Zt U X9 U U)<|ai 15 U (dQ Xj U)<|aN 16 U<|ze (EU _) U<|z2<|aN 17 U<|ze (pm _ _) U<|z2<|yc<|yk (i:=18) U (by kernel_rfl) (by kernel_rfl)<|zj j8 U U U U U U .head U<|z2<|yf (by kernel_rfl)<|zg<|ym U ⟨_,.head⟩ jk j8 U ?_
 exact ⟨by unfold oR;rw[←hyt];rfl,.d1⟩
theorem DJ (f:ab) (l:List bh) {w:AV} {i:Nat} {HL:bC} (hof:∀{a:Int},bt f a=true→bn prog E 142 [w,.int .i64 a] [(i,HL)] (sq i HL (.agg (bP (oR f l a)))))
  (p:cZ) (hpa:p.args.all (bt f)=true) (hpl:p.args.length≤1000):bn prog E 107 [w,.agg (dA p)] [(i,HL)] (sq i HL (.agg (bP (oV f l fN p.args)))):=by
 refine bn.same<|zp func107 U (by decide) U<|ae<|y6 (cs:=_) U U U<|zu (cs:=[.int .i64 0,.int .i64 0]) Z3 U U<|fun i4=>z2<|ae<|ze (gV) U<|zu (cs:=[.int .i64 0,.int .i64 0]) Z3 U U<|fun i5=>zj j8 U U U U U U .head U<|z2<|zb<|ae<|ak Z4 U jh U U<|aI jx U<|aj j7 U<|aa U<|z2<|zi<|y5 (γ:=Nat) [0,4,5,10,11] (fun m=>[(12,.i m)]) (fun m=>[(i5,.cells 63 (bP (oV f l fN (p.args.take m)))),(i4,.cells 63 [.int .i64 0,.int .i64 0]),(i,HL)]) (fun m=>m≤p.args.length) (fun m=>p.args.length - m) 0 aL aE (w2 _) ?_
 rintro m hm
 refine ae<|ap U U<|z2<|zb<|zn U (fun cm=>?_) (fun cm=>?_)
 ·have hm2:m<p.args.length:=by simp at cm;omega
  obtain ⟨a,ha⟩:∃a,p.args[m]=a:=⟨_,rfl⟩
  have hav:=List.all_eq_true.1 hpa a (ha▸w3 hm2)
  refine zf<|zb<|zi<|ae<|z8 (bB m j7 j9 U U U (by rw[qx hm2,ha])) ?_
  refine aA jg U<|am U<|z2<|zr (fun j=>Nat.beq j 5) (by kernel_rfl) U (zo (.r (.rest _)))<|ai 0 U (qu jk j8 U ⟨_,.head⟩ U)<|ai 1 U (yt (v:=_) U)<|ai 2 U (dx U)<|aN 3 U<|y3 U (zo (.r (.l (.rest _)))) (hof hav) ?_
  rintro r19 O19 ⟨rfl,rfl⟩
  refine z2<|aN 4 U<|ze (I3 _ _) U<|z2<|yc<|yk (i:=5) U (by kernel_rfl) (by kernel_rfl)<|zj j8 U U U U U U .head U<|zd (za (zc .t1))<|zd (za (zc .t2))<|zd (za (zc .t2))<|z2<|yf (by kernel_rfl)<|aW<|aC U U<|aa U<|z2 ?_
  exact ⟨m+1,mI,aL,⟨_,(.refl _),by rw[qy hm2,ha,xX];rfl⟩,hm2,by omega⟩
 ·have hmn:m=p.args.length:=by simp at cm;omega
  rw[hmn,w4]
  refine y4<|ae<|z8 (qu jk j8 U ⟨_,.head⟩ U)<|zj j8 U U U U U U .t1 U<|z2<|zg<|ym U ⟨_,.t1⟩ jk j8 U ?_
  exact ⟨rfl,.d2⟩
theorem DK (f:ab) (chk:List Bool) (Lv:AV) (x:aB) {a b:bh} (ha:cO a) (hb:cO b) (h0:0≤x.dst) (h1:x.dst.toNat<chk.length):aP prog E 143 [uI f chk Lv,.agg (bq x),.agg (bP a),.agg (bP b)] (.agg (bP (if gb chk x.dst=true then so x.op a b else gL x.op a b))):=by
 refine zp func143 U (by decide) U<|ae<|y6 (cs:=_) U U U<|y6 (cs:=_) U U U<|y6 (cs:=_) U U U<|zu (cs:=[.int .i64 0,.int .i64 0]) Z3 U U<|fun i8=>z2<|zb<|zb<|zr (fun j=>false) (by kernel_rfl) U (zo (.rest _))<|ai 0 U (tv U)<|ai 1 U (qg U)<|ai 2 U (db Ym U Yg U U)<|ai 3 U (gd Yu U)<|ai 4 U (db jd U j9 U U)<|ai 5 U (dQ jg U)<|ai 6 U (bB x.dst.toNat jw Zb U U (by omega) (show chk[x.dst.toNat]?=some (gb chk x.dst) by unfold gb;rw[qx h1];rfl))<|ai 7 U (qe (c:=.bool _) Yn U)<|bI<|zw U (fun c=>?_) (fun c=>?_)
 ·refine ae<|ak jd U Zs U U<|aA Y2 U<|ac jk j8 U U<|ac jk j8 U U<|ze (Lp x.op ha hb) U<|zj j8 U U U U U U .head U<|z2<|zg<|ym U ⟨_,.head⟩ jk j8 U ?_
  rw[if_pos c];try rfl
 ·refine zf<|ae<|ak jd U Zs U U<|aA Y2 U<|ac jk j8 U U<|ac jk j8 U U<|ze (A7 x.op ha hb) U<|zj j8 U U U U U U .head U<|z2<|zg<|ym U ⟨_,.head⟩ jk j8 U ?_
  rw[if_neg (by rw[show gb chk x.dst=false from c];decide)];try rfl
theorem J9 {r s:bh} (h:r=s):AV.agg (bP r)=AV.agg (bP s):=by rw[h]
def c3 (rs:List bh):List AV:=bP (ra rs 0)++bP (ra rs 1)++bP (ra rs 2)
theorem Ie {a b:bh} (ha:cO a) (hn:LX a) (nb:b.1≤b.2):Au 0 a b=wW 0 a b:=by
 by_cases na:a.1≤a.2
 ·exact BR ha na nb
 ·have:=hn (by omega)
  subst this
  unfold Au wW
  rw[if_pos (.inl (by decide)),if_pos rfl]
  by_cases hb:b.2=ib
  ·rw[if_pos hb]
  ·rw[if_neg hb]
   have h1:∀z:Int,ff 0 z≤0:=fun z=>by unfold ff;split<;>omega
   have h2:(1:Int)≤eo 1 ib:=by decide
   have h3:=h1 (b.2 - 1)
   show fN=eF (eo 1 ib) (ff 0 (b.2 - 1))
   rw[eF,if_pos (by omega)]
theorem DL {op:Int} {k:Nat} (hk:k≤2) (h:op=2+(k:Int)) {a b:bh} (na:a.1≤a.2) (nb:b.1≤b.2) (c:Bool):(if c=true then so op a b else gL op a b)=vg k a b c:=by
 have h2:=oU hk h (a:=a) (b:=b) (by omega)
 cases c
 ·rw[if_neg (by decide),h2.1,BQ]
 ·rw[if_pos rfl,h2.2,BQ]
theorem Ka {a b:bh} (ha:cO a) (hb:cO b) (na:a.1≤a.2) (nb:b.1≤b.2):gL 5 a b=mK a b:=by unfold gL;rw[if_neg (by omega),if_neg (by decide),if_neg (by decide),if_neg (by decide),if_pos rfl,EN ha hb na nb]
theorem Kb {a b:bh} (na:a.1≤a.2) (nb:b.1≤b.2):gL 6 a b=CW a b:=by unfold gL;rw[if_neg (by omega),if_neg (by decide),if_neg (by decide),if_neg (by decide),if_neg (by decide),if_pos rfl,EO nb]
set_option maxHeartbeats 8000000 in
theorem A8 (f:ab) (l:List bh) (chk:List Bool) (Lv:AV) {i:Nat} {HL:bC} (hof:∀{a:Int},bt f a=true→bn prog E 142 [uI f chk Lv,.int .i64 a] [(i,HL)] (sq i HL (.agg (bP (oR f l a)))))
  (ho:∀u:Int,0≤u→cO (lv l u)) (x:aB) (hI:dC f x) (hb:x.op=10∨x.op=11→∀v∈x.args,FB f v=1) (h1:0≤x.dst→x.dst.toNat<chk.length) (hd:x.op=2∨x.op=3∨x.op=4→0≤x.dst) :
  bn prog E 104 [uI f chk Lv,.agg (bq x)] [(i,HL)] (sq i HL (.agg (bP (if (ef f l x).any tJ=true then fN else wY x.op x.num (ef f l x) (gb chk x.dst))))):=by
 have hal:(ef f l x).length=x.args.length:=by unfold ef;rw[w6]
 have hx3:x.args.length≤3:=by
  rw[hI.len]
  rcases nJ x.op with h|h
  ·unfold aX;rw[h];decide
  ·have:∀r∈gS,r.2.1.data.toList.length≤3:=by decide
   have:=this _ h
   unfold aX;simpa using this
 refine bn.same<|zp func104 U (by decide) U<|ae<|y6 (cs:=_) U U U<|zu (cs:=[.int .i64 0,.int .i64 0]) Z3 U U<|fun i4=>z2<|ae<|z8 (Gv.buildA (cps:=[]) (rs:=[.int .i64 0,.int .i64 0,.int .i64 0,.int .i64 0,.int .i64 0,.int .i64 0]) Lt U U U)<|zu (cs:=[.int .i64 0,.int .i64 0,.int .i64 0,.int .i64 0,.int .i64 0,.int .i64 0]) zeroValue212 U U<|fun i5=>zj sizeOf212 U U U U U U .head U<|z2<|zb<|ae<|ak jd U jh U U<|aI jx U<|aj j7 U<|aa U<|z2<|zi<|y5 (γ:=Nat) [0,3,4,5,12,13] (fun m=>[(14,.i m)]) (fun m=>[(i5,.cells 212 (c3 ((ef f l x).take m))),(i4,.cells 63 [.int .i64 0,.int .i64 0]),(i,HL)]) (fun m=>m≤x.args.length∧((ef f l x).take m).any tJ=false) (fun m=>x.args.length - m) 0 aL aE (⟨w2 _,U⟩) ?_
 rintro m ⟨hm,hne⟩
 refine ae<|ap U U<|z2<|zb<|zn U (fun cm=>?_) (fun cm=>?_)
 ·have hm2:m<x.args.length:=by simp at cm;omega
  obtain ⟨a,ha⟩:∃a,x.args[m]=a:=⟨_,rfl⟩
  have hav:=hI.args a (ha▸w3 hm2)
  have htk:=DI (f:=f) (l:=l) hm2
  rw[ha] at htk
  have hta:(ef f l x)[m]?=some (oR f l a):=by unfold ef;rw[w7,qx hm2,ha];rfl
  have hAl:((ef f l x).take m).length=m:=by rw[wd];omega
  have hne2:¬(oR f l a).2<(oR f l a).1→((ef f l x).take (m+1)).any tJ=false:=fun h=>by rw[htk,List.any_append,hne];simp[tJ];omega
  have hyes:(oR f l a).2<(oR f l a).1→(ef f l x).any tJ=true:=fun h=>List.any_eq_true.2 ⟨_,w9 hta,by unfold tJ;exact we h⟩
  obtain ⟨A,hA⟩:∃A,(ef f l x).take m=A:=⟨_,rfl⟩
  rw[hA] at hAl htk hne ⊢
  refine zf<|zb<|zi<|ae<|aa U<|z8 (bB m j7 j9 U U U (by rw[qx hm2,ha])) ?_
  refine aA jg U<|am U<|am U<|z2 ?_
  rcases (by omega:m=0∨m=1∨m=2) with rfl|rfl|rfl
  ·obtain rfl:A=[]:=wa hAl
   refine ae<|aa U<|z8 (yt (v:=_) U)<|aa U<|y3 U (zo (.r (.r (.l (.rest _))))) (hof hav) ?_
   rintro r22 O22 ⟨rfl,rfl⟩
   refine z8 (qd (j:=0) Yy j8 U U U (by decide) U)<|yn (l:=[_,_]) (new:=[_,_,_,_,_,_]) j8 U U U U U U .t1 U U<|z2<|y7 (za (zc .t2))<|y7 (za (zc .t2))<|ae<|aa U<|z8 (qd (j:=0) Yy j8 U U U (by decide) U)<|z8 (yo (l:=[_,_]) jk j8 U ⟨_,.head⟩ U U)<|ze (fi _) U<|z2<|zn U (fun ce=>?_) (fun ce=>?_)
   ·refine ae<|ze (gV) U<|zj j8 U U U U U U .t1 U<|z2<|zg<|ym U ⟨_,.t1⟩ jk j8 U ?_
    exact ⟨by rw[if_pos (hyes ce)];rfl,.d2⟩
   ·refine zf<|aW<|aC U U<|aa U<|z2 ?_
    exact ⟨1,oB,aL,⟨_,(.refl _),by rw[htk];rfl⟩,⟨hm2,hne2 ce⟩,by omega⟩
  ·obtain ⟨r0,rfl⟩:=List.length_eq_one_iff.1 hAl
   refine ae<|aa U<|z8 (yt (v:=_) U)<|aa U<|y3 U (zo (.r (.r (.l (.rest _))))) (hof hav) ?_
   rintro r22 O22 ⟨rfl,rfl⟩
   refine z8 (qd (j:=1) Yy j8 U U U (by decide) U)<|yn (l:=[_,_]) (new:=[_,_,_,_,_,_]) j8 U U U U U U .t1 U U<|z2<|y7 (za (zc .t2))<|y7 (za (zc .t2))<|ae<|aa U<|z8 (qd (j:=1) Yy j8 U U U (by decide) U)<|z8 (yo (l:=[_,_]) jk j8 U ⟨_,.head⟩ U U)<|ze (fi _) U<|z2<|zn U (fun ce=>?_) (fun ce=>?_)
   ·refine ae<|ze (gV) U<|zj j8 U U U U U U .t1 U<|z2<|zg<|ym U ⟨_,.t1⟩ jk j8 U ?_
    exact ⟨by rw[if_pos (hyes ce)];rfl,.d2⟩
   ·refine zf<|aW<|aC U U<|aa U<|z2 ?_
    exact ⟨2,oB,aL,⟨_,(.refl _),by rw[htk];rfl⟩,⟨hm2,hne2 ce⟩,by omega⟩
  ·obtain ⟨r0,r1,rfl⟩:∃r0 r1,A=[r0,r1]:=by
    match A,hAl with
    |[r0,r1],_=>exact ⟨r0,r1,rfl⟩
   refine ae<|aa U<|z8 (yt (v:=_) U)<|aa U<|y3 U (zo (.r (.r (.l (.rest _))))) (hof hav) ?_
   rintro r22 O22 ⟨rfl,rfl⟩
   refine z8 (qd (j:=2) Yy j8 U U U (by decide) U)<|yn (l:=[_,_]) (new:=[_,_,_,_,_,_]) j8 U U U U U U .t1 U U<|z2<|y7 (za (zc .t2))<|y7 (za (zc .t2))<|ae<|aa U<|z8 (qd (j:=2) Yy j8 U U U (by decide) U)<|z8 (yo (l:=[_,_]) jk j8 U ⟨_,.head⟩ U U)<|ze (fi _) U<|z2<|zn U (fun ce=>?_) (fun ce=>?_)
   ·refine ae<|ze (gV) U<|zj j8 U U U U U U .t1 U<|z2<|zg<|ym U ⟨_,.t1⟩ jk j8 U ?_
    exact ⟨by rw[if_pos (hyes ce)];rfl,.d2⟩
   ·refine zf<|aW<|aC U U<|aa U<|z2 ?_
    exact ⟨3,oB,aL,⟨_,(.refl _),by rw[htk];rfl⟩,⟨hm2,hne2 ce⟩,by omega⟩
 ·have hmn:m=x.args.length:=by simp at cm;omega
  subst hmn
  rw[←hal,w4] at hne
  rw[←hal,w4]
  obtain ⟨rs,hrs⟩:∃rs,ef f l x=rs:=⟨_,rfl⟩
  have hokr:J5 rs:=fun r hr=>by
   rw[←hrs] at hr
   have hnn:=List.any_eq_false.1 hne _ hr
   obtain ⟨a,ha,rfl⟩:=List.mem_map.1 hr
   have hav:=n6 (hI.args a ha)
   exact ⟨FC ho hav.1,by simpa [tJ] using hnn⟩
  have hbl:x.op=10∨x.op=11→∀j,j<rs.length→0≤(ra rs j).1∧(ra rs j).2≤1:=fun h j hj=>by
   have h3:=hokr.at hj
   have h4:=Ja hj
   rw[←hrs] at h4
   have h5:=w9 h4
   rw[hrs] at h5
   rw[←hrs] at h5
   obtain ⟨a,ha,e⟩:=List.mem_map.1 h5
   rw[hrs] at e
   rw[←e] at h3 ⊢
   exact vE (hb h a ha) h3.2
  rw[hrs] at hne hal ⊢
  rw[if_neg (by rw[hne];decide)]
  have hl:rs.length=(aX x.op).length:=by rw[hal];exact hI.len
  rw[wY]
  refine y4<|zb<|yb (γ:=Nat × Nat) [0,3,4] (fun z=>[(8,.po z.1 0),(9,.po z.2 0)]) (fun z=>[(z.1,.cells 63 (bP (ra rs 0))),(z.2,.cells 63 (bP (ra rs 1))),(i5,.cells 212 (c3 rs)),(i4,.cells 63 [.int .i64 0,.int .i64 0]),(i,HL)]) (fun z=>True) ?_ (fun _ _ h=>h) ?_
  ·refine zr (fun j=>false) (by kernel_rfl) U (zo (.rest _))<|ai 0 U (qd (j:=0) Yy j8 U U U (by decide) U)<|ai 2 U (qd (j:=1) Yy j8 U U U (by decide) U)<|bT.four (i:=1) (j:=3) (m:=4) (q:=5) U U U U (by kernel_rfl) ?_ ?_ ?_ ?_
   ·refine z8 (yo (l:=[_,_]) jk j8 U ⟨_,.head⟩ U U)<|z2<|qk (i:=3) (j:=4) (m:=5) U U U (by kernel_rfl) ?_ ?_ ?_
    ·refine z8 (yo (l:=[_,_]) jk j8 U ⟨_,.head⟩ U U)<|z2<|yj (i:=4) (j:=5) U U (by kernel_rfl) ?_ ?_
     ·refine zu (cs:=[.int .i64 0,.int .i64 0]) Z3 U U<|fun i8=>z2<|aN 5 U<|zu (cs:=[.int .i64 0,.int .i64 0]) Z3 U U<|fun i9=>z2<|aN 6 U<|zj j8 U U U U U U .t1 U<|z2<|aN 7 U<|zj j8 U U U U U U .head U<|zd (za (zc .head))<|zd (za (zc .t1))<|z2<|bI ?_
      exact ⟨(i8,i9),bW,b7,aE,trivial⟩
     ·refine zu (cs:=[.int .i64 0,.int .i64 0]) Z3 U U<|fun i9=>z2<|aN 4 U<|zu (cs:=[.int .i64 0,.int .i64 0]) Z3 U U<|fun i8=>z2<|aN 6 U<|zj j8 U U U U U U .head U<|z2<|aN 7 U<|zj j8 U U U U U U .t1 U<|z2<|bI ?_
      exact ⟨(i8,i9),bW,b7,aE,trivial⟩
    ·refine zu (cs:=[.int .i64 0,.int .i64 0]) Z3 U U<|fun i8=>z2<|yj (i:=3) (j:=5) U U (by kernel_rfl) ?_ ?_
     ·refine z8 (yo (l:=[_,_]) jk j8 U ⟨_,.t1⟩ U U)<|z2<|aN 5 U<|zu (cs:=[.int .i64 0,.int .i64 0]) Z3 U U<|fun i9=>z2<|aN 6 U<|zj j8 U U U U U U .t1 U<|z2<|aN 7 U<|zj j8 U U U U U U .head U<|zd (za (zc .head))<|zd (za (zc .t1))<|z2<|bI ?_
      exact ⟨(i8,i9),bW,b7,aE,trivial⟩
     ·refine zu (cs:=[.int .i64 0,.int .i64 0]) Z3 U U<|fun i9=>z2<|yj (i:=3) (j:=6) U U (by kernel_rfl) ?_ ?_
      ·refine z8 (yo (l:=[_,_]) jk j8 U ⟨_,.t2⟩ U U)<|z2<|aN 6 U<|zj j8 U U U U U U .t1 U<|z2<|aN 7 U<|zj j8 U U U U U U .head U<|zd (za (zc .head))<|zd (za (zc .t1))<|z2<|bI ?_
       exact ⟨(i8,i9),bW,b7,aE,trivial⟩
      ·refine zj j8 U U U U U U .t1 U<|z2<|aN 3 U<|z8 (yo (l:=[_,_]) jk j8 U ⟨_,.t2⟩ U U)<|z2<|aN 7 U<|zj j8 U U U U U U .head U<|zd (za (zc .head))<|zd (za (zc .t1))<|z2<|bI ?_
       exact ⟨(i8,i9),bW,b7,aE,trivial⟩
    ·refine zu (cs:=[.int .i64 0,.int .i64 0]) Z3 U U<|fun i9=>z2<|yj (i:=3) (j:=4) U U (by kernel_rfl) ?_ ?_
     ·refine z8 (yo (l:=[_,_]) jk j8 U ⟨_,.t1⟩ U U)<|z2<|aN 4 U<|zu (cs:=[.int .i64 0,.int .i64 0]) Z3 U U<|fun i8=>z2<|aN 6 U<|zj j8 U U U U U U .head U<|z2<|aN 7 U<|zj j8 U U U U U U .t1 U<|z2<|bI ?_
      exact ⟨(i8,i9),bW,b7,aE,trivial⟩
     ·refine zu (cs:=[.int .i64 0,.int .i64 0]) Z3 U U<|fun i8=>z2<|yj (i:=3) (j:=6) U U (by kernel_rfl) ?_ ?_
      ·refine z8 (yo (l:=[_,_]) jk j8 U ⟨_,.t2⟩ U U)<|z2<|aN 6 U<|zj j8 U U U U U U .head U<|z2<|aN 7 U<|zj j8 U U U U U U .t1 U<|z2<|bI ?_
       exact ⟨(i8,i9),bW,b7,aE,trivial⟩
      ·refine zj j8 U U U U U U .head U<|z2<|aN 3 U<|z8 (yo (l:=[_,_]) jk j8 U ⟨_,.t2⟩ U U)<|z2<|aN 7 U<|zj j8 U U U U U U .t1 U<|z2<|bI ?_
       exact ⟨(i8,i9),bW,b7,aE,trivial⟩
   ·refine z8 (yo (l:=[_,_]) jk j8 U ⟨_,.head⟩ U U)<|z2<|qk (i:=1) (j:=4) (m:=5) U U U (by kernel_rfl) ?_ ?_ ?_
    ·refine z8 (yo (l:=[_,_]) jk j8 U ⟨_,.head⟩ U U)<|z2<|yj (i:=4) (j:=5) U U (by kernel_rfl) ?_ ?_
     ·refine zu (cs:=[.int .i64 0,.int .i64 0]) Z3 U U<|fun i8=>z2<|aN 5 U<|zu (cs:=[.int .i64 0,.int .i64 0]) Z3 U U<|fun i9=>z2<|aN 6 U<|zj j8 U U U U U U .t1 U<|z2<|aN 7 U<|zj j8 U U U U U U .head U<|zd (za (zc .head))<|zd (za (zc .t1))<|z2<|bI ?_
      exact ⟨(i8,i9),bW,b7,aE,trivial⟩
     ·refine zu (cs:=[.int .i64 0,.int .i64 0]) Z3 U U<|fun i9=>z2<|aN 4 U<|zu (cs:=[.int .i64 0,.int .i64 0]) Z3 U U<|fun i8=>z2<|aN 6 U<|zj j8 U U U U U U .head U<|z2<|aN 7 U<|zj j8 U U U U U U .t1 U<|z2<|bI ?_
      exact ⟨(i8,i9),bW,b7,aE,trivial⟩
    ·refine zu (cs:=[.int .i64 0,.int .i64 0]) Z3 U U<|fun i8=>z2<|yj (i:=1) (j:=5) U U (by kernel_rfl) ?_ ?_
     ·refine z8 (yo (l:=[_,_]) jk j8 U ⟨_,.t1⟩ U U)<|z2<|aN 5 U<|zu (cs:=[.int .i64 0,.int .i64 0]) Z3 U U<|fun i9=>z2<|aN 6 U<|zj j8 U U U U U U .t1 U<|z2<|aN 7 U<|zj j8 U U U U U U .head U<|zd (za (zc .head))<|zd (za (zc .t1))<|z2<|bI ?_
      exact ⟨(i8,i9),bW,b7,aE,trivial⟩
     ·refine zu (cs:=[.int .i64 0,.int .i64 0]) Z3 U U<|fun i9=>z2<|aN 1 U<|z8 (yo (l:=[_,_]) jk j8 U ⟨_,.t2⟩ U U)<|z2<|aN 6 U<|zj j8 U U U U U U .t1 U<|z2<|aN 7 U<|zj j8 U U U U U U .head U<|zd (za (zc .head))<|zd (za (zc .t1))<|z2<|bI ?_
      exact ⟨(i8,i9),bW,b7,aE,trivial⟩
    ·refine zu (cs:=[.int .i64 0,.int .i64 0]) Z3 U U<|fun i9=>z2<|yj (i:=1) (j:=4) U U (by kernel_rfl) ?_ ?_
     ·refine z8 (yo (l:=[_,_]) jk j8 U ⟨_,.t1⟩ U U)<|z2<|aN 4 U<|zu (cs:=[.int .i64 0,.int .i64 0]) Z3 U U<|fun i8=>z2<|aN 6 U<|zj j8 U U U U U U .head U<|z2<|aN 7 U<|zj j8 U U U U U U .t1 U<|z2<|bI ?_
      exact ⟨(i8,i9),bW,b7,aE,trivial⟩
     ·refine zu (cs:=[.int .i64 0,.int .i64 0]) Z3 U U<|fun i8=>z2<|aN 1 U<|z8 (yo (l:=[_,_]) jk j8 U ⟨_,.t2⟩ U U)<|z2<|aN 6 U<|zj j8 U U U U U U .head U<|z2<|aN 7 U<|zj j8 U U U U U U .t1 U<|z2<|bI ?_
      exact ⟨(i8,i9),bW,b7,aE,trivial⟩
   ·refine zu (cs:=[.int .i64 0,.int .i64 0]) Z3 U U<|fun i8=>z2<|qk (i:=1) (j:=3) (m:=5) U U U (by kernel_rfl) ?_ ?_ ?_
    ·refine z8 (yo (l:=[_,_]) jk j8 U ⟨_,.t1⟩ U U)<|z2<|yj (i:=3) (j:=5) U U (by kernel_rfl) ?_ ?_
     ·refine z8 (yo (l:=[_,_]) jk j8 U ⟨_,.t1⟩ U U)<|z2<|aN 5 U<|zu (cs:=[.int .i64 0,.int .i64 0]) Z3 U U<|fun i9=>z2<|aN 6 U<|zj j8 U U U U U U .t1 U<|z2<|aN 7 U<|zj j8 U U U U U U .head U<|zd (za (zc .head))<|zd (za (zc .t1))<|z2<|bI ?_
      exact ⟨(i8,i9),bW,b7,aE,trivial⟩
     ·refine zu (cs:=[.int .i64 0,.int .i64 0]) Z3 U U<|fun i9=>z2<|yj (i:=3) (j:=6) U U (by kernel_rfl) ?_ ?_
      ·refine z8 (yo (l:=[_,_]) jk j8 U ⟨_,.t2⟩ U U)<|z2<|aN 6 U<|zj j8 U U U U U U .t1 U<|z2<|aN 7 U<|zj j8 U U U U U U .head U<|zd (za (zc .head))<|zd (za (zc .t1))<|z2<|bI ?_
       exact ⟨(i8,i9),bW,b7,aE,trivial⟩
      ·refine zj j8 U U U U U U .t1 U<|z2<|aN 3 U<|z8 (yo (l:=[_,_]) jk j8 U ⟨_,.t2⟩ U U)<|z2<|aN 7 U<|zj j8 U U U U U U .head U<|zd (za (zc .head))<|zd (za (zc .t1))<|z2<|bI ?_
       exact ⟨(i8,i9),bW,b7,aE,trivial⟩
    ·refine z8 (yo (l:=[_,_]) jk j8 U ⟨_,.t1⟩ U U)<|z2<|yj (i:=1) (j:=5) U U (by kernel_rfl) ?_ ?_
     ·refine z8 (yo (l:=[_,_]) jk j8 U ⟨_,.t1⟩ U U)<|z2<|aN 5 U<|zu (cs:=[.int .i64 0,.int .i64 0]) Z3 U U<|fun i9=>z2<|aN 6 U<|zj j8 U U U U U U .t1 U<|z2<|aN 7 U<|zj j8 U U U U U U .head U<|zd (za (zc .head))<|zd (za (zc .t1))<|z2<|bI ?_
      exact ⟨(i8,i9),bW,b7,aE,trivial⟩
     ·refine zu (cs:=[.int .i64 0,.int .i64 0]) Z3 U U<|fun i9=>z2<|aN 1 U<|z8 (yo (l:=[_,_]) jk j8 U ⟨_,.t2⟩ U U)<|z2<|aN 6 U<|zj j8 U U U U U U .t1 U<|z2<|aN 7 U<|zj j8 U U U U U U .head U<|zd (za (zc .head))<|zd (za (zc .t1))<|z2<|bI ?_
      exact ⟨(i8,i9),bW,b7,aE,trivial⟩
    ·refine zu (cs:=[.int .i64 0,.int .i64 0]) Z3 U U<|fun i9=>z2<|yj (i:=1) (j:=3) U U (by kernel_rfl) ?_ ?_
     ·refine z8 (yo (l:=[_,_]) jk j8 U ⟨_,.t2⟩ U U)<|z2<|yj (i:=3) (j:=6) U U (by kernel_rfl) ?_ ?_
      ·refine z8 (yo (l:=[_,_]) jk j8 U ⟨_,.t2⟩ U U)<|z2<|aN 6 U<|zj j8 U U U U U U .t1 U<|z2<|aN 7 U<|zj j8 U U U U U U .head U<|zd (za (zc .head))<|zd (za (zc .t1))<|z2<|bI ?_
       exact ⟨(i8,i9),bW,b7,aE,trivial⟩
      ·refine zj j8 U U U U U U .t1 U<|z2<|aN 3 U<|z8 (yo (l:=[_,_]) jk j8 U ⟨_,.t2⟩ U U)<|z2<|aN 7 U<|zj j8 U U U U U U .head U<|zd (za (zc .head))<|zd (za (zc .t1))<|z2<|bI ?_
       exact ⟨(i8,i9),bW,b7,aE,trivial⟩
     ·refine z8 (yo (l:=[_,_]) jk j8 U ⟨_,.t2⟩ U U)<|z2<|aN 1 U<|z8 (yo (l:=[_,_]) jk j8 U ⟨_,.t2⟩ U U)<|z2<|aN 6 U<|zj j8 U U U U U U .t1 U<|z2<|aN 7 U<|zj j8 U U U U U U .head U<|zd (za (zc .head))<|zd (za (zc .t1))<|z2<|bI ?_
      exact ⟨(i8,i9),bW,b7,aE,trivial⟩
   ·refine zu (cs:=[.int .i64 0,.int .i64 0]) Z3 U U<|fun i9=>z2<|qk (i:=1) (j:=3) (m:=4) U U U (by kernel_rfl) ?_ ?_ ?_
    ·refine z8 (yo (l:=[_,_]) jk j8 U ⟨_,.t1⟩ U U)<|z2<|yj (i:=3) (j:=4) U U (by kernel_rfl) ?_ ?_
     ·refine z8 (yo (l:=[_,_]) jk j8 U ⟨_,.t1⟩ U U)<|z2<|aN 4 U<|zu (cs:=[.int .i64 0,.int .i64 0]) Z3 U U<|fun i8=>z2<|aN 6 U<|zj j8 U U U U U U .head U<|z2<|aN 7 U<|zj j8 U U U U U U .t1 U<|z2<|bI ?_
      exact ⟨(i8,i9),bW,b7,aE,trivial⟩
     ·refine zu (cs:=[.int .i64 0,.int .i64 0]) Z3 U U<|fun i8=>z2<|yj (i:=3) (j:=6) U U (by kernel_rfl) ?_ ?_
      ·refine z8 (yo (l:=[_,_]) jk j8 U ⟨_,.t2⟩ U U)<|z2<|aN 6 U<|zj j8 U U U U U U .head U<|z2<|aN 7 U<|zj j8 U U U U U U .t1 U<|z2<|bI ?_
       exact ⟨(i8,i9),bW,b7,aE,trivial⟩
      ·refine zj j8 U U U U U U .head U<|z2<|aN 3 U<|z8 (yo (l:=[_,_]) jk j8 U ⟨_,.t2⟩ U U)<|z2<|aN 7 U<|zj j8 U U U U U U .t1 U<|z2<|bI ?_
       exact ⟨(i8,i9),bW,b7,aE,trivial⟩
    ·refine z8 (yo (l:=[_,_]) jk j8 U ⟨_,.t1⟩ U U)<|z2<|yj (i:=1) (j:=4) U U (by kernel_rfl) ?_ ?_
     ·refine z8 (yo (l:=[_,_]) jk j8 U ⟨_,.t1⟩ U U)<|z2<|aN 4 U<|zu (cs:=[.int .i64 0,.int .i64 0]) Z3 U U<|fun i8=>z2<|aN 6 U<|zj j8 U U U U U U .head U<|z2<|aN 7 U<|zj j8 U U U U U U .t1 U<|z2<|bI ?_
      exact ⟨(i8,i9),bW,b7,aE,trivial⟩
     ·refine zu (cs:=[.int .i64 0,.int .i64 0]) Z3 U U<|fun i8=>z2<|aN 1 U<|z8 (yo (l:=[_,_]) jk j8 U ⟨_,.t2⟩ U U)<|z2<|aN 6 U<|zj j8 U U U U U U .head U<|z2<|aN 7 U<|zj j8 U U U U U U .t1 U<|z2<|bI ?_
      exact ⟨(i8,i9),bW,b7,aE,trivial⟩
    ·refine zu (cs:=[.int .i64 0,.int .i64 0]) Z3 U U<|fun i8=>z2<|yj (i:=1) (j:=3) U U (by kernel_rfl) ?_ ?_
     ·refine z8 (yo (l:=[_,_]) jk j8 U ⟨_,.t2⟩ U U)<|z2<|yj (i:=3) (j:=6) U U (by kernel_rfl) ?_ ?_
      ·refine z8 (yo (l:=[_,_]) jk j8 U ⟨_,.t2⟩ U U)<|z2<|aN 6 U<|zj j8 U U U U U U .head U<|z2<|aN 7 U<|zj j8 U U U U U U .t1 U<|z2<|bI ?_
       exact ⟨(i8,i9),bW,b7,aE,trivial⟩
      ·refine zj j8 U U U U U U .head U<|z2<|aN 3 U<|z8 (yo (l:=[_,_]) jk j8 U ⟨_,.t2⟩ U U)<|z2<|aN 7 U<|zj j8 U U U U U U .t1 U<|z2<|bI ?_
       exact ⟨(i8,i9),bW,b7,aE,trivial⟩
     ·refine z8 (yo (l:=[_,_]) jk j8 U ⟨_,.t2⟩ U U)<|z2<|aN 1 U<|z8 (yo (l:=[_,_]) jk j8 U ⟨_,.t2⟩ U U)<|z2<|aN 6 U<|zj j8 U U U U U U .head U<|z2<|aN 7 U<|zj j8 U U U U U U .t1 U<|z2<|bI ?_
      exact ⟨(i8,i9),bW,b7,aE,trivial⟩
  ·rintro ⟨i8,i9⟩ _
   refine y7 (y8 (t:=8) U .head)<|y7 (y8 (t:=9) U .head)<|y7 (qf .head)<|zb<|ae<|ak jd U Zs U U<|aA Y2 U<|z2<|zi<|ae<|ao U U<|ad U<|z2<|zn U (fun c0=>?_) (fun c0=>?_)
   ·refine ae<|ak jd U Z1 U U<|aA Zc U<|ze (I2 _) U<|zj j8 U U U U U U .head U<|z2<|zg<|ym U ⟨_,.head⟩ jk j8 U ?_
    exact ⟨by rw[if_pos c0];rfl,.d1⟩
   ·rw[if_neg c0]
    refine zb<|ae<|ao U U<|ad U<|z2<|yb (γ:=Bool) [0,3,4,8,9,35] (fun u=>[(41,.bool u)]) (fun u=>[(i4,.cells 63 [.int .i64 0,.int .i64 0]),(i,HL)]) (fun u=>u=decide (x.op=1∨x.op=12)) ?_ (fun _ _ h=>h) ?_
    ·refine zw U (fun c1=>?_) (fun c1=>?_)
     ·refine zf ?_
      exact ⟨_,oB,aL,aE,by simp_all⟩
     ·refine aW<|ao U U<|ad U<|z2 ?_
      exact ⟨_,oB,aL,aE,by simp_all⟩
    ·rintro u hu
     subst hu
     refine zn U (fun c1=>?_) (fun c1=>?_)
     ·refine ae<|ac jk j8 U U<|zj j8 U U U U U U .head U<|z2<|zg<|ym U ⟨_,.head⟩ jk j8 U ?_
      exact ⟨by rw[if_pos c1];rfl,.d1⟩
     ·rw[if_neg c1]
      refine zb<|ae<|ao U U<|ad U<|z2<|yb (γ:=Bool) [0,3,4,8,9,35] (fun u=>[(45,.bool u)]) (fun u=>[(i4,.cells 63 [.int .i64 0,.int .i64 0]),(i,HL)]) (fun u=>u=decide (x.op=2∨x.op=3∨x.op=4)) ?_ (fun _ _ h=>h) ?_
      ·refine zw U (fun c2=>?_) (fun c2=>?_)
       ·refine zf ?_
        exact ⟨_,oB,aL,aE,by simp_all⟩
       ·refine ae<|ao U U<|ad U<|z2<|zw U (fun c3=>?_) (fun c3=>?_)
        ·refine zf ?_
         exact ⟨_,oB,aL,aE,by simp_all⟩
        ·refine aW<|ao U U<|ad U<|z2 ?_
         exact ⟨_,oB,aL,aE,by simp_all⟩
      ·rintro u hu
       subst hu
       refine zn U (fun c2=>?_) (fun c2=>?_)
       ·have hl1:rs.length=2:=by rw[hl];rcases c2 with c|c|c<;>rw[c]<;>rfl
        obtain ⟨ha,na⟩:=hokr.at (i:=0) (by omega)
        obtain ⟨hb,nb⟩:=hokr.at (i:=1) (by omega)
        obtain ⟨k,hk,hk2⟩:=A5 c2
        have hd0:=hd c2
        refine ae<|z8 (yt (v:=_) U)<|ac Yj Za U U<|ac jk j8 U U<|ac jk j8 U U<|ze (DK f chk Lv x ha hb hd0 (h1 hd0)) U<|zj j8 U U U U U U .head U<|z2<|zg<|ym U ⟨_,.head⟩ jk j8 U ?_
        exact ⟨J9 (by rw[DL hk hk2 na nb];rcases (by omega:k=0∨k=1∨k=2) with rfl|rfl|rfl;rw[if_pos (by omega)];rw[if_neg (by omega),if_pos (by omega)];rw[if_neg (by omega),if_neg (by omega),if_pos (by omega)]),.d1⟩
       ·rw[if_neg (by omega),if_neg (by omega),if_neg (by omega)]
        refine zb<|ae<|ao U U<|ad U<|z2<|yb (γ:=Bool) [3,4,8,9,35] (fun u=>[(54,.bool u)]) (fun u=>[(i4,.cells 63 [.int .i64 0,.int .i64 0]),(i,HL)]) (fun u=>u=decide (x.op=5∨x.op=6)) ?_ (fun _ _ h=>h) ?_
        ·refine zw U (fun c4=>?_) (fun c4=>?_)
         ·refine zf ?_
          exact ⟨_,mI,aL,aE,by simp_all⟩
         ·refine aW<|ao U U<|ad U<|z2 ?_
          exact ⟨_,mI,aL,aE,by simp_all⟩
        ·rintro u hu
         subst hu
         refine zn U (fun c5=>?_) (fun c5=>?_)
         ·have hl1:rs.length=2:=by rw[hl];rcases c5 with c|c<;>rw[c]<;>rfl
          obtain ⟨ha,na⟩:=hokr.at (i:=0) (by omega)
          obtain ⟨hb,nb⟩:=hokr.at (i:=1) (by omega)
          refine ae<|ak jd U Zs U U<|aA Y2 U<|ac jk j8 U U<|ac jk j8 U U<|ze (A7 x.op ha hb) U<|zj j8 U U U U U U .head U<|z2<|zg<|ym U ⟨_,.head⟩ jk j8 U ?_
          exact ⟨J9 (by rcases c5 with c|c;rw[if_pos c,c,Ka ha hb na nb];rw[if_neg (by omega),if_pos c,c,Kb na nb]),.d1⟩
         ·rw[if_neg (by omega),if_neg (by omega)]
          refine zb<|ae<|ao U U<|ad U<|z2<|yb (γ:=Bool) [3,4,8,9,35] (fun u=>[(62,.bool u)]) (fun u=>[(i4,.cells 63 [.int .i64 0,.int .i64 0]),(i,HL)]) (fun u=>u=decide (x.op=7∨x.op=8∨x.op=9)) ?_ (fun _ _ h=>h) ?_
          ·refine zw U (fun c5=>?_) (fun c5=>?_)
           ·refine zf ?_
            exact ⟨_,mI,aL,aE,by simp_all⟩
           ·refine ae<|ao U U<|ad U<|z2<|zw U (fun c6=>?_) (fun c6=>?_)
            ·refine zf ?_
             exact ⟨_,mI,aL,aE,by simp_all⟩
            ·refine aW<|ao U U<|ad U<|z2 ?_
             exact ⟨_,mI,aL,aE,by simp_all⟩
          ·rintro u hu
           subst hu
           refine zn U (fun c7=>?_) (fun c7=>?_)
           ·have hl1:rs.length=2:=by rw[hl];rcases c7 with c|c|c<;>rw[c]<;>rfl
            obtain ⟨ha,na⟩:=hokr.at (i:=0) (by omega)
            obtain ⟨hb,nb⟩:=hokr.at (i:=1) (by omega)
            refine ae<|ak jd U Zs U U<|aA Y2 U<|ac jk j8 U U<|ac jk j8 U U<|ze (J4 x.op (ra rs 0) (ra rs 1)) U<|zj j8 U U U U U U .head U<|z2<|zg<|ym U ⟨_,.head⟩ jk j8 U ?_
            exact ⟨J9 (by rcases c7 with c|c|c;rw[if_pos c,c,JE na nb];rw[if_neg (by omega),if_pos c,c,JF na nb];rw[if_neg (by omega),if_neg (by omega),if_pos c,c,JG na nb]),.d1⟩
           ·rw[if_neg (by omega),if_neg (by omega),if_neg (by omega)]
            refine ae<|ao U U<|ad U<|z2<|zn U (fun c10=>?_) (fun c10=>?_)
            ·have hl1:rs.length=1:=by rw[hl,c10];rfl
             obtain ⟨ha,na⟩:=hokr.at (i:=0) (by omega)
             obtain ⟨hb1,hb2⟩:=hbl (.inl c10) 0 (by omega)
             refine ae<|ak jz U Z1 U U<|aA Zc U<|z8 (Gv.sub U U (by unfold lz;omega))<|ak jz U Z1 U U<|aA Zc U<|z8 (Gv.sub U U (by unfold lz;omega))<|z8 (zz (cps:=[(0,[_]),(1,[_])]) (rs:=[_,_]) mL U U U)<|zj j8 U U U U U U .head U<|z2<|zg<|ym U ⟨_,.head⟩ jk j8 U ?_
             exact ⟨by rw[if_pos c10,←HH na hb1 hb2];rfl,.d1⟩
            ·rw[if_neg c10]
             refine ae<|ao U U<|ad U<|z2<|zn U (fun c11=>?_) (fun c11=>?_)
             ·have hl1:rs.length=2:=by rw[hl,c11];rfl
              obtain ⟨ha,na⟩:=hokr.at (i:=0) (by omega)
              obtain ⟨hb,nb⟩:=hokr.at (i:=1) (by omega)
              obtain ⟨hb1,hb2⟩:=hbl (.inr c11) 0 (by omega)
              obtain ⟨hb3,hb4⟩:=hbl (.inr c11) 1 (by omega)
              refine ae<|ak jz U Z1 U U<|aA Zc U<|ak jz U Z1 U U<|aA Zc U<|z8 (Gv.minI U U)<|ak jz U Z1 U U<|aA Zc U<|ak jz U Z1 U U<|aA Zc U<|z8 (Gv.minI U U)<|z8 (zz (cps:=[(0,[_]),(1,[_])]) (rs:=[_,_]) mL U U U)<|zj j8 U U U U U U .head U<|z2<|zg<|ym U ⟨_,.head⟩ jk j8 U ?_
              exact ⟨by rw[if_pos c11,←HI na nb hb1 hb2 hb3 hb4];rfl,.d1⟩
             ·rw[if_neg c11]
              refine ae<|ao U U<|ad U<|z2<|zn U (fun c15=>?_) (fun c15=>?_)
              ·refine zb<|zr (fun j=>Nat.beq j 3) (by kernel_rfl) U (zo (.rest _))<|ai 0 U (yp jk j8 U U)<|aN 1 U<|ze (EU _) U<|z2<|aN 2 U<|ze (pm (ra rs 0) (gU 2)) U<|z2<|yc<|yk (i:=3) U (by kernel_rfl) (by kernel_rfl)<|zj j8 U U U U U U .head U<|z2<|yf (by kernel_rfl)<|zg<|ym U ⟨_,.head⟩ jk j8 U ?_
               exact ⟨by rw[if_pos c15];rfl,.d1⟩
              ·rw[if_neg c15]
               refine ae<|ao U U<|ad U<|z2<|zn U (fun c16=>?_) (fun c16=>?_)
               ·refine ae<|ze (I2 _) U<|zj j8 U U U U U U .head U<|z2<|zg<|ym U ⟨_,.head⟩ jk j8 U ?_
                exact ⟨J9 (by rw[if_pos c16]),.d1⟩
               ·rw[if_neg c16]
                refine ae<|ao U U<|ad U<|z2<|zn U (fun c25=>?_) (fun c25=>?_)
                ·have hl1:rs.length=2:=by rw[hl,c25];rfl
                 obtain ⟨ha,na⟩:=hokr.at (i:=0) (by omega)
                 obtain ⟨hb,nb⟩:=hokr.at (i:=1) (by omega)
                 refine ae<|ak jd U Z1 U U<|aA Zc U<|ac jk j8 U U<|ac jk j8 U U<|ze (Lq x.num hb) U<|zj j8 U U U U U U .head U<|z2<|zg<|ym U ⟨_,.head⟩ jk j8 U ?_
                 exact ⟨J9 (by rw[if_pos c25,BR ha na nb]),.d1⟩
                ·rw[if_neg c25]
                 refine ae<|ao U U<|ad U<|z2<|zn U (fun c26=>?_) (fun c26=>?_)
                 ·have hl1:rs.length=2:=by rw[hl,c26];rfl
                  obtain ⟨ha,na⟩:=hokr.at (i:=0) (by omega)
                  obtain ⟨hb,nb⟩:=hokr.at (i:=1) (by omega)
                  refine zb<|zr (fun j=>Nat.beq j 5) (by kernel_rfl) U (zo (.rest _))<|ai 0 U (yp jk j8 U U)<|ai 1 U (zz (cps:=[(0,[_]),(1,[_])]) (rs:=[_,_]) mL U U U)<|ai 3 U (yp jk j8 U U)<|aN 2 U<|ze (pm (ra rs 0) (0,ig)) U<|z2<|aN 4 U<|ze (Lq 0 hb) U<|z2<|yc<|yk (i:=5) U (by kernel_rfl) (by kernel_rfl)<|zj j8 U U U U U U .head U<|z2<|yf (by kernel_rfl)<|zg<|ym U ⟨_,.head⟩ jk j8 U ?_
                  exact ⟨J9 (by rw[if_pos c26,Ie (wQ ha ⟨by decide,by decide⟩) (DD _ _) nb]),.d1⟩
                 ·refine zf<|ae<|ze (ET) U<|zj j8 U U U U U U .head U<|z2<|zg<|ym U ⟨_,.head⟩ jk j8 U ?_
                  exact ⟨J9 (by rw[if_neg c26]),.d1⟩
end
end Go.Proofs.YtbbonnfjealmpaaGreatDoor
