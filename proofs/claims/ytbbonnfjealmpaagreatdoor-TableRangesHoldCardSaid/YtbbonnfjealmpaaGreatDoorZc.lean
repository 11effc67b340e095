/- A slice of one's own, cut to its first part. No conditions but bounds. -/
import Derived.Test.YtbbonnfjealmpaaGreatDoorZb
import Derived.Test.YtbbonnfjealmpaaGreatDoorChecked
import Derived.Laws.BytesArg
import Derived.ProofKit
import Derived.OpenShut
import Derived.Deep.Matrix
import Derived.Lib.LaidU8
import Derived.Lib.LaidTab
import Derived.MapKept
import Derived.WideMake
import Derived.Laws.Cover4
import Derived.WideLaws
import Derived.Lib.AppendZeros
import Derived.Lib.Builder
import Derived.Lib.AppendStr
import Derived.Lib.UnsafeStr
import Derived.Laws.Externs
set_option linter.unusedVariables false
set_option linter.unusedSimpArgs false
set_option linter.unusedSectionVars false
namespace Go.Proofs.YtbbonnfjealmpaaGreatDoor
section
open Go.Proofs.Tryz
open Go.Proofs
theorem ed:em prog 254 #[(0,1),(1,1),(2,1)] [.e,.e,.e]:=⟨_,_,underlying254,zeroValue254,fun w=>by kernel_rfl,rfl⟩
theorem K6:kE prog 278 3 [.e,.e,.e,.e,.e,.e,.e,.e,.e,.e,.e,.e,.e,.e,.e,.e,.e,.e,.e,.e,.e,.e,.e,.e,.e,.e,.e,.e,.e,.e,.e,.e,.e,.e,.e,.e,.e,.e,.e,.e,.e,.e,.e,.e,.e,.e,.e,.e,.e,.e,.e,.e,.e,.e,.e,.e,.e,.e,.e,.e,.e,.e,.e,.e,.e,.e,.e,.e,.e,.e,.e,.e,.e,.e,.e,.e,.e,.e,.e,.e,.e]:=⟨_,_,_,underlying278,zeroValue278,sizeOf254,rfl⟩
variable {E:World}
set_option maxRecDepth 20000
def gS:List (ByteArray × ByteArray × ByteArray):=[(⟨#[99,111,110,115,116]⟩,⟨#[]⟩,⟨#[105]⟩),
 (⟨#[99,111,112,121]⟩,⟨#[105]⟩,⟨#[105]⟩),
 (⟨#[97,100,100]⟩,⟨#[105,105]⟩,⟨#[105]⟩),
 (⟨#[115,117,98]⟩,⟨#[105,105]⟩,⟨#[105]⟩),
 (⟨#[109,117,108]⟩,⟨#[105,105]⟩,⟨#[105]⟩),
 (⟨#[100,105,118]⟩,⟨#[105,105]⟩,⟨#[105]⟩),
 (⟨#[114,101,109]⟩,⟨#[105,105]⟩,⟨#[105]⟩),
 (⟨#[101,113]⟩,⟨#[105,105]⟩,⟨#[98]⟩),
 (⟨#[108,116]⟩,⟨#[105,105]⟩,⟨#[98]⟩),
 (⟨#[108,101]⟩,⟨#[105,105]⟩,⟨#[98]⟩),
 (⟨#[110,111,116]⟩,⟨#[98]⟩,⟨#[98]⟩),
 (⟨#[97,110,100]⟩,⟨#[98,98]⟩,⟨#[98]⟩),
 (⟨#[108,101,110]⟩,⟨#[97]⟩,⟨#[105]⟩),
 (⟨#[108,111,97,100]⟩,⟨#[97,105]⟩,⟨#[105]⟩),
 (⟨#[115,116,111,114,101]⟩,⟨#[97,105,105]⟩,⟨#[]⟩),
 (⟨#[110,101,119]⟩,⟨#[105]⟩,⟨#[97]⟩),
 (⟨#[110,105,108]⟩,⟨#[]⟩,⟨#[97]⟩),
 (⟨#[111,117,116]⟩,⟨#[105]⟩,⟨#[]⟩),
 (⟨#[99,104,107,105,100,120]⟩,⟨#[97,105]⟩,⟨#[]⟩),
 (⟨#[99,104,107,110,105,108]⟩,⟨#[97]⟩,⟨#[]⟩),
 (⟨#[99,104,107,100,105,118]⟩,⟨#[105]⟩,⟨#[]⟩),
 (⟨#[99,104,107,97,100,100]⟩,⟨#[105,105]⟩,⟨#[]⟩),
 (⟨#[99,104,107,115,117,98]⟩,⟨#[105,105]⟩,⟨#[]⟩),
 (⟨#[99,104,107,109,117,108]⟩,⟨#[105,105]⟩,⟨#[]⟩),
 (⟨#[99,104,107,108,101,110]⟩,⟨#[105]⟩,⟨#[]⟩),
 (⟨#[112,105]⟩,⟨#[105,105]⟩,⟨#[105]⟩),
 (⟨#[112,105,108,101,110]⟩,⟨#[105,97]⟩,⟨#[105]⟩)]
def cH (op:Int):ByteArray × ByteArray × ByteArray:=if 0≤op then gS[op.toNat]?.getD (⟨#[]⟩,⟨#[]⟩,⟨#[]⟩) else (⟨#[]⟩,⟨#[]⟩,⟨#[]⟩)
def tw (op:Int):Bool:=decide (0≤op)&&decide (op<27)
def tx (r:ByteArray × ByteArray × ByteArray):List AV:=[.str r.1,.str r.2.1,.str r.2.2]
theorem Hr (op:Int):aP prog E 217 [.int .i64 op] (.bool (tw op)):=by
 refine zp func217 U (by decide) U<|ae<|ad U<|z2<|ae<|aa U<|z8 (q9 U U)<|aq U<|zt (s:=5) U (fun c1=>?_) (fun c1=>?_)
 ·refine z7 U U c1<|aa U<|z7 U U c1<|ap U U<|au U c1 U<|ad U<|z2<|zg<|zm (x:=.bool _) U ?_
  simp_all[tw]<;>omega
 ·refine z6 U U c1<|z6 U U c1<|aw U c1 U<|ad U<|z2<|zg<|zm (x:=.bool _) U ?_
  simp_all[tw]<;>omega
set_option maxHeartbeats 4000000 in
theorem Ai:aP prog E 218 [] (.agg (gS.flatMap tx)):=by
 refine zp func218 U (by decide) U<|ae<|zu (cs:=[.e,.e,.e,.e,.e,.e,.e,.e,.e,.e,.e,.e,.e,.e,.e,.e,.e,.e,.e,.e,.e,.e,.e,.e,.e,.e,.e,.e,.e,.e,.e,.e,.e,.e,.e,.e,.e,.e,.e,.e,.e,.e,.e,.e,.e,.e,.e,.e,.e,.e,.e,.e,.e,.e,.e,.e,.e,.e,.e,.e,.e,.e,.e,.e,.e,.e,.e,.e,.e,.e,.e,.e,.e,.e,.e,.e,.e,.e,.e,.e,.e]) zeroValue278 U U<|fun i0=>z2<|ae<|z8 (zz (cps:=[(0,[_]),(1,[_]),(2,[_])]) (rs:=[_,_,_]) ed U U U)<|z8 (zz (cps:=[(0,[_]),(1,[_]),(2,[_])]) (rs:=[_,_,_]) ed U U U)<|z8 (zz (cps:=[(0,[_]),(1,[_]),(2,[_])]) (rs:=[_,_,_]) ed U U U)<|z8 (zz (cps:=[(0,[_]),(1,[_]),(2,[_])]) (rs:=[_,_,_]) ed U U U)<|z8 (zz (cps:=[(0,[_]),(1,[_]),(2,[_])]) (rs:=[_,_,_]) ed U U U)<|z8 (zz (cps:=[(0,[_]),(1,[_]),(2,[_])]) (rs:=[_,_,_]) ed U U U)<|z8 (zz (cps:=[(0,[_]),(1,[_]),(2,[_])]) (rs:=[_,_,_]) ed U U U)<|z8 (zz (cps:=[(0,[_]),(1,[_]),(2,[_])]) (rs:=[_,_,_]) ed U U U)<|z8 (zz (cps:=[(0,[_]),(1,[_]),(2,[_])]) (rs:=[_,_,_]) ed U U U)<|z8 (zz (cps:=[(0,[_]),(1,[_]),(2,[_])]) (rs:=[_,_,_]) ed U U U)<|z8 (zz (cps:=[(0,[_]),(1,[_]),(2,[_])]) (rs:=[_,_,_]) ed U U U)<|z8 (zz (cps:=[(0,[_]),(1,[_]),(2,[_])]) (rs:=[_,_,_]) ed U U U)<|z8 (zz (cps:=[(0,[_]),(1,[_]),(2,[_])]) (rs:=[_,_,_]) ed U U U)<|z8 (zz (cps:=[(0,[_]),(1,[_]),(2,[_])]) (rs:=[_,_,_]) ed U U U)<|z8 (zz (cps:=[(0,[_]),(1,[_]),(2,[_])]) (rs:=[_,_,_]) ed U U U)<|z8 (zz (cps:=[(0,[_]),(1,[_]),(2,[_])]) (rs:=[_,_,_]) ed U U U)<|z8 (zz (cps:=[(0,[_]),(1,[_]),(2,[_])]) (rs:=[_,_,_]) ed U U U)<|z8 (zz (cps:=[(0,[_]),(1,[_]),(2,[_])]) (rs:=[_,_,_]) ed U U U)<|z8 (zz (cps:=[(0,[_]),(1,[_]),(2,[_])]) (rs:=[_,_,_]) ed U U U)<|z8 (zz (cps:=[(0,[_]),(1,[_]),(2,[_])]) (rs:=[_,_,_]) ed U U U)<|z8 (zz (cps:=[(0,[_]),(1,[_]),(2,[_])]) (rs:=[_,_,_]) ed U U U)<|z8 (zz (cps:=[(0,[_]),(1,[_]),(2,[_])]) (rs:=[_,_,_]) ed U U U)<|z8 (zz (cps:=[(0,[_]),(1,[_]),(2,[_])]) (rs:=[_,_,_]) ed U U U)<|z8 (zz (cps:=[(0,[_]),(1,[_]),(2,[_])]) (rs:=[_,_,_]) ed U U U)<|z8 (zz (cps:=[(0,[_]),(1,[_]),(2,[_])]) (rs:=[_,_,_]) ed U U U)<|z8 (zz (cps:=[(0,[_]),(1,[_]),(2,[_])]) (rs:=[_,_,_]) ed U U U)<|z8 (zz (cps:=[(0,[_]),(1,[_]),(2,[_])]) (rs:=[_,_,_]) ed U U U)<|z8 (Gv.buildAF (xs:=[[_,_,_],[_,_,_],[_,_,_],[_,_,_],[_,_,_],[_,_,_],[_,_,_],[_,_,_],[_,_,_],[_,_,_],[_,_,_],[_,_,_],[_,_,_],[_,_,_],[_,_,_],[_,_,_],[_,_,_],[_,_,_],[_,_,_],[_,_,_],[_,_,_],[_,_,_],[_,_,_],[_,_,_],[_,_,_],[_,_,_],[_,_,_]]) K6 U U U U)<|zj sizeOf278 U U U U U U .head U<|z2<|zg<|ym U ⟨_,.head⟩ isAgg278 sizeOf278 U ?_
 rfl
theorem wK {op:Int} (h:tw op=false):cH op=(⟨#[]⟩,⟨#[]⟩,⟨#[]⟩):=by
 unfold tw at h
 unfold cH
 split
 ·rename_i h0
  have:¬op<27:=by simpa [h0] using h
  rw[List.getElem?_eq_none (by show 27≤_;omega)];rfl
 ·rfl
theorem Hs {op:Int} (h:tw op=true):∃j:Nat,op=(j:Int)∧j<27∧((gS.flatMap tx).drop (j*3)).take 3=tx (cH op):=by
 unfold tw at h
 simp at h
 obtain ⟨j,rfl⟩:∃j:Nat,op=j:=⟨op.toNat,by omega⟩
 have hj:j<27:=by omega
 refine ⟨j,U,hj,BH (enc:=tx) (k:=3) (fun _=>U) _ _ ?_⟩
 unfold cH
 rw[if_pos h.1,Int.toNat_natCast,qx (show j<gS.length from hj)];rfl
theorem vd (op:Int):aP prog E 198 [.int .i64 op] (.agg (tx (cH op))):=by
 refine zp func198 U (by decide) U<|ae<|zu (cs:=[.e,.e,.e]) zeroValue254 U U<|fun i2=>z2<|zb<|ae<|aa U<|ze (Hr _) U<|aJ U<|z2<|zw U (fun c=>?_) (fun c=>?_)
 ·have c:tw op=false:=by simpa using c
  rw[wK c]
  refine ae<|z8 (zz (cps:=[]) (rs:=[.e,.e,.e]) ed U U U)<|zj sizeOf254 U U U U U U .head U<|z2<|zg<|ym U ⟨_,.head⟩ isAgg254 sizeOf254 U ?_
  rfl
 ·have c:tw op=true:=by simpa using c
  obtain ⟨j,hj1,hj2,hj3⟩:=Hs c
  refine zf<|ae<|ze (Ai) U<|aa U<|z8 (Gv.indexA underlying278 isAgg254 sizeOf254 U U hj1 hj2 hj3)<|zj sizeOf254 U U U U U U .head U<|z2<|zg<|ym U ⟨_,.head⟩ isAgg254 sizeOf254 U ?_
  rfl
theorem CR (op:Int):aP prog E 196 [.int .i64 op] (.str (cH op).1):=by
 refine zp func196 U (by decide) U<|ae<|z8 (q8 (v:=.str _) U)<|z2<|ae<|aa U<|ze (vd _) U<|z8 (Gv.field1 (v:=.str _) underlying254 U Yk U U)<|z8 (q8 (v:=.str _) U)<|z2<|zg<|zm (x:=.str _) U ?_
 rfl
def qS (op:Int):Bool:=decide (op=0)||decide (op=25)
theorem gO (op:Int):aP prog E 197 [.int .i64 op] (.bool (qS op)):=by
 refine zp func197 U (by decide) U<|ae<|ad U<|z2<|ae<|aa U<|ao U U<|aq U<|zt (s:=5) U (fun c2=>?_) (fun c2=>?_)
 ·refine z6 U U c2<|z6 U U c2<|au U c2 U<|ad U<|z2<|zg<|zm (x:=.bool _) U ?_
  simp_all[qS]
 ·refine z7 U U c2<|aa U<|z7 U U c2<|ao U U<|aw U c2 U<|ad U<|z2<|zg<|zm (x:=.bool _) U ?_
  simp_all[qS]
def eK (c:Int):Int:=if c=98 then 1 else if c=97 then 2 else 0
theorem qT (c:Int):aP prog E 199 [.int .i32 c] (.int .i64 (eK c)):=by
 refine zp func199 U (by decide) U<|ae<|am U<|z2<|zb<|ae<|aa U<|z2<|zi<|ae<|ao U U<|ad U<|z2<|zw U (fun c3=>?_) (fun c3=>?_)
 ·refine ae<|am U<|z2<|zg<|zm (x:=.int _ _) U ?_
  simp_all[eK]
 ·refine ae<|ao U U<|ad U<|z2<|zw U (fun c4=>?_) (fun c4=>?_)
  ·refine ae<|am U<|z2<|zg<|zm (x:=.int _ _) U ?_
   simp_all[eK]
  ·refine zf<|ae<|am U<|z2<|zg<|zm (x:=.int _ _) U ?_
   simp_all[eK]
theorem EC:∀r∈gS,(∀b∈r.2.1.data.toList,b<128)∧(∀b∈r.2.2.data.toList,b<128):=by decide
theorem nJ (op:Int):cH op=(⟨#[]⟩,⟨#[]⟩,⟨#[]⟩)∨cH op∈gS:=by
 unfold cH
 split
 ·cases h:gS[op.toNat]? with
  |none=>exact .inl rfl
  |some r=>exact .inr (w9 h)
 ·exact .inl rfl
theorem qU (op:Int):(∀b∈(cH op).2.1.data.toList,b<128)∧(∀b∈(cH op).2.2.data.toList,b<128):=by
 rcases nJ op with h|h
 ·rw[h];simp
 ·exact EC _ h
def aX (op:Int):List Int:=(cH op).2.1.data.toList.map fun b=>eK b.toNat
def di (op:Int):Int:=((cH op).2.2.data.toList.head?.map fun b=>eK b.toNat).getD 0
def bE (op:Int):Bool:=!(cH op).2.2.data.toList.isEmpty
end
section
open Go.Proofs.Tryz
open Go.Proofs
theorem Ht:dn prog 222 46 1 1 [.int .i64 0]:=⟨_,underlying222,X9,zeroValue46,by decide,by decide,by kernel_rfl⟩
variable {E:World}
set_option maxRecDepth 20000
structure lA where
 name:ByteArray
 ty:Int
deriving DecidableEq
structure cZ where
 dst:Int
 args:List Int
 from_:List Int
deriving DecidableEq
structure aB where
 op:Int
 dst:Int
 args:List Int
 num:Int
deriving DecidableEq
structure fg where
 kind:Int
 var:Int
 to0:Int
 to1:Int
deriving DecidableEq
structure aK where
 name:ByteArray
 phis:List cZ
 insts:List aB
 term:fg
deriving DecidableEq
structure ab where
 vars:List lA
 params:List Int
 blocks:List aK
deriving DecidableEq
def bO (x:Int):List AV:=[.int .i64 x]
def bF (v:lA):List AV:=[.str v.name,.int .i64 v.ty]
def dA (p:cZ):List AV:=[.int .i64 p.dst,.fro 1 (p.args.map bO),.fro 1 (p.from_.map bO)]
def bq (x:aB):List AV:=[.int .i64 x.op,.int .i64 x.dst,.fro 1 (x.args.map bO),.int .i64 x.num]
def p7 (t:fg):List AV:=[.int .i64 t.kind,.int .i64 t.var,.int .i64 t.to0,.int .i64 t.to1]
def bD (b:aK):List AV:=[.str b.name,.fro 3 (b.phis.map dA),.fro 4 (b.insts.map bq),.int .i64 b.term.kind,.int .i64 b.term.var,.int .i64 b.term.to0,.int .i64 b.term.to1]
def bw (f:ab):List AV:=[.fro 2 (f.vars.map bF),.fro 1 (f.params.map bO),.fro 7 (f.blocks.map bD)]
theorem qV (op:Int):aP prog E 160 [.int .i64 op] (.fro 1 ((aX op).map bO)):=by
 obtain ⟨hasc,_⟩:=qU op
 have hl:(aX op).length=(cH op).2.1.size:=by unfold aX;rw[w6];exact Array.length_toList
 have hlen:(aX op).length≤3:=by
  rcases nJ op with h|h
  ·unfold aX;rw[h];decide
  ·have:∀r∈gS,r.2.1.data.toList.length≤3:=by decide
   have:=this _ h
   unfold aX;simpa using this
 refine zp func160 U (by decide) U<|ae<|cE U<|z2<|ae<|cE U<|z2<|gc (t:=3) (k:=1) (T:=46) U<|fun i3=>zb<|ae<|aa U<|ze (vd _) U<|z8 (Gv.field1 (v:=.str _) underlying254 U Yk U U)<|ay.rangeT Zy U<|fun i9=>z2<|zi<|y5 (γ:=Nat × Nat) [9] (fun g=>[(3,.own g.2 g.1)]) (fun g=>[(i9,.iter (cH op).2.1 g.1),(g.2,.grow 1 46 (((aX op).take g.1).map bO).flatten)]) (fun g=>g.1≤(aX op).length) (fun g=>(aX op).length - g.1) (0,i3) aL aE (w2 _) ?_
 rintro ⟨p,i⟩ hp
 try dsimp only at *
 try simp only at hp
 by_cases hlt:p<(aX op).length
 ·have hb:p<(cH op).2.1.data.toList.length:=by rw[hl] at hlt;exact hlt
  have hg:(cH op).2.1.data[p]?=some (cH op).2.1.data.toList[p]:=by rw[Array.getElem_toList];exact Array.getElem?_eq_getElem hb
  refine ae<|ay.nextA U hg (hasc _ (w3 hb)) .head<|z8 (wz U U)<|z2<|zb<|yr U U ?_
  have ht:(aX op).take (p+1)=(aX op).take p++[eK ((cH op).2.1.data.toList[p]).toNat]:=by
   rw[qy hlt]
   have:(aX op)[p]=eK ((cH op).2.1.data.toList[p]).toNat:=List.getElem_map _
   rw[this]
  refine zf<|zi<|ae<|z8 (nC U U)<|am U<|z2<|aW<|bL U<|aa U<|ze (qT _) U<|zx (rows:=[[_]]) Ht U U U U U<|yg (k:=1) underlying222 type46 U U U U U (fun _=>.t1) (by rw[d6 (k:=1) (fun _=>rfl),wd,Nat.min_eq_left hp]) (by decide) U (by show (_+_)*8≤_;simp<;>omega) (by simp<;>omega)<|fun i17=>z8 (ei U)<|z2 ?_
  exact ⟨(p+1,i17),aL,aL,⟨_,(.refl _),by rw[←eS ht];rfl⟩,hlt,by simp only;omega⟩
 ·refine ae<|ay.nextTover U .head (by rw[←hl];exact hlt)<|z8 (wz U U)<|z2<|zb<|yq U U ?_
  have hkn:p=(aX op).length:=by omega
  subst hkn
  rw[w4]
  refine y4<|ae<|bL U<|z8 (ei U)<|z2<|zg ?_
  repeat (first|refine ki ?_|refine gR ?_)
  refine yz (aR.know (t:=2) (rows:=(aX op).map bO) U .t1 (by first|(intro r hr;obtain ⟨x,_,rfl⟩:=List.mem_map.1 hr;rfl)|simp[bO,bF,dA,bq,bD]) (by decide) (by simp))<|zm (x:=.fro _ _) U ?_
  rfl
theorem qW (op:Int):aP prog E 161 [.int .i64 op] (.tup [.int .i64 (di op),.bool (bE op)]):=by
 obtain ⟨_,hasc⟩:=qU op
 refine zp func161 U (by decide) U<|ae<|am U<|ad U<|z2<|zb<|ae<|aa U<|ze (vd _) U<|z8 (Gv.field1 (v:=.str _) underlying254 U Yk U U)<|ay.rangeT Zy U<|fun i9=>z2<|zi<|y5 (γ:=Unit) [9] (fun g=>[]) (fun g=>[(i9,.iter (cH op).2.2 0)]) (fun g=>True) (fun g=>0) () trivial aE (trivial) ?_
 rintro _ _
 by_cases hlt:∃c0 tl,(cH op).2.2.data.toList=c0::tl
 ·obtain ⟨c0,tl,hk⟩:=hlt
  have hg:(cH op).2.2.data[0]?=some c0:=by rw[←Array.getElem?_toList,hk];rfl
  refine ae<|ay.nextA U hg (hasc _ (by rw[hk];exact .head _)) .head<|z8 (wz U U)<|z2<|zb<|yr U U<|zf<|zi<|ae<|z8 (nC U U)<|am U<|z2<|ae<|aa U<|ze (qT _) U<|am U<|ad U<|z2<|zg<|qn (x:=.int _ _) (y:=.bool _) U U ?_
  unfold di bE;rw[hk];rfl
 ·have hk:(cH op).2.2.data.toList=[]:=by
   cases h:(cH op).2.2.data.toList with
   |nil=>rfl
   |cons x l=>exact absurd ⟨x,l,h⟩ hlt
  refine ae<|ay.nextTover U .head (by show ¬0<(cH op).2.2.data.size;rw[←Array.length_toList,hk];decide)<|z8 (wz U U)<|z2<|zb<|yq U U<|y4<|ae<|am U<|ad U<|z2<|zg<|qn (x:=.int _ _) (y:=.bool _) U U ?_
  unfold di bE;rw[hk];rfl
def bt (f:ab) (v:Int):Bool:=decide (0≤v)&&decide (v<f.vars.length)
def eX (f:ab) (b:Int):Bool:=decide (0≤b)&&decide (b<f.blocks.length)
theorem lN (f:ab) (v:Int):aP prog E 191 [.agg (bw f),.int .i64 v] (.bool (bt f v)):=by
 refine zp func191 U (by decide) U<|ae<|y6 (cs:=_) U U U<|ad U<|z2<|ae<|aa U<|z8 (q9 U U)<|aq U<|zt (s:=7) U (fun c1=>?_) (fun c1=>?_)
 ·refine z7 U U c1<|aa U<|z7 U U c1<|ak je U Zn U U<|z7 U U c1<|aI Zz U<|z7 U U c1<|aj Z7 U<|z7 U U c1<|ap U U<|au U c1 U<|ad U<|z2<|zg<|zm (x:=.bool _) U ?_
  simp_all[bt]<;>omega
 ·refine z6 U U c1<|z6 U U c1<|z6 U U c1<|z6 U U c1<|z6 U U c1<|aw U c1 U<|ad U<|z2<|zg<|zm (x:=.bool _) U ?_
  simp_all[bt]<;>omega
theorem p8 (f:ab) (v:Int):aP prog E 194 [.agg (bw f),.int .i64 v] (.bool (eX f v)):=by
 refine zp func194 U (by decide) U<|ae<|y6 (cs:=_) U U U<|ad U<|z2<|ae<|aa U<|z8 (q9 U U)<|aq U<|zt (s:=7) U (fun c2=>?_) (fun c2=>?_)
 ·refine z7 U U c2<|aa U<|z7 U U c2<|ak je U Zd U U<|z7 U U c2<|aI Zf U<|z7 U U c2<|aj ju U<|z7 U U c2<|ap U U<|au U c2 U<|ad U<|z2<|zg<|zm (x:=.bool _) U ?_
  simp_all[eX]<;>omega
 ·refine z6 U U c2<|z6 U U c2<|z6 U U c2<|z6 U U c2<|z6 U U c2<|aw U c2 U<|ad U<|z2<|zg<|zm (x:=.bool _) U ?_
  simp_all[eX]<;>omega
def cS {α:Type} (p:α→Bool):List α→Nat→Int
 |[],_=>-1
 |x::xs,k=>if p x then k else cS p xs (k+1)
theorem fX {α:Type} (p:α→Bool):∀(xs:List α) (k:Nat),decide (0≤cS p xs k)=xs.any p
 |[],k=>rfl
 |x::xs,k=>by
  unfold cS
  rw[List.any_cons]
  split
  ·rename_i h;rw[h];simp
  ·rename_i h;simp[h,fX p xs (k+1)]
theorem bZ {α:Type} (p:α→Bool):∀(xs:List α) (k:Nat),k≤xs.length→(xs.take k).all (fun x=>!p x)=true→cS p xs 0=cS p (xs.drop k) k
 |_,0,_,_=>rfl
 |xs,k+1,h,hall=>by
  rw[qy (by omega),List.all_append] at hall
  simp only[wh,List.all_cons,List.all_nil,Bool.and_true] at hall
  rw[bZ p xs k (by omega) hall.1,List.drop_eq_getElem_cons (by omega)]
  rw[cS]
  rw[if_neg (by simpa using hall.2)]
theorem pK {p:Int→Bool} {fn:FuncId} {c:List AV} (xs:List Int) (hl:xs.length≤281474976710656) (hp:∀x,aP prog E fn ([.int .i64 x]++c) (.bool (p x))) :
  aP prog E 182 [.fro 1 (xs.map bO),.fn fn [] c] (.int .i64 (cS p xs 0)):=by
 refine zp func182 U (by decide) U<|ae<|am U<|z2<|zb<|ae<|bd U<|aj j7 U<|aa U<|z2<|zi<|y5 (γ:=Nat) [0,1,7] (fun k=>[(8,.i k)]) (fun k=>[]) (fun k=>k≤xs.length∧(xs.take k).all (fun x=>!p x)) (fun k=>xs.length - k) 0 aL aE (⟨w2 _,U⟩) ?_
 rintro k ⟨hk,hall⟩
 refine ae<|ap U U<|z2<|zb<|zn U (fun ck=>?_) (fun ck=>?_)
 ·have hk2:k<xs.length:=by omega
  refine zf<|zb<|zi<|ae<|aa U<|am U<|z2<|ae<|z8 (yt (v:=.fn _ _ _) U)<|bd U<|aa U<|z8 (qh j7 j9 U U U (qx (by omega)))<|aA jg U<|ay.callVP U (hp _) U<|z2<|zw U (fun cp=>?_) (fun cp=>?_)
  ·refine ae<|aa U<|am U<|z2<|zg<|zm (x:=.int _ _) U ?_
   rw[bZ p xs k hk hall,List.drop_eq_getElem_cons hk2,cS,if_pos cp]
  ·refine zf<|aW<|aC U U<|aa U<|z2 ?_
   exact ⟨k+1,bW,aL,aE,⟨hk2,by rw[qy hk2,List.all_append,hall];simp[cp]⟩,by omega⟩
 ·have hkn:k=xs.length:=by omega
  refine y4<|ae<|am U<|z2<|zg<|zm (x:=.int _ _) U ?_
  rw[bZ p xs k hk hall,hkn,List.drop_length,cS]
theorem iT {p:Int→Bool} {fn:FuncId} {c:List AV} (xs:List Int) (hl:xs.length≤281474976710656) (hp:∀x,aP prog E fn ([.int .i64 x]++c) (.bool (p x))) :
  aP prog E 140 [.fro 1 (xs.map bO),.fn fn [] c] (.bool (xs.any p)):=by
 refine zp func140 U (by decide) U<|ae<|ad U<|z2<|ae<|bd U<|z8 (yt (v:=.fn _ _ _) U)<|ze (pK xs hl hp) U<|z8 (q9 U U)<|ad U<|z2<|zg<|zm (x:=.bool _) U ?_
 rw[fX]
theorem Aj (f:ab) (v:Int):aP prog E 216 ([.int .i64 v]++[.pf (bw f)]) (.bool (!bt f v)):=by
 refine zp func216 U (by decide) U<|ae<|ad U<|z2<|ae<|ac Z0 ji U U<|aa U<|ze (lN _ _) U<|aJ U<|ad U<|z2<|zg<|zm (x:=.bool _) U ?_
 rfl
theorem ui (f:ab) (l:List Int) (hl:l.length≤281474976710656):aP prog E 192 [.agg (bw f),.fro 1 (l.map bO)] (.bool (l.all (bt f))):=by
 refine zp func192 U (by decide) U<|ae<|y6 (cs:=_) U U U<|ad U<|z2<|ae<|bd U<|z8 (Gv.func U U)<|ze (iT l hl (Aj f)) U<|aJ U<|ad U<|z2<|zg<|zm (x:=.bool _) U ?_
 rw[List.any_eq_not_all_not];simp
end
section
open Go.Proofs.Tryz
open Go.Proofs
variable {E:World}
set_option maxRecDepth 20000
def qX {α:Type} (l:List α):Prop:=l.length≤140737488355328
def BL (p:cZ):Prop:=qX p.args∧qX p.from_
def K7 (b:aK):Prop:=qX b.phis∧qX b.insts∧(∀p∈b.phis,BL p)∧(∀x∈b.insts,qX x.args)
def ve (f:ab):Prop:=qX f.vars∧qX f.params∧qX f.blocks∧∀b∈f.blocks,K7 b
theorem qX.lt {α:Type} {l:List α} (h:qX l):l.length≤140737488355328:=h
theorem jb {x y:Bool} (h:x=y):AV.bool x=AV.bool y:=congrArg AV.bool h
theorem Js (k:Nat):∀I v,cC I .n v→cC I (.fro k []) v:=fun _ _ h=>⟨none,0,0,h,rfl,Nat.le_refl _,fun _=>rfl,trivial⟩
theorem Jt (a b c d:Int) (w:World) (m:Nat):(Op.equalIn (m+2) 54 (.agg [.int .i64 a,.int .i64 b].toArray) (.agg [.int .i64 c,.int .i64 d].toArray)).run prog w=.ok (decide (a=c∧b=d)) w:=by
 rw[Op.equalIn]
 simp only[Sem.run_bind,run_underlying Z9,Result.andThen_ok]
 simp only[Std.Legacy.Range.forIn_eq_forIn_range',Std.Legacy.Range.size,Nat.sub_zero,Nat.add_sub_cancel,Nat.div_one,List.range'_succ,List.range'_zero,List.forIn_cons,List.forIn_nil]
 simp[part,jg,j9,run_equalIn_int,X0]
 by_cases h1:a=c<;>by_cases h2:b=d<;>simp[h1,h2]
theorem pe (xs ys:List Int) (hl:qX xs):aP prog E 78 [.fro 1 (xs.map bO),.fro 1 (ys.map bO)] (.bool (decide (xs=ys))):=by
 have hl:=hl.lt
 refine zp func78 U (by decide) U<|ae<|ad U<|z2<|zb<|ae<|bd U<|aj j7 U<|bd U<|aj j7 U<|aO U U<|z2<|zw U (fun c0=>?_) (fun c0=>?_)
 ·have h:¬xs=ys:=fun e=>by subst e;simp at c0
  refine ae<|ad U<|z2<|zg<|zm (x:=.bool _) U ?_
  rw[wg h]
 ·have hl2:xs.length=ys.length:=by simp at c0;omega
  refine zf<|zb<|ae<|bd U<|aj j7 U<|aa U<|z2<|zi<|y5 (γ:=Nat) [0,1,12] (fun k=>[(13,.i k)]) (fun k=>[]) (fun k=>k≤xs.length∧xs.take k=ys.take k) (fun k=>xs.length - k) 0 aL aE (⟨w2 _,U⟩) ?_
  rintro k ⟨hk,he⟩
  refine ae<|ap U U<|z2<|zb<|zn U (fun ck=>?_) (fun ck=>?_)
  ·have hk2:k<xs.length:=by omega
   have hk3:k<ys.length:=by omega
   refine zf<|zb<|zi<|ae<|aa U<|am U<|z2<|zb<|zr (fun j=>false) (by kernel_rfl) U (zo (.rest _))<|ai 0 U (vZ U)<|ai 1 U (dx U)<|ai 2 U (qh j7 j9 U U U (qx (by omega)))<|ai 3 U (dQ jg U)<|ai 4 U (vZ U)<|ai 5 U (dx U)<|ai 6 U (qh j7 j9 U U U (qx (by omega)))<|ai 7 U (dQ jg U)<|ai 8 U (Gv.neqI U U)<|bI<|zw U (fun cd=>?_) (fun cd=>?_)
   ·refine ae<|ad U<|z2<|zg<|zm (x:=.bool _) U ?_
    rw[wg (KT hk2 hk3 (by simpa using cd))]
   ·refine zf<|aW<|aC U U<|aa U<|z2 ?_
    exact ⟨k+1,bW,aL,aE,⟨hk2,CF hk2 hk3 he (by simpa using cd)⟩,by omega⟩
  ·refine y4<|ae<|ad U<|z2<|zg<|zm (x:=.bool _) U ?_
   rw[we (CG hl2 (by omega) he)]
end
section
open Go.Proofs.Tryz
section
variable {E:World} {P:Program} {env:aT} {O:OL} {d ty:Nat} {pos:String} {af:Array Edge} {x y:Operand} {t u e:TypeId}
theorem Gv.rem {k:IntKind} {a b:Int} (hx:bc env x=.int k a) (hy:bc env y=.int k b) (hb:b≠0):Gv P env O (Oper.mk (some d) (.binOp .rem t x y u) ty pos af none) (.int k (a.tmod b)):=Gv.ofEv fun I ρ h=>⟨_,rfl,fun w=>by
 rw[cJ (gr h hx) (gr h hy) (by decide) (by decide)];simp[binOp,Op.intDiv,hb]⟩
theorem Gv.quo {k:IntKind} {a b:Int} (hx:bc env x=.int k a) (hy:bc env y=.int k b) (hb:b≠0):Gv P env O (Oper.mk (some d) (.binOp .quo t x y u) ty pos af none) (.int k (k.wrap (a.tdiv b))):=Gv.ofEv fun I ρ h=>⟨_,rfl,fun w=>by
 rw[cJ (gr h hx) (gr h hy) (by decide) (by decide)];simp[binOp,Op.intDiv,hb]⟩
theorem Gv.neg {k:IntKind} {a:Int} (hx:bc env x=.int k a):Gv P env O (Oper.mk (some d) (.unOp .neg t x) ty pos af none) (.int k (k.wrap (0 - a))):=Gv.ofEv fun I ρ h=>⟨_,rfl,fun w=>by
 simp[execOp,gr h hx,Op.unary,Op.intArith]⟩
theorem Gv.conv {k k':IntKind} {a:Int} {ds:TypeDesc} {src dst:TypeId} (hs:P.underlying src=some ds) (hd:P.underlying dst=some (.int k')) (hx:bc env x=.int k a):Gv P env O (Oper.mk (some d) (.convert src dst x) ty pos af none) (.int k' (k'.wrap a)):=Gv.ofEv fun I ρ h=>⟨_,rfl,fun w=>by
 simp only[execOp,gr h hx]
 cases ds<;>simp[convert,run_underlying hs,run_underlying hd,Conv.intToInt]⟩
def Ju (n:Int):List AV:=[.int .u8 n]
theorem Gv.convBytes {ns:List Int} {src dst e:TypeId} (hs:P.underlying src=some (.slice e)) (he:P.underlying e=some (.int .u8)) (hd:P.underlying dst=some .string) (hx:bc env x=.fro 1 (ns.map Ju)) :
  Gv P env O (Oper.mk (some d) (.convert src dst x) ty pos af none) (.str (strOfNums ns)):=fun I L E ρ h1 _=>by
 have h2:=h1.ev x
 rw[hx] at h2
 obtain ⟨a,n,c,e1,hn,hnc,hnil,hr⟩:=h2
 rw[w6] at hn
 refine ⟨_,U,fun w J L' hl hS _=>?_⟩
 simp only[execOp,e1]
 cases a with
 |none=>
  have hc:=hnil rfl
  have:ns=[]:=wa (by omega)
  subst this
  have:=run_convert_bytes_nil (P:=P) w src e hs he n c dst hd
  rw[Sem.run_bind,this];rfl
 |some p=>
  cases ns with
  |nil=>
   simp at hn;subst hn
   have h:=run_convert_bytes_string (P:=P) w src dst e (some p) 0 c hs he hd
   have h2:=run_bytesToString (P:=P) w p 0 c [] (by simp[loadCells,loadCellsFrom])
   rw[Sem.run_bind,h,h2];rfl
  |cons m ms=>
   obtain ⟨b,off,_,ep,_⟩:=hr.get (j:=0) (r:=Ju m) rfl
   cases ep
   have:=run_convert_bytes_arg (P:=P) w src e hs he b off n c (m::ms) hn.symm (fun i hi=>by
    obtain ⟨b',off',l,ep,hk,hl2,hat⟩:=hr.get (j:=i) (r:=Ju ((m::ms).getD i 0)) (by
     rw[w7,qx (by omega)]
     simp[List.getD_eq_getElem?_getD,qx (show i<(m::ms).length by omega)])
    cases ep
    obtain ⟨v,us,rfl,hv,_⟩:=hl2
    have hv:v=.int .u8 ((m::ms).getD i 0):=hv
    subst hv
    have:=hS.at_ (((hat 0 _ rfl).mono hl).at_ _)
    simpa using this) dst hd
   rw[Sem.run_bind,this];rfl
end
end
section
open Go.Proofs.Tryz
section
variable {E:World} {P:Program} {n:Nat} {l:List Oper} {W:Nat→Bool} {Q:aT→OL→Prop} {fuel:Nat} {listed:Array Bool} {env:aT} {O Os Om:OL}
theorem bT.two {i j:Nat} {o o':Oper} (hi:l[i]?=some o) (hj:l[j]?=some o') (hr:Region.ready .any l.toArray listed=[i,j])
  (h:ay P E l.toArray (fun env' Om'=>bT P E l W Q fuel (listed.setIfInBounds i true) env' Os Om') [o] env Om)
  (h':ay P E l.toArray (fun env' Om'=>bT P E l W Q fuel (listed.setIfInBounds j true) env' Os Om') [o'] env Om):bT P E l W Q (fuel+1) listed env Os Om:=fun I F ρ w Ls h1 hLs h2=>by
 have key:∀k ok,ay P E l.toArray (fun env' Om'=>bT P E l W Q fuel (listed.setIfInBounds k true) env' Os Om') [ok] env Om →
   bY P l.toArray (fun ρ' w'=>(eD I.k [] E w'∧(fE W (listed.setIfInBounds k true)∨eD I.k Ls E w'))∧cV P l.toArray (eD I.k [] E) (eD I.k Ls E) W (lc I F E Q) fuel (listed.setIfInBounds k true) ρ' w') [ok] ρ w:=fun k ok h=>
  qa (fun ρ' w' ⟨J,env',Om',a,b,c,d⟩=>by
   have hst:eD I.k Ls E w':=by
    obtain ⟨J',L',h3,h4,h5⟩:=c.here
    exact ⟨J',L',a.k.trans h3,h4,h5⟩
   refine ⟨⟨hst.less,.inr hst⟩,cV.mono ?_ ?_ (fun _ _=>qb a) _ _ _ _ (d J F ρ' w' Ls b (hLs.mono a) c)⟩
   ·rintro w ⟨J',L',h3,h4⟩;exact ⟨J',L',a.k.trans h3,h4⟩
   ·rintro w ⟨J',L',h3,h4⟩;exact ⟨J',L',a.k.trans h3,h4⟩) _ _ _ (h I (Ls++F) ρ w h1 h2)
 refine ⟨fun h0=>(by rw[hr] at h0;cases h0),fun k hk o2 ho2=>?_⟩
 rw[hr] at hk
 simp only[List.mem_cons,List.not_mem_nil,or_false] at hk
 rw[List.getElem?_toArray] at ho2
 rcases hk with rfl|rfl
 ·rw[hi] at ho2;cases ho2;exact key _ _ h
 ·rw[hj] at ho2;cases ho2;exact key _ _ h'
end
end
section
open Go.Proofs.Tryz
section
variable {E:World} {P:Program} {n:Nat} {l:List Oper} {W:Nat→Bool} {Q:aT→OL→Prop} {fuel:Nat} {listed:Array Bool} {env:aT} {O Os Om:OL}
theorem bT.three {i j m:Nat} {o o' o'':Oper} (hi:l[i]?=some o) (hj:l[j]?=some o') (hm:l[m]?=some o'') (hr:Region.ready .any l.toArray listed=[i,j,m])
  (h:ay P E l.toArray (fun env' Om'=>bT P E l W Q fuel (listed.setIfInBounds i true) env' Os Om') [o] env Om)
  (h':ay P E l.toArray (fun env' Om'=>bT P E l W Q fuel (listed.setIfInBounds j true) env' Os Om') [o'] env Om)
  (h'':ay P E l.toArray (fun env' Om'=>bT P E l W Q fuel (listed.setIfInBounds m true) env' Os Om') [o''] env Om):bT P E l W Q (fuel+1) listed env Os Om:=fun I F ρ w Ls h1 hLs h2=>by
 have key:∀k ok,ay P E l.toArray (fun env' Om'=>bT P E l W Q fuel (listed.setIfInBounds k true) env' Os Om') [ok] env Om →
   bY P l.toArray (fun ρ' w'=>(eD I.k [] E w'∧(fE W (listed.setIfInBounds k true)∨eD I.k Ls E w'))∧cV P l.toArray (eD I.k [] E) (eD I.k Ls E) W (lc I F E Q) fuel (listed.setIfInBounds k true) ρ' w') [ok] ρ w:=fun k ok h=>
  qa (fun ρ' w' ⟨J,env',Om',a,b,c,d⟩=>by
   have hst:eD I.k Ls E w':=by
    obtain ⟨J',L',h3,h4,h5⟩:=c.here
    exact ⟨J',L',a.k.trans h3,h4,h5⟩
   refine ⟨⟨hst.less,.inr hst⟩,cV.mono ?_ ?_ (fun _ _=>qb a) _ _ _ _ (d J F ρ' w' Ls b (hLs.mono a) c)⟩
   ·rintro w ⟨J',L',h3,h4⟩;exact ⟨J',L',a.k.trans h3,h4⟩
   ·rintro w ⟨J',L',h3,h4⟩;exact ⟨J',L',a.k.trans h3,h4⟩) _ _ _ (h I (Ls++F) ρ w h1 h2)
 refine ⟨fun h0=>(by rw[hr] at h0;cases h0),fun k hk o2 ho2=>?_⟩
 rw[hr] at hk
 simp only[List.mem_cons,List.not_mem_nil,or_false] at hk
 rw[List.getElem?_toArray] at ho2
 rcases hk with rfl|rfl|rfl
 ·rw[hi] at ho2;cases ho2;exact key _ _ h
 ·rw[hj] at ho2;cases ho2;exact key _ _ h'
 ·rw[hm] at ho2;cases ho2;exact key _ _ h''
end
theorem bn.know {E:World} {P:Program} {f:FuncId} {as0:List AV} {O:OL} {R R':AV→OL→Prop} (h:bn P E f as0 O R) (hr:∀I F w v x O',R x O'→cC I x v→iB I O' F E w→∃J y O'',I.le J∧cC J y v∧iB J O'' F E w∧R' y O''):bn P E f as0 O R':=fun I F w vs h1 h2=>
 (h I F w vs h1 h2).mono fun v w' ⟨J,x,O',a,b,c,d⟩=>by
  obtain ⟨K,y,O'',e1,e2,e3,e4⟩:=hr J F w' v x O' d b c
  exact ⟨K,y,O'',a.trans e1,e2,e3,e4⟩
end
section
open Go.Proofs.Tryz
theorem dH.perm {O O':OL} {i:Nat} {o:bC} (h:dH O i o O'):O.Perm ((i,o)::O'):=by
 induction h with
 |head=>exact .refl _
 |tail _ ih=>exact (ih.cons _).trans (.swap _ _ _)
section
variable {E:World} {P:Program} {f:FuncId} {as0:List AV} {O:OL}
theorem bn.exact {γ:Type} {x:γ→AV} {M:γ→OL} {p:γ→Prop} (h:bn P E f as0 O (fun y O'=>∃g,y=x g∧Left O' (M g)∧p g)):bn P E f as0 O (fun y O'=>∃g,y=x g∧O'=M g∧p g):=
 h.know fun I F w v y O' ⟨g,e,hl,hp⟩ h1 h2=>⟨I,y,M g,.refl _,h1,hl.sla h2,g,e,rfl,hp⟩
end
end
section
open Go.Proofs.Tryz
open Go.ChangeShapes Go.WideShapes Go.ChangeAt Go.RowKit Go.Deep
def full (W:World):bK:=fun b=>W.heap[b]?
theorem Hu (W:World):SL (full W) [] W W:=⟨rfl,rfl,rfl,fun _ _ h=>h,by simp,by simp,by simp,fun _ _ h=>h,(fun _ _ h h2=>by rw[show W.heap[_]?=some _ from h] at h2;cases h2),by simp⟩
def I0 (W:World):G:=⟨full W,fun _=>none⟩
theorem qY {W:World} {p:Addr} {v:Value} (h:W.cell? p=some v):p=⟨p.block,p.off,none⟩∧Ef (full W) p.block p.off v:=by
 unfold World.cell? at h
 split at h
 ·rename_i c t f hb
  split at h
  ·cases h
  ·rename_i hs
   have:p.spot=none:=by simpa using hs
   obtain ⟨b,o,s⟩:=p
   simp only at this
   subst this
   exact ⟨rfl,⟨c,t,f,hb,h⟩⟩
 ·cases h
def gT (P:Program) (W:World) (T:TypeId) {α:Type} (enc:α→List AV) (ok:α→Prop):Prop:=
 ∀{H:Type} (e:TypeId × Value→H) (held:Bool) (fuel:Nat) (cs:List Value) (x:DataW H × List MemPlace),DataW.trod e P W 0 (fun _=>true) held fuel T cs=some x→∃a,ok a∧RepL (I0 W) (enc a) cs
section
variable {P:Program} {W:World} {T e:TypeId}
theorem gT.int {k:IntKind} (hu:P.underlying T=some (.int k)):gT P W T (fun x:Int=>[.int k x]) (fun x=>(Lit.int k x).wf=true):=fun _ _ _ _ _ h=>by
 obtain ⟨n,rfl,_,hw⟩:=DataW.trod_int hu h
 exact ⟨n,hw,_,_,rfl,rfl,rfl⟩
theorem gT.bool (hu:P.underlying T=some .bool):gT P W T (fun x:Bool=>[.bool x]) (fun _=>True):=fun _ _ _ _ _ h=>by
 obtain ⟨n,rfl,_⟩:=DataW.trod_bool hu h
 exact ⟨n,trivial,_,_,rfl,rfl,rfl⟩
theorem gT.str (hu:P.underlying T=some .string):gT P W T (fun x:ByteArray=>[.str x]) (fun x=>x.size≤maxLen):=fun _ _ _ _ _ h=>by
 obtain ⟨n,rfl,_,hw⟩:=DataW.trod_string hu h
 exact ⟨n,hw,_,_,rfl,rfl,rfl⟩
theorem gT.slice {α:Type} {enc:α→List AV} {ok:α→Prop} {k:Nat} (ht:P.underlying T=some (.slice e)) (he:gT P W e enc ok) (hk:P.cellsOf e=k) (hk0:0<k) :
  gT P W T (fun xs:List α=>[.fro k (xs.map enc)]) (fun xs=>(∀x∈xs,ok x)∧xs.length≤maxLen):=fun en held fuel cs x h=>by
 rcases open_slice ht h with ⟨rfl,_⟩|⟨a,len,cap,m,n,D,Pl,rfl,_,hl,hc,hm,_,hr⟩
 ·exact ⟨[],⟨by simp,w2 _⟩,_,_,rfl,⟨none,0,0,rfl,rfl,Nat.le_refl _,fun _=>rfl,trivial⟩,rfl⟩
 ·simp only[if_true] at hm
  have each:∀i,i<len→∃y:α,ok y∧∃vs:List Value,vs.length=k∧RepL (I0 W) (enc y) vs∧∀j (u:Value),vs[j]?=some u→W.cell? (a.add (i*k+j))=some u:=by
   intro i hi
   obtain ⟨cs,h1,h2⟩:=hr i (by omega)
   rw[hk] at h1
   obtain ⟨_,hcl,hat⟩:=World.cells?_some h1
   obtain ⟨y,hy,hrep⟩:=he en held n cs _ h2
   refine ⟨y,hy,cs,hcl,hrep,fun j u hu=>?_⟩
   have hj:j<k:=by have:=(List.getElem?_eq_some_iff.1 hu).1;omega
   have:=hat j hj
   rw[Go.Deep.add_add] at this
   rw[this,hu]
  by_cases h0:len=0
  ·subst h0
   exact ⟨[],⟨by simp,w2 _⟩,_,_,rfl,⟨some a,0,cap,rfl,rfl,w2 _,fun h=>by (cases h),trivial⟩,rfl⟩
  ·obtain ⟨y0,_⟩:=each 0 (by omega)
   have:Inhabited α:=⟨y0⟩
   obtain ⟨Y,hY⟩:=choose_lt each
   have ha:a=⟨a.block,a.off,none⟩:=by
    obtain ⟨_,vs,hvl,_,hat⟩:=hY 0 (by omega)
    have:=hat 0 _ (qx (show 0<vs.length by omega))
    rw[Nat.zero_mul] at this
    exact (qY (by simpa [Addr.add] using this)).1
   refine ⟨(List.range len).map Y,⟨?_,by simp;omega⟩,_,_,U,⟨some a,len,cap,U,by simp,hl,fun h=>by (cases h),RepR.intro fun j r hj=>?_⟩,U⟩
   ·intro x hx
    obtain ⟨i,hi,rfl⟩:=List.mem_map.1 hx
    exact (hY i (by simpa using hi)).1
   ·rw[w7,w7] at hj
    have hjl:j<len:=by
     rcases Nat.lt_or_ge j len with h|h
     ·exact h
     ·rw[List.getElem?_eq_none (by simpa using h)] at hj;cases hj
    rw[List.getElem?_range hjl] at hj
    simp only[Option.map_some,Option.some.injEq] at hj
    subst hj
    obtain ⟨_,vs,hvl,hrep,hat⟩:=hY j hjl
    refine ⟨a.block,a.off,vs,by rw[←ha],hvl,hrep,fun i u hu=>?_⟩
    have:=hat i u hu
    rw[ha,dP] at this
    have:=(qY this).2
    rw[Nat.zero_add,Nat.add_assoc];exact this
theorem RepL.fld {I:G} {cs:List Value} {e es:List AV} {o k:Nat} (h1:RepL I e ((cs.drop o).take k)) (h2:RepL I es (cs.drop (o+k))):RepL I (e++es) (cs.drop o):=by
 have:=h1.append h2
 rwa [←List.drop_drop,List.take_append_drop] at this
theorem RepL.fin {I:G} {cs:List Value} {o:Nat} (h:cs.length=o):RepL I [] (cs.drop o):=List.drop_eq_nil_of_le (by omega)
theorem gT.at {α:Type} {enc:α→List AV} {ok:α→Prop} {f:Field} {H:Type} {en:TypeId × Value→H} {held:Bool} {n o k i:Nat} {cs:List Value} {xs:List (DataW H × List MemPlace)}
  (h1:DataW.trod en P W 0 (fun _=>true) held n f.type ((cs.drop f.offset).take (P.cellsOf f.type))=xs[i]?) (hd:gT P W f.type enc ok) (h2:i<xs.length) (ho:f.offset=o) (hk:P.cellsOf f.type=k) :
  ∃a,ok a∧RepL (I0 W) (enc a) ((cs.drop o).take k):=by
 rw[qx h2,ho,hk] at h1
 exact hd en held n _ _ h1
theorem gT.pair {α:Type} {enc:α→List AV} {ok:α→Prop} {k:Nat} (ht:P.underlying T=some (.array 2 e)) (he:gT P W e enc ok) (hk:P.cellsOf e=k) (hT:P.cellsOf T=k+k) :
  gT P W T (fun x:α × α=>enc x.1++enc x.2) (fun x=>ok x.1∧ok x.2):=fun en held fuel cs x h=>by
 obtain ⟨xs,m,_,_,hl,hxl,hf⟩:=DataW.trod_array ht h
 have h0:=hf 0 (by omega)
 have h1:=hf 1 (by omega)
 rw[qx (by omega),hk] at h0 h1
 rw[Nat.zero_mul] at h0
 rw[Nat.one_mul] at h1
 obtain ⟨a,ha,ra⟩:=he en held m _ _ h0
 obtain ⟨b,hb,rb⟩:=he en held m _ _ h1
 refine ⟨(a,b),⟨ha,hb⟩,?_⟩
 have hcl:cs.length=k+k:=by rw[hl,hT]
 have h2:(cs.drop k).take k=cs.drop k:=List.take_of_length_le (by rw[List.length_drop];omega)
 rw[h2] at rb
 have:=ra.append rb
 rw[List.drop_zero,List.take_append_drop] at this
 exact this
end
theorem qZ {P:Program} {W:World} {name:String} {k:IntKind} {zs:List Int} {g:Nat} {t e:TypeId} {n:Nat}
  (hg:P.globalNamed name=some g) (hty:(P.globals[g]?).map (·.type)=some t) (ht:P.underlying t=some (.array n e)) (he:P.underlying e=some (.int k)) (hce:P.cellsOf e=1) (hct:P.cellsOf t=n)
  (h:Lib.VarReads P W name (Lib.tabData k zs)):Lib.TabIs P W name k zs:=by
 obtain ⟨g',t',cs,fuel,p,hg',ht',hvar,hd⟩:=h
 obtain rfl:=Option.some.inj (hg.symm.trans hg')
 obtain rfl:=Option.some.inj (hty.symm.trans ht')
 unfold Lib.TabIs
 rw[hvar,←Lib.cells_of_tab ht he hce hct hd]
theorem aP.call {P:Program} {W:World} {f:FuncId} {us:List AV} {vs:List Value} {r:AV} (h:aP P W f us r) (hr:RepL (I0 W) us vs) (hp:r.plain=true):Calls P f vs.toArray W fun e w'=>∃v,e=.returned v∧cC (I0 W) r v∧Below W.heap.size W w':=by
 have:=(h (I0 W) [] W vs hr ⟨⟨0,fun _ _=>rfl⟩,[],rfl,Hu W⟩).2
 refine this.mono fun e w' ⟨v,he,J,x,O',hle,hx,hS,hxr⟩=>⟨v,he,?_,?_⟩
 ·subst hxr;exact AV.plain_rep hp hx
 ·obtain ⟨_,L,_,hSL⟩:=hS
  exact hSL.belowE
end
section
open Go.Proofs.Tryz
section
variable {E:World} {P:Program} {n:Nat} {env:aT} {O O' O'':OL} {i k m:Nat} {T:TypeId} {rows rows':List (List AV)}
end
section
variable {E:World} {P:Program} {f:FuncId} {us bs:List AV} {r:AV}
end
section
variable {E:World} {P:Program} {n:Nat} {ops:Array Oper} {K:aT→OL→Prop} {env:aT} {O O':OL} {rest:List Oper}
variable {d ty:Nat} {pos:String} {af:Array Edge} {t e:TypeId} {x y:Operand} {L:List (Nat × Obj)}
end
end
section
open Go.Proofs.Tryz
section
variable {E:World} {P:Program} {n:Nat} {ops:Array Oper} {K:aT→OL→Prop} {env:aT} {O O':OL} {rest:List Oper}
variable {d ty:Nat} {pos:String} {af:Array Edge} {t e:TypeId} {x y:Operand}
theorem RepR.drop {I:G} {k n c j:Nat} {a:Option Addr} {rows:List (List AV)} (hn:n=rows.length) (hnc:n≤c) (hr:RepR I k a 0 rows):RepR I k (if c=j then a else a.map (·.add (j*k))) 0 (rows.drop j):=
 RepR.intro fun j' r hj=>by
  rw[List.getElem?_drop] at hj
  have hlt:=(List.getElem?_eq_some_iff.1 hj).1
  obtain ⟨b,off,vs,rfl,h4,h5,h6⟩:=hr.get hj
  rw[if_neg (by omega)]
  refine ⟨b,off+j*k,vs,by simp[Addr.add],h4,h5,fun i u hu=>?_⟩
  have:=h6 i u hu
  rw[Nat.zero_add,Nat.add_mul] at this
  rw[Nat.zero_add]
  rwa [←Nat.add_assoc] at this
theorem Gv.cutLo {k j:Nat} {a:Int} {rows:List (List AV)} (ht:P.underlying t=some (.slice e)) (hs:∀w,(sizeOf e).run P w=.ok k w) (hx:bc env x=.fro k rows) (hy:bc env y=.int .i64 a) (hi:a=(j:Int)) (hj:j≤rows.length) :
  Gv P env O (Oper.mk (some d) (.slice t x (some y) none none) ty pos af none) (.fro k (rows.drop j)):=Gv.ofEv fun I ρ h=>by
 have h2:=h.ev x
 rw[hx] at h2
 obtain ⟨p,n,c,ex,hn,hnc,hnil,hr⟩:=h2
 have h3:=gr h hy
 subst hi
 refine ⟨.slice (if c=j then p else p.map (·.add (j*k))) (n - j) (c - j),⟨_,_,_,U,by rw[List.length_drop,hn],by omega,fun hp=>?_,hr.drop hn hnc⟩,fun w=>?_⟩
 ·split at hp
  ·omega
  ·cases p with
   |none=>have:=hnil rfl;omega
   |some q=>cases hp
 ·have hjn:j≤n:=by omega
  simp[execOp,Instr.sliceAt,Instr.slice,Instr.sliceBounds,Instr.sliceBound,asIntOf,Sem.run_bind,run_underlying ht,hs,ex,h3,hjn]
theorem Gv.cutLoM {α:Type} {enc:α→List AV} {xs:List α} {k j:Nat} {a:Int} (ht:P.underlying t=some (.slice e)) (hs:∀w,(sizeOf e).run P w=.ok k w) (hx:bc env x=.fro k (xs.map enc)) (hy:bc env y=.int .i64 a) (hi:a=(j:Int)) (hj:j≤xs.length) :
  Gv P env O (Oper.mk (some d) (.slice t x (some y) none none) ty pos af none) (.fro k ((xs.drop j).map enc)):=by
 have:=Gv.cutLo (d:=d) (ty:=ty) (pos:=pos) (af:=af) (O:=O) ht hs hx hy hi (by rwa [w6])
 rwa [←List.map_drop] at this
end
end
section
open Go.Proofs.Tryz
def lB (s:ByteArray):List (ByteArray × Int)→Option Int
 |[]=>none
 |(k,v)::es=>if s=k then some v else lB s es
def pL (s:ByteArray) (v:Int):List (ByteArray × Int)→List (ByteArray × Int)
 |[]=>[(s,v)]
 |(k,u)::es=>if s=k then (k,v)::es else (k,u)::pL s v es
def pg (p:ByteArray × Int):Value × Value:=(.string p.1,.int .i64 p.2)
def Me (b:Nat) (es:List (ByteArray × Int)) (L:List (Nat × Obj)):Prop:=∃(arr:Array MapEntry) (clock:Nat),L=[(b,.map arr clock)]∧arr.toList.map (fun e=>(e.key,e.val))=es.map pg
def CS (b:Nat) (es:List (ByteArray × Int)):bC:=.heap (Me b es)
def kj (b:Nat):AV:=.raw (.map (some b))
theorem kG {s:ByteArray}:∀{l:List MapEntry} {es:List (ByteArray × Int)} {i:Nat},l.map (fun e=>(e.key,e.val))=es.map pg→lB s es=none→Instr.findNow .string (.string s) l i=some none
 |[],[],_,_,_=>rfl
 |[],_::_,_,h,_=>by cases h
 |_::_,[],_,h,_=>by cases h
 |e::l,(k,v)::es,i,h,hg=>by
  simp only[List.map_cons,List.cons.injEq,pg,Prod.mk.injEq] at h
  obtain ⟨⟨h1,_⟩,h2⟩:=h
  simp only[lB] at hg
  split at hg
  ·cases hg
  ·rename_i hne
   unfold Instr.findNow
   rw[h1]
   have:(s == k)=false:=Bool.eq_false_iff.2 fun h=>hne ((MapKept.bytes_beq s k).1 h)
   simp only[Instr.sameNow,this]
   exact kG h2 hg
theorem kH {s:ByteArray} {u:Int}:∀{l:List MapEntry} {es:List (ByteArray × Int)} {i:Nat},l.map (fun e=>(e.key,e.val))=es.map pg→lB s es=some u →
  ∃j,Instr.findNow .string (.string s) l i=some (some (i+j,.int .i64 u))∧(∃e,l[j]?=some e∧e.key=.string s)∧∀v,es.set j (s,v)=pL s v es
 |[],[],_,_,hg=>by cases hg
 |[],_::_,_,h,_=>by cases h
 |_::_,[],_,h,_=>by cases h
 |e::l,(k,v)::es,i,h,hg=>by
  simp only[List.map_cons,List.cons.injEq,pg,Prod.mk.injEq] at h
  obtain ⟨⟨h1,h3⟩,h2⟩:=h
  simp only[lB] at hg
  unfold Instr.findNow
  rw[h1]
  split at hg
  ·rename_i heq
   subst heq
   cases hg
   refine ⟨0,?_,⟨e,U,h1⟩,fun v=>?_⟩
   ·have hss:(s == s)=true:=(MapKept.bytes_beq s s).2 rfl
    simp only[Instr.sameNow,hss]
    rw[h3];rfl
   ·simp[pL]
  ·rename_i hne
   have hb:(s == k)=false:=Bool.eq_false_iff.2 fun h=>hne ((MapKept.bytes_beq s k).1 h)
   obtain ⟨j,g1,g2,g3⟩:=kH (i:=i+1) h2 hg
   refine ⟨j+1,?_,by simpa using g2,fun v=>?_⟩
   ·simp only[Instr.sameNow,hb,g1]
    congr 3;omega
   ·simp[pL,hne,g3]
section
variable {E:World} {P:Program} {n:Nat} {ops:Array Oper} {K:aT→OL→Prop} {env:aT} {O O':OL} {rest:List Oper}
variable {d ty:Nat} {pos:String} {af:Array Edge} {t e kt:TypeId} {x y z:Operand} {b i:Nat} {es:List (ByteArray × Int)}
theorem ay.makeMap (k:∀b,ay P E ops K rest (bz env d (kj b)) ((0,CS b [])::O)):ay P E ops K (Oper.mk (some d) (.makeMap t none) ty pos af none::rest) env O:=fun I F ρ w h1 ⟨ht,L,hL,hS⟩=>by
 refine bY.step U ?_
 unfold lG
 have:(execOp (Go.Proofs.YtbbonnfjealmpaaGreatDoor.ev ρ) (Oper.mk (some d) (.makeMap t none) ty pos af none)).run P w=.ok (.value (.map (some w.heap.size))) (w.alloc (.map #[] 0)):=by
  simp only[execOp,Option.map_none]
  rw[Sem.run_bind,run_makeMap_plain];rfl
 rw[this]
 exact k w.heap.size I F _ _ (h1.upd d rfl) ⟨ht,(w.heap.size,.map #[] 0)::L,⟨[_],L,rfl,⟨#[],0,rfl,rfl⟩,hL⟩,hS.alloc _⟩
theorem Jv {I:G} {L:List (Nat × Obj)} (hO:tj O i (CS b es)) (hL:cD I O L):∃(arr:Array MapEntry) (clock:Nat),(b,Obj.map arr clock)∈L∧arr.toList.map (fun e=>(e.key,e.val))=es.map pg:=by
 obtain ⟨O',hO⟩:=hO
 obtain ⟨A,B,hp,⟨arr,clock,rfl,h2⟩,_⟩:=hO.rep hL
 exact ⟨arr,clock,hp.mem_iff.2 (by simp),h2⟩
theorem ay.mapSet {s:ByteArray} {v:Int} (ht:P.underlying t=some (.map kt e)) (hk:P.underlying kt=some .string) (hx:bc env x=kj b) (hy:bc env y=.str s) (hz:bc env z=.int .i64 v) (hO:fF O i (CS b es) (CS b (pL s v es)) O')
  (k:ay P E ops K rest env O'):ay P E ops K (Oper.mk none (.mapUpdate t x y z) ty pos af none::rest) env O:=fun I F ρ w h1 ⟨htop,L,hL,hS⟩=>by
 have hx:=ik h1 hx
 have hy:=El h1 hy
 have hz:=gr h1 hz
 obtain ⟨A,B,hp,⟨arr,clock,rfl,he⟩,hback⟩:=hO.rep hL
 have hS2:SL I.k ((b,.map arr clock)::(B++F)) E w:=hS.perm ((hp.append_right F).symm)
 have hb:=hS2.own _ (.head _)
 simp only at hb
 have hc:(Instr.checkKey false 10000 kt (.string s)).run P w=.ok () w:=MapKept.run_checkKey (k:=.string s) hk (by simp[MapKept.IsKey]) false 9999
 have fin:∀(arr':Array MapEntry) (clock':Nat),arr'.toList.map (fun e=>(e.key,e.val))=(pL s v es).map pg →
   (execOp (Go.Proofs.YtbbonnfjealmpaaGreatDoor.ev ρ) (Oper.mk none (.mapUpdate t x y z) ty pos af none)).run P w=.ok .skip { w with heap:=w.heap.setIfInBounds b (.map arr' clock') }→bY P ops (lc I F E K) (Oper.mk none (.mapUpdate t x y z) ty pos af none::rest) ρ w:=fun arr' clock' he' hrun=>by
  refine bY.step U ?_
  unfold lG
  rw[hrun]
  obtain ⟨L',h7,h8⟩:=hback (qo I) (A':=[(b,.map arr' clock')]) ⟨arr',clock',rfl,he'⟩
  have hh:=MapKept.heap_set (o':=.map arr' clock') hb
  have hS3:SL I.k ((b,.map arr' clock')::(B++F)) E { w with heap:=w.heap.setIfInBounds b (.map arr' clock') }:=hS2.turn rfl rfl rfl hh.1 hh.2
  exact k I F ρ _ h1 ⟨htop,L',h7,hS3.perm (h8.append_right F)⟩
 cases hg:lB s es with
 |none=>
  have hf:=kG (i:=0) he hg
  refine fin (arr.push { key:=.string s,val:=.int .i64 v,born:=clock }) (clock+1) ?_ ?_
  ·have hset:∀es:List (ByteArray × Int),lB s es=none→pL s v es=es++[(s,v)]:=fun es=>by
    induction es with
    |nil=>intro _;rfl
    |cons x es ih=>
     obtain ⟨k,u⟩:=x
     intro hg
     simp only[lB] at hg
     split at hg
     ·cases hg
     ·rename_i hne;simp[pL,hne,ih hg]
   rw[hset es hg]
   simp[he,pg]
  ·simp[execOp,hx,hy,hz,Instr.mapUpdate,run_underlying ht,MapKept.run_getObj_map hb,hc,MapKept.run_findKey hk hf,MapKept.run_setObj_map _ hb,Result.andThen]
 |some u=>
  obtain ⟨j,hf,⟨e0,hj,hkey⟩,hset⟩:=kH (i:=0) he hg
  rw[Nat.zero_add] at hf
  have hj':arr[j]?=some e0:=by rw[←Array.getElem?_toList];exact hj
  refine fin (arr.modify j fun e=>{ e with key:=.string s,val:=.int .i64 v }) clock ?_ ?_
  ·rw[←hset v,List.map_set]
   have hjl:j<arr.toList.length:=(List.getElem?_eq_some_iff.1 hj).1
   have:(arr.modify j fun e=>{ e with key:=.string s,val:=.int .i64 v }).toList=arr.toList.set j { e0 with key:=.string s,val:=.int .i64 v }:=by
    apply List.ext_getElem?
    intro q
    rw[Array.getElem?_toList,Array.getElem?_modify]
    by_cases hq:j=q
    ·subst hq
     rw[if_pos rfl,hj',List.getElem?_set_self hjl];rfl
    ·rw[if_neg hq,List.getElem?_set_ne hq,Array.getElem?_toList]
   rw[this,List.map_set,he];rfl
  ·have hkeep:(Instr.keyThatStays (.string s) (.string s)).run P w=.ok (.string s) w:=by
    have hss:(s == s)=true:=(MapKept.bytes_beq s s).2 rfl
    simp[Instr.keyThatStays,Instr.sameBits,hss]
   simp[execOp,hx,hy,hz,Instr.mapUpdate,run_underlying ht,MapKept.run_getObj_map hb,hc,MapKept.run_findKey hk hf,MapKept.run_setObj_map _ hb,Result.andThen,hj',hkey,hkeep]
end
end
section
open Go.Proofs.Tryz
section
variable {E:World} {P:Program} {n:Nat} {ops:Array Oper} {K:aT→OL→Prop} {env:aT} {O O':OL} {rest:List Oper} {R:AV→OL→Prop}
variable {d ty:Nat} {pos:String} {af:Array Edge} {t e:TypeId} {x y:Operand}
theorem ga.c1t {t u T i:Nat} {T':TypeId} {cs:List AV} {n:Nat} {y:AV} (hv:env t=.po i 0) (hu:env u=y) (hO:tj O i (.cells T' cs)) (ha:∀w,(isAgg T).run P w=.ok true w) (hs:∀w,(sizeOf T).run P w=.ok n w) (hn:cs.length=n) (h:R (.tup [.agg cs,y]) O) :
  ga P E #[.cell t T,.tmp u] R .ret env O:=ga.of (x:=.tup [.agg cs,y]) (fun I F ρ w h1 h2=>by
 obtain ⟨L,hL,hS⟩:=h2.2
 have h3:=h1 t
 rw[hv] at h3
 obtain ⟨b,c,e1,e⟩:=h3
 obtain ⟨b',c',vs,e2,h4,hm⟩:=hO.cells hL
 rw[e1] at e2;cases e2
 have hl:=k9 (P:=P) (w:=w) (b:=b) (off:=0) ha (cs:=vs) (by rw[h4.length,hn];exact hs) (fun j v hj=>by
  rw[Nat.zero_add]
  exact hS.at_ (.inr ⟨_,_,_,List.mem_append_left _ hm,by rw[List.getElem?_toArray];exact hj⟩))
 exact ⟨.tuple #[.agg vs.toArray,ρ u],by simp[tn,e,asAddr,hl],⟨[_,_],rfl,_,_,rfl,⟨vs,rfl,h4⟩,_,_,rfl,hu▸h1 u,rfl⟩⟩) h
end
end
section
open Go.Proofs.Tryz
section
variable {E:World} {P:Program} {env:aT} {O:OL} {d ty:Nat} {pos:String} {af:Array Edge} {x:Operand} {t u:TypeId}
end
end
section
open Go.Proofs.Tryz
section
variable {E:World} {P:Program} {ops:Array Oper} {K:aT→OL→Prop} {env:aT} {O O' O'':OL} {rest:List Oper} {n:Nat}
variable {d ty:Nat} {pos:String} {af:Array Edge} {x y z:Operand} {t u e:TypeId}
theorem CT {A row:List AV} {j:Nat} {c:AV} (h:row[j]?=some c):(A++row).drop (A.length+j)=c::row.drop (j+1):=by
 obtain ⟨hj,rfl⟩:=List.getElem?_eq_some_iff.1 h
 rw[List.drop_append,List.drop_eq_nil_of_le (by omega),Nat.add_sub_cancel_left,List.nil_append]
 exact List.drop_eq_getElem_cons hj
theorem Gv.loadL {i off j k:Nat} {T:TypeId} {c:AV} {A row:List AV} (ha:∀w,(isAgg t).run P w=.ok false w) (hx:bc env x=.po i off) (hoff:off=A.length+j) (hO:tj O i (.grow k T (A++row))) (hv:row[j]?=some c) :
  Gv P env O (Oper.mk (some d) (.load t x) ty pos af none) c:=qv ha hx hO (by subst hoff;exact CT hv)
theorem ay.storeL {i off j m k:Nat} {T:TypeId} {v:AV} {A row l new:List AV} (hs:∀w,(sizeOf t).run P w=.ok m w) (hx:bc env x=.po i off) (hoff:off=A.length+j) (hy:bc env y=v) (hv:v.sto=true) (hl:v.cs=l) (hl1:l.all AV.cell=true) (hn:l.length=m)
  (hO:fF O i (.grow k T (A++row)) (.grow k T (A++new)) O') (hb:Nat.ble (j+m) row.length=true) (hm:Nat.ble 1 m=true) (hnew:row.take j++l++row.drop (j+m)=new) (kk:ay P E ops K rest env O'):ay P E ops K (Oper.mk none (.store t x y) ty pos af none::rest) env O:=
 ay.storeG hs hx hy hv hl hl1 hn hO (by have:=Nat.le_of_ble_eq_true hb;rw[w5];omega) (Nat.le_of_ble_eq_true hm) (by
  have:=Nat.le_of_ble_eq_true hb
  subst hoff hnew
  rw[List.take_append,List.take_of_length_le (by omega:A.length≤A.length+j),Nat.add_sub_cancel_left,List.drop_append,List.drop_eq_nil_of_le (by omega:A.length≤A.length+j+m),Nat.add_assoc,Nat.add_sub_cancel_left]
  simp) kk
theorem Gv.idxOL {i n k j r:Nat} {a:Int} {T:TypeId} {cs:List AV} (ht:P.underlying t=some (.slice e)) (hs:∀w,(sizeOf e).run P w=.ok k w) (hx:bc env x=.own i n) (hy:bc env y=.int .i64 a) (hi:a=(j:Int)) (hO:tj O i (.grow k T cs)) (hne:cs≠[]) (hj:j<n) (hr:j*k=r) :
  Gv P env O (Oper.mk (some d) (.indexAddr t x y) ty pos af none) (.po i r):=hr▸Gv.idxO ht hs hx hy hi hO hne hj
theorem aR.eq (h:O=O'):aR E env O env O':=fun I F ρ w h1 h2=>⟨I,.refl _,h1,h▸h2⟩
end
section
variable {P:Program} {E:World} {l:List Oper} {W:Nat→Bool} {fuel:Nat} {listed:Array Bool} {d ty:Nat} {op:Op} {pos:String} {af:Array Edge}
end
theorem aR.knowP {E:World} {env:aT} {O O':OL} {t i:Nat} {T:TypeId} {cs:List AV} (hv:env t=.po i 0) (hO:dH O i (.cells T cs) O'):aR E env O (bz env t (.pf cs)) O':=fun I F ρ w h1 ⟨ht,L,hL,hS⟩=>by
 obtain ⟨A,B,hp,⟨b,c,vs,e1,hvs,hvc,rfl⟩,hB⟩:=hO.rep hL
 simp only at e1
 have hS2:SL I.k ((b,.cells vs.toArray T (0,0))::(B++F)) E w:=hS.perm ((hp.append_right F).symm)
 obtain ⟨hl,hS3⟩:=SL.freeze hS2
 let J:G:=⟨I.k.put b (.cells vs.toArray T (0,0)),I.h⟩
 have hle:I.le J:=⟨hl,fun _ _ h=>h⟩
 refine ⟨J,hle,fun s=>?_,ht,B,hB.mono hle,hS3⟩
 unfold bz
 cases hb:Nat.beq s t with
 |false=>exact cC.mono hle _ _ (h1 s)
 |true=>
  have:s=t:=Nat.eq_of_beq_eq_true hb
  subst this
  have h2:=h1 s
  rw[hv] at h2
  obtain ⟨b2,c2,e2,e3⟩:=h2
  rw[e1] at e2
  simp only[Option.some.injEq,Prod.mk.injEq] at e2
  obtain ⟨rfl,rfl⟩:=e2
  exact ⟨b,0,vs,e3,RepL.mono hle _ _ hvs,fun j u hj=>⟨_,_,_,bK.put_same _ _ _,by rw[Nat.zero_add,List.getElem?_toArray];exact hj⟩⟩
end
section
open Go.Proofs.Tryz
section
variable {E:World} {P:Program} {ops:Array Oper} {K:aT→OL→Prop} {env:aT} {O O':OL} {rest:List Oper}
variable {d ty:Nat} {pos:String} {af:Array Edge} {x y z:Operand} {t u e:TypeId}
end
end
section
open Go.Proofs.Tryz
section
variable {P:Program} {env:aT} {O:OL}
variable {d ty:Nat} {pos:String} {af:Array Edge} {x y:Operand}
theorem Gv.maxI {ts:Array TypeId} {k:IntKind} {a b:Int} (hx:bc env x=.int k a) (hy:bc env y=.int k b):Gv P env O (Oper.mk (some d) (.call { callee:=.builtin .max,args:=#[x,y],argTypes:=ts }) ty pos af none) (.int k (if b>a then b else a)):=Gv.ofEv fun I ρ h=>⟨_,rfl,fun w=>by
 simp[execOp,resolve,gr h hx,gr h hy,invoke,builtin,Builtin.max_,Builtin.max2,Result.andThen]⟩
theorem Gv.minI {ts:Array TypeId} {k:IntKind} {a b:Int} (hx:bc env x=.int k a) (hy:bc env y=.int k b):Gv P env O (Oper.mk (some d) (.call { callee:=.builtin .min,args:=#[x,y],argTypes:=ts }) ty pos af none) (.int k (if b<a then b else a)):=Gv.ofEv fun I ρ h=>⟨_,rfl,fun w=>by
 simp[execOp,resolve,gr h hx,gr h hy,invoke,builtin,Builtin.min_,Builtin.min2,Result.andThen]⟩
end
end
section
open Go.Proofs.Tryz
open Go.Lib
section
variable {P:Program} {ops:Array Oper} {K:dX→World→Prop} {ρ:dX} {w:World} {rest:List Oper}
variable {d ty:Nat} {pos:String} {af:Array Edge} {x y z:Operand} {t u e:TypeId}
variable {I:bK} {O A:List (Nat × Obj)} {E:World}
end
section
variable {E:World} {P:Program} {ops:Array Oper} {K:aT→OL→Prop} {env:aT} {O O':OL} {rest:List Oper}
variable {d ty:Nat} {pos:String} {af:Array Edge} {x y z:Operand} {t u e:TypeId}
end
section
variable {E:World} {P:Program} {env:aT} {O:OL} {d ty:Nat} {pos:String} {af:Array Edge} {t e kt:TypeId} {x y:Operand} {b i:Nat} {es:List (ByteArray × Int)}
theorem Gv.lookup1S {s:ByteArray} (ht:P.underlying t=some (.map kt e)) (hk:P.underlying kt=some .string) (hz:∀w,(zeroValue e).run P w=.ok (.int .i64 0) w) (hx:bc env x=kj b) (hy:bc env y=.str s) (hO:tj O i (CS b es)) :
  Gv P env O (Oper.mk (some d) (.lookup t x y false) ty pos af none) (.int .i64 ((lB s es).getD 0)):=fun I L E ρ h1 hL=>by
 obtain ⟨arr,clock,hm,he⟩:=Jv hO hL
 have hx:=ik h1 hx
 have hy:=El h1 hy
 refine ⟨.int .i64 ((lB s es).getD 0),U,fun w J L' hl hS hin=>?_⟩
 have hb:=hS.own _ (hin _ hm)
 simp only at hb
 have hc:(Instr.checkKey arr.isEmpty 10000 kt (.string s)).run P w=.ok () w:=MapKept.run_checkKey (k:=.string s) hk (by simp[MapKept.IsKey]) _ 9999
 cases hg:lB s es with
 |none=>
  have hf:=kG (i:=0) he hg
  simp[execOp,Instr.lookup,run_underlying ht,hx,hy,MapKept.run_getObj_map hb,hc,MapKept.run_findKey hk hf,hz,Result.andThen]
 |some u=>
  obtain ⟨j,hf,_⟩:=kH (i:=0) he hg
  simp[execOp,Instr.lookup,run_underlying ht,hx,hy,MapKept.run_getObj_map hb,hc,MapKept.run_findKey hk hf,Result.andThen]
end
theorem wM (s v:ByteArray) (n:Int):∀es:List (ByteArray × Int),lB s (pL v n es)=if s=v then some n else lB s es
 |[]=>by simp only[pL,lB]
 |(k,u)::es=>by
  simp only[pL]
  split
  ·rename_i h;subst h;simp only[lB];split<;>rfl
  ·rename_i h
   simp only[lB,wM s v n es]
   split
   ·rename_i h2;subst h2;rw[if_neg (fun e=>h e.symm)]
   ·rfl
end
section
open Go.Proofs.Tryz
def cI (l:List Int):List AV:=l.map (AV.int .i64)
def cB (l:List Bool):List AV:=l.map AV.bool
theorem aF (l:List Int):(cI l).length=l.length:=by simp[cI]
theorem aM (l:List Bool):(cB l).length=l.length:=by simp[cB]
theorem kJ (l:List Int):(l.map fun x=>[AV.int .i64 x]).flatten=cI l:=by
 induction l with
 |nil=>rfl
 |cons x l ih=>simp only[List.map_cons,List.flatten_cons,ih];rfl
theorem BM (l:List Bool):(l.map fun x=>[AV.bool x]).flatten=cB l:=by
 induction l with
 |nil=>rfl
 |cons x l ih=>simp only[List.map_cons,List.flatten_cons,ih];rfl
theorem bX (l:List Int):(cI l).all AV.cell=true:=by
 unfold cI;rw[List.all_map];exact List.all_eq_true.2 fun _ _=>rfl
theorem eL (l:List Bool):(cB l).all AV.cell=true:=by
 unfold cB;rw[List.all_map];exact List.all_eq_true.2 fun _ _=>rfl
theorem kK (l m:List Int):cI l++cI m=cI (l++m):=by simp[cI]
theorem Jw (l:List Int) (j:Nat) (v:Int):(cI l).set j (.int .i64 v)=cI (l.set j v):=by unfold cI;rw[List.map_set]
theorem Jx (l:List Bool) (j:Nat) (v:Bool):(cB l).set j (.bool v)=cB (l.set j v):=by unfold cB;rw[List.map_set]
theorem Hv {l:List Int} {j:Nat} {v:Int} (h:l[j]?=some v):(cI l).drop j=.int .i64 v::(cI l).drop (j+1):=by
 obtain ⟨hj,e⟩:=List.getElem?_eq_some_iff.1 h
 rw[List.drop_eq_getElem_cons (by rw[aF];exact hj)]
 unfold cI
 rw[List.getElem_map,e]
theorem Hw {l:List Bool} {j:Nat} {v:Bool} (h:l[j]?=some v):(cB l).drop j=.bool v::(cB l).drop (j+1):=by
 obtain ⟨hj,e⟩:=List.getElem?_eq_some_iff.1 h
 rw[List.drop_eq_getElem_cons (by rw[aM];exact hj)]
 unfold cB
 rw[List.getElem_map,e]
theorem Jy (n:Nat) (v:Int):List.replicate n (AV.int .i64 v)=cI (List.replicate n v):=by simp[cI]
theorem Jz (n:Nat) (v:Bool):List.replicate n (AV.bool v)=cB (List.replicate n v):=by simp[cB]
theorem CU (I:G) (l:List Int):RepL I (cI l) (l.map (Value.int .i64)):=by
 unfold cI
 induction l with
 |nil=>rfl
 |cons x l ih=>exact ⟨_,_,rfl,rfl,ih⟩
theorem IX {I:G}:∀{l:List Int} {vs:List Value},RepL I (cI l) vs→vs=l.map (Value.int .i64)
 |[],_,h=>h
 |x::l,_,⟨v,us,e,h1,h2⟩=>by
  have h1:v=.int .i64 x:=h1
  rw[e,h1,IX h2];rfl
section
variable {E:World} {P:Program} {ops:Array Oper} {K:aT→OL→Prop} {env:aT} {O O' O'':OL} {rest:List Oper} {n:Nat}
variable {d ty:Nat} {pos:String} {af:Array Edge} {x y z:Operand} {t u e:TypeId}
theorem Gv.idxI {i n j:Nat} {a:Int} {T:TypeId} {cs:List AV} (ht:P.underlying t=some (.slice e)) (hs:∀w,(sizeOf e).run P w=.ok 1 w) (hx:bc env x=.own i n) (hy:bc env y=.int .i64 a) (hi:a=(j:Int)) (hO:tj O i (.grow 1 T cs)) (hn:cs.length=n) (hj:j<n) :
  Gv P env O (Oper.mk (some d) (.indexAddr t x y) ty pos af none) (.po i j):=
 Gv.idxOL ht hs hx hy hi hO (fun e=>by rw[e] at hn;simp at hn;omega) hj (Nat.mul_one j)
theorem Gv.loadI {i j:Nat} {T:TypeId} {l:List Int} {v:Int} (ha:∀w,(isAgg t).run P w=.ok false w) (hx:bc env x=.po i j) (hO:tj O i (.grow 1 T (cI l))) (hv:l[j]?=some v) :
  Gv P env O (Oper.mk (some d) (.load t x) ty pos af none) (.int .i64 v):=qv ha hx hO (Hv hv)
theorem Gv.loadB {i j:Nat} {T:TypeId} {l:List Bool} {v:Bool} (ha:∀w,(isAgg t).run P w=.ok false w) (hx:bc env x=.po i j) (hO:tj O i (.grow 1 T (cB l))) (hv:l[j]?=some v) :
  Gv P env O (Oper.mk (some d) (.load t x) ty pos af none) (.bool v):=qv ha hx hO (Hw hv)
theorem fF.cast {i k:Nat} {T:TypeId} {o:bC} {cs ds:List AV} (h:fF O i o (.grow k T cs) O') (e:cs=ds):fF O i o (.grow k T ds) O':=e▸h
theorem ay.storeI {i j:Nat} {T:TypeId} {l:List Int} {v:Int} (hs:∀w,(sizeOf t).run P w=.ok 1 w) (hx:bc env x=.po i j) (hy:bc env y=.int .i64 v) (hO:fF O i (.grow 1 T (cI l)) (.grow 1 T (cI (l.set j v))) O') (hb:j<l.length)
  (kk:ay P E ops K rest env O'):ay P E ops K (Oper.mk none (.store t x y) ty pos af none::rest) env O:=
 ay.storeG1 (cs:=cI l) hs hx hy rfl rfl rfl (hO.cast (Jw l j v).symm) (by rw[aF];exact hb) kk
theorem ay.storeB {i j:Nat} {T:TypeId} {l:List Bool} {v:Bool} (hs:∀w,(sizeOf t).run P w=.ok 1 w) (hx:bc env x=.po i j) (hy:bc env y=.bool v) (hO:fF O i (.grow 1 T (cB l)) (.grow 1 T (cB (l.set j v))) O') (hb:j<l.length)
  (kk:ay P E ops K rest env O'):ay P E ops K (Oper.mk none (.store t x y) ty pos af none::rest) env O:=
 ay.storeG1 (cs:=cB l) hs hx hy rfl rfl rfl (hO.cast (Jx l j v).symm) (by rw[aM];exact hb) kk
theorem ay.makeI {i:TypeInfo} {zv:Value} {m:Nat} {k1 k2:IntKind} {l l':Int} (ht:P.underlying t=some (.slice e)) (hi:P.info? e=some i) (hz:i.zero=some zv) (hzc:zv.cells=#[.int .i64 0]) (hk:i.size=1) (hx:bc env x=.int k1 l) (hy:bc env y=.int k2 l')
  (hl:l=(m:Int)) (hl':l'=(m:Int)) (hb:(i.bytes:Int)*(m:Int)≤281474976710656) (hm:m≤281474976710656) (kk:∀j,ay P E ops K rest (bz env d (.own j m)) ((j,.grow 1 e (cI (List.replicate m 0)))::O)) :
  ay P E ops K (Oper.mk (some d) (.makeSlice t x y) ty pos af none::rest) env O:=
 ay.make1 ht hi hz hzc hk hx hy hl hl' hb hm rfl fun j=>by rw[show lit (.int .i64 0)=AV.int .i64 0 from rfl,Jy];exact kk j
theorem ay.makeB {i:TypeInfo} {zv:Value} {m:Nat} {k1 k2:IntKind} {l l':Int} (ht:P.underlying t=some (.slice e)) (hi:P.info? e=some i) (hz:i.zero=some zv) (hzc:zv.cells=#[.bool false]) (hk:i.size=1) (hx:bc env x=.int k1 l) (hy:bc env y=.int k2 l')
  (hl:l=(m:Int)) (hl':l'=(m:Int)) (hb:(i.bytes:Int)*(m:Int)≤281474976710656) (hm:m≤281474976710656) (kk:∀j,ay P E ops K rest (bz env d (.own j m)) ((j,.grow 1 e (cB (List.replicate m false)))::O)) :
  ay P E ops K (Oper.mk (some d) (.makeSlice t x y) ty pos af none::rest) env O:=
 ay.make1 ht hi hz hzc hk hx hy hl hl' hb hm rfl fun j=>by rw[show lit (.bool false)=AV.bool false from rfl,Jz];exact kk j
theorem aR.knowI {t i m:Nat} {T:TypeId} {l:List Int} (hv:env t=.own i m) (hO:dH O i (.grow 1 T (cI l)) O') (hm:l.length=m):aR E env O (bz env t (.fro 1 (l.map fun x=>[.int .i64 x]))) O':=
 aR.know hv (by rw[kJ];exact hO) (fun r hr=>by obtain ⟨_,_,rfl⟩:=List.mem_map.1 hr;rfl) (by decide) (by rw[w6];exact hm)
theorem aR.knowB {t i m:Nat} {T:TypeId} {l:List Bool} (hv:env t=.own i m) (hO:dH O i (.grow 1 T (cB l)) O') (hm:l.length=m):aR E env O (bz env t (.fro 1 (l.map fun x=>[.bool x]))) O':=
 aR.know hv (by rw[BM];exact hO) (fun r hr=>by obtain ⟨_,_,rfl⟩:=List.mem_map.1 hr;rfl) (by decide) (by rw[w6];exact hm)
end
structure fh (α:Type) where
 k:Nat
 val:α→List Value
 pos:0<k
 len:∀x,(val x).length=k
 one:∀x,∀u∈val x,u.oneCell'=true
variable {α:Type}
def fh.vs (c:fh α) (l:List α):List Value:=l.flatMap c.val
def fh.row (c:fh α) (x:α):List AV:=(c.val x).map lit
def fh.av (c:fh α) (l:List α):List AV:=l.flatMap c.row
theorem fh.vs_len (c:fh α) (l:List α):(c.vs l).length=l.length*c.k:=by
 unfold fh.vs
 induction l with
 |nil=>simp
 |cons x l ih=>rw[List.flatMap_cons,w5,ih,c.len,List.length_cons,Nat.add_mul];omega
theorem fh.av_eq (c:fh α) (l:List α):c.av l=(c.vs l).map lit:=by
 unfold fh.av fh.vs
 induction l with
 |nil=>rfl
 |cons x l ih=>rw[List.flatMap_cons,List.flatMap_cons,wb,ih];rfl
theorem fh.av_len (c:fh α) (l:List α):(c.av l).length=l.length*c.k:=by rw[c.av_eq,w6,c.vs_len]
theorem fh.av_app (c:fh α) (l m:List α):c.av l++c.av m=c.av (l++m):=by unfold fh.av;rw[List.flatMap_append]
theorem fh.av_push (c:fh α) (l:List α) (x:α):c.av l++c.row x=c.av (l++[x]):=by rw[←c.av_app];unfold fh.av;simp
theorem fh.vs_one (c:fh α) (l:List α):∀u∈c.vs l,u.oneCell'=true:=by
 intro u hu
 unfold fh.vs at hu
 obtain ⟨x,_,hx⟩:=List.mem_flatMap.1 hu
 exact c.one x u hx
theorem fh.av_un (c:fh α) {I:G} {l:List α} {vs:List Value} (h:RepL I (c.av l) vs):vs=c.vs l:=by rw[c.av_eq] at h;exact mn h
def eI:fh Int:=⟨1,fun x=>[.int .i64 x],by decide,fun _=>rfl,fun x u hu=>by simp at hu;subst hu;rfl⟩
def eP:fh (Int × Int):=⟨2,fun p=>[.int .i64 p.1,.int .i64 p.2],by decide,fun _=>rfl,fun x u hu=>by simp at hu;rcases hu with rfl|rfl<;>rfl⟩
theorem ED (l:List Int):eI.av l=cI l:=by
 unfold fh.av cI
 induction l with
 |nil=>rfl
 |cons x l ih=>rw[List.flatMap_cons,ih];rfl
inductive fG (c:fh α) (e:TypeId):List (List α)→List Value→List (Nat × Obj)→Prop
 |nil:fG c e [] [] []
 |cons {r rs a n cap hs A B}:fe c.k e a n cap (c.vs r) A→fG c e rs hs B→fG c e (r::rs) (.slice a n cap::hs) (A++B)
theorem fG.len {c:fh α} {e:TypeId} {rows:List (List α)} {hs:List Value} {L:List (Nat × Obj)} (h:fG c e rows hs L):hs.length=rows.length:=by
 induction h with
 |nil=>rfl
 |cons _ _ ih=>simp[ih]
def IY (c:fh α) (e:TypeId) (rows:List (List α)) (j:Nat) (hs:List Value) (B:List (Nat × Obj)):Prop:=
 ∀r' a' n' c' A',fe c.k e a' n' c' (c.vs r') A'→∃L',fG c e (rows.set j r') (hs.set j (.slice a' n' c')) L'∧L'.Perm (A'++B)
theorem fG.get {c:fh α} {e:TypeId} {rows:List (List α)} {hs:List Value} {L:List (Nat × Obj)} (h:fG c e rows hs L):∀{j:Nat} {r:List α},rows[j]?=some r →
  ∃a n cap A B,hs[j]?=some (.slice a n cap)∧fe c.k e a n cap (c.vs r) A∧L.Perm (A++B)∧IY c e rows j hs B:=by
 induction h with
 |nil=>intro j r hj;simp at hj
 |@cons r0 rs a n cap hs A B h1 h2 ih=>
  intro j r hj
  cases j with
  |zero=>
   simp at hj;subst hj
   exact ⟨a,n,cap,A,B,rfl,h1,.refl _,fun r' a' n' c' A' h=>⟨A'++B,.cons h h2,.refl _⟩⟩
  |succ j=>
   obtain ⟨a1,n1,c1,A1,B1,g1,g2,g3,g4⟩:=ih (j:=j) (r:=r) (by simpa using hj)
   refine ⟨a1,n1,c1,A1,A++B1,by simpa using g1,g2,?_,fun r' a' n' c' A' h=>?_⟩
   ·refine (g3.append_left A).trans ?_
    rw[←qz,←qz]
    exact List.perm_append_comm.append_right B1
   ·obtain ⟨L',k1,k2⟩:=g4 r' a' n' c' A' h
    refine ⟨A++L',by simpa using fG.cons h1 k1,?_⟩
    refine (k2.append_left A).trans ?_
    rw[←qz,←qz]
    exact List.perm_append_comm.append_right B1
theorem fG.rep (c:fh α) (e:TypeId):∀m:Nat,fG c e (List.replicate m []) (List.replicate m (.slice none 0 0)) []
 |0=>.nil
 |m+1=>by
  have:=fG.cons (c:=c) (r:=[]) (fe.nil c.k e) (fG.rep c e m)
  simpa [List.replicate_succ] using this
def dK (c:fh α) (T e:TypeId) (b:Nat) (rows:List (List α)):bC:=.heap fun L=>∃hs B,L=(b,.cells hs.toArray T (0,0))::B∧fG c e rows hs B
def BN (c:fh α) (T e:TypeId) (b:Nat) (rows:List (List α)) (j n i:Nat):bC:=.heapG (fun I L=>∃hs B hd,L=(b,.cells hs.toArray T (0,0))::B∧I.h i=some hd∧hs[j]?=some (.slice (adr hd.1) n hd.2)∧hs.length=rows.length∧IY c e rows j hs B)
 (fun I J L h hp=>by obtain ⟨hs,B,hd,h1,h2,h3⟩:=hp;exact ⟨hs,B,hd,h1,h.h _ _ h2,h3⟩)
def eM (b n:Nat):AV:=.raw (.slice (some ⟨b,0,none⟩) n n)
def Hx (b j:Nat):AV:=.raw (.pointer (some ⟨b,j,none⟩))
theorem fe.adr {k:Nat} {e:TypeId} {a:Option Addr} {n c:Nat} {cs:List Value} {A:List (Nat × Obj)} (h:fe k e a n c cs A):∃b,a=Go.Proofs.YtbbonnfjealmpaaGreatDoor.adr b:=by
 rcases h.2.2 with ⟨e,_⟩|⟨b,junk,e,_⟩
 ·exact ⟨none,e⟩
 ·exact ⟨some b,e⟩
section
variable {E:World} {P:Program} {ops:Array Oper} {K:aT→OL→Prop} {env:aT} {O O' O'':OL} {rest:List Oper} {n:Nat}
variable {d ty:Nat} {pos:String} {af:Array Edge} {x y z:Operand} {t u e T:TypeId}
theorem ay.makeNest {i:TypeInfo} {zv:Value} {m:Nat} {k1 k2:IntKind} {l l':Int} (ht:P.underlying t=some (.slice T)) (hi:P.info? T=some i) (hz:i.zero=some zv) (hzc:zv.cells=#[.slice none 0 0]) (hk:i.size=1) (hx:bc env x=.int k1 l) (hy:bc env y=.int k2 l')
  (hl:l=(m:Int)) (hl':l'=(m:Int)) (hb:(i.bytes:Int)*(m:Int)≤281474976710656) (hm:m≤281474976710656) (c:fh α) (e:TypeId) (kk:∀b,ay P E ops K rest (bz env d (eM b m)) ((0,dK c T e b (List.replicate m []))::O)) :
  ay P E ops K (Oper.mk (some d) (.makeSlice t x y) ty pos af none::rest) env O:=fun I F ρ w h1 h2=>by
 obtain ⟨htop,L,hL,hS⟩:=h2
 refine bY.make1 ht hi hz hzc hk (gr h1 hx) (gr h1 hy) hl hl' hb hm hS fun b w' hS'=>?_
 exact kk b I F _ _ (h1.upd d rfl) ⟨htop,_,⟨[(b,.cells (List.replicate m (.slice none 0 0)).toArray T (0,0))],L,rfl,⟨List.replicate m (.slice none 0 0),[],rfl,fG.rep c e m⟩,hL⟩,by simpa using hS'⟩
theorem Gv.idxN {b m j:Nat} {a:Int} (ht:P.underlying t=some (.slice T)) (hs:∀w,(sizeOf T).run P w=.ok 1 w) (hx:bc env x=eM b m) (hy:bc env y=.int .i64 a) (hi:a=(j:Int)) (hj:j<m) :
  Gv P env O (Oper.mk (some d) (.indexAddr t x y) ty pos af none) (Hx b j):=Gv.ofEv fun I ρ h=>by
 have h1:=ik h hx
 have h2:=gr h hy
 subst hi
 have hlt:((j:Int)<(m:Int)):=by omega
 refine ⟨_,U,fun w=>?_⟩
 simp[execOp,h1,h2,Instr.indexAt,Sem.run_bind,run_underlying ht,hs,hlt,dP,asIntOf]
 intro h;omega
theorem Gv.lenN {b m:Nat} (ht:P.underlying t=some (.slice T)) (hx:bc env x=eM b m):Gv P env O (Oper.mk (some d) (.call { callee:=.builtin .len,args:=#[x],argTypes:=#[t] }) ty pos af none) (.int .i64 m):=Gv.ofEv fun I ρ h=>by
 have h1:=ik h hx
 exact ⟨_,rfl,fun w=>by simp[execOp,resolve,h1,invoke,builtin,Builtin.len_,run_underlying ht,goInt]⟩
theorem ay.nestTake {c:fh α} {b j m:Nat} {rows:List (List α)} {r:List α} {f:Nat→OL} (ha:∀w,(isAgg t).run P w=.ok false w) (hx:bc env x=Hx b j) (hr:rows[j]?=some r)
  (hO:∀i,fF O m (dK c T e b rows) (BN c T e b rows j r.length i) (f i)) (kk:∀i,ay P E ops K rest (bz env d (.own i r.length)) ((i,.grow c.k e (c.av r))::f i)) :
  ay P E ops K (Oper.mk (some d) (.load t x) ty pos af none::rest) env O:=fun I F ρ w h1 h2=>by
 obtain ⟨i,hi⟩:=h2.name
 obtain ⟨htop,L,hL,hS⟩:=h2
 have hx:=ik h1 hx
 obtain ⟨A,B,hp,⟨hs,B0,rfl,hN⟩,hback⟩:=(hO i).rep hL
 obtain ⟨a,n,cap,A1,B1,g1,g2,g3,g4⟩:=hN.get hr
 obtain ⟨b1,rfl⟩:=g2.adr
 have hn:n=r.length:=by have:=g2.1;rw[c.vs_len] at this;exact (Nat.eq_of_mul_eq_mul_right c.pos this).symm
 subst hn
 obtain ⟨J,e1,hle,e2,htop'⟩:=hi (b1,cap)
 have hS2:SL I.k ((b,.cells hs.toArray T (0,0))::(B0++(B++F))) E w:=hS.perm (by
  have:=hp.append_right F
  simpa using this.symm)
 obtain ⟨L',h5,h6⟩:=hback hle (A':=(b,.cells hs.toArray T (0,0))::B1) ⟨hs,B1,(b1,cap),rfl,e2,g1,hN.len,g4⟩
 refine bY.load1 (I:=I.k) (O:=(b,.cells hs.toArray T (0,0))::(B0++(B++F))) ha hS2 hx (.inr ⟨_,_,_,.head _,by rw[List.getElem?_toArray];exact g1⟩) ?_
 refine qa (fun _ _=>qb hle) _ _ _ (kk i J F _ _ ((h1.mono hle).upd d ⟨b1,cap,e2,U⟩) ⟨htop',A1++L',⟨A1,L',U,⟨b1,cap,_,c.vs r,e2,by rw[c.av_eq];exact eQ J _,c.vs_one r,g2⟩,h5⟩,?_⟩)
 rw[e1]
 refine hS2.perm<|List.Perm.trans ?_ (List.Perm.cons _ ((g3.append_right (B++F)).symm))
 have h7:(A1++L'++F).Perm (A1++((b,Obj.cells hs.toArray T (0,0))::(B1++B))++F):=(h6.append_left A1).append_right F
 refine h7.trans ?_
 simp only[qz,List.cons_append]
 exact List.perm_middle
theorem ay.nestPut {c:fh α} {b j m i i0 n0 n1 k:Nat} {rows:List (List α)} {r:List α} {cs:List AV} (hs1:∀w,(sizeOf t).run P w=.ok 1 w) (hx:bc env x=Hx b j) (hy:bc env y=.own i n1) (hj:j<rows.length)
  (hP0:dH O i (.grow k e cs) O') (hO:fF O' m (BN c T e b rows j n0 i0) (dK c T e b (rows.set j r)) O'') (hk:k=c.k) (hcs:cs=c.av r) (hn1:r.length=n1) (kk:ay P E ops K rest env O'') :
  ay P E ops K (Oper.mk none (.store t x y) ty pos af none::rest) env O:=fun I F ρ w h1 h2=>by
 obtain ⟨htop,L,hL,hS⟩:=h2
 have hP:dH O i (.grow c.k e (c.av r)) O':=by subst hk hcs;exact hP0
 have hx:=ik h1 hx
 have h3:=h1.ev y
 rw[hy] at h3
 obtain ⟨b1,c1,e1,ey⟩:=h3
 obtain ⟨A,B,hp,⟨b1',c1',n',vs,e2,hvs,hvc,hown⟩,hB⟩:=hP.rep hL
 simp only at e2
 rw[e1] at e2
 simp only[Option.some.injEq,Prod.mk.injEq] at e2
 obtain ⟨rfl,rfl⟩:=e2
 have hv:=c.av_un hvs
 subst hv
 have hnn:n'=n1:=by have:=hown.1;rw[c.vs_len,hn1] at this;exact (Nat.eq_of_mul_eq_mul_right c.pos this).symm
 subst hnn
 obtain ⟨A2,B2,hp2,⟨hs,B0,hd,rfl,_,hsj,hsl,hole⟩,hback⟩:=hO.rep hB
 obtain ⟨L',k1,k2⟩:=hole r _ _ _ A hown
 have hS2:SL I.k ([(b,.cells hs.toArray T (0,0))]++(A++(B0++(B2++F)))) E w:=hS.perm (by
  refine List.Perm.trans ?_ ((hp.append_right F).symm)
  refine List.Perm.trans ?_ (((hp2.append_left A).append_right F).symm)
  simp only[qz,List.cons_append,List.nil_append]
  exact (List.perm_middle).symm)
 refine bY.store1 (cs:=hs) (off:=j) hs1 hx ey U (by rw[hsl];exact hj) hS2 fun w' hS'=>?_
 obtain ⟨L2,h7,h8⟩:=hback (qo I) (A':=(b,.cells (hs.set j (.slice (adr b1) n' c1)).toArray T (0,0))::L') ⟨_,L',rfl,k1⟩
 refine kk I F _ _ h1 ⟨htop,L2,h7,hS'.perm ?_⟩
 refine (h8.append_right F).trans ?_
 simp only[List.cons_append,List.nil_append,qz]
 refine List.Perm.cons _ ?_
 have:=k2.append_right (B2++F)
 simpa [qz] using this
theorem aR.nestBack {c:fh α} {b j m i:Nat} {rows:List (List α)} {r:List α} (hP:dH O i (.grow c.k e (c.av r)) O') (hO:fF O' m (BN c T e b rows j r.length i) (dK c T e b (rows.set j r)) O''):aR E env O env O'':=fun I F ρ w h1 h2=>by
 obtain ⟨htop,L,hL,hS⟩:=h2
 obtain ⟨A,B,hp,⟨b1,c1,n',vs,e2,hvs,hvc,hown⟩,hB⟩:=hP.rep hL
 have hv:=c.av_un hvs
 subst hv
 have hnn:n'=r.length:=by have:=hown.1;rw[c.vs_len] at this;exact (Nat.eq_of_mul_eq_mul_right c.pos this).symm
 subst hnn
 obtain ⟨A2,B2,hp2,⟨hs,B0,hd,rfl,e3,hsj,hsl,hole⟩,hback⟩:=hO.rep hB
 simp only at e2
 rw[e2] at e3
 simp only[Option.some.injEq] at e3
 subst e3
 obtain ⟨L',k1,k2⟩:=hole r _ _ _ A hown
 have hsame:hs.set j (.slice (adr b1) r.length c1)=hs:=by
  obtain ⟨h9,h10⟩:=List.getElem?_eq_some_iff.1 hsj
  refine List.ext_getElem? fun k=>?_
  by_cases ek:k=j
  ·subst ek;rw[List.getElem?_set_self h9,hsj]
  ·rw[List.getElem?_set_ne (fun e=>ek e.symm)]
 rw[hsame] at k1
 obtain ⟨L2,h7,h8⟩:=hback (qo I) (A':=(b,.cells hs.toArray T (0,0))::L') ⟨_,L',rfl,k1⟩
 refine ⟨I,.refl _,h1,htop,L2,h7,hS.perm ?_⟩
 refine (h8.append_right F).trans<|List.Perm.trans ?_ ((hp.append_right F).symm)
 refine List.Perm.trans ?_ (((hp2.append_left A).append_right F).symm)
 simp only[qz,List.cons_append,List.nil_append]
 refine List.Perm.trans ?_ (List.perm_middle).symm
 refine List.Perm.cons _ ?_
 have:=k2.append_right (B2++F)
 simpa [qz] using this
theorem SL.freezeAllN:∀{A:List (Nat × Obj)} {I:bK} {F:List (Nat × Obj)} {E w:World},SL I (A++F) E w→∃J,I.le J∧SL J F E w∧∀x∈A,J x.1=some x.2
 |[],I,F,E,w,h=>⟨I,.refl _,h,fun _ h=>by cases h⟩
 |(b,o)::A,I,F,E,w,h=>by
  obtain ⟨h1,h2⟩:=SL.freeze (show SL I ((b,o)::(A++F)) E w from h)
  obtain ⟨J,h3,h4,h5⟩:=SL.freezeAllN h2
  refine ⟨J,h1.trans h3,h4,fun x hx=>?_⟩
  rcases List.mem_cons.1 hx with rfl|hx
  ·exact h3 _ _ (bK.put_same _ _ _)
  ·exact h5 x hx
theorem fe.fro {c:fh α} {I:G} {e:TypeId} {a:Option Addr} {n cap:Nat} {r:List α} {A:List (Nat × Obj)} (h:fe c.k e a n cap (c.vs r) A) (hI:∀x∈A,I.k x.1=some x.2):cC I (.fro c.k (r.map c.row)) (.slice a n cap):=by
 obtain ⟨h1,h2,h3⟩:=h
 have hn:n=r.length:=by rw[c.vs_len] at h1;exact (Nat.eq_of_mul_eq_mul_right c.pos h1).symm
 subst hn
 rcases h3 with ⟨rfl,rfl,_⟩|⟨b,junk,rfl,rfl,hj⟩
 ·have h0:r=[]:=wa (by omega)
  subst h0
  exact ⟨none,0,0,rfl,rfl,Nat.le_refl _,fun _=>rfl,trivial⟩
 ·have hb:=hI _ (.head _)
  simp only at hb
  have hflat:(r.map c.row).flatten=(c.vs r).map lit:=by rw[←c.av_eq];unfold fh.av;rw[List.flatMap]
  refine ⟨_,_,_,U,by simp,h2,fun e=>(by cases e),RepR.of_flat hb (r.map c.row) (c.vs r) 0 (fun x hx=>by obtain ⟨y,_,rfl⟩:=List.mem_map.1 hx;unfold fh.row;rw[w6,c.len]) (by rw[hflat];exact eQ I _) fun i u hu=>?_⟩
  rw[Nat.zero_mul,Nat.zero_add,List.getElem?_toArray,List.getElem?_append_left (List.getElem?_eq_some_iff.1 hu).1]
  exact hu
theorem fG.fro {c:fh α} {I:G} {e:TypeId} {rows:List (List α)} {hs:List Value} {B:List (Nat × Obj)} (h:fG c e rows hs B) (hI:∀x∈B,I.k x.1=some x.2):RepL I (rows.map fun r=>.fro c.k (r.map c.row)) hs:=by
 induction h with
 |nil=>rfl
 |cons h1 _ ih=>exact ⟨_,_,rfl,h1.fro fun x hx=>hI x (List.mem_append_left _ hx),ih fun x hx=>hI x (List.mem_append_right _ hx)⟩
def pM (c:fh α) (rows:List (List α)):AV:=.fro 1 (rows.map fun r=>[.fro c.k (r.map c.row)])
theorem uj {c:fh α} {I:G} {F:List (Nat × Obj)} {E w:World} {b m:Nat} {rows:List (List α)} (hO:dH O m (dK c T e b rows) O') (h:iB I O F E w):∃J B,I.le J∧cD I O' B∧(∃top,∀i,top≤i→J.h i=none)∧SL J.k (B++F) E w∧cC J (pM c rows) (.slice (some ⟨b,0,none⟩) rows.length rows.length):=by
 obtain ⟨htop,L,hL,hS⟩:=h
 obtain ⟨A,B,hp,⟨hs,B0,rfl,hN⟩,hB⟩:=hO.rep hL
 have hS2:SL I.k (((b,.cells hs.toArray T (0,0))::B0)++(B++F)) E w:=hS.perm (by rw[←qz];exact (hp.append_right F).symm)
 obtain ⟨J,h1,h2,h3⟩:=SL.freezeAllN hS2
 have hle:I.le ⟨J,I.h⟩:=⟨h1,fun _ _ h=>h⟩
 refine ⟨⟨J,I.h⟩,B,hle,hB,htop,h2,?_⟩
 have hb:=h3 _ (.head _)
 simp only at hb
 have hrep:=hN.fro (I:=⟨J,I.h⟩) fun x hx=>h3 x (.tail _ hx)
 refine ⟨_,_,_,U,by simp,Nat.le_refl _,fun e=>(by cases e),RepR.intro fun j row hj=>?_⟩
 rw[w7] at hj
 obtain ⟨r,hr,rfl⟩:=Option.map_eq_some_iff.1 hj
 obtain ⟨v,hv1,hv2⟩:=hrep.get (j:=j) (x:=.fro c.k (r.map c.row)) (by rw[w7,hr];rfl)
 refine ⟨b,0,[v],U,U,RepL.one hv2,fun i u hu=>?_⟩
 cases i with
 |zero=>
  simp at hu;subst hu
  exact ⟨_,_,_,hb,by rw[List.getElem?_toArray,show 0+(0+j)*1+0=j by omega];exact hv1⟩
 |succ i=>simp at hu
theorem aR.nestKnow {c:fh α} {s b m n:Nat} {rows:List (List α)} (hv:env s=eM b n) (hO:dH O m (dK c T e b rows) O') (hn:rows.length=n):aR E env O (bz env s (pM c rows)) O':=fun I F ρ w h1 h2=>by
 obtain ⟨J,B,hle,hB,htop,hS,hrep⟩:=uj hO h2
 refine ⟨J,hle,fun q=>?_,htop,B,hB.mono hle,hS⟩
 unfold bz
 cases hb:Nat.beq q s with
 |false=>exact cC.mono hle _ _ (h1 q)
 |true=>
  have:q=s:=Nat.eq_of_beq_eq_true hb
  subst this
  have h4:=h1 q
  rw[hv] at h4
  have h4:ρ q=.slice (some ⟨b,0,none⟩) n n:=h4
  rw[h4,←hn];exact hrep
theorem aR.nestKnowC {c:fh α} {off b m n i:Nat} {T':TypeId} {cs:List AV} {rows:List (List α)} (hO:dH O m (dK c T e b rows) O') (hP:fF O' i (.cells T' cs) (.cells T' (cs.set off (pM c rows))) O'') (hc:cs[off]?=some (eM b n)) (hn:rows.length=n):aR E env O env O'':=fun I F ρ w h1 h2=>by
 obtain ⟨J,B,hle,hB,htop,hS,hrep⟩:=uj hO h2
 obtain ⟨L',h5,h6⟩:=fF.same (F:=F) (E:=E) (w:=w) hle (.inr trivial) hP hc (fun v hv=>by
  have hv:v=.slice (some ⟨b,0,none⟩) n n:=hv
  rw[hv,←hn];exact hrep) hB
 exact ⟨J,hle,h1.mono hle,htop,L',h5,hS.perm (h6.symm.append_right F)⟩
end
end
section
open Go.Proofs.Tryz
section
variable {E:World} {P:Program} {ops:Array Oper} {K:aT→OL→Prop} {env:aT} {O O' O'':OL} {rest:List Oper} {n:Nat}
variable {d ty:Nat} {pos:String} {af:Array Edge} {x y z:Operand} {t u e:TypeId}
theorem ay.cutTo {i k m j:Nat} {a:Int} {T:TypeId} {cs:List AV} (ht:P.underlying t=some (.slice e)) (hs:∀w,(sizeOf e).run P w=.ok k w) (hx:bc env x=.own i m) (hy:bc env y=.int .i64 a) (hi:a=(j:Int)) (hO:fF O i (.grow k T cs) (.grow k T (cs.take (j*k))) O')
  (hk:0<k) (hj:j*k≤cs.length)
  (kk:ay P E ops K rest (bz env d (.own i j)) O'):ay P E ops K (Oper.mk (some d) (.slice t x none (some y) none) ty pos af none::rest) env O:=fun I F ρ w h1 h2=>by
 obtain ⟨htop,L,hL,hS⟩:=h2
 have h3:=h1.ev x
 rw[hx] at h3
 obtain ⟨b,c,e1,e2⟩:=h3
 have h4:=gr h1 hy
 subst hi
 obtain ⟨A,B,hp,⟨b',c',n',vs,e3,hvs,hvc,h5,h6,h7⟩,hback⟩:=hO.rep hL
 simp only at e3
 rw[e1] at e3
 simp only[Option.some.injEq,Prod.mk.injEq] at e3
 obtain ⟨rfl,rfl⟩:=e3
 have hlen:vs.length=cs.length:=hvs.length
 have hjn:j≤n':=by
  have:j*k≤n'*k:=by omega
  exact Nat.le_of_mul_le_mul_right this hk
 have hjc:j≤c:=by omega
 have hval:(execOp (Go.Proofs.YtbbonnfjealmpaaGreatDoor.ev ρ) (Oper.mk (some d) (.slice t x none (some y) none) ty pos af none)).run P w=.ok (.value (.slice (adr b) j c)) w:=by
  have:(if c=0 then adr b else (adr b).map (·.add (0*k)))=adr b:=by
   split
   ·rfl
   ·cases b<;>simp[adr,Addr.add]
  simp[execOp,Instr.sliceAt,Instr.slice,Instr.sliceBounds,Instr.sliceBound,asIntOf,Sem.run_bind,run_underlying ht,hs,e2,h4,hjc]
  simpa using this
 obtain ⟨L',h8,h9⟩:=hback (qo I) (A':=A) ⟨b,c,j,vs.take (j*k),e1,hvs.take _,fun u hu=>hvc u (List.mem_of_mem_take hu),by rw[wd];omega,by omega,by
  rcases h7 with h7|⟨b2,junk,e4,e5,e6⟩
  ·exact .inl ⟨h7.1,h7.2.1,h7.2.2⟩
  ·exact .inr ⟨b2,vs.drop (j*k)++junk,e4,by rw[←qz,List.take_append_drop];exact e5,by rw[←qz,List.take_append_drop];exact e6⟩⟩
 exact bY.val hval (kk I F _ w (h1.upd d ⟨b,c,e1,rfl⟩) ⟨htop,L',h8,hS.perm ((h9.trans hp.symm).append_right F)⟩)
theorem ay.cutLast {i k m j:Nat} {a:Int} {T:TypeId} {A row:List AV} (ht:P.underlying t=some (.slice e)) (hs:∀w,(sizeOf e).run P w=.ok k w) (hx:bc env x=.own i m) (hy:bc env y=.int .i64 a) (hi:a=(j:Int)) (hO:fF O i (.grow k T (A++row)) (.grow k T A) O')
  (hk:0<k) (hA:A.length=j*k)
  (kk:ay P E ops K rest (bz env d (.own i j)) O'):ay P E ops K (Oper.mk (some d) (.slice t x none (some y) none) ty pos af none::rest) env O:=
 ay.cutTo ht hs hx hy hi (hO.cast (by rw[←hA,List.take_left])) hk (by rw[w5];omega) kk
end
set_option linter.defProp false
def zc:=@dH.perm
def y8:=@aR.knowP
def y9:=@ay.makeNest
def yd:=@Gv.idxI
def yj:=@bT.two
def yw:=@Gv.loadI
def q5:=@ay.storeI
def q6:=@ay.storeB
def qc:=@RepL.fld
def qi:=@ay.nestTake
def qj:=@gT.at
def qk:=@bT.three
def ql:=@Gv.conv
def qm:=@ay.makeB
def qq:=@Gv.idxN
def qr:=@ay.nestPut
def qt:=@ay.makeI
end
end Go.Proofs.YtbbonnfjealmpaaGreatDoor
