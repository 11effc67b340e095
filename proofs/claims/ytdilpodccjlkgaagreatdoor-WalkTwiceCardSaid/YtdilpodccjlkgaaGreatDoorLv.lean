/- What is asked of the program itself, of the law WalkTwice, fact for fact. No conditions. -/
import Derived.Test.YtdilpodccjlkgaaGreatDoorLu
import Derived.Test.YtdilpodccjlkgaaGreatDoorLh
import Derived.Test.YtdilpodccjlkgaaGreatDoorLb
import Derived.Test.YtdilpodccjlkgaaGreatDoorLc
import Derived.Lib.LaidRTab
import Derived.Test.YtdilpodccjlkgaaGreatDoorRows
import Derived.Test.YtdilpodccjlkgaaGreatDoorChecked
import Derived.ProofKit
import Derived.JoinedOf
set_option linter.unusedVariables false
set_option linter.unusedSimpArgs false
set_option linter.unusedSectionVars false
namespace Go.Proofs.YtdilpodccjlkgaaGreatDoor
open Go.Proofs.Tryz
open Go.Proofs Go.Lib Go.Shelf Go.RowKit
theorem AL:cF prog 45 54 1 4 [.int .i64 0,.int .i64 0,.raw (.slice none 0 0),.int .i64 0]:=⟨_,jt,jk,Z5,by decide,by decide,by kernel_rfl⟩
theorem Dx:cF prog 29 4 2 1 [.bool false,.bool false]:=⟨_,Z1,Zj,zeroValue4,by decide,by decide,by kernel_rfl⟩
variable {E:World}
set_option maxRecDepth 20000
theorem u9 {f:ad} (h:jJ f):cL f.blocks≤400:=by
 obtain ⟨_,_,_,_,_,h6⟩:=h
 by_cases h0:f.blocks=[]
 ·rw[h0];unfold cL;simp
 ·have h1:=h6 h0
  have key:∀l:List aN,10*cL l≤qS l:=fun l=>by
   induction l with
   |nil=>exact ql _
   |cons b l ih=>
    have e1:cL (b::l)=b.phis.length+b.insts.length+cL l:=by unfold cL;simp
    have e2:qS (b::l)=wB b+qS l:=by unfold qS;simp
    have e3:10*(b.phis.length+b.insts.length)≤wB b:=by unfold wB;omega
    omega
  have:=key f.blocks
  omega
theorem lK {l:List aB} {k:Nat} {x:aB} (h:l[k]?=some x):du (l.take (k+1))=du (l.take k)++mb x:=by
 unfold du
 rw[List.take_add_one,h,List.flatMap_append]
 simp
theorem lL {x:aB}:∀{l:List aB} {k:Nat},l[k]?=some x→fl (l.take (k+1))=fl (l.take k)++(if fd x=true then[false,true] else[])
 |y::l,0,h=>by
  cases h
  show fl [_]=[]++_
  unfold fl fl
  rw[qu];rfl
 |y::l,k+1,h=>by
  have ih:=lL (l:=l) (k:=k) (x:=x) h
  rw[List.take_succ_cons,List.take_succ_cons]
  show (if fd y=true then[false,true] else[])++fl (l.take (k+1))=((if fd y=true then[false,true] else[])++fl (l.take k))++_
  rw[ih,qk]
theorem rH:∀l:List aB,(fl l).length≤2*l.length
 |[]=>Nat.le_refl _
 |x::l=>by
  have:=rH l
  unfold fl
  rw[qo,List.length_cons]
  split<;>simp<;>omega
def fT (f:ad) (i:Nat):List Bool:=(f.blocks.take i).flatMap fun b=>fl b.insts
theorem oM {f:ad} {i:Nat} {b:aN} (h:f.blocks[i]?=some b):fT f (i+1)=fT f i++fl b.insts:=by
 unfold fT
 rw[List.take_add_one,h,List.flatMap_append]
 simp
theorem p6 {f:ad} (hs:cL f.blocks≤400):∀i:Nat,i≤f.blocks.length→(fT f i).length≤i*800
 |0,_=>by unfold fT;simp
 |i+1,h=>by
  have ih:=p6 hs i (by omega)
  have hb:=qi (show i<f.blocks.length by omega)
  have h1:=gH _ _ (qs hb)
  have h3:=rH (f.blocks[i]'(by omega)).insts
  rw[oM hb,qo]
  omega
theorem p7 (f:ad):fT f f.blocks.length=pe f:=by unfold fT pe;rw[qn]
theorem xD (l:List aB):(l.map be).flatten.length=l.length*4:=by
 induction l with
 |nil=>rfl
 |cons o r ih=>rw[List.map_cons,List.flatten_cons,qo,ih,List.length_cons];show 4+_=_;omega
theorem AM (l:List aN):(l.map bN).flatten.length=l.length*7:=by
 induction l with
 |nil=>rfl
 |cons o r ih=>rw[List.map_cons,List.flatten_cons,qo,ih,List.length_cons];show 7+_=_;omega
theorem AN {x:aB} (h:fd x=true):mb x=[x,x]:=by unfold mb;rw[if_pos h]
theorem CG {x:aB} (h:fd x=false):mb x=[x]:=by unfold mb;rw[if_neg (by rw[h];decide)]
theorem Dy (l:List Bool):cB l++[.bool false,.bool true]=cB (l++[false,true]):=by unfold cB;rw[qt];rfl
theorem xE {f:ad} (h:fc f=true):fc (eo f)=true:=by
 unfold fc at h ⊢
 refine List.all_eq_true.2 fun c hc=>?_
 obtain ⟨b,hb,rfl⟩:=List.mem_map.1 hc
 have h1:=List.all_eq_true.1 h b hb
 simp only[Bool.not_eq_true',List.any_eq_false] at h1 ⊢
 exact fun x hx=>h1 x (lE.1 hx)
set_option maxHeartbeats 8000000 in
theorem pn (f:ad) (hw:pL f) (h64:∀b∈f.blocks,∀x∈b.insts,dG x.num) (hL:bn E):aI prog E 5 [.agg (bD f)] (.bool true):=by
 have hlv:=rF (E:=E) hL
 refine zo func5 Z (by decide) Z<|ah<|ya (cs:=_) Z Z Z<|ab Z<|z6<|zd<|zd<|yg (γ:=Bool) [1] (fun u=>[(19,.bool u)]) (fun u=>[]) (fun u=>u=!fS f) ?_ (fun _ _ h=>h) ?_
 ·refine aV<|zf (hlv) Z<|aD Z<|ai Z<|zp (s:=15) Z (fun c1=>?_) (fun c1=>?_)
  ·refine z7 Z Z c1<|z7 Z Z c1<|z7 Z Z c1<|ar Z c1 Z<|z6 ?_
   exact ⟨_,(by repeat (first|with_reducible exact y6 _ _|refine yh rfl ?_|exact aJ)),aJ,aE,by simp_all⟩
  ·refine z8 Z Z c1<|ac jj jh Z Z<|z8 Z Z c1<|zf (pk f hw hL) Z<|z8 Z Z c1<|aD Z<|au Z c1 Z<|z6 ?_
   exact ⟨_,(by repeat (first|with_reducible exact y6 _ _|refine yh rfl ?_|exact aJ)),aJ,aE,by simp_all⟩
 ·rintro u hu
  subst hu
  refine zu Z (fun c1=>?_) (fun c1=>?_)
  ·refine ah<|zf (hlv) Z<|ab Z<|z6<|zh<|zk (x:=.bool _) Z ?_
   rfl
  ·have hlp:fS f=true:=by simpa using c1
   obtain ⟨hsm,ht,hs,hp⟩:=rE hlp
   have hlit:jJ f:=(jV f).1 (by unfold fS at hlp;simp only[qx] at hlp;exact hlp.1.1)
   have hsum:=u9 hlit
   have hS:=dT ht
   have hR:=oL ht hs h64
   have hnb:=hR.nblk
   have hSd:=uQ hS (by omega)
   have hTd:=xo hR.hT
   have hsd:=Ag hS hR.hE hR.hs
   have htd:bc (eo f)=true:=by
    unfold bc
    rw[qx]
    exact ⟨by rw[fB];exact qv hSd,List.all_eq_true.2 hTd⟩
   have hEd:=cR htd
   have hsgd:cQ (eo f)=true:=(pQ hEd).2 hsd
   have h64d:∀b∈(eo f).blocks,∀x∈b.insts,dG x.num:=fun c hc x hx=>by
    obtain ⟨b,hb,rfl⟩:=List.mem_map.1 hc
    exact h64 b hb x (lE.1 hx)
   have hRd:=oL htd hsgd h64d
   have hsmd:=xp hsm (by omega)
   have hpd:Cf (eo f)=true:=by
    have h1:fc f=true:=by unfold Cf at hp;simp only[qx] at hp;exact hp.2.2
    have h2:fc (eo f)=true:=xE h1
    unfold Cf
    rw[htd,hsgd,h2];rfl
   have hP:=lJ (E:=E) (eo f) ⟨hsmd,hL,hRd,htd,hsgd⟩ hpd
   have himp:=Ai f
   have hlen:=himp.len
   have hvl:=hsm.1
   refine zg<|ah<|ac jj jh Z Z<|y5 (cs:=[.raw (.slice none 0 0),.raw (.slice none 0 0),.raw (.slice none 0 0)]) zeroValue26 Z Z<|fun i3=>zz jh Z Z Z Z Z Z .head Z<|z6<|ah<|za (zn je Z Z0 (by decide) Z Z)<|yv (l:=[_]) (new:=[_,_,_]) Z0 Z Z Z Z Z Z .head Z Z<|z6<|ga (off:=2) (k:=7) (T:=51) (fun _=>.head) Z<|fun ib=>zy (zb (zc .t1))<|ah<|za (iR Z)<|z6<|gj (t:=4) (k:=1) (T:=4) Z<|fun i4=>zy (zb (zc .head))<|zy (zb (zc .t2))<|zy (zb (zc .t2))<|zy (zb (zc .head))<|zy (zb (zc .t1))<|zy (zb (zc .t2))<|zd<|ah<|aq je Z Z0 Z Z<|aH Zb Z<|ap ji Z<|aa Z<|z6<|zj<|y8 (γ:=Nat × Nat × Nat) [3,24,25] (fun g=>[(26,.int .i64 g.1),(4,.own g.2.2 (fT f g.1).length)]) (fun g=>[(g.2.2,.grow 1 4 (cB (fT f g.1))),(g.2.1,.grow 7 51 (((f.blocks.take g.1).map fk).map bN).flatten),(i3,.cells 26 [.fro 2 (f.vars.map e9),.fro 1 (f.params.map cE),.own g.2.1 ((f.blocks.take g.1).map fk).length])]) (fun g=>g.1≤f.blocks.length) (fun g=>f.blocks.length - g.1) (0,ib,i4) eZ aE (ql _) ?_
   rintro ⟨i,ib,io⟩ hi
   try dsimp only at *
   have hsl:=p6 hsum i hi
   refine ah<|aw Z Z<|z6<|zd<|zw Z (fun ci=>?_) (fun ci=>?_)
   ·have hi2:i<f.blocks.length:=by simp at ci;omega
    have hb:=qi hi2
    obtain ⟨b,hbe⟩:∃b,f.blocks[i]=b:=⟨_,rfl⟩
    rw[hbe] at hb
    have hbm:=qs hb
    have hsm2:=gH _ _ hbm
    have hbl:((f.blocks.take i).map fk).length=i:=by rw[qp,List.length_take];omega
    have hbf:=AM ((f.blocks.take i).map fk)
    refine zg<|zd<|zj<|ah<|za (bx i ji ju Z Z Z hb)<|ac Y4 ju Z Z<|y5 (cs:=[.str ⟨#[]⟩,.raw (.slice none 0 0),.raw (.slice none 0 0),.int .i64 0,.int .i64 0,.int .i64 0,.int .i64 0]) Zc Z Z<|fun i6=>zz ju Z Z Z Z Z Z .head Z<|z6<|zy (yd (t:=6) Z .head)<|ah<|ac Y4 ju Z Z<|y5 (cs:=[.str ⟨#[]⟩,.raw (.slice none 0 0),.raw (.slice none 0 0),.int .i64 0,.int .i64 0,.int .i64 0,.int .i64 0]) Zc Z Z<|fun i7=>zz ju Z Z Z Z Z Z .head Z<|z6<|ah<|za (zn jg Z Zd (by decide) Z Z)<|yv (l:=[_]) (new:=[_,_,_,_,_,_,_]) Zd Z Z Z Z Z Z .head Z Z<|z6<|ga (off:=2) (k:=4) (T:=54) (fun _=>.head) Z<|fun ii=>zd<|ah<|aq jg Z Zd Z Z<|aH Zs Z<|ap jt Z<|aa Z<|z6<|zy (zb (zc .t4))<|zy (zb (zc .t4))<|zy (zb (zc .t3))<|zy (zb (zc .t3))<|zy (zb (zc .t4)) ?_
    have hz:fT f i++fl (b.insts.take 0)=fT f i:=by rw[List.take_zero];unfold fl;rw[qu]
    refine zj<|y8 (γ:=Nat × Nat × Nat) [3,7,24,25,26,33,34] (fun g=>[(35,.int .i64 g.1),(4,.own g.2.2 (fT f i++fl (b.insts.take g.1)).length)]) (fun g=>[(g.2.2,.grow 1 4 (cB (fT f i++fl (b.insts.take g.1)))),(g.2.1,.grow 4 54 ((du (b.insts.take g.1)).map be).flatten),(i7,.cells 51 [.str b.name,.fro 3 (b.phis.map d6),.own g.2.1 (du (b.insts.take g.1)).length,.int .i64 b.term.kind,.int .i64 b.term.var,.int .i64 b.term.to0,.int .i64 b.term.to1]),(ib,.grow 7 51 (((f.blocks.take i).map fk).map bN).flatten),(i3,.cells 26 [.fro 2 (f.vars.map e9),.fro 1 (f.params.map cE),.own ib ((f.blocks.take i).map fk).length])]) (fun g=>g.1≤b.insts.length) (fun g=>b.insts.length - g.1) (0,ii,io) ⟨Z,by rw[hz];rfl,trivial⟩ ⟨_,(.refl _),by rw[hz];rfl⟩ (ql _) ?_
    rintro ⟨k,ki,ko⟩ hk
    try dsimp only at *
    have hdl:=rp (b.insts.take k)
    have hdf:=xD (du (b.insts.take k))
    have hwl:=rH (b.insts.take k)
    have htl:(b.insts.take k).length≤k:=by rw[List.length_take];omega
    refine ah<|aw Z Z<|z6<|zd<|zw Z (fun ck=>?_) (fun ck=>?_)
    ·have hk2:k<b.insts.length:=by simp at ck;omega
     obtain ⟨x,hx⟩:∃x,b.insts[k]?=some x:=⟨_,qi hk2⟩
     have hop:=(hR.run.insts b hbm x (qs hx)).1.op
     refine zg<|zd<|zj<|ah<|za (bx k jt jk Z Z Z hx)<|ac Zn jk Z Z<|y5 (cs:=[.int .i64 0,.int .i64 0,.raw (.slice none 0 0),.int .i64 0]) Z5 Z Z<|fun i9=>zz jk Z Z Z Z Z Z .head Z<|z6<|zy (yd (t:=9) Z .head)<|ah<|za (zn jg Z Zd (by decide) Z Z)<|za (zq (c:=.own _ _) Zs Z ⟨_,.t2⟩ Z)<|ac Zn jk Z Z<|y3 (rows:=[[_,_,_,_]]) AL Z Z Z Z Z<|yj (k:=4) jt type54 Z Z Z Z Z (fun _=>.t1) hdf (by decide) Z (by show (_+_)*48≤_;simp<;>omega) (by simp<;>omega)<|fun i43=>za (zn jg Z Zd (by decide) Z Z)<|yv (l:=[_]) (new:=[_,_,_,_,_,_,_]) Zd Z Z Z Z Z Z .t2 Z Z<|z6<|ah<|aq wy Z jv Z Z<|ay jy Z<|zf (tK x.op hop) Z<|za (yx Z Z)<|z6<|zu Z (fun c=>?_) (fun c=>?_)
     ·have hck:fd x=true:=v2.symm.trans c
      have e1:((du (b.insts.take (k+1))).map be).flatten=(((du (b.insts.take k)).map be).flatten++be x)++be x:=by rw[lK hx,AN hck];simp
      have e2:(du (b.insts.take (k+1))).length=(du (b.insts.take k)).length+1+1:=by rw[lK hx,AN hck];simp
      have e3:cB (fT f i++fl (b.insts.take (k+1)))=cB (fT f i++fl (b.insts.take k))++[.bool false,.bool true]:=by rw[lL hx,if_pos hck,←qk,Dy]
      have e4:(fT f i++fl (b.insts.take (k+1))).length=(fT f i++fl (b.insts.take k)).length+2:=by rw[lL hx,if_pos hck,←qk];simp;omega
      refine ah<|za (zn jg Z Zd (by decide) Z Z)<|za (zq (c:=.own _ _) Zs Z ⟨_,.t2⟩ Z)<|ac Zn jk Z Z<|y3 (rows:=[[_,_,_,_]]) AL Z Z Z Z Z<|yj (k:=4) jt type54 Z Z Z Z Z (fun _=>.t1) (by rw[qo,hdf];show _+4=(_+1)*4;omega) (by decide) Z (by show (_+_)*48≤_;simp<;>omega) (by simp<;>omega)<|fun i53=>za (zn jg Z Zd (by decide) Z Z)<|yv (l:=[_]) (new:=[_,_,_,_,_,_,_]) Zd Z Z Z Z Z Z .t2 Z Z<|z6<|aV<|za (gQ Z)<|y3 (rows:=[[_],[_]]) Dx Z Z Z Z Z<|yj (k:=1) Z1 type4 Z Z Z Z Z (fun _=>.head) (by rw[aS,Nat.mul_one]) (by decide) Z (by show (_+_)*1≤_;simp<;>omega) (by simp<;>omega)<|fun i57=>za (lj Z)<|z6<|aV<|aC Z Z<|aa Z<|z6 ?_
      exact ⟨(k+1,i53,i57),kA,⟨rfl,congrArg (AV.own _) e4.symm,trivial⟩,⟨_,(.refl _),by dsimp only;rw[e1,e2,e3];rfl⟩,hk2,by dsimp only;omega⟩
     ·have hck:fd x=false:=v2.symm.trans c
      have e1:((du (b.insts.take (k+1))).map be).flatten=((du (b.insts.take k)).map be).flatten++be x:=by rw[lK hx,CG hck];simp
      have e2:(du (b.insts.take (k+1))).length=(du (b.insts.take k)).length+1:=by rw[lK hx,CG hck];simp
      have e3:fl (b.insts.take (k+1))=fl (b.insts.take k):=by rw[lL hx,if_neg (by rw[hck];decide),qu]
      refine zg<|aV<|aC Z Z<|aa Z<|z6 ?_
      exact ⟨(k+1,i43,ko),kA,⟨rfl,congrArg (AV.own _) (by rw[e3]),trivial⟩,⟨_,(.refl _),by dsimp only;rw[e1,e2,e3];rfl⟩,hk2,by dsimp only;omega⟩
    ·obtain rfl:k=b.insts.length:=by simp at ck;omega
     rw[qn]
     refine zy (aX.knowC (off:=2) (rows:=(du b.insts).map be) .t1 .t1 Z (by intro r hr;obtain ⟨z,_,rfl⟩:=List.mem_map.1 hr;rfl) (by decide) (by rw[qp]))<|y7<|aV<|za (zn je Z Z0 (by decide) Z Z)<|za (zq (c:=.own _ _) Zb Z ⟨_,.t3⟩ Z)<|za (Gv.loadWC Y4 ju Z ⟨_,.t1⟩ Z)<|y3 (rows:=[[_,_,_,_,_,_,_]]) AK Z Z Z Z Z<|yj (k:=7) ji type51 Z Z Z Z Z (fun _=>.t2) hbf (by decide) Z (by show (_+_)*96≤_;simp<;>omega) (by simp<;>omega)<|fun i63=>za (zn je Z Z0 (by decide) Z Z)<|yv (l:=[_]) (new:=[_,_,_]) Z0 Z Z Z Z Z Z .t3 Z Z<|z6 ?_
     have e1:(((f.blocks.take (i+1)).map fk).map bN).flatten=(((f.blocks.take i).map fk).map bN).flatten++bN (fk b):=by rw[List.take_add_one,hb];simp
     have e2:((f.blocks.take (i+1)).map fk).length=((f.blocks.take i).map fk).length+1:=by rw[List.take_add_one,hb];simp
     have e3:=oM hb
     refine aV<|aC Z Z<|aa Z<|z6 ?_
     exact ⟨(i+1,i63,ko),dy,⟨rfl,congrArg (AV.own _) (by rw[e3]),trivial⟩,⟨_,(.keep (.drop (.refl _))),by dsimp only;rw[e1,e2,e3];rfl⟩,hi2,by dsimp only;omega⟩
   ·obtain rfl:i=f.blocks.length:=by simp at ci;omega
    rw[qn,p7]
    rw[p7] at hsl
    refine zy (aX.knowC (off:=2) (rows:=(f.blocks.map fk).map bN) .t1 .t1 Z (by intro r hr;obtain ⟨z,_,rfl⟩:=List.mem_map.1 hr;rfl) (by decide) (by rw[qp])) ?_
    unfold bD at hP
    refine y7<|ah<|za (Gv.loadWC jj jh Z ⟨_,.t1⟩ Z)<|zf (hP) Z<|za (iW Z)<|za (q4 (v:=.fro _ _) Z Z)<|za (iJ Z Z)<|za (oP Z)<|ao Z<|z6<|zd<|zd<|yg (γ:=Bool) [4,10] (fun u=>[(79,.bool u)]) (fun u=>[(io,.grow 1 4 (cB (pe f)))]) (fun u=>u=false) ?_ (fun _ _ h=>h) ?_
    ·refine aV<|aa Z<|aL Z Z<|ai Z<|zp (s:=73) Z (fun c2=>?_) (fun c2=>?_)
     ·refine z7 Z Z c2<|z7 Z Z c2<|z7 Z Z c2<|z7 Z Z c2<|z7 Z Z c2<|ar Z c2 Z<|z6 ?_
      exact ⟨_,(by repeat (first|with_reducible exact y6 _ _|refine yh rfl ?_|exact eZ)),aJ,⟨_,(.keep (.drop (.refl _))),rfl⟩,by clear hP;simp_all⟩
     ·refine z8 Z Z c2<|bb Z<|z8 Z Z c2<|ap Z1 Z<|z8 Z Z c2<|za (gQ Z)<|z8 Z Z c2<|za (Gv.lenO Z1 Z)<|z8 Z Z c2<|aL Z Z<|au Z c2 Z<|z6 ?_
      exact ⟨_,(by repeat (first|with_reducible exact y6 _ _|refine yh rfl ?_|exact eZ)),aJ,⟨_,(.keep (.drop (.refl _))),rfl⟩,by clear hP;simp_all⟩
    ·rintro u hu
     subst hu
     refine ye Z Z<|zg<|zd<|ah<|bb Z<|ap Z1 Z<|aa Z<|z6<|zj<|y8 (γ:=Nat) [4,10,81] (fun g=>[(82,.int .i64 g)]) (fun g=>[(io,.grow 1 4 (cB (pe f)))]) (fun g=>g≤(pe f).length) (fun g=>(pe f).length - g) 0 aJ aE (ql _) ?_
     rintro g hg
     refine ah<|aw Z Z<|z6<|zd<|zw Z (fun cg=>?_) (fun cg=>?_)
     ·have hg2:g<(pe f).length:=by rw[←hlen];simp at cg;omega
      obtain ⟨a,ha⟩:∃a,(pe f)[g]?=some a:=⟨_,qi hg2⟩
      obtain ⟨c,hc⟩:∃c,(Do (eo f))[g]?=some c:=⟨_,qi (by omega)⟩
      have hac:a=true→c=true:=fun e=>by
       have:=himp.at (i:=g) (by rw[ha,e])
       rw[hc] at this;exact Option.some.inj this
      refine zg<|zd<|zj<|ah<|aa Z<|ao Z<|z6<|ah<|za (gQ Z)<|aa Z<|za (yu (j:=g) Z1 Zj Z Z Z ⟨_,.head⟩ (aS _) hg2)<|za (Gv.loadB (j:=g) Yh Z ⟨_,.head⟩ ha)<|ai Z<|zp (s:=89) Z (fun cs=>?_) (fun cs=>?_)
      ·have hct:=hac cs
       subst hct
       refine z8 Z Z cs<|bb Z<|z8 Z Z cs<|aa Z<|z8 Z Z cs<|za (bx g Z1 Zj Z Z Z hc)<|z8 Z Z cs<|za (yo (c:=.bool _) Yh Z)<|z8 Z Z cs<|aD Z<|ar Z cs Z<|z6<|ye Z Z<|zg<|aV<|aC Z Z<|aa Z<|z6 ?_
       exact ⟨g+1,dy,aJ,aE,hg2,by omega⟩
      ·refine z7 Z Z cs<|z7 Z Z cs<|z7 Z Z cs<|z7 Z Z cs<|z7 Z Z cs<|au Z cs Z<|z6<|ye Z Z<|zg<|aV<|aC Z Z<|aa Z<|z6 ?_
       exact ⟨g+1,dy,aJ,aE,hg2,by omega⟩
     ·refine y7<|ah<|ab Z<|z6<|zh<|zk (x:=.bool _) Z ?_
      rfl
end Go.Proofs.YtdilpodccjlkgaaGreatDoor
namespace Go.Proofs.YtdilpodccjlkgaaGreatDoor
open Go.Proofs.Tryz
open Go.Proofs Go.Lib Go.Shelf Go.RowKit Go.WideShapes
set_option maxRecDepth 20000
variable {W:World}
theorem AO:fL prog W 3 cE (fun x=>(Lit.int .i64 x).wf=true):=fL.int Zp
theorem v6:fL prog W 23 (fun l:List Int=>[.fro 1 (l.map cE)]) wL:=fun en held fuel cs x h=>by
 obtain ⟨l,hl,r⟩:=fL.slice (k:=1) wx AO (by kernel_rfl) (by decide) en held fuel cs x h
 exact ⟨l,hl.2,r⟩
theorem Dz:fL prog W 61 e9 (fun _=>True):=fun en held fuel cs x h=>by
 obtain ⟨xs,n,_,_,hl,hxl,hf⟩:=DataW.trod_struct Zf h
 have hl:cs.length=2:=hl.trans (by kernel_rfl)
 have hxl:xs.length=2:=hxl
 obtain ⟨a,_,ra⟩:=fL.at (o:=0) (k:=1) (hf 0 _ rfl) (fL.str Zi) (by omega) rfl (by kernel_rfl)
 obtain ⟨b,_,rb⟩:=fL.at (o:=1) (k:=1) (hf 1 _ rfl) (fL.int underlying59) (by omega) rfl (by kernel_rfl)
 exact ⟨⟨a,b⟩,trivial,q7 (o:=0) ra (q7 rb (RepL.fin hl))⟩
theorem DA:fL prog W 63 d6 D2:=fun en held fuel cs x h=>by
 obtain ⟨xs,n,_,_,hl,hxl,hf⟩:=DataW.trod_struct jx h
 have hl:cs.length=3:=hl.trans (by kernel_rfl)
 have hxl:xs.length=3:=hxl
 obtain ⟨a,_,ra⟩:=fL.at (o:=0) (k:=1) (hf 0 _ rfl) AO (by omega) rfl (by kernel_rfl)
 obtain ⟨b,hb,rb⟩:=fL.at (o:=1) (k:=1) (hf 1 _ rfl) v6 (by omega) rfl (by kernel_rfl)
 obtain ⟨c,hc,rc⟩:=fL.at (o:=2) (k:=1) (hf 2 _ rfl) v6 (by omega) rfl (by kernel_rfl)
 exact ⟨⟨a,b,c⟩,⟨hb,hc⟩,q7 (o:=0) ra (q7 rb (q7 rc (RepL.fin hl)))⟩
def Et (x:aB):Prop:=wL x.args∧(Lit.int .i64 x.num).wf=true
theorem Ck:fL prog W 54 be Et:=fun en held fuel cs x h=>by
 obtain ⟨xs,n,_,_,hl,hxl,hf⟩:=DataW.trod_struct wy h
 have hl:cs.length=4:=hl.trans (by kernel_rfl)
 have hxl:xs.length=4:=hxl
 obtain ⟨a,_,ra⟩:=fL.at (o:=0) (k:=1) (hf 0 _ rfl) (fL.int underlying52) (by omega) rfl (by kernel_rfl)
 obtain ⟨b,_,rb⟩:=fL.at (o:=1) (k:=1) (hf 1 _ rfl) AO (by omega) rfl (by kernel_rfl)
 obtain ⟨c,hc,rc⟩:=fL.at (o:=2) (k:=1) (hf 2 _ rfl) v6 (by omega) rfl (by kernel_rfl)
 obtain ⟨d,hd,rd⟩:=fL.at (o:=3) (k:=1) (hf 3 _ rfl) (fL.int underlying2) (by omega) rfl (by kernel_rfl)
 exact ⟨⟨a,b,c,d⟩,⟨hc,hd⟩,q7 (o:=0) ra (q7 rb (q7 rc (q7 rd (RepL.fin hl))))⟩
theorem Cl:fL prog W 49 m6 (fun _=>True):=fun en held fuel cs x h=>by
 obtain ⟨xs,n,_,_,hl,hxl,hf⟩:=DataW.trod_struct j8 h
 have hl:cs.length=4:=hl.trans (by kernel_rfl)
 have hxl:xs.length=3:=hxl
 obtain ⟨a,_,ra⟩:=fL.at (o:=0) (k:=1) (hf 0 _ rfl) (fL.int underlying46) (by omega) rfl (by kernel_rfl)
 obtain ⟨b,_,rb⟩:=fL.at (o:=1) (k:=1) (hf 1 _ rfl) AO (by omega) rfl (by kernel_rfl)
 obtain ⟨c,_,rc⟩:=fL.at (o:=2) (k:=2) (hf 2 _ rfl) (fL.pair (k:=1) jw AO (by kernel_rfl) (by kernel_rfl)) (by omega) rfl (by kernel_rfl)
 exact ⟨⟨a,b,c.1,c.2⟩,trivial,q7 (o:=0) ra (q7 rb (q7 rc (RepL.fin hl)))⟩
def Eu (f:ad):Prop:=∀b∈f.blocks,∀x∈b.insts,dG x.num
def Ev (b:aN):Prop:=D3 b∧∀x∈b.insts,-9223372036854775808≤x.num∧x.num≤9223372036854775807
theorem Cm:fL prog W 51 bN Ev:=fun en held fuel cs x h=>by
 obtain ⟨xs,n,_,_,hl,hxl,hf⟩:=DataW.trod_struct jg h
 have hl:cs.length=7:=hl.trans (by kernel_rfl)
 have hxl:xs.length=4:=hxl
 obtain ⟨a,_,ra⟩:=fL.at (o:=0) (k:=1) (hf 0 _ rfl) (fL.str Zi) (by omega) rfl (by kernel_rfl)
 obtain ⟨b,hb,rb⟩:=fL.at (o:=1) (k:=1) (hf 1 _ rfl) (fL.slice (k:=3) jz DA (by kernel_rfl) (by decide)) (by omega) rfl (by kernel_rfl)
 obtain ⟨c,hc,rc⟩:=fL.at (o:=2) (k:=1) (hf 2 _ rfl) (fL.slice (k:=4) jt Ck (by kernel_rfl) (by decide)) (by omega) rfl (by kernel_rfl)
 obtain ⟨d,_,rd⟩:=fL.at (o:=3) (k:=4) (hf 3 _ rfl) Cl (by omega) rfl (by kernel_rfl)
 exact ⟨⟨a,b,c,d⟩,⟨⟨hb.2,hc.2,hb.1,fun x hx=>(hc.1 x hx).1⟩,fun x hx=>by simpa [Lit.wf,IntKind.min,IntKind.max,IntKind.signed,IntKind.bits] using (hc.1 x hx).2⟩,q7 (o:=0) ra (q7 rb (q7 rc (q7 rd (RepL.fin hl))))⟩
theorem Ew:fL prog W 26 bD (fun f=>pL f∧Eu f):=fun en held fuel cs x h=>by
 obtain ⟨xs,n,_,_,hl,hxl,hf⟩:=DataW.trod_struct je h
 have hl:cs.length=3:=hl.trans (by kernel_rfl)
 have hxl:xs.length=3:=hxl
 obtain ⟨a,ha,ra⟩:=fL.at (o:=0) (k:=1) (hf 0 _ rfl) (fL.slice (k:=2) Z6 Dz (by kernel_rfl) (by decide)) (by omega) rfl (by kernel_rfl)
 obtain ⟨b,hb,rb⟩:=fL.at (o:=1) (k:=1) (hf 1 _ rfl) v6 (by omega) rfl (by kernel_rfl)
 obtain ⟨c,hc,rc⟩:=fL.at (o:=2) (k:=1) (hf 2 _ rfl) (fL.slice (k:=7) ji Cm (by kernel_rfl) (by decide)) (by omega) rfl (by kernel_rfl)
 exact ⟨⟨a,b,c⟩,⟨⟨ha.2,hb,hc.2,fun x hx=>(hc.1 x hx).1⟩,fun x hx=>(hc.1 x hx).2⟩,q7 (o:=0) ra (q7 rb (q7 rc (RepL.fin hl)))⟩
theorem xF {H:Type} {enc:TypeId × Value→H} {held:Bool} {α:Type} {T:TypeId} {e:α→List AV} {ok:α→Prop} {fs:Array Field} {base:Nat} {v:Value} {d:DataW H} {p:List MemPlace} (hd:fL prog W T e ok) (ht:prog.underlying T=some (.struct fs))
  (hv:Value.okWide prog W .any base T v) (h:DataW.Trod enc prog W 0 (fun _=>true) held T v d p):∃a,ok a∧bg (I0 W) (.agg (e a)) v:=by
 obtain ⟨cs,rfl,_⟩:=okWide_struct ht hv
 obtain ⟨fuel,h⟩:=h
 obtain ⟨a,h1,h2⟩:=hd enc held fuel _ _ h
 exact ⟨a,h1,cs.toList,by simp,h2⟩
theorem Fa:RExtra prog Tryz.lays200_ren:=⟨by kernel_rfl,by kernel_rfl,by kernel_rfl,by kernel_rfl,by kernel_rfl,by kernel_rfl,by kernel_rfl,by kernel_rfl⟩
theorem va (h:Lib.VarReads prog W "unicode.properties" (Lib.tabData .u8 Lib.propertiesTab)) (h2:Lib.VarReads prog W "unicode.Letter" (Lib.rtabData letterT)):bn W:=
 ⟨nm (g:=0) (by kernel_rfl) (by kernel_rfl) underlying285 underlying5 (by kernel_rfl) (by kernel_rfl) h,
  rvar_of_reads { Tryz.lays200 with } Fa (name:="unicode.Letter") (g:=1) (by kernel_rfl) (by kernel_rfl) h2⟩
end Go.Proofs.YtdilpodccjlkgaaGreatDoor
namespace Go.Proofs.YtdilpodccjlkgaaGreatDoor
open Go.Proofs.Tryz
open Go.Proofs
theorem Fb:prog.mayEnter=true:=by kernel_rfl
theorem Ex:(Rows.walkTwiceRow.lifted == prog.liftsFinal)=true:=by kernel_rfl
theorem Ey:(prog.make == some Rows.walkTwiceRow.make)=true:=by kernel_rfl
theorem Ez:laidOutB prog=true:=by kernel_rfl
theorem Fc:mapsRowed prog=true:=by kernel_rfl
theorem EA:(prog.stops == [])=true:=by kernel_rfl
theorem EB:(prog.stopKnobs == [])=true:=by kernel_rfl
theorem EC:(Rows.walkTwiceRow.plainKeys == prog.plainKeys)=true:=by kernel_rfl
theorem DB:prog.stopsHeard=true:=by kernel_rfl
theorem Fl:(Rows.walkTwiceRow.inPlace == prog.inPlace 5)=true:=by kernel_rfl
theorem Fm:(Rows.walkTwiceRow.unfollowed == prog.unfollowed 5)=true:=by kernel_rfl
theorem Fd:(Rows.walkTwiceRow.recurses == prog.recurses 5)=true:=by kernel_rfl
theorem Fe:(Rows.walkTwiceRow.named == prog.varsNamed 5)=true:=by kernel_rfl
theorem closed:joinedFacts prog 5 Tryz.f5 Rows.walkTwiceSpec Rows.walkTwiceRow=true:=by
 unfold joinedFacts
 rw[Ez,Fc,EA,EB,Fl,Fm,Fd,Fe,EC,DB,Fb,Ex,Ey]
 kernel_rfl
end Go.Proofs.YtdilpodccjlkgaaGreatDoor
