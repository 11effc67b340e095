/- What is asked of the program itself, of the law WalkTells, fact for fact. No conditions. -/
import Derived.Test.YtdilpodccjlkgaaGreatDoorHz
import Derived.Test.YtdilpodccjlkgaaGreatDoorHu
import Derived.Test.YtdilpodccjlkgaaGreatDoorHh
import Derived.Test.YtdilpodccjlkgaaGreatDoorHb
import Derived.Test.YtdilpodccjlkgaaGreatDoorHc
import Derived.Lib.LaidRTab
import Derived.Test.YtdilpodccjlkgaaGreatDoorRows
import Derived.Test.YtdilpodccjlkgaaGreatDoorChecked
import Derived.ProofKit
import Derived.JoinedOf
set_option linter.unusedVariables false
set_option linter.unusedSimpArgs false
set_option linter.unusedSectionVars false
namespace Go.Proofs.YtdilpodccjlkgaaGreatDoor
open Go.Proofs.Tryz
open Go.Proofs Go.Lib Go.Shelf Go.RowKit
variable {E:World}
set_option maxRecDepth 20000
theorem xW {f:ad} (hR:bE f):(Fb f).length≤100000:=by
 have h:=mv hR _ (Nat.le_refl _)
 have:=hR.nblk
 rw[pL] at h
 omega
set_option maxHeartbeats 4000000 in
theorem p5 (f:ad) (hw:ru f) (h64:∀b∈f.blocks,∀x∈b.insts,cY x.num) (hL:bB E):aK prog E 3 [.agg (bD f)] (.bool true):=by
 have hlv:=s6 (E:=E) hL
 refine zq func3 U (by decide) U<|ae<|y9 (cs:=_) U U U<|ab U<|z6<|zd<|zd<|ya (γ:=Bool) [1] (fun u=>[(14,.bool u)]) (fun u=>[]) (fun u=>u=!uQ f) ?_ (fun _ _ h=>h) ?_
 ·refine aO<|ze (hlv) U<|aB U<|aj U<|zo (s:=10) U (fun c1=>?_) (fun c1=>?_)
  ·refine z7 U U c1<|z7 U U c1<|z7 U U c1<|aq U c1 U<|z6 ?_
   exact ⟨_,(by repeat (first|with_reducible exact zp _ _|refine zz rfl ?_|exact aH)),aH,aD,by simp_all⟩
  ·refine z8 U U c1<|ac ju jf U U<|z8 U U c1<|ze (rI f hw) U<|z8 U U c1<|aB U<|au U c1 U<|z6 ?_
   exact ⟨_,(by repeat (first|with_reducible exact zp _ _|refine zz rfl ?_|exact aH)),aH,aD,by simp_all⟩
 ·rintro u hu
  refine zy U (fun c1=>?_) (fun c1=>?_)
  ·refine ae<|ze (hlv) U<|ab U<|z6<|zi<|zm (x:=.bool _) U ?_
   rfl
  ·have hfew:uQ f=true:=by cases h:uQ f with|true=>rfl|false=>rw[hu,h] at c1;cases c1
   have hsm:small f:=((kG f).1 hfew).small
   rcases hp:Ci f with _|_
   ·have hlp:fA f=false:=by
     cases h:fA f with
     |false=>rfl
     |true=>rw[(s5 h).2.2.2] at hp;cases hp
    have hbd:aK prog E 9 [.agg (bD f)] (.tup [.fro 1 (([]:List Bool).map nF),.int .i64 3]):=uX f hsm hL hp
    refine zg<|ae<|ac ju jf U U<|ze (hbd) U<|bR U<|za (yz (v:=.fro _ _) U U)<|bJ U U<|za (kO U)<|ap U<|z6<|zd<|ae<|ac ju jf U U<|ze (lr f hw hL) U<|aB U<|z6<|yl U (by rw[hlp];rfl)<|ae<|aa U<|ai U U<|aj U<|z8 U U U<|aT U<|z8 U U U<|ar jx U<|z8 U U U<|ai U U<|aq U U U<|ab U<|z6<|zi<|zm (x:=.bool _) U ?_
    rfl
   ·have hpp:bj f=true∧dv f=true∧ij f=true:=by unfold Ci at hp;simp only[qz] at hp;exact hp
    have hlp:fA f=true:=by unfold fA;rw[hfew,hpp.1,hpp.2.1,hpp.2.2];rfl
    have hR:=vd hpp.1 hpp.2.1 h64
    have hpl:=xW hR
    have hAll:=wD (E:=E) f hsm hR
    obtain ⟨Q,hQ⟩:∃Q,Fb f=Q:=⟨_,rfl⟩
    have hpv:=mw f ⟨hsm,hL,hR,hpp.1,hpp.2.1⟩ hp
    rw[hQ] at hpv hAll hpl
    refine zg<|ae<|ac ju jf U U<|ze (hpv) U<|bR U<|za (yz (v:=.fro _ _) U U)<|bJ U U<|za (kO U)<|ap U<|z6<|zd<|ae<|ac ju jf U U<|ze (lr f hw hL) U<|aB U<|z6<|yg U (by rw[hlp];rfl)<|zg<|ae<|ac ju jf U U<|ze (hAll) U<|bR U<|za (yz (v:=.fro _ _) U U)<|za (yz (v:=.fro _ _) U U)<|za (kO U)<|za (kO U)<|z6<|zd<|zd<|ya (γ:=Bool) [3,5] (fun w=>[(44,.bool w)]) (fun w=>[]) (fun w=>w=false) ?_ (fun _ _ h=>h) ?_
    ·refine aO<|aa U<|aM U U<|aj U<|zo (s:=38) U (fun c2=>?_) (fun c2=>?_)
     ·refine z7 U U c2<|z7 U U c2<|z7 U U c2<|z7 U U c2<|z7 U U c2<|aq U c2 U<|z6 ?_
      exact ⟨_,(by repeat (first|with_reducible exact zp _ _|refine zz rfl ?_|exact cV)),aH,aD,by simp_all⟩
     ·refine z8 U U c2<|aT U<|z8 U U c2<|ar jx U<|z8 U U c2<|aT U<|z8 U U c2<|ar jx U<|z8 U U c2<|aM U U<|au U c2 U<|z6 ?_
      exact ⟨_,(by repeat (first|with_reducible exact zp _ _|refine zz rfl ?_|exact cV)),aH,aD,by simp_all⟩
    ·rintro w hw2
     subst hw2
     refine yg U U<|zg<|zd<|ae<|aT U<|ar jx U<|aa U<|z6<|zj<|y8 (γ:=Nat) [3,5,46] (fun k=>[(47,.int .i64 k)]) (fun k=>[]) (fun k=>k≤Q.length) (fun k=>Q.length - k) 0 aH aD (qn _) ?_
     rintro k hk
     refine ae<|ax U U<|z6<|zd<|zu U (fun ck=>?_) (fun ck=>?_)
     ·have hk2:k<Q.length:=by omega
      refine zg<|zd<|zj<|ae<|aa U<|ap U<|z6<|zd<|zw (fun j=>false) (by kernel_rfl) U (zh (.rest _))<|ak 0 U (CN U)<|ak 1 U (dq U)<|ak 2 U (bh k jx Zc U U U (qk hk2))<|ak 3 U (yn (c:=.bool _) Y7 U)<|ak 4 U (CN U)<|ak 5 U (dq U)<|ak 6 U (bh k jx Zc U U U (qk hk2))<|ak 7 U (yn (c:=.bool _) Y7 U)<|ak 8 U (Gv.neqB Y0 U U)<|bY<|zy U (fun cc=>?_) (fun cc=>?_)
      ·exfalso;simp at cc
      ·refine zg<|aO<|aC U U<|aa U<|z6 ?_
       exact ⟨k+1,de,aH,aD,hk2,by omega⟩
     ·refine y7<|ae<|ab U<|z6<|zi<|zm (x:=.bool _) U ?_
      rfl
end Go.Proofs.YtdilpodccjlkgaaGreatDoor
namespace Go.Proofs.YtdilpodccjlkgaaGreatDoor
open Go.Proofs.Tryz
open Go.Proofs Go.Lib Go.Shelf Go.RowKit Go.WideShapes
set_option maxRecDepth 20000
variable {W:World}
theorem AF:fX prog W 3 cW (fun x=>(Lit.int .i64 x).wf=true):=fX.int Zu
theorem wM:fX prog W 23 (fun l:List Int=>[.fro 1 (l.map cW)]) wL:=fun en held fuel cs x h=>by
 obtain ⟨l,hl,r⟩:=fX.slice (k:=1) wz AF (by kernel_rfl) (by decide) en held fuel cs x h
 exact ⟨l,hl.2,r⟩
theorem Ev:fX prog W 61 fq (fun _=>True):=fun en held fuel cs x h=>by
 obtain ⟨xs,n,_,_,hl,hxl,hf⟩:=DataW.trod_struct Zi h
 have hl:cs.length=2:=hl.trans (by kernel_rfl)
 have hxl:xs.length=2:=hxl
 obtain ⟨a,_,ra⟩:=fX.at (o:=0) (k:=1) (hf 0 _ rfl) (fX.str Zr) (by omega) rfl (by kernel_rfl)
 obtain ⟨b,_,rb⟩:=fX.at (o:=1) (k:=1) (hf 1 _ rfl) (fX.int underlying59) (by omega) rfl (by kernel_rfl)
 exact ⟨⟨a,b⟩,trivial,q9 (o:=0) ra (q9 rb (RepL.fin hl))⟩
theorem Ew:fX prog W 63 eN F3:=fun en held fuel cs x h=>by
 obtain ⟨xs,n,_,_,hl,hxl,hf⟩:=DataW.trod_struct Z3 h
 have hl:cs.length=3:=hl.trans (by kernel_rfl)
 have hxl:xs.length=3:=hxl
 obtain ⟨a,_,ra⟩:=fX.at (o:=0) (k:=1) (hf 0 _ rfl) AF (by omega) rfl (by kernel_rfl)
 obtain ⟨b,hb,rb⟩:=fX.at (o:=1) (k:=1) (hf 1 _ rfl) wM (by omega) rfl (by kernel_rfl)
 obtain ⟨c,hc,rc⟩:=fX.at (o:=2) (k:=1) (hf 2 _ rfl) wM (by omega) rfl (by kernel_rfl)
 exact ⟨⟨a,b,c⟩,⟨hb,hc⟩,q9 (o:=0) ra (q9 rb (q9 rc (RepL.fin hl)))⟩
def FF (x:aF):Prop:=wL x.args∧(Lit.int .i64 x.num).wf=true
theorem CO:fX prog W 54 aP FF:=fun en held fuel cs x h=>by
 obtain ⟨xs,n,_,_,hl,hxl,hf⟩:=DataW.trod_struct j5 h
 have hl:cs.length=4:=hl.trans (by kernel_rfl)
 have hxl:xs.length=4:=hxl
 obtain ⟨a,_,ra⟩:=fX.at (o:=0) (k:=1) (hf 0 _ rfl) (fX.int underlying52) (by omega) rfl (by kernel_rfl)
 obtain ⟨b,_,rb⟩:=fX.at (o:=1) (k:=1) (hf 1 _ rfl) AF (by omega) rfl (by kernel_rfl)
 obtain ⟨c,hc,rc⟩:=fX.at (o:=2) (k:=1) (hf 2 _ rfl) wM (by omega) rfl (by kernel_rfl)
 obtain ⟨d,hd,rd⟩:=fX.at (o:=3) (k:=1) (hf 3 _ rfl) (fX.int underlying2) (by omega) rfl (by kernel_rfl)
 exact ⟨⟨a,b,c,d⟩,⟨hc,hd⟩,q9 (o:=0) ra (q9 rb (q9 rc (q9 rd (RepL.fin hl))))⟩
theorem CP:fX prog W 49 nO (fun _=>True):=fun en held fuel cs x h=>by
 obtain ⟨xs,n,_,_,hl,hxl,hf⟩:=DataW.trod_struct jh h
 have hl:cs.length=4:=hl.trans (by kernel_rfl)
 have hxl:xs.length=3:=hxl
 obtain ⟨a,_,ra⟩:=fX.at (o:=0) (k:=1) (hf 0 _ rfl) (fX.int underlying46) (by omega) rfl (by kernel_rfl)
 obtain ⟨b,_,rb⟩:=fX.at (o:=1) (k:=1) (hf 1 _ rfl) AF (by omega) rfl (by kernel_rfl)
 obtain ⟨c,_,rc⟩:=fX.at (o:=2) (k:=2) (hf 2 _ rfl) (fX.pair (k:=1) Z1 AF (by kernel_rfl) (by kernel_rfl)) (by omega) rfl (by kernel_rfl)
 exact ⟨⟨a,b,c.1,c.2⟩,trivial,q9 (o:=0) ra (q9 rb (q9 rc (RepL.fin hl)))⟩
def FG (f:ad):Prop:=∀b∈f.blocks,∀x∈b.insts,cY x.num
def FH (b:aY):Prop:=F4 b∧∀x∈b.insts,-9223372036854775808≤x.num∧x.num≤9223372036854775807
theorem CQ:fX prog W 51 cZ FH:=fun en held fuel cs x h=>by
 obtain ⟨xs,n,_,_,hl,hxl,hf⟩:=DataW.trod_struct jj h
 have hl:cs.length=7:=hl.trans (by kernel_rfl)
 have hxl:xs.length=4:=hxl
 obtain ⟨a,_,ra⟩:=fX.at (o:=0) (k:=1) (hf 0 _ rfl) (fX.str Zr) (by omega) rfl (by kernel_rfl)
 obtain ⟨b,hb,rb⟩:=fX.at (o:=1) (k:=1) (hf 1 _ rfl) (fX.slice (k:=3) Z5 Ew (by kernel_rfl) (by decide)) (by omega) rfl (by kernel_rfl)
 obtain ⟨c,hc,rc⟩:=fX.at (o:=2) (k:=1) (hf 2 _ rfl) (fX.slice (k:=4) jz CO (by kernel_rfl) (by decide)) (by omega) rfl (by kernel_rfl)
 obtain ⟨d,_,rd⟩:=fX.at (o:=3) (k:=4) (hf 3 _ rfl) CP (by omega) rfl (by kernel_rfl)
 exact ⟨⟨a,b,c,d⟩,⟨⟨hb.2,hc.2,hb.1,fun x hx=>(hc.1 x hx).1⟩,fun x hx=>by simpa [Lit.wf,IntKind.min,IntKind.max,IntKind.signed,IntKind.bits] using (hc.1 x hx).2⟩,q9 (o:=0) ra (q9 rb (q9 rc (q9 rd (RepL.fin hl))))⟩
theorem FI:fX prog W 26 bD (fun f=>ru f∧FG f):=fun en held fuel cs x h=>by
 obtain ⟨xs,n,_,_,hl,hxl,hf⟩:=DataW.trod_struct jg h
 have hl:cs.length=3:=hl.trans (by kernel_rfl)
 have hxl:xs.length=3:=hxl
 obtain ⟨a,ha,ra⟩:=fX.at (o:=0) (k:=1) (hf 0 _ rfl) (fX.slice (k:=2) Z7 Ev (by kernel_rfl) (by decide)) (by omega) rfl (by kernel_rfl)
 obtain ⟨b,hb,rb⟩:=fX.at (o:=1) (k:=1) (hf 1 _ rfl) wM (by omega) rfl (by kernel_rfl)
 obtain ⟨c,hc,rc⟩:=fX.at (o:=2) (k:=1) (hf 2 _ rfl) (fX.slice (k:=7) jk CQ (by kernel_rfl) (by decide)) (by omega) rfl (by kernel_rfl)
 exact ⟨⟨a,b,c⟩,⟨⟨ha.2,hb,hc.2,fun x hx=>(hc.1 x hx).1⟩,fun x hx=>(hc.1 x hx).2⟩,q9 (o:=0) ra (q9 rb (q9 rc (RepL.fin hl)))⟩
theorem xX {H:Type} {enc:TypeId × Value→H} {held:Bool} {α:Type} {T:TypeId} {e:α→List AV} {ok:α→Prop} {fs:Array Field} {base:Nat} {v:Value} {d:DataW H} {p:List MemPlace} (hd:fX prog W T e ok) (ht:prog.underlying T=some (.struct fs))
  (hv:Value.okWide prog W .any base T v) (h:DataW.Trod enc prog W 0 (fun _=>true) held T v d p):∃a,ok a∧bq (I0 W) (.agg (e a)) v:=by
 obtain ⟨cs,rfl,_⟩:=okWide_struct ht hv
 obtain ⟨fuel,h⟩:=h
 obtain ⟨a,h1,h2⟩:=hd enc held fuel _ _ h
 exact ⟨a,h1,cs.toList,by simp,h2⟩
theorem GP:RExtra prog Tryz.lays200_ren:=⟨by kernel_rfl,by kernel_rfl,by kernel_rfl,by kernel_rfl,by kernel_rfl,by kernel_rfl,by kernel_rfl,by kernel_rfl⟩
theorem vp (h:Lib.VarReads prog W "unicode.properties" (Lib.tabData .u8 Lib.propertiesTab)) (h2:Lib.VarReads prog W "unicode.Letter" (Lib.rtabData letterT)):bB W:=
 ⟨n7 (g:=0) (by kernel_rfl) (by kernel_rfl) underlying285 underlying5 (by kernel_rfl) (by kernel_rfl) h,
  rvar_of_reads { Tryz.lays200 with } GP (name:="unicode.Letter") (g:=1) (by kernel_rfl) (by kernel_rfl) h2⟩
end Go.Proofs.YtdilpodccjlkgaaGreatDoor
namespace Go.Proofs.YtdilpodccjlkgaaGreatDoor
open Go.Proofs.Tryz
open Go.Proofs
theorem GQ:prog.mayEnter=true:=by kernel_rfl
theorem FJ:(Rows.walkTellsRow.lifted == prog.liftsFinal)=true:=by kernel_rfl
theorem FK:(prog.make == some Rows.walkTellsRow.make)=true:=by kernel_rfl
theorem FL:laidOutB prog=true:=by kernel_rfl
theorem GR:mapsRowed prog=true:=by kernel_rfl
theorem FM:(prog.stops == [])=true:=by kernel_rfl
theorem FN:(prog.stopKnobs == [])=true:=by kernel_rfl
theorem FO:(Rows.walkTellsRow.plainKeys == prog.plainKeys)=true:=by kernel_rfl
theorem Ex:prog.stopsHeard=true:=by kernel_rfl
theorem Hl:(Rows.walkTellsRow.inPlace == prog.inPlace 3)=true:=by kernel_rfl
theorem Hm:(Rows.walkTellsRow.unfollowed == prog.unfollowed 3)=true:=by kernel_rfl
theorem GT:(Rows.walkTellsRow.recurses == prog.recurses 3)=true:=by kernel_rfl
theorem GU:(Rows.walkTellsRow.named == prog.varsNamed 3)=true:=by kernel_rfl
theorem closed:joinedFacts prog 3 Tryz.f3 Rows.walkTellsSpec Rows.walkTellsRow=true:=by
 unfold joinedFacts
 rw[FL,GR,FM,FN,Hl,Hm,GT,GU,FO,Ex,GQ,FJ,FK]
 kernel_rfl
end Go.Proofs.YtdilpodccjlkgaaGreatDoor
