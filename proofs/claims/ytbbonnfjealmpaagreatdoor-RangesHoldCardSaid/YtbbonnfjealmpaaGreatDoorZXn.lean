/- Numbers of 16 and of 64 bits, as a call is handed them. No conditions. -/
import Derived.Test.YtbbonnfjealmpaaGreatDoorZXm
import Derived.Test.YtbbonnfjealmpaaGreatDoorZXh
import Derived.Test.YtbbonnfjealmpaaGreatDoorZXj
import Derived.Test.YtbbonnfjealmpaaGreatDoorZXi
import Derived.Test.YtbbonnfjealmpaaGreatDoorZXd
import Derived.Test.YtbbonnfjealmpaaGreatDoorZXb
import Derived.Lib.LaidRTab
import Derived.Test.YtbbonnfjealmpaaGreatDoorRows
import Derived.Test.YtbbonnfjealmpaaGreatDoorChecked
import Derived.ProofKit
import Derived.JoinedOf
set_option linter.unusedVariables false
set_option linter.unusedSimpArgs false
set_option linter.unusedSectionVars false
namespace Go.Proofs.YtbbonnfjealmpaaGreatDoor
section
open Go.Proofs.Tryz
open Go.Proofs Go.Lib Go.Shelf Go.RowKit
variable {E:World}
set_option maxRecDepth 20000
def kS (i:vM):Bool:=decide (i.args.length≤20)&&(decide (i.y.length≤40)&&i.y.all fun r=>decide (r.length≤100))
theorem yU (i:vM) (hl:i.args.length≤9223372036854775807) (hl2:i.y.length≤9223372036854775807):aS prog E 8 [.agg (xl i)] (.bool (kS i)):=by
 refine zm func8 U (by decide) U<|Z<|zx (cs:=_) U U U<|ah U<|Y<|za<|Z<|ao Yq U sizeOf27 U U<|aK isAgg27 U<|am Xb U<|bg U U<|aw U<|zo (s:=9) U (fun c1=>?_) (fun c1=>?_)
 ·refine H U U c1<|H U U c1<|H U U c1<|H U U c1<|aA U c1 U<|Y<|ym U U<|Z<|ah U<|Y<|zf ?_
  repeat (first|refine ad ?_|refine aa ?_)
  refine bt U ?_;unfold kS;rw[wb (fun h=>by simp at c1;omega)];rfl
 have h1:i.args.length≤20:=by simp at c1;omega
 refine M U U c1<|ao Yq U Yj U U<|M U U c1<|aK X3 U<|M U U c1<|am Zn U<|M U U c1<|bg U U<|ay U c1 U<|Y<|zq U (fun c2=>?_) (fun c2=>?_)
 ·refine Z<|ah U<|Y<|zf ?_
  repeat (first|refine ad ?_|refine aa ?_)
  refine bt U ?_;unfold kS;rw[wa h1,wb (fun h=>by simp at c2;omega)];rfl
 have h2:i.y.length≤40:=by simp at c2;omega
 refine zc<|za<|Z<|ao Yq U Yj U U<|aK X3 U<|am Zn U<|C U<|Y<|zd<|zu (γ:=Nat) [16,17] (fun k=>[(18,.i k)]) (fun k=>[]) (fun k=>k≤i.y.length∧∀r∈i.y.take k,r.length≤100) (fun k=>i.y.length - k) 0 aN aJ (⟨qw _,fun _ h=>by cases h⟩) ?_;rintro k ⟨hk,hall⟩;refine Z<|aq U U<|Y<|za<|zh U (fun ck=>?_) (fun ck=>?_)
 ·have hk2:k<i.y.length:=by omega
  refine zc<|za<|zd<|Z<|X (bD k Zn Zx U U U (qt hk2))<|aK Yh U<|X (oU U)<|Y<|Z<|bj U<|am Z5 U<|bg U U<|Y<|zh U (fun cr=>?_) (fun cr=>?_)
  ·refine Z<|ah U<|Y<|zf ?_
   repeat (first|refine ad ?_|refine aa ?_)
   refine bt U ?_;unfold kS;rw[wa h1,wa h2,Bool.true_and,Bool.true_and];exact jb (List.all_eq_false.2 ⟨i.y[k],qx hk2,by simp;omega⟩).symm
  have hall2:∀r∈i.y.take (k+1),r.length≤100:=fun r hr=>by
   rw[qu hk2] at hr;rcases List.mem_append.1 hr with h|h
   ·exact hall r h
   rw[List.mem_singleton.1 h];omega
  refine zc<|bQ U U ?_;exact ⟨k+1,cV,aN,aJ,⟨hk2,hall2⟩,by omega⟩
 obtain rfl:k=i.y.length:=by omega
 rw[qy] at hall;refine zt<|Z<|ah U<|Y<|zf ?_
 repeat (first|refine ad ?_|refine aa ?_)
 refine bt U ?_;unfold kS;rw[wa h1,wa h2,Bool.true_and,Bool.true_and];exact jb (List.all_eq_true.2 fun r hr=>wa (hall r hr)).symm
theorem LN {f:ab} (hS:bN f) {b:aF} (hb:b∈f.q) {x:aB} (hx:x∈b.s):x.dst<f.v.length:=by
 rcases (fG ((hS.2.2.2.2.2 b hb).2.1 x hx)).dst with ⟨h1,h2⟩|⟨h0,_,h3⟩
 ·omega
 exact (bz h3).1
theorem J5 {f:ab} (ht:bv f=true) (hs:eC f=true) (h64:∀b∈f.q,∀x∈b.s,aY x.num):bq f:=by
 have hS:=d6 ht;have hE:=d5 ht;have hSg:=(wE hE).1 hs;refine ⟨fun b hb=>?_,hS,hE,hSg,EJ hSg.2.2.1 (fun b hb x hx=>LN hS hb hx) fun b hb p hp=>?_,u6 hS h64⟩
 ·unfold bv at ht;exact List.all_eq_true.1 (uw ht).2 b hb
 have:=bz ((hS.2.2.2.2.2 b hb).1 p hp).1;exact ⟨this.2,this.1⟩
theorem yV {f:ab} (h:iP f=true):small f∧bv f=true∧eC f=true∧O9 f=true:=by
 unfold iP at h;simp only[wc] at h;exact ⟨((ng f).1 h.1.1).small,h.1.2,h.2.1,by unfold O9;rw[h.1.2,h.2.1,h.2.2];rfl⟩
theorem Ck {g:ab} (hs:small g) (hL:bS E) (hst:(bv g&&eC g)=true) (hN:∀b∈g.q,∀x∈b.s,aY x.num):∃l,aS prog E 18 [.agg (bH g)] (.tup [.fro 2 (l.map bM),.i 0])∧iE g l∧l.length=g.v.length:=by
 have hF:=ux hs hst;have hR:=uz (Bi hF hN) (pF hF);obtain ⟨K,hK⟩:=Is hR;exact ⟨x9 g K,Iw g hs hL hst hR K hK,DM hR hK fun v _=>Gf hF v,(qX hR hK).1.1⟩
theorem vn (f:ab) (hw:wy f) (h64:∀b∈f.q,∀x∈b.s,aY x.num) (hL:bS E) (i:vM) (hi64:yC i) (hil:i.args.length≤9223372036854775807) (hil2:i.y.length≤9223372036854775807) (m:Int) (hm:0≤m∧m≤65535):aS prog E 5 [.agg (bH f),.agg (xl i),.int .u16 m] (.bool true):=by
 have hlv:=yA (E:=E) hL;refine zm func5 U (by decide) U<|Z<|zx (cs:=_) U U U<|zx (cs:=_) U U U<|ah U<|Y<|za<|Z<|zb (hlv) U<|aL U<|aw U<|M U U U<|ae Z2 jk U U<|M U U U<|zb (vK f hw hL) U<|M U U U<|aL U<|ay U U U<|aw U<|zo (s:=18) U (fun c1=>?_) (fun c1=>?_)
 ·refine H U U c1<|H U U c1<|H U U c1<|aA U c1 U<|aw U<|H U U U<|H U U U<|H U U U<|H U U U<|aA U U U<|Y<|ym U U<|Z<|zb (hlv) U<|ah U<|Y<|zf ?_
  repeat (first|refine ad ?_|refine aa ?_)
  refine bt U ?_
  rfl
 have hlp:iP f=true:=by cases h:iP f;rw[h] at c1;cases c1;rfl
 have hfew:ox f:=(ng f).1 (by unfold iP at hlp;simp only[wc] at hlp;exact hlp.1.1);obtain ⟨hsm,ht,hs,hp⟩:=yV hlp;have hS:=d6 ht;have hR:=J5 ht hs h64;have hpl:=LM hR hp;refine M U U c1<|ae isAgg30 sizeOf30 U U<|M U U c1<|zb (yU i hil hil2) U<|M U U c1<|aL U<|ay U c1 U<|aw U<|zo (s:=23) U (fun c2=>?_) (fun c2=>?_)
 ·refine H U U c2<|H U U c2<|H U U c2<|H U U c2<|aA U c2 U<|Y<|ym U U<|Z<|zb (hlv) U<|ah U<|Y<|zf ?_
  repeat (first|refine ad ?_|refine aa ?_)
  refine bt U ?_
  rfl
 have hsi:kS i=true:=by cases h:kS i;rw[h] at c2;cases c2;rfl
 have hsi2:i.args.length≤20∧i.y.length≤40:=by unfold kS at hsi;simp only[wc,wi] at hsi;exact ⟨hsi.1,hsi.2.1⟩
 refine M U U c2<|ae Z2 jk U U<|M U U c2<|ae isAgg30 sizeOf30 U U<|M U U c2<|zb (Cj f i (nm hS) (by omega) (by omega)) U<|M U U c2<|aT U U<|ay U c2 U<|Y<|zq U (fun c3=>?_) (fun c3=>?_)
 ·refine Z<|zb (hlv) U<|ah U<|Y<|zf ?_
  repeat (first|refine ad ?_|refine aa ?_)
  refine bt U ?_
  rfl
 have hri:eH f i=0:=by simpa using c3
 obtain ⟨k,hk⟩:∃k:Nat,m.tmod 301=(k:Int):=⟨(m.tmod 301).toNat,by have:=Int.tmod_nonneg 301 hm.1;omega⟩;have hk2:k≤300:=by have:=Int.tmod_lt_of_pos m (show (0:Int)<301 by decide);omega
 have hkw:IntKind.i64.wrap (m.tmod 301)=(k:Int):=by rw[hk];unfold IntKind.wrap;simp[IntKind.bits,IntKind.signed];omega
 have hbi:∀b∈f.q,b.s.length≤400:=fun b hb=>(hfew.2.2.2.2.1 b hb).2.2.1;obtain ⟨l,hof,hSd,hll⟩:=Ck (E:=E) hsm hL (by rw[ht,hs];rfl) h64;obtain ⟨hgi,hia⟩:=bE.beg hR.run (nm hS) (u7 hS) hri hi64;have hho:=rV (E:=E) f i k l hsm hR.run hgi hia (by omega) hll;rw[DN hR hpl hri hi64 k hSd hll,←hkw] at hho;have hIn:=DF (E:=E) hsm hR hfew.1 hfew.2.1 hbi;have hFi:=Ci (E:=E) hsm hR hfew.1 hfew.2.1 hbi;refine zc<|Z<|ae Z2 jk U U<|zb (hof) U<|X (v8 U)<|X (Gv.extract (v:=.fro _ _) U U)<|X (nU U U)<|X (oU U)<|ap U<|Y<|Z<|C U<|X (Gv.rem U U (by decide))<|X (Gv.conv underlying31 X0 U)<|ap U<|Y<|za<|Z<|C U<|aT U U<|aw U<|M U U U<|ae Z2 jk U U<|M U U U<|ae isAgg30 sizeOf30 U U<|M U U U<|C U<|M U U U<|bj U<|M U U U<|zb (hho) U<|M U U U<|aL U<|ay U U U<|Y<|yl U U<|zc<|Z<|ae Z2 jk U U<|zb (hIn) U<|zp (cs:=[.n,.n,.n]) zeroValue26 U U ?_;intro i10
 refine zi jk U U U U U U .head U<|y9 (zz (t:=10) U .head)<|Y<|za<|Z<|ae Z2 jk U U<|zb (hFi) U<|aL U<|Y<|zq U (fun c4=>?_) (fun c4=>?_)
 ·refine Z<|ah U<|Y<|zf ?_
  repeat (first|refine ad ?_|refine aa ?_)
  refine bt U ?_
  rfl
 have hfi:pT (bh f)=true:=by simpa using c4
 have hW:=xh hR (kq.1 hfi).1 (kq.1 hfi).2.2;have hgs:=Dv hR hsm hbi (kq.1 hfi).1;have hgt:=Du hR (kq.1 hfi).1 (kq.1 hfi).2.2;have hgb:eC (bh f)=true:=(wE hW.hE).2 hW.hs;have hgr:=BR (fH hR) (rp hR) hri;obtain ⟨l2,hof2,hSd2,hll2⟩:=Ck (E:=E) hgs hL (by rw[hgt,hgb];rfl) (BO hR);obtain ⟨hgi2,hia2⟩:=bE.beg hW.run (nm hW.hS) (u7 hW.hS) hgr hi64;have hho2:=rV (E:=E) (bh f) i k l2 hgs hW.run hgi2 hia2 (by omega) hll2;rw[JZ hR hpl hfi hri hi64 k hSd2 hll2,←hkw] at hho2;refine zc<|Z<|ae Z2 jk U U<|zb (hof2) U<|X (v8 U)<|X (Gv.extract (v:=.fro _ _) U U)<|X (nU U U)<|X (oU U)<|ap U<|Y<|Z<|C U<|au U U<|aw U<|M U U U<|ae Z2 jk U U<|M U U U<|ae isAgg30 sizeOf30 U U<|M U U U<|C U<|M U U U<|bj U<|M U U U<|zb (hho2) U<|aA U U U<|ah U<|Y<|zf ?_
 repeat (first|refine ad ?_|refine aa ?_)
 refine bt U ?_
 rfl
end
section
open Go.Proofs.Tryz
open Go.Proofs Go.Lib Go.Shelf Go.RowKit Go.WideShapes
set_option maxRecDepth 20000
variable {W:World}
theorem GQ:jZ prog W 3 b7 (fun x=>(Lit.int .i64 x).wf=true):=jZ.int X0
theorem EY:jZ prog W 23 (fun l:List Int=>[.fro 1 (l.map b7)]) wL:=fun en held fuel cs x h=>by
 obtain ⟨l,hl,r⟩:=jZ.slice (k:=1) j7 GQ (by kernel_rfl) (by decide) en held fuel cs x h;exact ⟨l,hl.2,r⟩
theorem NF:jZ prog W 48 bO (fun _=>True):=fun en held fuel cs x h=>by
 obtain ⟨xs,n,_,_,hl,hxl,hf⟩:=DataW.trod_struct Zr h;have hl:cs.length=2:=hl.trans (by kernel_rfl);have hxl:xs.length=2:=hxl;obtain ⟨a,_,ra⟩:=qj (o:=0) (k:=1) (hf 0 _ rfl) (jZ.str Zy) (by omega) rfl (by kernel_rfl);obtain ⟨b,_,rb⟩:=qj (o:=1) (k:=1) (hf 1 _ rfl) (jZ.int underlying46) (by omega) rfl (by kernel_rfl);exact ⟨⟨a,b⟩,trivial,qc (o:=0) ra (qc rb (RepL.fin hl))⟩
theorem NG:jZ prog W 83 dQ N7:=fun en held fuel cs x h=>by
 obtain ⟨xs,n,_,_,hl,hxl,hf⟩:=DataW.trod_struct Z3 h;have hl:cs.length=3:=hl.trans (by kernel_rfl);have hxl:xs.length=3:=hxl;obtain ⟨a,_,ra⟩:=qj (o:=0) (k:=1) (hf 0 _ rfl) GQ (by omega) rfl (by kernel_rfl);obtain ⟨b,hb,rb⟩:=qj (o:=1) (k:=1) (hf 1 _ rfl) EY (by omega) rfl (by kernel_rfl);obtain ⟨c,hc,rc⟩:=qj (o:=2) (k:=1) (hf 2 _ rfl) EY (by omega) rfl (by kernel_rfl);exact ⟨⟨a,b,c⟩,⟨hb,hc⟩,qc (o:=0) ra (qc rb (qc rc (RepL.fin hl)))⟩
def OQ (x:aB):Prop:=wL x.args∧(Lit.int .i64 x.num).wf=true
theorem LO:jZ prog W 51 bu OQ:=fun en held fuel cs x h=>by
 obtain ⟨xs,n,_,_,hl,hxl,hf⟩:=DataW.trod_struct jd h;have hl:cs.length=4:=hl.trans (by kernel_rfl);have hxl:xs.length=4:=hxl;obtain ⟨a,_,ra⟩:=qj (o:=0) (k:=1) (hf 0 _ rfl) (jZ.int Xj) (by omega) rfl (by kernel_rfl);obtain ⟨b,_,rb⟩:=qj (o:=1) (k:=1) (hf 1 _ rfl) GQ (by omega) rfl (by kernel_rfl);obtain ⟨c,hc,rc⟩:=qj (o:=2) (k:=1) (hf 2 _ rfl) EY (by omega) rfl (by kernel_rfl);obtain ⟨d,hd,rd⟩:=qj (o:=3) (k:=1) (hf 3 _ rfl) (jZ.int Zz) (by omega) rfl (by kernel_rfl);exact ⟨⟨a,b,c,d⟩,⟨hc,hd⟩,qc (o:=0) ra (qc rb (qc rc (qc rd (RepL.fin hl))))⟩
theorem LP:jZ prog W 56 sy (fun _=>True):=fun en held fuel cs x h=>by
 obtain ⟨xs,n,_,_,hl,hxl,hf⟩:=DataW.trod_struct jj h;have hl:cs.length=4:=hl.trans (by kernel_rfl);have hxl:xs.length=3:=hxl;obtain ⟨a,_,ra⟩:=qj (o:=0) (k:=1) (hf 0 _ rfl) (jZ.int underlying53) (by omega) rfl (by kernel_rfl);obtain ⟨b,_,rb⟩:=qj (o:=1) (k:=1) (hf 1 _ rfl) GQ (by omega) rfl (by kernel_rfl);obtain ⟨c,_,rc⟩:=qj (o:=2) (k:=2) (hf 2 _ rfl) (jZ.pair (k:=1) Z8 GQ (by kernel_rfl) (by kernel_rfl)) (by omega) rfl (by kernel_rfl);exact ⟨⟨a,b,c.1,c.2⟩,trivial,qc (o:=0) ra (qc rb (qc rc (RepL.fin hl)))⟩
def OR (f:ab):Prop:=∀b∈f.q,∀x∈b.s,aY x.num
def OS (b:aF):Prop:=N8 b∧∀x∈b.s,-9223372036854775808≤x.num∧x.num≤9223372036854775807
theorem LQ:jZ prog W 59 bK OS:=fun en held fuel cs x h=>by
 obtain ⟨xs,n,_,_,hl,hxl,hf⟩:=DataW.trod_struct ji h;have hl:cs.length=7:=hl.trans (by kernel_rfl);have hxl:xs.length=4:=hxl;obtain ⟨a,_,ra⟩:=qj (o:=0) (k:=1) (hf 0 _ rfl) (jZ.str Zy) (by omega) rfl (by kernel_rfl);obtain ⟨b,hb,rb⟩:=qj (o:=1) (k:=1) (hf 1 _ rfl) (jZ.slice (k:=3) Z6 NG (by kernel_rfl) (by decide)) (by omega) rfl (by kernel_rfl);obtain ⟨c,hc,rc⟩:=qj (o:=2) (k:=1) (hf 2 _ rfl) (jZ.slice (k:=4) Z4 LO (by kernel_rfl) (by decide)) (by omega) rfl (by kernel_rfl);obtain ⟨d,_,rd⟩:=qj (o:=3) (k:=4) (hf 3 _ rfl) LP (by omega) rfl (by kernel_rfl);exact ⟨⟨a,b,c,d⟩,⟨⟨hb.2,hc.2,hb.1,fun x hx=>(hc.1 x hx).1⟩,fun x hx=>by simpa [Lit.wf,IntKind.min,IntKind.max,IntKind.signed,IntKind.bits] using (hc.1 x hx).2⟩,qc (o:=0) ra (qc rb (qc rc (qc rd (RepL.fin hl))))⟩
theorem OT:jZ prog W 26 bH (fun f=>wy f∧OR f):=fun en held fuel cs x h=>by
 obtain ⟨xs,n,_,_,hl,hxl,hf⟩:=DataW.trod_struct jf h;have hl:cs.length=3:=hl.trans (by kernel_rfl);have hxl:xs.length=3:=hxl;obtain ⟨a,ha,ra⟩:=qj (o:=0) (k:=1) (hf 0 _ rfl) (jZ.slice (k:=2) Z7 NF (by kernel_rfl) (by decide)) (by omega) rfl (by kernel_rfl);obtain ⟨b,hb,rb⟩:=qj (o:=1) (k:=1) (hf 1 _ rfl) EY (by omega) rfl (by kernel_rfl);obtain ⟨c,hc,rc⟩:=qj (o:=2) (k:=1) (hf 2 _ rfl) (jZ.slice (k:=7) jr LQ (by kernel_rfl) (by decide)) (by omega) rfl (by kernel_rfl);exact ⟨⟨a,b,c⟩,⟨⟨ha.2,hb,hc.2,fun x hx=>(hc.1 x hx).1⟩,fun x hx=>(hc.1 x hx).2⟩,qc (o:=0) ra (qc rb (qc rc (RepL.fin hl)))⟩
theorem xo {Hq0:Type} {enc:TypeId × Value→Hq0} {held:Bool} {α:Type} {T:TypeId} {e:α→List AV} {ok:α→Prop} {fs:Array Field} {base:Nat} {v:Value} {d:DataW Hq0} {p:List MemPlace} (hd:jZ prog W T e ok) (ht:prog.underlying T=some (.struct fs))
  (hv:Value.okWide prog W .any base T v) (h:DataW.Trod enc prog W 0 (fun _=>true) held T v d p):∃a,ok a∧bW (I0 W) (.agg (e a)) v:=by
 obtain ⟨cs,rfl,_⟩:=okWide_struct ht hv;obtain ⟨fuel,h⟩:=h;obtain ⟨a,h1,h2⟩:=hd enc held fuel _ _ h;exact ⟨a,h1,cs.toList,by simp,h2⟩
theorem Py:RExtra prog Tryz.lays200_ren:=⟨by kernel_rfl,by kernel_rfl,by kernel_rfl,by kernel_rfl,by kernel_rfl,by kernel_rfl,by kernel_rfl,by kernel_rfl⟩
theorem DO (h:Lib.VarReads prog W "unicode.properties" (Lib.tabData .u8 Lib.propertiesTab)) (h2:Lib.VarReads prog W "unicode.Letter" (Lib.rtabData letterT)):bS W:=
 ⟨s9 (g:=0) (by kernel_rfl) (by kernel_rfl) underlying290 underlying5 (by kernel_rfl) (by kernel_rfl) h,
  rvar_of_reads { Tryz.lays200 with } Py (name:="unicode.Letter") (g:=1) (by kernel_rfl) (by kernel_rfl) h2⟩
end
section
open Go.Proofs.Tryz
open Go.Proofs
theorem Pz:prog.mayEnter=true:=by kernel_rfl
theorem OU:(Rows.rangesHoldRow.lifted == prog.liftsFinal)=true:=by kernel_rfl
theorem OV:(prog.make == some Rows.rangesHoldRow.make)=true:=by kernel_rfl
theorem OW:laidOutB prog=true:=by kernel_rfl
theorem PA:mapsRowed prog=true:=by kernel_rfl
theorem OX:(prog.stops == [])=true:=by kernel_rfl
theorem OY:(prog.stopKnobs == [])=true:=by kernel_rfl
theorem OZ:(Rows.rangesHoldRow.plainKeys == prog.plainKeys)=true:=by kernel_rfl
theorem NH:prog.stopsHeard=true:=by kernel_rfl
theorem PI:(Rows.rangesHoldRow.inPlace == prog.inPlace 5)=true:=by kernel_rfl
theorem PJ:(Rows.rangesHoldRow.unfollowed == prog.unfollowed 5)=true:=by kernel_rfl
theorem PC:(Rows.rangesHoldRow.recurses == prog.recurses 5)=true:=by kernel_rfl
theorem PD:(Rows.rangesHoldRow.named == prog.varsNamed 5)=true:=by kernel_rfl
theorem closed:joinedFacts prog 5 Tryz.f5 Rows.rangesHoldSpec Rows.rangesHoldRow=true:=by
 unfold joinedFacts;rw[OW,PA,OX,OY,PI,PJ,PC,PD,OZ,NH,Pz,OU,OV]
 kernel_rfl
end
section
open Go.Proofs.Tryz
open Go.Proofs Go.Lib Go.Shelf Go.RowKit Go.WideShapes
set_option maxRecDepth 20000
variable {W:World}
theorem Mj {n:Int} (h:(Lit.int .i64 n).wf=true):aY n:=by simpa [aY,Lit.wf,IntKind.min,IntKind.max,IntKind.signed,IntKind.bits] using h
theorem NI:jZ prog W 68 JV (fun a=>aY a.int):=fun en held fuel cs x h=>by
 obtain ⟨xs,n,_,_,hl,hxl,hf⟩:=DataW.trod_struct Xk h;have hl:cs.length=3:=hl.trans (by kernel_rfl);have hxl:xs.length=3:=hxl;obtain ⟨a,ha,ra⟩:=qj (o:=0) (k:=1) (hf 0 _ rfl) (jZ.int Zz) (by omega) rfl (by kernel_rfl);obtain ⟨b,_,rb⟩:=qj (o:=1) (k:=1) (hf 1 _ rfl) (jZ.bool Yp) (by omega) rfl (by kernel_rfl);obtain ⟨c,_,rc⟩:=qj (o:=2) (k:=1) (hf 2 _ rfl) GQ (by omega) rfl (by kernel_rfl);exact ⟨⟨a,b,c⟩,Mj ha,qc (o:=0) ra (qc rb (qc rc (RepL.fin hl)))⟩
theorem NJ:jZ prog W 66 JW (fun r=>∀x∈r,aY x):=fun en held fuel cs x h=>by
 obtain ⟨l,hl,r⟩:=jZ.slice (k:=1) Z5 (jZ.int Zz) (by kernel_rfl) (by decide) en held fuel cs x h;exact ⟨l,fun x hx=>Mj (hl.1 x hx),r⟩
theorem O3:jZ prog W 30 xl (fun i=>yC i∧i.args.length≤9223372036854775807∧i.y.length≤9223372036854775807):=fun en held fuel cs x h=>by
 obtain ⟨xs,n,_,_,hl,hxl,hf⟩:=DataW.trod_struct Yq h;have hl:cs.length=2:=hl.trans (by kernel_rfl);have hxl:xs.length=2:=hxl;obtain ⟨a,ha,ra⟩:=qj (o:=0) (k:=1) (hf 0 _ rfl) (jZ.slice (k:=3) Xb NI (by kernel_rfl) (by decide)) (by omega) rfl (by kernel_rfl);obtain ⟨b,hb,rb⟩:=qj (o:=1) (k:=1) (hf 1 _ rfl) (jZ.slice (k:=1) Zn NJ (by kernel_rfl) (by decide)) (by omega) rfl (by kernel_rfl);exact ⟨⟨a,b⟩,⟨⟨ha.1,hb.1⟩,ha.2,hb.2⟩,qc (o:=0) ra (qc rb (RepL.fin hl))⟩
end
section
open Go.Proofs.Tryz
open Go.Proofs Go.Lib Go.Shelf Go.RowKit Go.WideShapes
set_option maxRecDepth 20000
variable {W:World}
theorem NK {Hq0:Type} {enc:TypeId × Value→Hq0} {held:Bool} {T:TypeId} {base:Nat} {v:Value} {d:DataW Hq0} {p:List MemPlace} (ht:prog.underlying T=some (.int .u16))
  (hv:Value.okWide prog W .any base T v) (h:DataW.Trod enc prog W 0 (fun _=>true) held T v d p):∃n:Int,(0≤n∧n≤65535)∧v=.int .u16 n:=by
 obtain ⟨n,rfl⟩:=okWide_int ht hv;obtain ⟨fuel,h⟩:=h;obtain ⟨m,h1,h2⟩:=jZ.int ht enc held fuel _ _ h;obtain ⟨v,_,e,h2,h3⟩:=h2;cases e;cases h2;exact ⟨n,by simpa [Lit.wf,IntKind.min,IntKind.max,IntKind.signed,IntKind.bits] using h1,rfl⟩
end
end Go.Proofs.YtbbonnfjealmpaaGreatDoor
