/- Slices of structs that are made with nothing in them; lists that are filled place by place. No conditions but bounds. -/
import Derived.Test.YtjpnhkmfhlnpcaaGreatDoorJl
import Derived.Test.YtjpnhkmfhlnpcaaGreatDoorJg
import Derived.Test.YtjpnhkmfhlnpcaaGreatDoorJc
import Derived.Test.YtjpnhkmfhlnpcaaGreatDoorJh
import Derived.Lib.LaidRTab
import Derived.Test.YtjpnhkmfhlnpcaaGreatDoorJk
set_option linter.unusedVariables false
set_option linter.unusedSimpArgs false
set_option linter.unusedSectionVars false
namespace Go.Proofs.YtjpnhkmfhlnpcaaGreatDoor
section
open Go.Proofs.Tryz
open Go.Proofs Go.Lib Go.Shelf Go.RowKit
variable {E:World}
set_option maxRecDepth 20000
theorem xZ {f:ae} (hf:small f):jU (bt f):=(kB hf).ok
set_option maxHeartbeats 4000000 in
theorem mZ (f:ae) (hw:nl f) (hL:ah E) (hlv:aT prog E 5 [] (.bool true)) (l:List Int) (hll:l.length≤9223372036854775807):aT prog E 3 [.agg (bC f),.fro 1 (l.map bh)] (.bool true):=by
 refine zo func3 Z (by decide) Z<|ai<|y9 (cs:=_) Z Z Z<|ad Z<|z7<|zb<|ai<|ze (hlv) Z<|aH Z<|aj Z<|z8 Z Z Z<|ab jh j8 Z Z<|z8 Z Z Z<|ze (nu f hw) Z<|z8 Z Z Z<|aH Z<|al Z Z Z<|aj Z<|zk (s:=14) Z (fun c1=>?_) (fun c1=>?_)
 ·refine z6 Z Z c1<|z6 Z Z c1<|z6 Z Z c1<|ak Z c1 Z<|z7<|yi Z Z<|ai<|ze (hlv) Z<|ad Z<|z7<|zg<|zi (x:=.bool _) Z ?_
  rfl
 ·have hfew:rg f=true:=by cases h:rg f;rw[h] at c1;cases c1;rfl
  have hf:=((jC f).1 hfew).small
  refine z8 Z Z c1<|aX Z<|z8 Z Z c1<|ac j4 Z<|z8 Z Z c1<|za (yy Z Z)<|al Z c1 Z<|z7<|zu Z (fun c2=>?_) (fun c2=>?_)
  ·refine ai<|ze (hlv) Z<|ad Z<|z7<|zg<|zi (x:=.bool _) Z ?_
   rfl
  ·have hlj:jF f=(aS f&&bZ f):=by unfold jF;rw[hfew,Bool.true_and]
   by_cases ht:(aS f&&bZ f)=true
   ·have htj:=(qg _ _).mp ht
    by_cases hl:l.length=f.blocks.length
    ·have hgt:=fQ (l:=l) htj.1
     refine zf<|ai<|ab jh j8 Z Z<|aX Z<|ze (wz f hf hL ht l hl) Z<|za (DW Z)<|za (Gv.extract (v:=.agg _) Z Z)<|za (xi Z Z)<|zp (cs:=[.raw (.slice none 0 0),.raw (.slice none 0 0),.raw (.slice none 0 0)]) jq Z Z<|fun i5=>zm j8 Z Z Z Z Z Z .head Z<|zx (yp (t:=5) Z .head)<|aw Z<|z7<|zb<|ai<|ab jh j8 Z Z<|ze (eW f hw hL) Z<|aH Z<|z7<|yd Z (by rw[hlj,ht];rfl)<|zf<|zb<|ai<|aX Z<|ac j4 Z<|ap j6 Z ji Z Z<|aP js Z<|ac ja Z<|aG Z Z<|z7<|yd Z (by rw[hl];simp)<|zf<|zb<|ya (fun j=>false) (by kernel_rfl) Z (yh (.rest _))<|aN 0 Z (kq Z)<|aN 1 Z (Gv.eqlI Z Z)<|aN 2 Z (Av Z)<|fu 3 Z Z Z Z (yo jh j8 Z Z)<|fu 4 Z Z Z Z (yo jh j8 Z Z)<|fu 5 Z Z Z Z (Am Z) ?_
     refine cP 6 Z<|z8 Z Z Z<|ze (rk f hf l hl (mY (bp l f) (iJ hf) (eS hgt) (eR hgt))) Z<|z7<|cP 7 Z<|z8 Z Z Z<|ze (nR (bt (bp l f)) (bt (bp l f)) (xZ (iJ hf))) Z<|z7<|aN 8 Z (Aw Z Z Z)<|aN 9 Z (CX Z)<|kV<|zg<|zi (x:=.bool _) Z ?_
     exact jb (by simp)
    ·refine zf<|ai<|ab jh j8 Z Z<|aX Z<|ze (rl f hf hL ht l hl hll) Z<|za (DW Z)<|za (Gv.extract (v:=.agg _) Z Z)<|zx (bc.slot (t:=24) (y:=.agg [.fro 2 (([]:List iU).map ba),.fro 1 (([]:List Int).map bh),.fro 7 (([]:List az).map aE)]) Z (Di.agg (.cons (.nil 2) (.cons (.nil 1) (.cons (.nil 7) .nil)))))<|za (xi Z Z)<|zp (cs:=[.raw (.slice none 0 0),.raw (.slice none 0 0),.raw (.slice none 0 0)]) jq Z Z<|fun i5=>zm j8 Z Z Z Z Z Z .head Z<|zx (yp (t:=5) Z .head)<|aw Z<|z7<|zb<|ai<|ab jh j8 Z Z<|ze (eW f hw hL) Z<|aH Z<|z7<|yd Z (by rw[hlj,ht];rfl)<|zf<|zb<|ai<|aX Z<|ac j4 Z<|ap j6 Z ji Z Z<|aP js Z<|ac ja Z<|aG Z Z<|z7<|yi Z (by simp;omega)<|ai<|aa Z<|aq Z Z<|aj Z<|z8 Z Z Z<|ap j6 Z ji Z Z<|z8 Z Z Z<|aP js Z ?_
     refine z8 Z Z Z<|ac ja Z<|z8 Z Z Z<|aq Z Z<|ak Z Z Z<|ad Z<|z7<|zg<|zi (x:=.bool _) Z ?_
     rfl
   ·have hb:(aS f&&bZ f)=false:=Bool.eq_false_iff.2 ht
    refine zf<|ai<|ab jh j8 Z Z<|aX Z<|ze (xY f hf hL hb l) Z<|za (DW Z)<|za (Gv.extract (v:=.agg _) Z Z)<|zx (bc.slot (t:=24) (y:=.agg [.fro 2 (([]:List iU).map ba),.fro 1 (([]:List Int).map bh),.fro 7 (([]:List az).map aE)]) Z (Di.agg (.cons (.nil 2) (.cons (.nil 1) (.cons (.nil 7) .nil)))))<|za (xi Z Z)<|zp (cs:=[.raw (.slice none 0 0),.raw (.slice none 0 0),.raw (.slice none 0 0)]) jq Z Z<|fun i5=>zm j8 Z Z Z Z Z Z .head Z<|zx (yp (t:=5) Z .head)<|aw Z<|z7<|zb<|ai<|ab jh j8 Z Z<|ze (eW f hw hL) Z<|aH Z<|z7<|yi Z (by rw[hlj,hb];rfl)<|ai<|aa Z<|aq Z Z<|aj Z<|z8 Z Z Z<|ap j6 Z ji Z Z<|z8 Z Z Z<|aP js Z<|z8 Z Z Z<|ac ja Z<|z8 Z Z Z<|aq Z Z<|ak Z Z Z<|ad Z<|z7<|zg<|zi (x:=.bool _) Z ?_
    rfl
end
section
open Go.Proofs.Tryz
open Go.Proofs Go.Lib Go.Shelf Go.RowKit Go.WideShapes
set_option maxRecDepth 20000
variable {W:World}
theorem x8:d6 prog W 3 bh (fun x=>(Lit.int .i64 x).wf=true):=d6.int Zq
theorem pL:d6 prog W 23 (fun l:List Int=>[.fro 1 (l.map bh)]) wL:=fun en held fuel cs x h=>by
 obtain ⟨l,hl,r⟩:=d6.slice (k:=1) j4 x8 (by kernel_rfl) (by decide) en held fuel cs x h
 exact ⟨l,hl.2,r⟩
theorem Dj:d6 prog W 66 ba (fun _=>True):=fun en held fuel cs x h=>by
 obtain ⟨xs,n,_,_,hl,hxl,hf⟩:=DataW.trod_struct Z3 h
 have hl:cs.length=2:=hl.trans (by kernel_rfl)
 have hxl:xs.length=2:=hxl
 obtain ⟨a,_,ra⟩:=d6.at (o:=0) (k:=1) (hf 0 _ rfl) (d6.str jv) (by omega) rfl (by kernel_rfl)
 obtain ⟨b,_,rb⟩:=d6.at (o:=1) (k:=1) (hf 1 _ rfl) (d6.int underlying64) (by omega) rfl (by kernel_rfl)
 exact ⟨⟨a,b⟩,trivial,yu (o:=0) ra (yu rb (RepL.fin hl))⟩
theorem Dk:d6 prog W 73 aL D0:=fun en held fuel cs x h=>by
 obtain ⟨xs,n,_,_,hl,hxl,hf⟩:=DataW.trod_struct jc h
 have hl:cs.length=3:=hl.trans (by kernel_rfl)
 have hxl:xs.length=3:=hxl
 obtain ⟨a,_,ra⟩:=d6.at (o:=0) (k:=1) (hf 0 _ rfl) x8 (by omega) rfl (by kernel_rfl)
 obtain ⟨b,hb,rb⟩:=d6.at (o:=1) (k:=1) (hf 1 _ rfl) pL (by omega) rfl (by kernel_rfl)
 obtain ⟨c,hc,rc⟩:=d6.at (o:=2) (k:=1) (hf 2 _ rfl) pL (by omega) rfl (by kernel_rfl)
 exact ⟨⟨a,b,c⟩,⟨hb,hc⟩,yu (o:=0) ra (yu rb (yu rc (RepL.fin hl)))⟩
def Eb (x:bB):Prop:=wL x.args∧(Lit.int .i64 x.num).wf=true
theorem Bl:d6 prog W 69 aZ Eb:=fun en held fuel cs x h=>by
 obtain ⟨xs,n,_,_,hl,hxl,hf⟩:=DataW.trod_struct jd h
 have hl:cs.length=4:=hl.trans (by kernel_rfl)
 have hxl:xs.length=4:=hxl
 obtain ⟨a,_,ra⟩:=d6.at (o:=0) (k:=1) (hf 0 _ rfl) (d6.int underlying67) (by omega) rfl (by kernel_rfl)
 obtain ⟨b,_,rb⟩:=d6.at (o:=1) (k:=1) (hf 1 _ rfl) x8 (by omega) rfl (by kernel_rfl)
 obtain ⟨c,hc,rc⟩:=d6.at (o:=2) (k:=1) (hf 2 _ rfl) pL (by omega) rfl (by kernel_rfl)
 obtain ⟨d,hd,rd⟩:=d6.at (o:=3) (k:=1) (hf 3 _ rfl) (d6.int underlying2) (by omega) rfl (by kernel_rfl)
 exact ⟨⟨a,b,c,d⟩,⟨hc,hd⟩,yu (o:=0) ra (yu rb (yu rc (yu rd (RepL.fin hl))))⟩
theorem Bm:d6 prog W 58 kX (fun _=>True):=fun en held fuel cs x h=>by
 obtain ⟨xs,n,_,_,hl,hxl,hf⟩:=DataW.trod_struct j7 h
 have hl:cs.length=4:=hl.trans (by kernel_rfl)
 have hxl:xs.length=3:=hxl
 obtain ⟨a,_,ra⟩:=d6.at (o:=0) (k:=1) (hf 0 _ rfl) (d6.int underlying55) (by omega) rfl (by kernel_rfl)
 obtain ⟨b,_,rb⟩:=d6.at (o:=1) (k:=1) (hf 1 _ rfl) x8 (by omega) rfl (by kernel_rfl)
 obtain ⟨c,_,rc⟩:=d6.at (o:=2) (k:=2) (hf 2 _ rfl) (d6.pair (k:=1) jg x8 (by kernel_rfl) (by kernel_rfl)) (by omega) rfl (by kernel_rfl)
 exact ⟨⟨a,b,c.1,c.2⟩,trivial,yu (o:=0) ra (yu rb (yu rc (RepL.fin hl)))⟩
def Ec (f:ae):Prop:=∀b∈f.blocks,∀x∈b.insts,qQ x.num
def Ed (b:az):Prop:=D1 b∧∀x∈b.insts,-9223372036854775808≤x.num∧x.num≤9223372036854775807
theorem Bn:d6 prog W 60 aE Ed:=fun en held fuel cs x h=>by
 obtain ⟨xs,n,_,_,hl,hxl,hf⟩:=DataW.trod_struct j5 h
 have hl:cs.length=7:=hl.trans (by kernel_rfl)
 have hxl:xs.length=4:=hxl
 obtain ⟨a,_,ra⟩:=d6.at (o:=0) (k:=1) (hf 0 _ rfl) (d6.str jv) (by omega) rfl (by kernel_rfl)
 obtain ⟨b,hb,rb⟩:=d6.at (o:=1) (k:=1) (hf 1 _ rfl) (d6.slice (k:=3) jl Dk (by kernel_rfl) (by decide)) (by omega) rfl (by kernel_rfl)
 obtain ⟨c,hc,rc⟩:=d6.at (o:=2) (k:=1) (hf 2 _ rfl) (d6.slice (k:=4) jo Bl (by kernel_rfl) (by decide)) (by omega) rfl (by kernel_rfl)
 obtain ⟨d,_,rd⟩:=d6.at (o:=3) (k:=4) (hf 3 _ rfl) Bm (by omega) rfl (by kernel_rfl)
 exact ⟨⟨a,b,c,d⟩,⟨⟨hb.2,hc.2,hb.1,fun x hx=>(hc.1 x hx).1⟩,fun x hx=>by simpa [Lit.wf,IntKind.min,IntKind.max,IntKind.signed,IntKind.bits] using (hc.1 x hx).2⟩,yu (o:=0) ra (yu rb (yu rc (yu rd (RepL.fin hl))))⟩
theorem Ee:d6 prog W 26 bC (fun f=>nl f∧Ec f):=fun en held fuel cs x h=>by
 obtain ⟨xs,n,_,_,hl,hxl,hf⟩:=DataW.trod_struct j6 h
 have hl:cs.length=3:=hl.trans (by kernel_rfl)
 have hxl:xs.length=3:=hxl
 obtain ⟨a,ha,ra⟩:=d6.at (o:=0) (k:=1) (hf 0 _ rfl) (d6.slice (k:=2) jk Dj (by kernel_rfl) (by decide)) (by omega) rfl (by kernel_rfl)
 obtain ⟨b,hb,rb⟩:=d6.at (o:=1) (k:=1) (hf 1 _ rfl) pL (by omega) rfl (by kernel_rfl)
 obtain ⟨c,hc,rc⟩:=d6.at (o:=2) (k:=1) (hf 2 _ rfl) (d6.slice (k:=7) ja Bn (by kernel_rfl) (by decide)) (by omega) rfl (by kernel_rfl)
 exact ⟨⟨a,b,c⟩,⟨⟨ha.2,hb,hc.2,fun x hx=>(hc.1 x hx).1⟩,fun x hx=>(hc.1 x hx).2⟩,yu (o:=0) ra (yu rb (yu rc (RepL.fin hl)))⟩
theorem x9 {H:Type} {enc:TypeId × Value→H} {held:Bool} {α:Type} {T e:TypeId} {k:Nat} {g:α→List (List AV)} {ok:α→Prop} {base:Nat} {v:Value} {d:DataW H} {p:List MemPlace} (hd:d6 prog W T (fun a=>[.fro k (g a)]) ok) (ht:prog.underlying T=some (.slice e))
  (hv:Value.okWide prog W .any base T v) (h:DataW.Trod enc prog W 0 (fun _=>true) held T v d p):∃a,ok a∧bH (I0 W) (.fro k (g a)) v:=by
 obtain ⟨a,len,cap,rfl⟩:=okWide_slice ht hv
 obtain ⟨fuel,h⟩:=h
 obtain ⟨a,h1,v,_,e,h2,h3⟩:=hd enc held fuel _ _ h
 cases e
 exact ⟨a,h1,h2⟩
theorem wG {H:Type} {enc:TypeId × Value→H} {held:Bool} {α:Type} {T:TypeId} {e:α→List AV} {ok:α→Prop} {fs:Array Field} {base:Nat} {v:Value} {d:DataW H} {p:List MemPlace} (hd:d6 prog W T e ok) (ht:prog.underlying T=some (.struct fs))
  (hv:Value.okWide prog W .any base T v) (h:DataW.Trod enc prog W 0 (fun _=>true) held T v d p):∃a,ok a∧bH (I0 W) (.agg (e a)) v:=by
 obtain ⟨cs,rfl,_⟩:=okWide_struct ht hv
 obtain ⟨fuel,h⟩:=h
 obtain ⟨a,h1,h2⟩:=hd enc held fuel _ _ h
 exact ⟨a,h1,cs.toList,by simp,h2⟩
theorem Fd:RExtra prog Tryz.lays200_ren:=⟨by kernel_rfl,by kernel_rfl,by kernel_rfl,by kernel_rfl,by kernel_rfl,by kernel_rfl,by kernel_rfl,by kernel_rfl⟩
theorem rm (h:Lib.VarReads prog W "unicode.properties" (Lib.tabData .u8 Lib.propertiesTab)) (h2:Lib.VarReads prog W "unicode.Letter" (Lib.rtabData letterT)):ah W:=
 ⟨lL (g:=0) (by kernel_rfl) (by kernel_rfl) underlying197 underlying5 (by kernel_rfl) (by kernel_rfl) h,
  rvar_of_reads { Tryz.lays200 with } Fd (name:="unicode.Letter") (g:=1) (by kernel_rfl) (by kernel_rfl) h2⟩
end
section
open Go.Proofs.Tryz
inductive Tr (α:Type) where
 |lf
 |nd (v:Option α) (l r:Tr α)
 deriving Inhabited
section
variable {α:Type}
inductive Pa where
 |e
 |l (p:Pa)
 |r (p:Pa)
 deriving DecidableEq
noncomputable def jG (n:Nat):Nat→Pa:=Nat.rec (motive:=fun _=>Nat→Pa) (fun _=>.e) (fun _ ih k=>Bool.rec (Bool.rec (.r (ih (Nat.sub (Nat.div k 2) 1))) (.l (ih (Nat.div k 2))) (Nat.beq (Nat.mod k 2) 1)) .e (Nat.beq k 0)) n
noncomputable def rn (k:Nat):Pa:=jG (Nat.succ k) k
noncomputable def Tr.getP (p:Pa):Tr α→Option α:=Pa.rec (motive:=fun _=>Tr α→Option α) (fun t=>Tr.rec none (fun v _ _ _ _=>v) t) (fun _ ih t=>Tr.rec none (fun _ l _ _ _=>ih l) t) (fun _ ih t=>Tr.rec none (fun _ _ r _ _=>ih r) t) p
noncomputable def Tr.setP (p:Pa):Tr α→Option α→Tr α:=Pa.rec (motive:=fun _=>Tr α→Option α→Tr α) (fun t v=>Tr.rec (.nd v .lf .lf) (fun _ l r _ _=>.nd v l r) t) (fun _ ih t v=>Tr.rec (.nd none (ih .lf v) .lf) (fun u l r _ _=>.nd u (ih l v) r) t) (fun _ ih t v=>Tr.rec (.nd none .lf (ih .lf v)) (fun u l r _ _=>.nd u l (ih r v)) t) p
noncomputable def Tr.get (t:Tr α) (k:Nat):Option α:=Tr.getP (rn k) t
noncomputable def Tr.set (t:Tr α) (k:Nat) (v:Option α):Tr α:=Tr.setP (rn k) t v
theorem sr {β:Type} (a b:Nat) (x y:β):(bif Nat.beq a b then x else y)=if a=b then x else y:=by
 by_cases h:a=b
 ·rw[if_pos h,h,show Nat.beq b b=true from Nat.beq_refl b];rfl
 ·rw[if_neg h,show Nat.beq a b=false from by cases e:Nat.beq a b<;>simp_all];rfl
def Pa.val:Pa→Nat
 |.e=>0
 |.l p=>2*p.val+1
 |.r p=>2*p.val+2
theorem kc:∀(n k:Nat),k<n→(jG n k).val=k
 |0,_,h=>absurd h (Nat.not_lt_zero _)
 |n+1,k,h=>by
  have e:jG (n+1) k=bif Nat.beq k 0 then Pa.e else bif Nat.beq (k % 2) 1 then Pa.l (jG n (k / 2)) else Pa.r (jG n (k / 2 - 1)):=by
   show (Bool.rec (Bool.rec (Pa.r (jG n (k / 2 - 1))) (Pa.l (jG n (k / 2))) (Nat.beq (k % 2) 1)) Pa.e (Nat.beq k 0):Pa)=_
   cases Nat.beq k 0<;>cases Nat.beq (k % 2) 1<;>rfl
  rw[e,sr,sr]
  by_cases h0:k=0
  ·rw[if_pos h0,h0];rfl
  ·rw[if_neg h0]
   by_cases h1:k % 2=1
   ·rw[if_pos h1]
    show 2*(jG n (k / 2)).val+1=k
    rw[kc n _ (by omega)];omega
   ·rw[if_neg h1]
    show 2*(jG n (k / 2 - 1)).val+2=k
    rw[kc n _ (by omega)];omega
theorem mo (k:Nat):(rn k).val=k:=kc (k+1) k (Nat.lt_succ_self k)
theorem Tr.getP_lf:∀p:Pa,Tr.getP p (Tr.lf:Tr α)=none
 |.e=>rfl
 |.l _=>rfl
 |.r _=>rfl
theorem Tr.get_lf (k:Nat):(Tr.lf:Tr α).get k=none:=Tr.getP_lf _
theorem Tr.getP_set:∀(p q:Pa) (t:Tr α) (v:Option α),Tr.getP q (Tr.setP p t v)=if q=p then v else Tr.getP q t
 |.e,.e,t,v=>by rw[if_pos rfl];cases t<;>rfl
 |.e,.l q,t,v=>by
  rw[if_neg (by simp)]
  cases t with
  |lf=>exact Tr.getP_lf q
  |nd=>rfl
 |.e,.r q,t,v=>by
  rw[if_neg (by simp)]
  cases t with
  |lf=>exact Tr.getP_lf q
  |nd=>rfl
 |.l p,.e,t,v=>by rw[if_neg (by simp)];cases t<;>rfl
 |.r p,.e,t,v=>by rw[if_neg (by simp)];cases t<;>rfl
 |.l p,.r q,t,v=>by
  rw[if_neg (by simp)]
  cases t with
  |lf=>exact Tr.getP_lf q
  |nd=>rfl
 |.r p,.l q,t,v=>by
  rw[if_neg (by simp)]
  cases t with
  |lf=>exact Tr.getP_lf q
  |nd=>rfl
 |.l p,.l q,t,v=>by
  have e:(Pa.l q=Pa.l p)=(q=p):=by simp
  simp only[e]
  cases t with
  |lf=>exact (Tr.getP_set p q .lf v).trans (by rw[Tr.getP_lf];rfl)
  |nd u l r=>exact Tr.getP_set p q l v
 |.r p,.r q,t,v=>by
  have e:(Pa.r q=Pa.r p)=(q=p):=by simp
  simp only[e]
  cases t with
  |lf=>exact (Tr.getP_set p q .lf v).trans (by rw[Tr.getP_lf];rfl)
  |nd u l r=>exact Tr.getP_set p q r v
theorem Tr.get_set (t:Tr α) (k:Nat) (v:Option α) (j:Nat):(t.set k v).get j=if j=k then v else t.get j:=by
 unfold Tr.get Tr.set
 rw[Tr.getP_set]
 by_cases h:j=k
 ·rw[if_pos h,if_pos (by rw[h])]
 ·rw[if_neg h,if_neg fun e=>h (by rw[←mo j,←mo k,e])]
end
inductive Cp where
 |ex (m:Nat)
 |en
 |un
inductive EV where
 |u
 |b (x:Bool)
 |i (k:IntKind) (n:Int)
 |s (x:ByteArray)
 |np
 |p (b off:Nat)
 |ns
 |sl (b off n k:Nat) (c:Cp)
 |ag (l:List EV)
 |tu (l:List EV)
 |fn (f:Nat) (a c:List EV)
 |nf
 |ifc (t:Nat) (v:EV)
 |ni
 |m (b:Nat)
 |nm
 |vr (b:Nat)
 |us (lo hi c:Nat)
instance:Inhabited EV:=⟨.u⟩
structure su where
 r:Nat
 sh:Nat
 κ:Nat
abbrev bY:=Nat→Option su
def su.num (q:su):Int:=(q.r:Int) - (q.sh:Int)
def bY.le (φ ψ:bY):Prop:=∀b q,φ b=some q→ψ b=some q
theorem bY.le.refl (φ:bY):φ.le φ:=fun _ _ h=>h
theorem bY.le.trans {φ ψ χ:bY} (h:φ.le ψ) (k:ψ.le χ):φ.le χ:=fun b q e=>k b q (h b q e)
def bY.put (φ:bY) (b:Nat) (q:su):bY:=fun x=>if x=b then some q else φ x
theorem bY.put_same (φ:bY) (b:Nat) (q:su):φ.put b q b=some q:=if_pos rfl
theorem bY.le_put {φ:bY} {b:Nat} (h:φ b=none) (q:su):φ.le (φ.put b q):=fun x q' e=>by
 unfold bY.put;split
 ·rename_i e';subst e';rw[h] at e;cases e
 ·exact e
def Ef (q:su) (off k:Nat):Cp→Nat→Prop
 |.ex m,cap=>cap=m
 |.en,cap=>q.sh+off+cap*k=q.κ
 |.un,_=>True
mutual
def aQ (φ:bY):EV→Value→Prop
 |.u,_=>True
 |.b x,v=>v=.bool x
 |.i k n,v=>v=.int k n
 |.s x,v=>v=.string x
 |.np,v=>v=.pointer none
 |.p b off,v=>∃q,φ b=some q∧v=.pointer (some ⟨q.r,q.sh+off,none⟩)
 |.ns,v=>v=.slice none 0 0
 |.sl b off n k c,v=>∃q o cap,φ b=some q∧v=.slice (some ⟨q.r,o,none⟩) n cap∧n≤cap∧(cap≠0→o=q.sh+off)∧Ef q off k c cap
 |.ag l,v=>∃vs:List Value,v=.agg vs.toArray∧RelVs φ l vs
 |.tu l,v=>∃vs:List Value,v=.tuple vs.toArray∧RelVs φ l vs
 |.fn f a c,v=>∃vs us:List Value,v=.func (.func f) vs.toArray us.toArray∧RelVs φ a vs∧RelVs φ c us
 |.nf,v=>v=.nilFunc
 |.ifc t x,v=>∃u,v=.iface t u∧aQ φ x u
 |.ni,v=>v=.nilIface
 |.m b,v=>∃q,φ b=some q∧v=.map (some q.r)
 |.nm,v=>v=.map none
 |.vr b,v=>∃q,φ b=some q∧v=.int .i64 q.num
 |.us lo hi c,v=>∃s:ByteArray,v=.string s∧lo≤s.data.toList.length∧s.data.toList.length≤hi∧(c=0∨s.data.toList.head?=some (UInt8.ofNat c))
def RelVs (φ:bY):List EV→List Value→Prop
 |[],vs=>vs=[]
 |x::xs,vs=>∃v us,vs=v::us∧aQ φ x v∧RelVs φ xs us
end
mutual
theorem aQ.mono {φ ψ:bY} (h:φ.le ψ):∀(x:EV) (v:Value),aQ φ x v→aQ ψ x v
 |.u,_,_=>trivial
 |.b _,_,e=>e
 |.i _ _,_,e=>e
 |.s _,_,e=>e
 |.np,_,e=>e
 |.p _ _,_,⟨q,a,e⟩=>⟨q,h _ _ a,e⟩
 |.ns,_,e=>e
 |.sl _ _ _ _ _,_,⟨q,o,cap,a,e⟩=>⟨q,o,cap,h _ _ a,e⟩
 |.ag l,_,⟨vs,e,k⟩=>⟨vs,e,RelVs.mono h l vs k⟩
 |.tu l,_,⟨vs,e,k⟩=>⟨vs,e,RelVs.mono h l vs k⟩
 |.fn _ a c,_,⟨vs,us,e,k1,k2⟩=>⟨vs,us,e,RelVs.mono h a vs k1,RelVs.mono h c us k2⟩
 |.nf,_,e=>e
 |.ifc _ x,_,⟨u,e,k⟩=>⟨u,e,aQ.mono h x u k⟩
 |.ni,_,e=>e
 |.m _,_,⟨q,a,e⟩=>⟨q,h _ _ a,e⟩
 |.nm,_,e=>e
 |.vr _,_,⟨q,a,e⟩=>⟨q,h _ _ a,e⟩
 |.us _ _ _,_,e=>e
theorem RelVs.mono {φ ψ:bY} (h:φ.le ψ):∀(x:List EV) (v:List Value),RelVs φ x v→RelVs ψ x v
 |[],_,e=>e
 |x::xs,_,⟨v,us,e,h1,h2⟩=>⟨v,us,e,aQ.mono h x v h1,RelVs.mono h xs us h2⟩
end
section
variable {φ ψ:bY}
theorem RelVs.length:∀{xs:List EV} {vs:List Value},RelVs φ xs vs→vs.length=xs.length
 |[],_,e=>by simp[RelVs] at e;simp[e]
 |x::xs,_,⟨v,us,e,_,h2⟩=>by subst e;simp[RelVs.length h2]
theorem RelVs.get:∀{xs:List EV} {vs:List Value},RelVs φ xs vs→∀{j:Nat} {x:EV},xs[j]?=some x→∃v,vs[j]?=some v∧aQ φ x v
 |[],_,_,j,x,hj=>by simp at hj
 |y::ys,_,⟨v,us,e,h1,h2⟩,j,x,hj=>by
  subst e
  cases j with
  |zero=>simp at hj;subst hj;exact ⟨v,rfl,h1⟩
  |succ j=>simp at hj;simpa using RelVs.get h2 hj
theorem RelVs.take:∀{xs:List EV} {vs:List Value},RelVs φ xs vs→∀n,RelVs φ (xs.take n) (vs.take n)
 |[],_,e,n=>by simp[RelVs] at e;simp[e,RelVs]
 |y::ys,_,⟨v,us,e,h1,h2⟩,n=>by
  subst e
  cases n with
  |zero=>simp[RelVs]
  |succ n=>exact ⟨v,us.take n,by simp,h1,RelVs.take h2 n⟩
theorem RelVs.drop:∀{xs:List EV} {vs:List Value},RelVs φ xs vs→∀n,RelVs φ (xs.drop n) (vs.drop n)
 |[],_,e,n=>by simp[RelVs] at e;simp[e,RelVs]
 |y::ys,_,⟨v,us,e,h1,h2⟩,n=>by
  subst e
  cases n with
  |zero=>exact ⟨v,us,rfl,h1,h2⟩
  |succ n=>simpa using RelVs.drop h2 n
theorem RelVs.append:∀{xs ys:List EV} {vs us:List Value},RelVs φ xs vs→RelVs φ ys us→RelVs φ (xs++ys) (vs++us)
 |[],_,_,_,e,h=>by simp[RelVs] at e;simpa [e] using h
 |y::ys,_,_,_,⟨v,us,e,h1,h2⟩,h=>by subst e;exact ⟨v,_,rfl,h1,RelVs.append h2 h⟩
theorem RelVs.one {x:EV} {v:Value} (h:aQ φ x v):RelVs φ [x] [v]:=⟨v,[],rfl,h,rfl⟩
def EV.cell:EV→Bool
 |.u | .ag _ | .tu _=>false
 |_=>true
theorem EV.cell_rel {x:EV} {v:Value} (h:aQ φ x v) (hc:x.cell=true):v.oneCell'=true:=by
 cases x<;>simp only[aQ,EV.cell] at h hc
 all_goals first
  |(cases hc;done)
  |(subst h;rfl)
  |(obtain ⟨_,_,_,_,e,_⟩:=h;subst e;rfl)
  |(obtain ⟨_,_,e,_⟩:=h;subst e;rfl)
  |(obtain ⟨_,e,_⟩:=h;subst e;rfl)
  |(obtain ⟨_,_,e⟩:=h;subst e;rfl)
theorem EV.cells_rel {xs:List EV} {vs:List Value} (h:RelVs φ xs vs) (hc:xs.all EV.cell=true):∀u∈vs,u.oneCell'=true:=by
 intro u hu
 obtain ⟨j,hj⟩:=List.getElem?_of_mem hu
 have hlt:=(List.getElem?_eq_some_iff.1 hj).1
 rw[h.length] at hlt
 obtain ⟨v,hv,hr⟩:=h.get (q2 hlt)
 rw[hj] at hv;cases hv
 exact EV.cell_rel hr (List.all_eq_true.1 hc _ (q6 hlt))
def EV.cs:EV→List EV
 |.ag l=>l
 |x=>[x]
def EV.sto:EV→Bool
 |.u | .tu _=>false
 |_=>true
theorem EV.cs_rel {x:EV} {v:Value} (h:aQ φ x v) (hs:x.sto=true):RelVs φ x.cs v.cells.toList:=by
 cases x<;>simp only[EV.sto] at hs
 all_goals first
  |(cases hs;done)
  |(obtain ⟨vs,rfl,h2⟩:=h;simpa [EV.cs,Value.cells] using h2)
  |skip
 all_goals (
  have hc:=EV.cell_rel h rfl
  have hv:v.cells=#[v]:=by cases v<;>first|rfl|(simp[Value.oneCell'] at hc)
  rw[hv];exact RelVs.one h)
end
inductive VO where
 |cells (ex:Bool) (cs:List EV)
 |kn (cs:List EV)
 |it (s:ByteArray) (p:Nat)
 |mp (es:List (EV × EV))
abbrev Hp:=Tr VO
def cg (φ:bY):List (EV × EV)→List MapEntry→Prop
 |[],es=>es=[]
 |x::xs,es=>∃e r,es=e::r∧aQ φ x.1 e.key∧aQ φ x.2 e.val∧cg φ xs r
theorem cg.mono {φ ψ:bY} (h:φ.le ψ):∀{x:List (EV × EV)} {v:List MapEntry},cg φ x v→cg ψ x v
 |[],_,e=>e
 |_::_,_,⟨e,r,a,b,c,d⟩=>⟨e,r,a,b.mono h,c.mono h,cg.mono h d⟩
def kQ (ms:List MapEntry):Prop:=∀(j:Nat) (e:MapEntry),ms[j]?=some e→e.born=j
def eX (I:aI) (φ:bY) (k:Nat) (o:VO) (A:List (Nat × Obj)):Prop:=
 match o with
 |.cells ex cs=>∃q T vs junk,φ k=some q∧q.sh=0∧RelVs φ cs vs∧(∀u∈vs++junk,u.oneCell'=true)∧(vs++junk).length=q.κ∧(ex=true→junk=[])∧A=[(q.r,.cells (vs++junk).toArray T (0,0))]
 |.kn cs=>∃q vs,φ k=some q∧RelVs φ cs vs∧(∀u∈vs,u.oneCell'=true)∧(∀(j:Nat) u,vs[j]?=some u→vG I q.r (q.sh+j) u)∧A=[]
 |.it s p=>∃q,φ k=some q∧q.sh=0∧A=[(q.r,.stringIter s p)]
 |.mp es=>∃q ms,φ k=some q∧(cg φ es ms∧kQ ms)∧A=[(q.r,.map ms.toArray ms.length)]
theorem eX.mono {I J:aI} {φ ψ:bY} (hI:I.le J) (h:φ.le ψ) {k:Nat} {o:VO} {A:List (Nat × Obj)} (hb:eX I φ k o A):eX J ψ k o A:=by
 cases o<;>simp only[eX] at *
 ·obtain ⟨q,T,vs,junk,h1,h2,h3,h4⟩:=hb;exact ⟨q,T,vs,junk,h _ _ h1,h2,h3.mono h,h4⟩
 ·obtain ⟨q,vs,h1,h2,h3,h4,h5⟩:=hb;exact ⟨q,vs,h _ _ h1,h2.mono h,h3,fun j u e=>(h4 j u e).mono hI,h5⟩
 ·obtain ⟨q,h1,h2⟩:=hb;exact ⟨q,h _ _ h1,h2⟩
 ·obtain ⟨q,ms,h1,h2,h3⟩:=hb;exact ⟨q,ms,h _ _ h1,⟨h2.1.mono h,h2.2⟩,h3⟩
theorem eX.phi {I:aI} {φ:bY} {k:Nat} {o:VO} {A:List (Nat × Obj)} (hb:eX I φ k o A):∃q,φ k=some q:=by
 cases o<;>simp only[eX] at hb
 ·obtain ⟨q,T,vs,junk,h1,_⟩:=hb;exact ⟨q,h1⟩
 ·obtain ⟨q,vs,h1,_⟩:=hb;exact ⟨q,h1⟩
 ·obtain ⟨q,h1,_⟩:=hb;exact ⟨q,h1⟩
 ·obtain ⟨q,ms,h1,_⟩:=hb;exact ⟨q,h1⟩
def eY (I:aI) (φ:bY):List (Nat × VO)→List (Nat × Obj)→Prop
 |[],L=>L=[]
 |x::xs,L=>∃A B,L=A++B∧eX I φ x.1 x.2 A∧eY I φ xs B
theorem eY.mono {I J:aI} {φ ψ:bY} (hI:I.le J) (h:φ.le ψ):∀{M:List (Nat × VO)} {L:List (Nat × Obj)},eY I φ M L→eY J ψ M L
 |[],_,e=>e
 |_::_,_,⟨A,B,e,h1,h2⟩=>⟨A,B,e,h1.mono hI h,eY.mono hI h h2⟩
theorem eY.perm {I:aI} {φ:bY} {M M':List (Nat × VO)} (h:M.Perm M'):∀{L},eY I φ M L→∃L',eY I φ M' L'∧L.Perm L':=by
 induction h with
 |nil=>exact fun h=>⟨_,h,.refl _⟩
 |cons x _ ih=>
  rintro L ⟨A,B,rfl,h1,h2⟩
  obtain ⟨B',h3,h4⟩:=ih h2
  exact ⟨A++B',⟨A,B',rfl,h1,h3⟩,h4.append_left A⟩
 |swap x y _=>
  rintro L ⟨A,B,rfl,h1,C,D,rfl,h2,h3⟩
  exact ⟨C++(A++D),⟨C,A++D,rfl,h2,A,D,rfl,h1,h3⟩,by
   rw[←q4,←q4]
   exact List.perm_append_comm.append_right D⟩
 |trans _ _ ih1 ih2=>
  intro L h
  obtain ⟨L1,h1,p1⟩:=ih1 h
  obtain ⟨L2,h2,p2⟩:=ih2 h1
  exact ⟨L2,h2,p1.trans p2⟩
theorem eY.phi {I:aI} {φ:bY}:∀{M:List (Nat × VO)} {L:List (Nat × Obj)},eY I φ M L→∀x∈M,∃q,φ x.1=some q
 |_::_,_,⟨_,_,_,h1,h2⟩,x,hx=>by
  rcases List.mem_cons.1 hx with rfl|hx
  ·exact h1.phi
  ·exact eY.phi h2 x hx
def m1 (I:aI) (φ:bY) (H:Hp) (k:Nat) (L:List (Nat × Obj)):Prop:=
 ∃M,(M.map (·.1)).Nodup∧(∀j o,(j,o)∈M↔j≠k∧H.get j=some o)∧eY I φ M L
structure cJ (I:aI) (φ:bY) (H:Hp) (nx:Nat) (F:List (Nat × Obj)) (E w:World):Prop where
 top:∀j,nx≤j→φ j=none
 ex:∃M L,(M.map (·.1)).Nodup∧(∀j o,(j,o)∈M↔H.get j=some o)∧eY I φ M L∧SL I (L++F) E w
section
variable {I J:aI} {φ ψ:bY} {H:Hp} {nx:Nat} {F:List (Nat × Obj)} {E w:World} {k:Nat} {o:VO} {L A:List (Nat × Obj)}
theorem m1.mono (hI:I.le J) (h:φ.le ψ) (hr:m1 I φ H k L):m1 J ψ H k L:=let ⟨M,a,b,c⟩:=hr;⟨M,a,b,c.mono hI h⟩
theorem cJ.pick (h:cJ I φ H nx F E w) (hk:H.get k=some o):∃A L,eX I φ k o A∧m1 I φ H k L∧SL I (A++(L++F)) E w:=by
 obtain ⟨M,L,hn,hm,hr,hS⟩:=h.ex
 have hmem:=(hm k o).2 hk
 obtain ⟨M1,M2,rfl⟩:=List.append_of_mem hmem
 obtain ⟨L',hr',hp⟩:=hr.perm (M':=(k,o)::(M1++M2)) List.perm_middle
 obtain ⟨A,B,rfl,h1,h2⟩:=hr'
 have hn2:(((k,o)::(M1++M2)).map (·.1)).Nodup:=((List.perm_middle (a:=(k,o)) (l₁:=M1) (l₂:=M2)).map (·.1)).nodup_iff.1 hn
 simp only[List.map_cons,List.nodup_cons] at hn2
 refine ⟨A,B,h1,⟨M1++M2,hn2.2,fun j o'=>?_,h2⟩,hS.perm ?_⟩
 ·rw[←hm j o']
  constructor
  ·intro hj
   refine ⟨fun e=>hn2.1 (List.mem_map.2 ⟨(j,o'),hj,e⟩),?_⟩
   rw[(List.perm_middle (a:=(k,o)) (l₁:=M1) (l₂:=M2)).mem_iff]
   exact List.mem_cons_of_mem _ hj
  ·rintro ⟨hne,hj⟩
   rw[(List.perm_middle (a:=(k,o)) (l₁:=M1) (l₂:=M2)).mem_iff] at hj
   rcases List.mem_cons.1 hj with e|hj
   ·cases e;exact absurd rfl hne
   ·exact hj
 ·rw[←q4];exact (hp.append_right F).symm
theorem cJ.close (hr:m1 I φ H k L) (hb:eX I φ k o A) (hS:SL I (A++(L++F)) E w) (ht:∀j,nx≤j→φ j=none):cJ I φ (H.set k (some o)) nx F E w:=by
 obtain ⟨M,hn,hm,hr⟩:=hr
 refine ⟨ht,(k,o)::M,A++L,?_,fun j o'=>?_,⟨A,L,Z,hb,hr⟩,by rw[q4];exact hS⟩
 ·simp only[List.map_cons,List.nodup_cons]
  refine ⟨fun hk=>?_,hn⟩
  obtain ⟨x,hx,e⟩:=List.mem_map.1 hk
  exact ((hm x.1 x.2).1 hx).1 e
 ·rw[Tr.get_set,List.mem_cons,hm j o']
  by_cases e:j=k
  ·rw[if_pos e];subst e;simp[eq_comm]
  ·rw[if_neg e];simp[e]
theorem cJ.gone (hr:m1 I φ H k L) (hS:SL I (L++F) E w) (ht:∀j,nx≤j→φ j=none):cJ I φ (H.set k none) nx F E w:=by
 obtain ⟨M,hn,hm,hr⟩:=hr
 refine ⟨ht,M,L,hn,fun j o'=>?_,hr,hS⟩
 rw[Tr.get_set,hm j o']
 by_cases e:j=k
 ·rw[if_pos e];simp[e]
 ·rw[if_neg e];simp[e]
theorem cJ.mono (h:cJ I φ H nx F E w) {n':Nat} (hn:nx≤n'):cJ I φ H n' F E w:=⟨fun j hj=>h.top j (Nat.le_trans hn hj),h.ex⟩
theorem cJ.drew (h:cJ I φ H nx F E w):cJ I φ H nx F E w.drew:=let ⟨M,L,a,b,c,d⟩:=h.ex;⟨h.top,M,L,a,b,c,d.drew⟩
theorem cJ.sl (h:cJ I φ H nx F E w):SL I F E w:=let ⟨_,_,_,_,_,d⟩:=h.ex;d.dropAll
def VO.cs?:VO→Option (List EV)
 |.cells _ cs=>some cs
 |.kn cs=>some cs
 |_=>none
theorem cJ.read (h:cJ I φ H nx F E w) (hk:H.get k=some o) {cs:List EV} (hc:o.cs?=some cs) {q:su} (hq:φ k=some q) :
  ∃vs,RelVs φ cs vs∧(∀u∈vs,u.oneCell'=true)∧∀(j:Nat) v,vs[j]?=some v→w.cell? ⟨q.r,q.sh+j,none⟩=some v:=by
 obtain ⟨A,L,hb,_,hS⟩:=h.pick hk
 cases o<;>simp only[VO.cs?] at hc
 ·cases hc
  obtain ⟨q',T,vs,junk,h1,h2,h3,h4,h5,h6,rfl⟩:=hb
  rw[hq] at h1;cases h1
  refine ⟨vs,h3,fun u hu=>h4 u (List.mem_append_left _ hu),fun j v hj=>?_⟩
  rw[SL.cell_own (c:=(vs++junk).toArray) (T:=T) (f:=(0,0)) (O:=L++F) hS,h2,Nat.zero_add,List.getElem?_toArray,List.getElem?_append_left (List.getElem?_eq_some_iff.1 hj).1]
  exact hj
 ·cases hc
  obtain ⟨q',vs,h1,h2,h3,h4,rfl⟩:=hb
  rw[hq] at h1;cases h1
  exact ⟨vs,h2,h3,fun j v hj=>hS.at_ ((h4 j v hj).at_ _)⟩
 ·cases hc
 ·cases hc
end
def dI (φ:bY) (g:Nat→EV) (ρ:bD):Prop:=∀t,aQ φ (g t) (ρ t)
theorem dI.mono {φ ψ:bY} (h:φ.le ψ) {g:Nat→EV} {ρ:bD} (hr:dI φ g ρ):dI ψ g ρ:=fun t=>(hr t).mono h
end
section
open Go.Proofs.Tryz
structure TI where
 d:TypeDesc
 size:Nat
 bytes:Nat
 z:List EV
 v:EV
 g:Bool
 q:Bool
 ms:String→Option Nat
 mi:Array (String × TypeId)→Bool
def yA:TypeDesc→Bool
 |.struct _=>true
 |.array _ _=>true
 |_=>false
structure n8 (P:Program) (t:TypeId) (i:TI):Prop where
 und:P.underlying t=some i.d
 inf:∃f zv,P.info? t=some f∧f.size=i.size∧f.bytes=i.bytes∧f.zero=some zv∧(∀φ,RelVs φ i.z zv.cells.toList)∧∀φ,aQ φ i.v zv
 z1:i.z.all EV.cell=true
 zl:i.z.length=i.size
 gd:i.g=true→P.eqGuardType P.depth t=false
 qd:i.q=true→P.stoodInHeld t=false∧∀fs,i.d=.struct fs→∀f∈fs.toList,f.name≠"_"
 mt:∀nm f,i.ms nm=some f→∀(k:Nat) (v:Value) (w:World),(method (k+1) t v nm).run P w=.ok (f,v) w
 md:∃f,P.info? t=some f∧∀want,(Instr.missingMethod want f.methods).isNone=i.mi want
abbrev TT:=Nat→Option TI
def cu (P:Program) (T:TT):Prop:=∀t i,T t=some i→n8 P t i
section
variable {P:Program} {t:TypeId} {i:TI} (h:n8 P t i)
include h
theorem n8.sz (w:World):(sizeOf t).run P w=.ok i.size w:=by
 obtain ⟨f,zv,h1,h2,_⟩:=h.inf
 simp[sizeOf,typeInfo,h1,h2]
theorem n8.agg (w:World):(isAgg t).run P w=.ok (yA i.d) w:=by
 unfold isAgg
 rw[Sem.run_bind,run_underlying h.und]
 cases i.d<;>rfl
theorem n8.zero:∃zv,(∀w,(zeroValue t).run P w=.ok zv w)∧(∀φ,RelVs φ i.z zv.cells.toList)∧zv.cells.size=i.size:=by
 obtain ⟨f,zv,h1,h2,h3,h4,h5⟩:=h.inf
 refine ⟨zv,fun w=>by simp[zeroValue,typeInfo,h1,h4],h5.1,?_⟩
 have:=(h5.1 (fun _=>none)).length
 rw[h.zl] at this
 simpa using this
theorem n8.zeroV:∃zv,(∀w,(zeroValue t).run P w=.ok zv w)∧∀φ,aQ φ i.v zv:=by
 obtain ⟨f,zv,h1,h2,h3,h4,h5⟩:=h.inf
 exact ⟨zv,fun w=>by simp[zeroValue,typeInfo,h1,h4],h5.2⟩
end
section
variable {φ:bY}
theorem RelVs.r1 {x:EV} {a:Value} (h:RelVs φ [x] [a]):aQ φ x a:=by
 obtain ⟨v,us,e,h1,h2⟩:=h;cases e;exact h1
end
def m2 (a b:ByteArray):Bool:=beqL a.data.toList b.data.toList
where
 beqL:List UInt8→List UInt8→Bool
  |[],[]=>true
  |x::l,y::m=>Nat.beq x.toNat y.toNat&&beqL l m
  |_,_=>false
theorem sv:∀(a b:List UInt8),m2.beqL a b=decide (a=b)
 |[],[]=>rfl
 |[],_::_=>rfl
 |_::_,[]=>rfl
 |x::l,y::m=>by
  unfold m2.beqL
  rw[sv l m]
  by_cases h:x=y
  ·subst h
   rw[show Nat.beq x.toNat x.toNat=true from Nat.beq_refl _]
   by_cases h2:l=m<;>simp[h2]
  ·have:Nat.beq x.toNat y.toNat=false:=by
    cases e:Nat.beq x.toNat y.toNat with
    |false=>rfl
    |true=>exact absurd (UInt8.toNat_inj.1 (Nat.eq_of_beq_eq_true e)) h
   rw[this];simp[h]
theorem fT (a b:ByteArray):m2 a b=decide (a=b):=by
 unfold m2
 rw[sv]
 rw[decide_eq_decide]
 constructor
 ·intro h;cases a;cases b;simp only[ByteArray.mk.injEq];exact Array.toList_inj.1 h
 ·intro h;rw[h]
noncomputable def yB (op:BinOp) (k:IntKind) (a b:Int):Option EV:=
 match op with
 |.add=>some (.i k (k.wrap (a+b)))
 |.sub=>some (.i k (k.wrap (a - b)))
 |.mul=>some (.i k (k.wrap (a*b)))
 |.quo=>if b=0 then none else some (.i k (k.wrap (a.tdiv b)))
 |.rem=>if b=0 then none else some (.i k (a.tmod b))
 |.and=>some (.i k (k.wrap (BitVec.ofInt k.bits a &&& BitVec.ofInt k.bits b).toNat))
 |.or=>some (.i k (k.wrap (BitVec.ofInt k.bits a ||| BitVec.ofInt k.bits b).toNat))
 |.xor=>some (.i k (k.wrap (BitVec.ofInt k.bits a ^^^ BitVec.ofInt k.bits b).toNat))
 |.andNot=>some (.i k (k.wrap (BitVec.ofInt k.bits a &&& ~~~BitVec.ofInt k.bits b).toNat))
 |.eql=>some (.b (a == b))
 |.neq=>some (.b (a != b))
 |.lss=>some (.b (decide (a<b)))
 |.leq=>some (.b (decide (a≤b)))
 |.gtr=>some (.b (decide (b<a)))
 |.geq=>some (.b (decide (b≤a)))
 |.shl | .shr=>none
noncomputable def Bo (op:BinOp) (k:IntKind) (a b:Int):Option EV:=
 if b<0 then none else
 match op with
 |.shl=>some (.i k (k.wrap (a*2 ^ min b.toNat k.bits)))
 |.shr=>some (.i k (a.fdiv (2 ^ min b.toNat k.bits)))
 |_=>none
noncomputable def yC (op:BinOp) (a b:ByteArray):Option EV:=
 match op with
 |.eql=>some (.b (m2 a b))
 |.neq=>some (.b (!m2 a b))
 |.add=>if Nat.ble (a.data.toList.length+b.data.toList.length) 1000000 then some (.s ⟨(a.data.toList++b.data.toList).toArray⟩) else none
 |_=>none
noncomputable def nA (d:TypeDesc) (x y:EV):Option Bool:=
 match d,x,y with
 |.pointer _,.np,.np=>some true
 |.pointer _,.p _ _,.np=>some false
 |.slice _,.ns,.ns=>some true
 |.slice _,.sl _ _ _ _ _,.ns=>some false
 |.map _ _,.nm,.nm=>some true
 |.map _ _,.m _,.nm=>some false
 |_,_,_=>none
def E3 (a:ByteArray) (c:Nat):Nat:=match a.data.toList with | []=>c|d::_=>d.toNat
noncomputable def sw (T:TT) (op:BinOp) (t:TypeId) (o:Operand) (x y:EV):Option EV:=
 match x,y with
 |.i k a,.i k' b=>match op with
  |.shl=>Bo .shl k a b
  |.shr=>Bo .shr k a b
  |_=>if k=k' then yB op k a b else none
 |.s a,.s b=>yC op a b
 |.s a,.us lo hi c=>match op with
  |.add=>bif Nat.ble (a.data.toList.length+hi) 1000000 then some (.us (a.data.toList.length+lo) (a.data.toList.length+hi) (E3 a c)) else none
  |_=>none
 |.b a,.b b=>match op,(T t).map (·.d) with
  |.eql,some TypeDesc.bool=>some (.b (a == b))
  |.neq,some TypeDesc.bool=>some (.b (!(a == b)))
  |_,_=>none
 |x,y=>match op,T t with
  |.eql,some i=>(nA i.d x y).map EV.b
  |.neq,some i=>(nA i.d x y).map fun z=>.b (!z)
  |_,_=>none
noncomputable def Bp (op:UnOp) (x:EV):Option EV:=
 match op,x with
 |.not,.b a=>some (.b (!a))
 |.neg,.i k a=>some (.i k (k.wrap (0 - a)))
 |_,_=>none
section
variable {P:Program} {φ:bY} {ρ:bD} {w:World} {T:TT} {o:Oper} {t:TypeId}
theorem yD {op:BinOp} {k:IntKind} {a b:Int} {x:EV} (h:yB op k a b=some x):∃v,(binOp op t (.int k a) (.int k b)).run P w=.ok v w∧aQ φ x v:=by
 cases op<;>simp only[yB] at h
 case quo=>split at h<;>first|(cases h;done)|(cases h;rename_i hb;exact ⟨_,by simp[binOp,Op.intDiv,hb],rfl⟩)
 case rem=>split at h<;>first|(cases h;done)|(cases h;rename_i hb;exact ⟨_,by simp[binOp,Op.intDiv,hb],rfl⟩)
 case shl=>cases h
 case shr=>cases h
 case add=>cases h;exact ⟨_,by rw[show binOp .add t (.int k a) (.int k b)=Op.intArith .add k a b by simp[binOp]];rfl,rfl⟩
 case sub=>cases h;exact ⟨_,by rw[show binOp .sub t (.int k a) (.int k b)=Op.intArith .sub k a b by simp[binOp]];rfl,rfl⟩
 case mul=>cases h;exact ⟨_,by rw[show binOp .mul t (.int k a) (.int k b)=Op.intArith .mul k a b by simp[binOp]];rfl,rfl⟩
 case and=>cases h;exact ⟨_,by rw[binOp_and];rfl,rfl⟩
 case or=>cases h;exact ⟨_,by rw[binOp_or];rfl,rfl⟩
 case xor=>cases h;exact ⟨_,by rw[binOp_xor];rfl,rfl⟩
 case andNot=>cases h;exact ⟨_,by rw[binOp_andNot];rfl,rfl⟩
 case eql=>cases h;exact ⟨_,by rw[binOp_eql];rfl,rfl⟩
 case neq=>cases h;exact ⟨_,by rw[binOp_neq];rfl,rfl⟩
 case lss=>cases h;exact ⟨_,by rw[binOp_lss];rfl,rfl⟩
 case leq=>cases h;exact ⟨_,by rw[binOp_leq];rfl,rfl⟩
 case gtr=>cases h;exact ⟨_,by rw[binOp_gtr];rfl,rfl⟩
 case geq=>cases h;exact ⟨_,by rw[binOp_geq];rfl,rfl⟩
theorem sx {op:BinOp} {k k':IntKind} {a b:Int} {x:EV} (ho:op=.shl∨op=.shr) (h:Bo op k a b=some x):∃v,(binOp op t (.int k a) (.int k' b)).run P w=.ok v w∧aQ φ x v:=by
 unfold Bo at h
 split at h
 ·cases h
 ·rename_i hb
  rcases ho with rfl|rfl<;>(cases h;exact ⟨_,by simp[binOp,Op.shift,hb],rfl⟩)
theorem wH (a b:ByteArray):(⟨(a.data.toList++b.data.toList).toArray⟩:ByteArray)=a++b:=by
 have:(a++b).data=a.data++b.data:=ByteArray.data_append
 cases hab:a++b with
 |mk d=>
  rw[hab] at this
  simp only at this
  rw[this];congr 1;simp
theorem pM {op:BinOp} {a b:ByteArray} {x:EV} (h:yC op a b=some x):∃v,(binOp op t (.string a) (.string b)).run P w=.ok v w∧aQ φ x v:=by
 cases op<;>simp only[yC] at h
 case add=>
  split at h
  ·rename_i hl
   cases h
   have hl:=Nat.le_of_ble_eq_true hl
   refine ⟨.string (a++b),?_,by rw[wH];rfl⟩
   have h2:¬((a.size+b.size:Nat):Int)>IntKind.i64.max:=by
    have e1:a.size=a.data.toList.length:=by rw[Array.length_toList];rfl
    have e2:b.size=b.data.toList.length:=by rw[Array.length_toList];rfl
    have:IntKind.i64.max=9223372036854775807:=by decide
    rw[this];omega
   simp only[binOp,Op.stringOp]
   rw[if_neg h2];rfl
  ·cases h
 case eql=>cases h;refine ⟨.bool (a.toList == b.toList),by rw[binOp_string_eql];rfl,?_⟩;show Value.bool _=Value.bool _;rw[ga,fT]
 case neq=>cases h;refine ⟨.bool (!a.toList == b.toList),by rw[binOp_string_neq];rfl,?_⟩;show Value.bool _=Value.bool _;rw[ga,fT]
 all_goals cases h
theorem pN {d:TypeDesc} {x y:EV} {a c:Value} {b:Bool} {op:BinOp} {p q:Operand} (h:nA d x y=some b) (hd:P.underlying t=some d) (hx:aQ φ x a) (hy:aQ φ y c) :
  (eqGuard op t p q a c).run P w=.ok () w∧(binOp .eql t a c).run P w=.ok (.bool b) w∧(binOp .neq t a c).run P w=.ok (.bool (!b)) w:=by
 unfold nA at h
 split at h
 case h_1 e=>
  have hx:a=.pointer none:=hx
  have hy:c=.pointer none:=hy
  have hp:P.pointee t=e:=by unfold Program.pointee;rw[hd]
  cases h;subst hx hy
  exact ⟨fW,run_eql_pointer_nil w t none (by rw[hp];exact hd),run_neq_pointer_nil w t none (by rw[hp];exact hd)⟩
 case h_2 e _ _=>
  obtain ⟨_,_,rfl⟩:=hx
  have hy:c=.pointer none:=hy
  have hp:P.pointee t=e:=by unfold Program.pointee;rw[hd]
  cases h;subst hy
  exact ⟨fW,run_eql_pointer_nil w t _ (by rw[hp];exact hd),run_neq_pointer_nil w t _ (by rw[hp];exact hd)⟩
 case h_3 e=>
  have hx:a=.slice none 0 0:=hx
  have hy:c=.slice none 0 0:=hy
  cases h;subst hx hy
  exact ⟨fk,Lib.run_eql_slice_nil w t e none 0 0 0 0 hd,run_neq_slice_nil_any w t e none 0 0 0 0 hd⟩
 case h_4 e _ _ _ _ _=>
  obtain ⟨_,_,_,_,rfl,_⟩:=hx
  have hy:c=.slice none 0 0:=hy
  cases h;subst hy
  exact ⟨fk,Lib.run_eql_slice_nil w t e _ _ _ 0 0 hd,run_neq_slice_nil_any w t e _ _ _ 0 0 hd⟩
 case h_5 k e=>
  have hx:a=.map none:=hx
  have hy:c=.map none:=hy
  cases h;subst hx hy
  exact ⟨by unfold eqGuard;cases op<;>rfl,run_eql_map_nil w t k e none hd,Go.run_neq_map_nil w t k e none hd⟩
 case h_6 k e _=>
  obtain ⟨_,_,rfl⟩:=hx
  have hy:c=.map none:=hy
  cases h;subst hy
  exact ⟨by unfold eqGuard;cases op<;>rfl,run_eql_map_nil w t k e _ hd,Go.run_neq_map_nil w t k e _ hd⟩
 case h_7=>cases h
theorem yE (hT:cu P T) {op:BinOp} {p q:Operand} {x y z:EV} {a c:Value} (h:sw T op t q x y=some z) (hx:aQ φ x a) (hy:aQ φ y c) :
  ∃v,(do eqGuard op t p q a c;binOp op t a c:Sem Value).run P w=.ok v w∧aQ φ z v:=by
 unfold sw at h
 split at h
 ·rename_i k a' k' b'
  have hx:a=.int k a':=hx
  have hy:c=.int k' b':=hy
  subst hx hy
  have hg:(eqGuard op t p q (.int k a') (.int k' b')).run P w=.ok () w:=by unfold eqGuard;cases op<;>rfl
  rw[Sem.run_bind,hg]
  split at h
  ·exact sx (.inl rfl) h
  ·exact sx (.inr rfl) h
  ·split at h
   ·rename_i e;subst e;exact yD h
   ·cases h
 ·rename_i a' b'
  have hx:a=.string a':=hx
  have hy:c=.string b':=hy
  subst hx hy
  rw[Sem.run_bind,dJ]
  exact pM h
 ·rename_i a' lo hi cc
  have hx:a=.string a':=hx
  obtain ⟨b',hy,h1,h2,h3⟩:=hy
  subst hx hy
  split at h
  ·cases hl:Nat.ble (a'.data.toList.length+hi) 1000000 with
   |false=>rw[hl] at h;cases h
   |true=>
    rw[hl] at h;cases h
    have hl:=Nat.le_of_ble_eq_true hl
    rw[Sem.run_bind,dJ]
    obtain ⟨v,g1,g2⟩:=pM (P:=P) (w:=w) (φ:=φ) (t:=t) (op:=.add) (a:=a') (b:=b') (x:=.s ⟨(a'.data.toList++b'.data.toList).toArray⟩) (if_pos (Nat.ble_eq_true_of_le (by omega)))
    have e:(⟨(a'.data.toList++b'.data.toList).toArray⟩:ByteArray).data.toList.length=a'.data.toList.length+b'.data.toList.length:=q8
    refine ⟨v,g1,_,g2,by rw[e];omega,by rw[e];omega,?_⟩
    show E3 a' cc=0∨(a'.data.toList++b'.data.toList).head?=some (UInt8.ofNat (E3 a' cc))
    unfold E3
    cases a'.data.toList with
    |nil=>exact h3
    |cons d r=>exact .inr (congrArg some (UInt8.ofNat_toNat).symm)
  ·cases h
 ·rename_i a' b'
  have hx:a=.bool a':=hx
  have hy:c=.bool b':=hy
  subst hx hy
  rw[Sem.run_bind,iP]
  split at h
  ·rename_i hd
   cases h
   cases hi:T t with
   |none=>rw[hi] at hd;cases hd
   |some i=>
    rw[hi] at hd
    have hd2:=(hT t i hi).und
    simp only[Option.map_some,Option.some.injEq] at hd
    rw[hd] at hd2
    exact ⟨_,run_eql_bool w t a' b' hd2,rfl⟩
  ·rename_i hd
   cases h
   cases hi:T t with
   |none=>rw[hi] at hd;cases hd
   |some i=>
    rw[hi] at hd
    have hd2:=(hT t i hi).und
    simp only[Option.map_some,Option.some.injEq] at hd
    rw[hd] at hd2
    exact ⟨_,run_neq_bool w t a' b' hd2,rfl⟩
  ·cases h
 ·split at h
  ·rename_i i hi
   cases hn:nA i.d x y with
   |none=>rw[hn] at h;cases h
   |some b=>
    rw[hn] at h;cases h
    obtain ⟨h1,h2,_⟩:=pN (op:=.eql) (p:=p) (q:=q) (w:=w) hn (hT t i hi).und hx hy
    rw[Sem.run_bind,h1]
    exact ⟨_,h2,rfl⟩
  ·rename_i i hi
   cases hn:nA i.d x y with
   |none=>rw[hn] at h;cases h
   |some b=>
    rw[hn] at h;cases h
    obtain ⟨h1,_,h2⟩:=pN (op:=.neq) (p:=p) (q:=q) (w:=w) hn (hT t i hi).und hx hy
    rw[Sem.run_bind,h1]
    exact ⟨_,h2,rfl⟩
  ·cases h
theorem Bq {op:UnOp} {x z:EV} {a:Value} (h:Bp op x=some z) (hx:aQ φ x a):∃v,(Op.unary op a).run P w=.ok v w∧aQ φ z v:=by
 unfold Bp at h
 split at h
 ·have hx:a=.bool _:=hx
  cases h;subst hx;exact ⟨_,rfl,rfl⟩
 ·have hx:a=.int _ _:=hx
  cases h;subst hx;exact ⟨_,by simp[Op.unary,Op.intArith],rfl⟩
 ·cases h
end
noncomputable def mq (T:TT) (H:Hp) (t b off:Nat):Option EV:=
 match T t,(H.get b).bind VO.cs? with
 |some i,some cs=>bif yA i.d then (bif Nat.ble (off+i.size) cs.length then some (.ag ((cs.drop off).take i.size)) else none) else cs[off]?
 |_,_=>none
noncomputable def df (T:TT) (t:TypeId) (cs:List EV) (off:Nat):Option EV:=
 match T t with
 |some i=>bif yA i.d then some (.ag ((cs.drop off).take i.size)) else cs[off]?
 |none=>none
def n9 (T:TT) (t f:Nat):Option Field:=
 match T t with
 |some i=>match i.d with
  |.struct fs=>fs[f]?
  |_=>none
 |none=>none
noncomputable def la (T:TT) (t f b off:Nat):Option EV:=
 match n9 T t f with
 |some fd=>match T fd.type with
  |some i=>bif Nat.beq i.size 0 then none else some (.p b (off+fd.offset))
  |none=>none
 |none=>none
noncomputable def lb (T:TT) (t f:Nat) (cs:List EV):Option EV:=
 match n9 T t f with
 |some fd=>df T fd.type cs fd.offset
 |none=>none
def gH (n:Int):Option Nat:=
 match n with
 |.ofNat j=>some j
 |_=>none
noncomputable def oa (T:TT) (t:Nat) (x:EV) (n:Int):Option EV:=
 match T t,gH n with
 |some i,some j=>match i.d,x with
  |.slice e,.sl b off len _ _=>match T e with
   |some ie=>bif Nat.blt j len then some (.p b (off+j*ie.size)) else none
   |none=>none
  |.array len e,.p b off=>match T e with
   |some ie=>bif Nat.blt j len then some (.p b (off+j*ie.size)) else none
   |none=>none
  |_,_=>none
 |_,_=>none
noncomputable def sy (T:TT) (t:Nat) (x:EV) (n:Int):Option EV:=
 match T t,gH n with
 |some i,some j=>match i.d,x with
  |.string,.s s=>(s.data.toList[j]?).map fun c=>.i .u8 c.toNat
  |.array len e,.ag cs=>match T e with
   |some ie=>bif Nat.blt j len then df T e cs (j*ie.size) else none
   |none=>none
  |_,_=>none
 |_,_=>none
section
variable {P:Program} {φ:bY} {w:World} {T:TT} {I:aI} {H:Hp} {nx:Nat} {F:List (Nat × Obj)} {E:World}
theorem nB (hT:cu P T) (hR:cJ I φ H nx F E w) {t b off:Nat} {z:EV} {a:Value} (h:mq T H t b off=some z) (hx:aQ φ (.p b off) a) :
  ∃v,(Instr.loadAt t a).run P w=.ok v w∧aQ φ z v:=by
 obtain ⟨q,hq,rfl⟩:=hx
 unfold mq at h
 split at h
 ·rename_i i cs hi hc
  obtain ⟨o,ho,hoc⟩:=Option.bind_eq_some_iff.1 hc
  have hTi:=hT t i hi
  obtain ⟨vs,h1,h2,h3⟩:=hR.read ho hoc hq
  cases hd:yA i.d with
  |true=>
   rw[hd] at h
   simp only[cond_true] at h
   cases hb:Nat.ble (off+i.size) cs.length with
   |false=>rw[hb] at h;cases h
   |true=>
    rw[hb] at h;cases h
    have hb:=Nat.le_of_ble_eq_true hb
    have hl:((vs.drop off).take i.size).length=i.size:=by rw[qc,List.length_drop,h1.length];omega
    refine ⟨.agg ((vs.drop off).take i.size).toArray,?_,_,Z,(h1.drop off).take i.size⟩
    have hrun:=el (P:=P) (T:=t) (b:=q.r) (off:=q.sh+off) (cs:=(vs.drop off).take i.size) (w:=w) (fun w=>by rw[hTi.agg,hd]) (fun w=>by rw[hl];exact hTi.sz w) (fun j v hj=>by
     have hjl:=(List.getElem?_eq_some_iff.1 hj).1
     rw[hl] at hjl
     rw[List.getElem?_take_of_lt hjl,List.getElem?_drop] at hj
     rw[Nat.add_assoc];exact h3 _ _ hj)
    simp[Instr.loadAt,Instr.sureAddr,hrun]
  |false=>
   rw[hd] at h
   simp only[cond_false] at h
   obtain ⟨v,hv,hr⟩:=h1.get h
   refine ⟨v,?_,hr⟩
   have hrun:=kI (P:=P) (T:=t) (b:=q.r) (off:=q.sh+off) (v:=v) (w:=w) (fun w=>by rw[hTi.agg,hd]) (h3 _ _ hv)
   simp[Instr.loadAt,Instr.sureAddr,hrun]
 ·cases h
theorem dY (hT:cu P T) {t off:Nat} {cs:List EV} {vs:List Value} {z:EV} (h:df T t cs off=some z) (hx:RelVs φ cs vs):∃v,(part t vs.toArray off).run P w=.ok v w∧aQ φ z v:=by
 unfold df at h
 split at h
 ·rename_i i hi
  have hTi:=hT t i hi
  cases hd:yA i.d with
  |true=>
   rw[hd] at h;cases h
   refine ⟨.agg ((vs.drop off).take i.size).toArray,?_,_,Z,(hx.drop off).take i.size⟩
   simp[part,hTi.agg,hd,hTi.sz]
  |false=>
   rw[hd] at h
   obtain ⟨v,hv,hr⟩:=hx.get h
   exact ⟨v,by simp[part,hTi.agg,hd,hv],hr⟩
 ·cases h
theorem nC (hT:cu P T) {t f:Nat} {fd:Field} (h:n9 T t f=some fd):∃fs,P.underlying t=some (.struct fs)∧fs[f]?=some fd:=by
 unfold n9 at h
 split at h
 ·rename_i i hi
  split at h
  ·rename_i fs hd
   exact ⟨fs,hd▸(hT t i hi).und,h⟩
  ·cases h
 ·cases h
theorem rp (hT:cu P T) {t f b off:Nat} {z:EV} {a:Value} (h:la T t f b off=some z) (hx:aQ φ (.p b off) a):∃v,(Instr.fieldAt t a f).run P w=.ok v w∧aQ φ z v:=by
 obtain ⟨q,hq,rfl⟩:=hx
 unfold la at h
 split at h
 ·rename_i fd hfd
  obtain ⟨fs,h1,h2⟩:=nC hT hfd
  split at h
  ·rename_i i hi
   have hTi:=hT _ i hi
   cases hz:Nat.beq i.size 0 with
   |true=>rw[hz] at h;cases h
   |false=>
    rw[hz] at h;cases h
    have hne:i.size≠0:=fun e=>by rw[e] at hz;cases hz
    refine ⟨.pointer (some ⟨q.r,q.sh+off+fd.offset,none⟩),?_,q,hq,by rw[Nat.add_assoc]⟩
    simp[Instr.fieldAt,run_underlying h1,h2,Instr.sureAddr,fieldPlace,hTi.sz,hne,bj]
  ·cases h
 ·cases h
theorem rq (hT:cu P T) {t f:Nat} {cs:List EV} {z:EV} {a:Value} (h:lb T t f cs=some z) (hx:aQ φ (.ag cs) a):∃v,(Instr.field t a f).run P w=.ok v w∧aQ φ z v:=by
 obtain ⟨vs,rfl,hx⟩:=hx
 unfold lb at h
 split at h
 ·rename_i fd hfd
  obtain ⟨fs,h1,h2⟩:=nC hT hfd
  obtain ⟨v,h3,h4⟩:=dY (w:=w) hT h hx
  refine ⟨v,?_,h4⟩
  simp[Instr.field,run_underlying h1,h2,asAgg,h3]
 ·cases h
theorem eZ {n:Int} {j:Nat} (h:gH n=some j):n=(j:Int):=by
 unfold gH at h
 split at h
 ·cases h;rfl
 ·cases h
theorem wI (hT:cu P T) {t:Nat} {x:EV} {k:IntKind} {n:Int} {z:EV} {a c:Value} (h:oa T t x n=some z) (hx:aQ φ x a) (hy:aQ φ (.i k n) c):∃v,(Instr.indexAt t a c).run P w=.ok v w∧aQ φ z v:=by
 have hy:c=.int k n:=hy
 subst hy
 unfold oa at h
 split at h
 ·rename_i i j hi hj
  have hj:=eZ hj
  subst hj
  have hTi:=hT t i hi
  split at h
  ·rename_i e b off len _ _ hd
   have hu:=hd▸hTi.und
   obtain ⟨q,o,cap,hq,rfl,h1,h2,_⟩:=hx
   split at h
   ·rename_i ie hie
    have hTe:=hT e ie hie
    cases hb:Nat.blt j len with
    |false=>rw[hb] at h;cases h
    |true=>
     rw[hb] at h;cases h
     have hb:j<len:=Nat.le_of_ble_eq_true hb
     have ho:=h2 (by omega)
     subst ho
     refine ⟨.pointer (some ⟨q.r,q.sh+off+j*ie.size,none⟩),?_,q,hq,by rw[Nat.add_assoc]⟩
     simp[Instr.indexAt,asIntOf,run_underlying hu,hTe.sz,hb,bj]
   ·cases h
  ·rename_i len e b off hd
   have hu:=hd▸hTi.und
   obtain ⟨q,hq,rfl⟩:=hx
   split at h
   ·rename_i ie hie
    have hTe:=hT e ie hie
    cases hb:Nat.blt j len with
    |false=>rw[hb] at h;cases h
    |true=>
     rw[hb] at h;cases h
     have hb:j<len:=Nat.le_of_ble_eq_true hb
     refine ⟨.pointer (some ⟨q.r,q.sh+off+j*ie.size,none⟩),?_,q,hq,by rw[Nat.add_assoc]⟩
     by_cases h1:len≤1
     ·simp[Instr.indexAt,asIntOf,run_underlying hu,hTe.sz,hb,bj,Instr.sureAddr,h1]
     ·simp[Instr.indexAt,asIntOf,run_underlying hu,hTe.sz,hb,bj,Instr.sureAddr,h1]
   ·cases h
  ·cases h
 ·cases h
theorem yF (hT:cu P T) {t:Nat} {x:EV} {k:IntKind} {n:Int} {z:EV} {a c:Value} (h:sy T t x n=some z) (hx:aQ φ x a) (hy:aQ φ (.i k n) c):∃v,(Instr.index t a c).run P w=.ok v w∧aQ φ z v:=by
 have hy:c=.int k n:=hy
 subst hy
 unfold sy at h
 split at h
 ·rename_i i j hi hj
  have hj:=eZ hj
  subst hj
  have hTi:=hT t i hi
  split at h
  ·rename_i s hd
   have hu:=hd▸hTi.und
   have hx:a=.string s:=hx
   subst hx
   obtain ⟨c,hc,rfl⟩:=Option.map_eq_some_iff.1 h
   have hv:s.data[j]?=some c:=by rw[←hc];simp
   have hj:s[j]?=some c:=by
    obtain ⟨h1,h2⟩:=Array.getElem?_eq_some_iff.1 hv
    show (if h:j<s.size then some s[j] else none)=some c
    rw[dif_pos (show j<s.size from h1)];exact congrArg some h2
   exact ⟨.int .u8 c.toNat,by simp[Instr.index,asIntOf,run_underlying hu,hj],rfl⟩
  ·rename_i len e cs hd
   have hu:=hd▸hTi.und
   obtain ⟨vs,rfl,hx⟩:=hx
   split at h
   ·rename_i ie hie
    have hTe:=hT e ie hie
    cases hb:Nat.blt j len with
    |false=>rw[hb] at h;cases h
    |true=>
     rw[hb] at h
     have hb:j<len:=Nat.le_of_ble_eq_true hb
     obtain ⟨v,h3,h4⟩:=dY (w:=w) hT h hx
     refine ⟨v,?_,h4⟩
     simp[Instr.index,asIntOf,run_underlying hu,hb,hTe.sz,h3]
   ·cases h
  ·cases h
 ·cases h
end
end
section
open Go.Proofs.Tryz
def rt:Option Value→Option Nat→Prop
 |none,none=>True
 |some v,some n=>∃k,v=.int k (n:Int)
 |_,_=>False
theorem dO {P:Program} {w:World} {k:IntKind} {n y:Nat} {c:BoundsCode} (h:n≤y):(Instr.sliceBound (.int k (n:Int)) y c).run P w=.ok n w:=by
 have:(0:Int)≤(n:Int)∧(n:Int)≤(y:Int):=by omega
 simp[Instr.sliceBound,asIntOf,this]
theorem gS {P:Program} {w:World} {s:Bool} {len cap:Nat} {lo hi mx:Option Value} {lo' hi' mx':Option Nat} (h1:rt lo lo') (h2:rt hi hi') (h3:rt mx mx') (hm:mx'.isSome=true→hi'.isSome=true)
  (c1:mx'.getD cap≤cap) (c2:hi'.getD len≤mx'.getD cap) (c3:lo'.getD 0≤hi'.getD len):(Instr.sliceBounds s len cap lo hi mx).run P w=.ok (lo'.getD 0,hi'.getD len,mx'.getD cap) w:=by
 cases mx with
 |some m=>
  cases mx' with
  |none=>exact h3.elim
  |some m'=>
   cases hi' with
   |none=>simp at hm
   |some g=>
    cases hi with
    |none=>exact h2.elim
    |some hv=>
     obtain ⟨k1,rfl⟩:=h3
     obtain ⟨k2,rfl⟩:=h2
     simp only[Option.getD_some] at c1 c2 c3 ⊢
     cases lo with
     |none=>
      cases lo' with
      |none=>simp only[Instr.sliceBounds,Sem.run_bind,dO c1,Result.andThen_ok,dO c2];simp
      |some _=>exact h1.elim
     |some l=>
      cases lo' with
      |none=>exact h1.elim
      |some l'=>
       obtain ⟨k3,rfl⟩:=h1
       simp only[Option.getD_some] at c3 ⊢
       simp only[Instr.sliceBounds,Sem.run_bind,dO c1,Result.andThen_ok,dO c2,dO c3];simp
 |none=>
  cases mx' with
  |some _=>exact h3.elim
  |none=>
   simp only[Option.getD_none] at c1 c2 ⊢
   cases hi with
   |none=>
    cases hi' with
    |some _=>exact h2.elim
    |none=>
     simp only[Option.getD_none] at c2 c3 ⊢
     cases lo with
     |none=>
      cases lo' with
      |none=>simp[Instr.sliceBounds]
      |some _=>exact h1.elim
     |some l=>
      cases lo' with
      |none=>exact h1.elim
      |some l'=>
       obtain ⟨k3,rfl⟩:=h1
       simp only[Option.getD_some] at c3 ⊢
       simp[Instr.sliceBounds,dO c3]
   |some hv=>
    cases hi' with
    |none=>exact h2.elim
    |some g=>
     obtain ⟨k2,rfl⟩:=h2
     simp only[Option.getD_some] at c2 c3 ⊢
     cases lo with
     |none=>
      cases lo' with
      |none=>simp[Instr.sliceBounds,dO c2]
      |some _=>exact h1.elim
     |some l=>
      cases lo' with
      |none=>exact h1.elim
      |some l'=>
       obtain ⟨k3,rfl⟩:=h1
       simp only[Option.getD_some] at c3 ⊢
       simp[Instr.sliceBounds,dO c2,dO c3]
theorem ob (s:ByteArray) (l h:Nat):s.extract l h=⟨((s.data.toList.drop l).take (h - l)).toArray⟩:=by
 have e:(s.extract l h).data=s.data.extract l h:=ByteArray.data_extract
 cases hx:s.extract l h with
 |mk d=>
  rw[hx] at e
  simp only at e
  rw[e];congr 1
  apply Array.toList_inj.1
  simp[List.extract_eq_take_drop]
def CN (k k' l:Nat) (mx:Option Nat) (c:Cp):Cp:=
 match mx,c with
 |some m,_=>.ex (m - l)
 |none,.ex m=>.ex (m - l)
 |none,.en=>bif Nat.beq k k' then .en else .un
 |none,.un=>.un
def mr (len n:Nat):Cp→Bool
 |.ex m=>Nat.ble n m
 |_=>Nat.ble n len
noncomputable def Br (T:TT) (t:Nat) (x:EV) (lo hi mx:Option Nat):Option EV:=
 match T t with
 |some i=>match i.d,x with
  |.string,.s s=>match mx with
   |some _=>none
   |none=>bif Nat.ble (hi.getD s.data.toList.length) s.data.toList.length&&Nat.ble (lo.getD 0) (hi.getD s.data.toList.length) then some (.s ⟨((s.data.toList.drop (lo.getD 0)).take (hi.getD s.data.toList.length - lo.getD 0)).toArray⟩) else none
  |.slice e,.sl b off len k c=>match T e with
   |some ie=>bif (!mx.isSome||hi.isSome)&&(mr len (hi.getD len) c&&(mx.elim true (fun m=>mr len m c&&Nat.ble (hi.getD len) m)&&Nat.ble (lo.getD 0) (hi.getD len))) then
     some (.sl b (off+lo.getD 0*ie.size) (hi.getD len - lo.getD 0) k (CN k ie.size (lo.getD 0) mx c)) else none
   |none=>none
  |.slice e,.ns=>match T e,mx with
   |some _,none=>bif Nat.beq (hi.getD 0) 0&&Nat.beq (lo.getD 0) 0 then some .ns else none
   |_,_=>none
  |.array n e,.p b off=>match T e,mx with
   |some ie,none=>bif Nat.ble (hi.getD n) n&&Nat.ble (lo.getD 0) (hi.getD n) then some (.sl b (off+lo.getD 0*ie.size) (hi.getD n - lo.getD 0) ie.size (.ex (n - lo.getD 0))) else none
   |_,_=>none
  |_,_=>none
 |none=>none
section
variable {P:Program} {φ:bY} {w:World} {T:TT} {I:aI} {H:Hp} {nx:Nat} {F:List (Nat × Obj)} {E:World}
theorem nD {q:su} {off k len n cap:Nat} {c:Cp} (h:mr len n c=true) (hl:len≤cap) (hc:Ef q off k c cap):n≤cap:=by
 cases c with
 |ex m=>
  have hc:cap=m:=hc
  have:=Nat.le_of_ble_eq_true h
  omega
 |en=>have:=Nat.le_of_ble_eq_true h;omega
 |un=>have:=Nat.le_of_ble_eq_true h;omega
theorem Bs (hT:cu P T) {t:Nat} {x z:EV} {a:Value} {lo hi mx:Option Value} {lo' hi' mx':Option Nat} (h:Br T t x lo' hi' mx'=some z) (hx:aQ φ x a) (h1:rt lo lo') (h2:rt hi hi') (h3:rt mx mx') :
  ∃v,(Instr.sliceAt t a lo hi mx).run P w=.ok v w∧aQ φ z v:=by
 unfold Br at h
 split at h
 ·rename_i i hi0
  have hTi:=hT t i hi0
  split at h
  ·rename_i s hd
   have hu:=hd▸hTi.und
   have hx:a=.string s:=hx
   subst hx
   split at h
   ·cases h
   ·have hm:mx=none:=by cases mx with
     |none=>rfl
     |some _=>exact h3.elim
    subst hm
    cases hb:(Nat.ble (hi'.getD s.data.toList.length) s.data.toList.length&&Nat.ble (lo'.getD 0) (hi'.getD s.data.toList.length)) with
    |false=>rw[hb] at h;cases h
    |true=>
     rw[hb] at h;cases h
     simp only[qg] at hb
     have b1:=Nat.le_of_ble_eq_true hb.1
     have b2:=Nat.le_of_ble_eq_true hb.2
     have es:s.size=s.data.toList.length:=by rw[Array.length_toList];rfl
     have hbd:=gS (P:=P) (w:=w) (s:=false) (len:=s.size) (cap:=s.size) h1 h2 (mx':=none) (mx:=none) trivial (by simp) (Nat.le_refl _) (by rw[es];exact b1) (by rw[es];exact b2)
     refine ⟨.string (s.extract (lo'.getD 0) (hi'.getD s.size)),?_,by rw[ob,es];rfl⟩
     simp only[Instr.sliceAt,Sem.run_bind,run_underlying hu,Result.andThen_ok,Instr.slice,Option.isSome_none,hbd]
     simp[hbd]
  ·rename_i e b off len k c hd
   have hu:=hd▸hTi.und
   obtain ⟨q,o,cap,hq,rfl,g1,g2,g3⟩:=hx
   split at h
   ·rename_i ie hie
    have hTe:=hT e ie hie
    cases hb:((!mx'.isSome||hi'.isSome)&&(mr len (hi'.getD len) c&&(mx'.elim true (fun m=>mr len m c&&Nat.ble (hi'.getD len) m)&&Nat.ble (lo'.getD 0) (hi'.getD len)))) with
    |false=>rw[hb] at h;cases h
    |true=>
     rw[hb] at h;cases h
     simp only[qg] at hb
     obtain ⟨b0,b1,b2,b3⟩:=hb
     have b1:=nD b1 g1 g3
     have b3:=Nat.le_of_ble_eq_true b3
     have hm:mx'.getD cap≤cap∧hi'.getD len≤mx'.getD cap∧(mx'.isSome=true→hi'.isSome=true):=by
      cases mx' with
      |none=>exact ⟨Nat.le_refl _,b1,fun h=>by cases h⟩
      |some m=>
       simp only[Option.elim_some,qg] at b2
       exact ⟨nD b2.1 g1 g3,Nat.le_of_ble_eq_true b2.2,fun _=>by simpa using b0⟩
     have hbd:=gS (P:=P) (w:=w) (s:=true) (len:=len) (cap:=cap) h1 h2 h3 hm.2.2 hm.1 hm.2.1 b3
     refine ⟨.slice (if mx'.getD cap=lo'.getD 0 then some ⟨q.r,o,none⟩ else (some ⟨q.r,o,none⟩:Option Addr).map (·.add (lo'.getD 0*ie.size))) (hi'.getD len - lo'.getD 0) (mx'.getD cap - lo'.getD 0),?_,q,?_⟩
     ·simp only[Instr.sliceAt,Sem.run_bind,run_underlying hu,Result.andThen_ok,Instr.slice,hbd,hTe.sz]
      simp
     ·refine ⟨if mx'.getD cap=lo'.getD 0 then o else o+lo'.getD 0*ie.size,mx'.getD cap - lo'.getD 0,hq,?_,by omega,fun hne=>?_,?_⟩
      ·split
       ·rfl
       ·simp[bj]
      ·rw[if_neg (by omega),g2 (by omega),Nat.add_assoc]
      ·cases mx' with
       |some m=>exact rfl
       |none=>
        simp only[Option.getD_none]
        cases c with
        |ex m=>exact congrArg (·- lo'.getD 0) (show cap=m from g3)
        |en=>
         unfold CN
         cases hk:Nat.beq k ie.size with
         |false=>trivial
         |true=>
          have hk:=Nat.eq_of_beq_eq_true hk
          subst hk
          have g3:q.sh+off+cap*ie.size=q.κ:=g3
          show q.sh+(off+lo'.getD 0*ie.size)+(cap - lo'.getD 0)*ie.size=q.κ
          have hle:lo'.getD 0≤cap:=by omega
          have:lo'.getD 0*ie.size+(cap - lo'.getD 0)*ie.size=cap*ie.size:=by rw[←Nat.add_mul];congr 1;omega
          omega
        |un=>trivial
   ·cases h
  ·rename_i e hd
   have hu:=hd▸hTi.und
   have hx:a=.slice none 0 0:=hx
   subst hx
   split at h
   ·rename_i ie hie
    have hTe:=hT e ie hie
    cases hb:(Nat.beq (hi'.getD 0) 0&&Nat.beq (lo'.getD 0) 0) with
    |false=>rw[hb] at h;cases h
    |true=>
     rw[hb] at h;cases h
     simp only[qg] at hb
     have b1:=Nat.eq_of_beq_eq_true hb.1
     have b2:=Nat.eq_of_beq_eq_true hb.2
     have hm:mx=none:=by cases mx with
      |none=>rfl
      |some _=>exact h3.elim
     subst hm
     have hbd:=gS (P:=P) (w:=w) (s:=true) (len:=0) (cap:=0) h1 h2 (mx':=none) (mx:=none) trivial (by simp) (Nat.le_refl _) (by rw[b1];exact Nat.le_refl _) (by rw[b2];exact q5 _)
     refine ⟨.slice none 0 0,?_,Z⟩
     simp only[Instr.sliceAt,Sem.run_bind,run_underlying hu,Result.andThen_ok,Instr.slice,hbd,hTe.sz]
     rw[b1,b2];simp
   ·cases h
  ·rename_i n e b off hd
   have hu:=hd▸hTi.und
   obtain ⟨q,hq,rfl⟩:=hx
   split at h
   ·rename_i ie hie
    have hTe:=hT e ie hie
    cases hb:(Nat.ble (hi'.getD n) n&&Nat.ble (lo'.getD 0) (hi'.getD n)) with
    |false=>rw[hb] at h;cases h
    |true=>
     rw[hb] at h;cases h
     simp only[qg] at hb
     have b1:=Nat.le_of_ble_eq_true hb.1
     have b2:=Nat.le_of_ble_eq_true hb.2
     have hm:mx=none:=by cases mx with
      |none=>rfl
      |some _=>exact h3.elim
     subst hm
     have hbd:=gS (P:=P) (w:=w) (s:=false) (len:=n) (cap:=n) h1 h2 (mx':=none) (mx:=none) trivial (by simp) (Nat.le_refl _) b1 b2
     simp only[Option.getD_none] at hbd
     refine ⟨.slice (some (if n=lo'.getD 0 then ⟨q.r,q.sh+off,none⟩ else (⟨q.r,q.sh+off,none⟩:Addr).add (lo'.getD 0*ie.size))) (hi'.getD n - lo'.getD 0) (n - lo'.getD 0),?_,q,if n=lo'.getD 0 then q.sh+off else q.sh+off+lo'.getD 0*ie.size,n - lo'.getD 0,hq,?_,by omega,fun hne=>?_,rfl⟩
     ·simp[Instr.sliceAt,run_underlying hu,Instr.sureAddr,hbd,hTe.sz]
     ·split
      ·rfl
      ·simp[bj]
     ·rw[if_neg (by omega),Nat.add_assoc]
   ·cases h
  ·cases h
 ·cases h
end
def mu (place:Nat→Option (Nat × Nat)):List EV→List (Nat × EV)→Option (List EV)
 |cells,[]=>some cells
 |cells,(i,x)::rest=>
  match place i with
  |none=>none
  |some (off,size)=>bif x.sto&&(Nat.beq x.cs.length size&&Nat.ble (off+size) cells.length) then mu place (cells.take off++(x.cs++cells.drop (off+size))) rest else none
theorem jH {φ:bY} {place:Nat→Option (Nat × Nat)}:∀(l:List (Nat × Value)) (cps:List (Nat × EV)) (cells:List EV) (vcells:Array Value) (rs:List EV),
  cps.map (·.1)=l.map (·.1)→RelVs φ (cps.map (·.2)) (l.map (·.2))→RelVs φ cells vcells.toList→mu place cells cps=some rs →
  ∃vc,Instr.fill place vcells l=some vc∧RelVs φ rs vc.toList
 |[],[],cells,vcells,rs,_,_,h,hf=>⟨vcells,rfl,by cases hf;exact h⟩
 |[],_::_,_,_,_,h,_,_,_=>by cases h
 |_::_,[],_,_,_,h,_,_,_=>by cases h
 |(i,v)::l,(i',x)::cps,cells,vcells,rs,hk,hp,h,hf=>by
  simp only[List.map_cons,List.cons.injEq] at hk
  obtain ⟨rfl,hk⟩:=hk
  obtain ⟨v',us,e,hx,hp⟩:=hp
  cases e
  unfold mu at hf
  unfold Instr.fill
  cases hpl:place i' with
  |none=>rw[hpl] at hf;cases hf
  |some os=>
   obtain ⟨off,size⟩:=os
   rw[hpl] at hf
   simp only at hf ⊢
   cases hb:(x.sto&&(Nat.beq x.cs.length size&&Nat.ble (off+size) cells.length)) with
   |false=>rw[hb] at hf;cases hf
   |true=>
    rw[hb] at hf
    simp only[cond_true] at hf
    simp only[qg] at hb
    have hx:=EV.cs_rel hx hb.1
    have hxl:=hx.length
    have hcl:=h.length
    simp only[Array.length_toList] at hxl hcl
    have e1:=Nat.eq_of_beq_eq_true hb.2.1
    have e2:=Nat.le_of_ble_eq_true hb.2.2
    rw[if_neg (show ¬((v.cells.size≠size||off+v.cells.size>vcells.size)=true) by simp;omega)]
    have hfold:=na off v.cells.toList 0 vcells (by simp;omega)
    simp only[Nat.add_zero] at hfold
    have hfa:(v.cells.zipIdx.foldl (fun cs (x:Value × Nat)=>cs.setIfInBounds (off+x.2) x.1) vcells).toList=vcells.toList.take off++v.cells.toList++vcells.toList.drop (off+size):=by
     rw[←Array.foldl_toList]
     have:v.cells.zipIdx.toList=v.cells.toList.zipIdx 0:=by simp
     have hlen:v.cells.toList.length=size:=by rw[Array.length_toList];omega
     rw[this,hfold,hlen]
    refine jH l cps _ _ rs hk hp ?_ hf
    rw[hfa,q4]
    exact (h.take off).append (hx.append (h.drop _))
def lc (T:TT):List Field→Option (List (Nat × Nat))
 |[]=>some []
 |f::fs=>match T f.type,lc T fs with
  |some i,some l=>some ((f.offset,i.size)::l)
  |_,_=>none
theorem mv {P:Program} {T:TT} {w:World} (hT:cu P T):∀(fs:List Field) (l:List (Nat × Nat)),lc T fs=some l→(fs.mapM (m:=Sem) fun f=>do pure (f.offset,←sizeOf f.type)).run P w=.ok l w
 |[],l,h=>by cases h;rfl
 |f::fs,l,h=>by
  unfold lc at h
  split at h
  ·rename_i i l' hi hl'
   cases h
   have h2:=mv (w:=w) hT fs l' hl'
   rw[List.mapM_cons]
   simp only[Sem.run_bind,(hT _ _ hi).sz,Result.andThen_ok,Sem.run_pure,h2]
  ·cases h
noncomputable def ld (T:TT) (t:Nat) (ks:List Nat) (vs:List EV):Option EV:=
 match T t with
 |some i=>match i.d with
  |.struct fs=>match lc T fs.toList with
   |some pl=>(mu (fun k=>pl[k]?) i.z (ks.zip vs)).map EV.ag
   |none=>none
  |.array _ e=>match T e with
   |some ie=>(mu (fun k=>some (k*ie.size,ie.size)) i.z (ks.zip vs)).map EV.ag
   |none=>none
  |_=>none
 |none=>none
theorem lg {α β:Type}:∀(a:List α) (b:List β),a.length=b.length→(a.zip b).map (·.1)=a
 |[],_,_=>rfl
 |_::_,[],h=>by simp at h
 |x::a,y::b,h=>by rw[List.zip_cons_cons,List.map_cons,lg a b (by simpa using h)]
theorem lh {α β:Type}:∀(a:List α) (b:List β),a.length=b.length→(a.zip b).map (·.2)=b
 |[],[],_=>rfl
 |[],_::_,h=>by simp at h
 |_::_,[],_=>rfl
 |x::a,y::b,h=>by rw[List.zip_cons_cons,List.map_cons,lh a b (by simpa using h)]
theorem ru {P:Program} {φ:bY} {w:World} {T:TT} (hT:cu P T) {t:Nat} {parts:List (Nat × Value)} {vs:List EV} {z:EV} (h:ld T t (parts.map (·.1)) vs=some z) (hv:RelVs φ vs (parts.map (·.2))) :
  ∃v,(Instr.build t parts.toArray).run P w=.ok v w∧aQ φ z v:=by
 have hl:(parts.map (·.1)).length=vs.length:=by have:=hv.length;simp at this ⊢;exact this
 unfold ld at h
 split at h
 ·rename_i i hi
  have hTi:=hT t i hi
  obtain ⟨zv,hz,hzr,_⟩:=hTi.zero
  split at h
  ·rename_i fs hd
   have hu:=hd▸hTi.und
   split at h
   ·rename_i pl hpl
    obtain ⟨rs,hrs,rfl⟩:=Option.map_eq_some_iff.1 h
    obtain ⟨vc,h1,h2⟩:=jH (place:=fun k=>pl[k]?) parts _ i.z zv.cells rs (lg _ _ hl) (by rw[lh _ _ hl];exact hv) (hzr φ) hrs
    refine ⟨.agg vc,?_,vc.toList,by simp,h2⟩
    have hp:=mv (w:=w) hT fs.toList pl hpl
    have hp2:(fs.mapM (m:=Sem) fun f=>do pure (f.offset,←sizeOf f.type)).run P w=.ok pl.toArray w:=by
     rw[Array.mapM_eq_mapM_toList,Sem.run_map,hp];rfl
    unfold Instr.build
    simp only[Sem.run_bind,hz,Result.andThen_ok,run_underlying hu,hp2]
    have h1:Instr.fill (fun x=>pl.toArray[x]?) zv.cells parts=some vc:=by simpa using h1
    rw[h1];rfl
   ·cases h
  ·rename_i n e hd
   have hu:=hd▸hTi.und
   split at h
   ·rename_i ie hie
    obtain ⟨rs,hrs,rfl⟩:=Option.map_eq_some_iff.1 h
    obtain ⟨vc,h1,h2⟩:=jH (place:=fun k=>some (k*ie.size,ie.size)) parts _ i.z zv.cells rs (lg _ _ hl) (by rw[lh _ _ hl];exact hv) (hzr φ) hrs
    refine ⟨.agg vc,?_,vc.toList,by simp,h2⟩
    unfold Instr.build
    simp only[Sem.run_bind,hz,Result.andThen_ok,run_underlying hu,(hT e ie hie).sz,h1]
    rfl
   ·cases h
  ·cases h
 ·cases h
def pO:TypeDesc→Bool
 |.interface _=>false
 |_=>true
noncomputable def sA (T:TT) (t:Nat) (x:EV):Option EV:=
 match T t with
 |some i=>bif pO i.d then some (.ifc t x) else none
 |none=>none
noncomputable def oc (T:TT) (s d:Nat) (x:EV):Option EV:=
 match T s,T d,x with
 |some is_,some id_,.i _ n=>match is_.d,id_.d with
  |.int _,.int k=>some (.i k (k.wrap n))
  |_,_=>none
 |some is_,some id_,.s b=>match is_.d,id_.d with
  |.string,.string=>some (.s b)
  |_,_=>none
 |_,_,_=>none
noncomputable def sB (T:TT) (t:Nat) (x:EV):Option EV:=
 match T t,x with
 |some i,x=>match i.d,x with
  |.string,.s b=>some (.i .i64 b.data.toList.length)
  |.slice _,.sl _ _ n _ _=>some (.i .i64 n)
  |.slice _,.ns=>some (.i .i64 0)
  |_,_=>none
 |_,_=>none
noncomputable def sC (T:TT) (t:Nat) (x:EV):Option EV:=
 match T t,x with
 |some i,x=>match i.d,x with
  |.slice _,.sl _ _ _ _ (.ex m)=>some (.i .i64 m)
  |.slice _,.ns=>some (.i .i64 0)
  |_,_=>none
 |_,_=>none
section
variable {P:Program} {φ:bY} {w:World} {T:TT} {ty:TypeId}
theorem yG (hT:cu P T) {t:Nat} {x z:EV} {a:Value} (h:sA T t x=some z) (hx:aQ φ x a):∃v,(Instr.makeInterface t a).run P w=.ok v w∧aQ φ z v:=by
 unfold sA at h
 split at h
 ·rename_i i hi
  have hu:=(hT t i hi).und
  cases hd:pO i.d with
  |false=>rw[hd] at h;cases h
  |true=>
   rw[hd] at h;cases h
   refine ⟨.iface t a,?_,a,Z,hx⟩
   unfold Instr.makeInterface
   rw[Sem.run_bind,run_underlying hu]
   revert hd
   cases i.d<;>intro hd<;>first|rfl|cases hd
 ·cases h
theorem wJ (hT:cu P T) {s d:Nat} {x z:EV} {a:Value} (h:oc T s d x=some z) (hx:aQ φ x a):∃v,(convert s d a).run P w=.ok v w∧aQ φ z v:=by
 unfold oc at h
 split at h
 ·rename_i i1 i2 k n h1 h2
  have hx:a=.int k n:=hx
  subst hx
  split at h
  ·rename_i k1 k2 e1 e2
   cases h
   have u1:=e1▸(hT s i1 h1).und
   have u2:=e2▸(hT d i2 h2).und
   exact ⟨_,by simp[convert,run_underlying u1,run_underlying u2,Conv.intToInt],rfl⟩
  ·cases h
 ·rename_i i1 i2 b h1 h2
  have hx:a=.string b:=hx
  subst hx
  split at h
  ·rename_i e1 e2
   cases h
   have u1:=e1▸(hT s i1 h1).und
   have u2:=e2▸(hT d i2 h2).und
   exact ⟨_,by simp[convert,run_underlying u1,run_underlying u2],rfl⟩
  ·cases h
 ·cases h
theorem yH (hT:cu P T) {t:Nat} {x z:EV} {a:Value} (h:sB T t x=some z) (hx:aQ φ x a):∃v,(Builtin.len_ #[t] ty #[a]).run P w=.ok v w∧aQ φ z v:=by
 unfold sB at h
 split at h
 ·rename_i i hi
  have hu:=(hT t i hi).und
  split at h
  ·rename_i b hd
   have hx:a=.string b:=hx
   cases h;subst hx
   rw[hd] at hu
   exact ⟨.int .i64 b.size,by simp[Builtin.len_,run_underlying hu,goInt],by show Value.int .i64 _=Value.int .i64 _;rw[Array.length_toList];rfl⟩
  ·rename_i e _ _ n _ _ hd
   obtain ⟨_,_,_,_,rfl,_⟩:=hx
   cases h
   rw[hd] at hu
   exact ⟨.int .i64 n,by simp[Builtin.len_,run_underlying hu,goInt],rfl⟩
  ·rename_i e hd
   have hx:a=.slice none 0 0:=hx
   cases h;subst hx
   rw[hd] at hu
   exact ⟨.int .i64 0,by simp[Builtin.len_,run_underlying hu,goInt],rfl⟩
  ·cases h
 ·cases h
theorem yI (hT:cu P T) {t:Nat} {x z:EV} {a:Value} (h:sC T t x=some z) (hx:aQ φ x a):∃v,(Builtin.cap_ #[t] ty #[a]).run P w=.ok v w∧aQ φ z v:=by
 unfold sC at h
 split at h
 ·rename_i i hi
  have hu:=(hT t i hi).und
  split at h
  ·rename_i e _ _ n _ m hd
   obtain ⟨_,_,cap,_,rfl,_,_,hc⟩:=hx
   have hc:cap=m:=hc
   cases h;subst hc
   rw[hd] at hu
   exact ⟨.int .i64 cap,by simp[Builtin.cap_,run_underlying hu,goInt],rfl⟩
  ·rename_i e hd
   have hx:a=.slice none 0 0:=hx
   cases h;subst hx
   rw[hd] at hu
   exact ⟨.int .i64 0,by simp[Builtin.cap_,run_underlying hu,goInt],rfl⟩
  ·cases h
 ·cases h
end
end
section
open Go.Proofs.Tryz
open Go.Proofs
theorem yJ {α:Type} [Inhabited α] (c:eK α):∀(l:List α) (t:Nat),t<l.length*c.k→(c.vs l)[t]?=some (c.val l[t / c.k]!)[t % c.k]!
 |[],t,h=>by simp at h
 |x::l,t,h=>by
  have e:c.vs (x::l)=c.val x++c.vs l:=by unfold eK.vs;rw[List.flatMap_cons]
  rw[e]
  by_cases ht:t<c.k
  ·rw[List.getElem?_append_left (by rw[c.len];exact ht),Nat.div_eq_of_lt ht,Nat.mod_eq_of_lt ht,List.getElem!_cons_zero,q2 (by rw[c.len];exact ht),getElem!_pos (c.val x) t (by rw[c.len];exact ht)]
  ·obtain ⟨s,rfl⟩:∃s,t=s+c.k:=⟨t - c.k,by omega⟩
   rw[List.getElem?_append_right (by rw[c.len];omega),c.len,Nat.add_sub_cancel,Nat.add_div_right _ c.pos,Nat.add_mod_right,List.getElem!_cons_succ]
   exact yJ c l s (by rw[List.length_cons,Nat.add_mul,Nat.one_mul] at h;omega)
theorem gI (zl:List Value) (m:Nat) (h0:0<zl.length) (h1:∀u∈zl,u.oneCell'=true):madeCells zl.toArray (m*zl.length)=(List.replicate m zl).flatten.toArray:=by
 let c:eK Unit:=⟨zl.length,fun _=>zl,h0,fun _=>rfl,fun _=>h1⟩
 have e:(List.replicate m zl).flatten=c.vs (List.replicate m ()):=by
  show _=(List.replicate m ()).flatMap fun _=>zl
  rw[List.flatMap,List.map_replicate]
 rw[e]
 apply Array.ext_getElem?
 intro t
 have e3:(c.vs (List.replicate m ())).toArray[t]?=(c.vs (List.replicate m ()))[t]?:=List.getElem?_toArray
 rw[e3]
 by_cases ht:t<m*zl.length
 ·rw[yJ c _ t (by rw[List.length_replicate];exact ht)]
  unfold madeCells
  rw[Array.getElem?_map,Array.getElem?_range,if_pos ht]
  show some (zl.toArray[t % zl.toArray.size]!)=some (zl[t % zl.length]!)
  simp
 ·rw[Array.getElem?_eq_none (by rw[size_madeCells];omega),List.getElem?_eq_none (by rw[c.vs_len,List.length_replicate];show m*zl.length≤t;omega)]
section
variable {E:World} {P:Program} {ops:Array Oper} {K:aK→OL→Prop} {env:aK} {O:OL} {rest:List Oper} {d ty:Nat} {pos:String} {af:Array Edge} {x y:Operand} {t e:TypeId}
end
set_option linter.defProp false
def ym:=@bY.put_same
def yz:=@cJ.close
def q0:=@bY.le_put
end
end Go.Proofs.YtjpnhkmfhlnpcaaGreatDoor
