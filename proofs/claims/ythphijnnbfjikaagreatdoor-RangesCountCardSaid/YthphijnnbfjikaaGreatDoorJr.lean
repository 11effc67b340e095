/- The table of powers of ten, out of what a call is handed. No conditions. -/
import Derived.Test.YthphijnnbfjikaaGreatDoorJq
import Derived.Test.YthphijnnbfjikaaGreatDoorJd
import Derived.Test.YthphijnnbfjikaaGreatDoorJi
import Derived.Test.YthphijnnbfjikaaGreatDoorJc
import Derived.Test.YthphijnnbfjikaaGreatDoorJj
import Derived.Test.YthphijnnbfjikaaGreatDoorJf
import Derived.Lib.LaidRTab
import Derived.Test.YthphijnnbfjikaaGreatDoorRows
import Derived.Test.YthphijnnbfjikaaGreatDoorChecked
import Derived.ProofKit
import Derived.JoinedOf
set_option linter.unusedVariables false
set_option linter.unusedSimpArgs false
set_option linter.unusedSectionVars false
namespace Go.Proofs.YthphijnnbfjikaaGreatDoor
section
open Go.Proofs.Tryz
open Go.Proofs Go.Lib Go.Shelf Go.RowKit
theorem HI:eD prog 40 #[(0,1),(1,1)] [.str ⟨#[]⟩,.int .i64 0]:=⟨_,_,Y3,zeroValue40,fun w=>by kernel_rfl,rfl⟩
theorem Gr:dt prog 23 40 2 2 [.str ⟨#[]⟩,.int .i64 0,.str ⟨#[]⟩,.int .i64 0]:=⟨_,Zd,sizeOf40,zeroValue40,by decide,by decide,by kernel_rfl⟩
theorem HJ:eD prog 43 #[(0,1),(1,1),(2,1),(3,1)] [.int .i64 0,.int .i64 0,.raw (.slice none 0 0),.int .i64 0]:=⟨_,_,jo,Zx,fun w=>by kernel_rfl,rfl⟩
theorem Gs:dt prog 44 43 2 4 [.int .i64 0,.int .i64 0,.raw (.slice none 0 0),.int .i64 0,.int .i64 0,.int .i64 0,.raw (.slice none 0 0),.int .i64 0]:=⟨_,Z5,Z8,Zx,by decide,by decide,by kernel_rfl⟩
theorem Ip:eD prog 48 #[(0,1),(1,1),(2,2)] [.int .i64 0,.int .i64 0,.int .i64 0,.int .i64 0]:=⟨_,_,Z0,zeroValue48,fun w=>by kernel_rfl,rfl⟩
variable {E:World}
set_option maxRecDepth 20000
def gm:ac:=⟨[⟨⟨#[110]⟩,0⟩,⟨⟨#[109]⟩,0⟩],[],[⟨⟨#[97]⟩,[],[⟨0,0,[],5⟩,⟨2,1,[0,0],0⟩],⟨2,1,0,0⟩⟩]⟩
theorem xj:small gm:=by unfold small gm;simp[lp];decide
theorem CZ:(bf gm&&dZ gm)=true:=by decide +kernel
theorem Gt:∀b∈gm.blocks,∀x∈b.insts,aK x.num:=by decide
theorem Es:pK gm 1:=⟨by decide +kernel,fun i hi=>by obtain rfl:i=0:=(by omega);decide +kernel⟩
theorem HK:mC gm 1=[(5,5),(10,10)]:=by decide +kernel
theorem rW (hL:aE E):aF prog E 4 [] (.bool true):=by
 have hF:=oQ xj CZ
 have ha:=CY (E:=E) gm xj hL CZ (nW (tZ hF Gt) (m9 hF)) 1 Es
 rw[HK] at ha
 refine zk func4 Z (by decide) Z<|ae<|ad Z<|z6<|ae<|z7 (zt (cps:=[(0,[_])]) (rs:=[_,.int .i64 0]) HI Z Z Z)<|z7 (zt (cps:=[(0,[_])]) (rs:=[_,.int .i64 0]) HI Z Z Z)<|zr (rows:=[[_,_],[_,_]]) Gr Z Z Z Z Z<|z7 (zt (cps:=[(0,[_]),(1,[_]),(3,[_])]) (rs:=[_,_,.raw (.slice none 0 0),_]) HJ Z Z Z)<|zc (aN.slot (t:=7) Z (Db.agg (.cons (.refl _) (.cons (.refl _) (.cons (.nil 1) (.cons (.refl _) .nil))))))<|zr (rows:=[[_],[_]]) Cu Z Z Z Z Z<|z7 (zt (cps:=[(0,[_]),(1,[_]),(2,[_])]) (rs:=[_,_,_,.int .i64 0]) HJ Z Z Z)<|zr (rows:=[[_,_,_,_],[_,_,_,_]]) Gs Z Z Z Z Z<|z7 (zt (cps:=[(0,[_]),(1,[_])]) (rs:=[_,_,.int .i64 0,.int .i64 0]) Ip Z Z Z)<|z7 (zt (cps:=[(0,[_]),(2,[_]),(3,[_,_,_,_])]) (rs:=[_,.raw (.slice none 0 0),_,_,_,_,_]) Ij Z Z Z)<|zc (aN.slot (t:=12) Z (Db.agg (.cons (.refl _) (.cons (.nil 3) (.cons (.refl _) (.cons (.refl _) (.cons (.refl _) (.cons (.refl _) (.cons (.refl _) .nil)))))))))<|zr (rows:=[[_,_,_,_,_,_,_]]) Ge Z Z Z Z Z<|z7 (zt (cps:=[(0,[_]),(2,[_])]) (rs:=[_,.raw (.slice none 0 0),_]) Ii Z Z Z)<|zc (aN.slot (t:=14) Z (Db.agg (.cons (.refl _) (.cons (.nil 1) (.cons (.refl _) .nil)))))<|zo (cs:=[.raw (.slice none 0 0),.raw (.slice none 0 0),.raw (.slice none 0 0)]) zeroValue27 Z Z<|fun i1=>zf js Z Z Z Z Z Z .head Z<|zc (yk (t:=1) Z .head)<|z6<|ae<|ab jx js Z Z<|zg (ha) Z<|z7 (vX Z)<|z7 (q4 (v:=.fro _ _) Z Z)<|z7 (r8 Z Z)<|z7 (um Z)<|aq Z<|z6<|ae<|aa Z<|ak Z Z<|ay Z<|za Z Z Z<|bh Z<|za Z Z Z<|au Z3 Z ?_
 refine za Z Z Z<|ak Z Z<|aM Z Z Z<|ay Z<|za Z Z Z<|bh Z<|za Z Z Z<|z7 (db 1 Z3 jf Z Z Z Z)<|za Z Z Z<|ab jg jf Z Z<|za Z Z Z<|z7 (zt (cps:=[(0,[_]),(1,[_])]) (rs:=[_,_]) iI Z Z Z)<|za Z Z Z<|z7 (Gv.eqlP (xs:=[.int _ _,.int _ _]) (ys:=[.int _ _,.int _ _]) (by kernel_rfl) Z Z (fun w=>eL _ _ _ _ w))<|aM Z Z Z<|ad Z<|z6<|zh<|zm (x:=.bool _) Z ?_
 rfl
end
section
open Go.Proofs.Tryz
open Go.Proofs Go.Lib Go.Shelf Go.RowKit
variable {E:World}
set_option maxRecDepth 100000
theorem lr (f:ac) (d n:Int):bC f ⟨0,d,[],n⟩=bC f ⟨0,d,[],1⟩:=by
 have key:∀n:Int,bC f ⟨0,d,[],n⟩=(!eN f ⟨0,d,[],1⟩&&!eT f ⟨0,d,[],1⟩):=fun n=>by
  show (!eN f ⟨0,d,[],1⟩&&!eT f ⟨0,d,[],1⟩&&(decide (n=0)||true))=_
  rw[Bool.or_true,Bool.and_true]
 rw[key n,key 1]
theorem mu (f:ac) (nm:ByteArray) (a b:Int) (t:fB):eO f ⟨nm,[],[⟨0,0,[],a⟩,⟨0,1,[],b⟩,⟨0,2,[],1⟩],t⟩=eO f ⟨nm,[],[⟨0,0,[],1⟩,⟨0,1,[],1⟩,⟨0,2,[],1⟩],t⟩:=by
 show (true&&!(!bC f ⟨0,0,[],a⟩||(!bC f ⟨0,1,[],b⟩||(!bC f ⟨0,2,[],1⟩||false)))&&cK f t)=(true&&!(!bC f ⟨0,0,[],1⟩||(!bC f ⟨0,1,[],1⟩||(!bC f ⟨0,2,[],1⟩||false)))&&cK f t)
 rw[lr f 0 a,lr f 1 b]
theorem uc (a b:Int):dw (uN a b)=true:=by
 show (decide (ei (uN a b))&&((eO (uN a b) ⟨⟨#[97]⟩,[],[⟨0,0,[],a⟩,⟨0,1,[],b⟩,⟨0,2,[],1⟩],⟨0,0,1,0⟩⟩&&_)&&_))=true
 rw[mu]
 kernel_rfl
theorem ud (a b:Int):dw (aY a b)=true:=by
 show (decide (ei (aY a b))&&((eO (aY a b) ⟨⟨#[97]⟩,[],[⟨0,0,[],a⟩,⟨0,1,[],b⟩,⟨0,2,[],1⟩],⟨0,0,1,0⟩⟩&&_)&&_))=true
 rw[mu]
 kernel_rfl
theorem qz (a b:Int):small (aY a b):=by unfold small aY;simp[lp];decide
theorem vK (a b:Int):small (uN a b):=by unfold small uN;simp[lp];decide
theorem C0 (a b:Int):df (aY a b)=true:=(su _).2 fun i hi p hp=>by
 have hi:i<4:=hi
 rcases (by omega:i=0∨i=1∨i=2∨i=3) with rfl|rfl|rfl|rfl
 ·exact nomatch (show p∈([]:List dY) from hp)
 ·have hp:p∈[(⟨3,[0,5],[0,2]⟩:dY)]:=hp
  rw[List.mem_singleton.1 hp,show bl (ah (aY a b)) (aY a b).blocks.length ((1:Nat):Int)=[0,2] by kernel_rfl]
 ·exact nomatch (show p∈([]:List dY) from hp)
 ·exact nomatch (show p∈([]:List dY) from hp)
theorem ue (a b:Int):(bf (aY a b)&&dZ (aY a b))=true:=by
 have h1:bf (aY a b)=true:=by
  have h3:(aY a b).blocks.all (rQ (aY a b))=true:=by kernel_rfl
  unfold bf
  rw[ud,h3];rfl
 have h4:(!(km (ah (aY a b)) (aY a b).blocks.length).contains false&&(lZ (aY a b)&&Dk (aY a b)))=true:=by kernel_rfl
 have h2:dZ (aY a b)=true:=by
  unfold dZ
  rw[C0,h4];rfl
 rw[h1,h2];rfl
theorem uf (hL:aE E) (a b:Int):aF prog E 58 [.agg (b9 (uN a b))] (.bool true):=by
 have:=small.shaped (E:=E) (vK a b) hL
 rw[uc] at this
 exact this
end
section
open Go.Proofs.Tryz
open Go.Proofs Go.Lib Go.Shelf Go.RowKit
variable {E:World}
set_option maxRecDepth 100000
theorem rX (n:Int) (hn:-9223372036854775808≤n∧n≤9223372036854775807) (hT:d7 E):aF prog E 45 [.int .i64 n] (.str ⟨(Lib.itoa n).toArray⟩):=fun I F w vs h1 h2=>by
 obtain ⟨v,us,rfl,h3,h5⟩:=h1
 have h3:v=.int .i64 n:=h3
 have h5:us=[]:=h5
 subst h3 h5
 obtain ⟨ht,L,hL,hS⟩:=h2
 have hL:L=[]:=hL
 subst hL
 refine Fn.ofCalls func45 Z (by decide) ?_
 exact (Tryz.strconv_Itoa n hn.1 hn.2 w (F9 hT hS)).mono fun e w' ⟨he,k,os,hw⟩=>⟨_,he,I,.str ⟨(Lib.itoa n).toArray⟩,[],.refl _,rfl,⟨ht,[],rfl,by
  subst hw
  exact hS.more rfl rfl rfl (fun k hk=>Array.getElem?_append_left hk)⟩,rfl⟩
def rY:zK:=fun f ar=>match f,ar with
 |166,[.i .i32 c]=>bif decide (-2147483648≤c)&&decide (c≤2147483647) then some (.v (.b (isLetterU c))) else none
 |113,[.i .i64 op]=>some (.v (.ag [.s (cE op).1,.s (cE op).2.1,.s (cE op).2.2]))
 |45,[.i .i64 n]=>bif decide (-9223372036854775808≤n)&&decide (n≤9223372036854775807) then some (.v (.s ⟨(Lib.itoa n).toArray⟩)) else none
 |_,_=>none
theorem Av (hL:aE E) (hP:d7 E):wL prog E rY:=by
 constructor
 ·intro f ar x h
  unfold rY at h
  split at h
  ·rename_i c
   cases hb:(decide (-2147483648≤c)&&decide (c≤2147483647)) with
   |false=>rw[hb] at h;cases h
   |true=>
    rw[hb] at h;cases h
    simp only[qu,qv] at hb
    refine ⟨_,_,mj c hb.1 hb.2 hL,fun φ vs hr I=>?_,fun I v hv φ=>hv⟩
    obtain ⟨v,us,rfl,h1,h2⟩:=hr
    exact ⟨v,us,rfl,h1,h2⟩
  ·rename_i op
   cases h
   refine ⟨_,_,mO op,fun φ vs hr I=>?_,fun I v hv φ=>?_⟩
   ·obtain ⟨v,us,rfl,h1,h2⟩:=hr
    exact ⟨v,us,rfl,h1,h2⟩
   ·obtain ⟨vs,e,v1,u1,rfl,h1,v2,u2,rfl,h2,v3,u3,rfl,h3,h4⟩:=hv
    have h4:u3=[]:=h4
    subst h4
    exact ⟨_,e,v1,_,rfl,h1,v2,_,rfl,h2,v3,_,rfl,h3,rfl⟩
  ·rename_i n
   cases hb:(decide (-9223372036854775808≤n)&&decide (n≤9223372036854775807)) with
   |false=>rw[hb] at h;cases h
   |true=>
    rw[hb] at h;cases h
    simp only[qu,qv] at hb
    refine ⟨_,_,rX n ⟨hb.1,hb.2⟩ hP,fun φ vs hr I=>?_,fun I v hv φ=>hv⟩
    obtain ⟨v,us,rfl,h1,h2⟩:=hr
    exact ⟨v,us,rfl,h1,h2⟩
  ·cases h
 ·intro f ar l h
  unfold rY at h
  split at h
  ·rename_i c
   cases hb:(decide (-2147483648≤c)&&decide (c≤2147483647))<;>(rw[hb] at h;cases h)
  ·cases h
  ·rename_i n
   cases hb:(decide (-9223372036854775808≤n)&&decide (n≤9223372036854775807))<;>(rw[hb] at h;cases h)
  ·cases h
theorem Gu:prog.follows .mixedOrders=true:=by kernel_rfl
noncomputable def Gw (l:List dh):bY:=D0 prog (FV prog) (HY (FS rY) (FY l)) 600 60
theorem cF (hL:aE E) (hP:d7 E) {l:List dh} (h:∀m∈l,bZ prog E m):cY prog E (Gw l):=wM Gu D5 (Ci (D2 (Av hL hP)) (wQ h)) 600 60
theorem bV {m:dh} {l:List dh} (h1:bZ prog E m) (h2:∀r∈l,bZ prog E r):∀r∈m::l,bZ prog E r:=fun r hr=>(List.mem_cons.1 hr).elim (fun e=>e▸h1) (h2 r)
def xk:List dh:=[]
theorem xl (hL:aE E) (hP:d7 E):∀m∈xk,bZ prog E m:=fun _ h=>nomatch h
def xm:dh:=⟨58,[.ag [.sl 9 0 6 2 (.ex 6),.ns,.sl 39 0 4 7 (.ex 4)]],[(9,[.s ⟨#[122]⟩,.i .i64 0,.s ⟨#[110]⟩,.i .i64 0,.s ⟨#[111,110,101]⟩,.i .i64 0,.s ⟨#[105]⟩,.i .i64 0,.s ⟨#[99]⟩,.i .i64 1,.s ⟨#[106]⟩,.i .i64 0]),(39,[.s ⟨#[97]⟩,.ns,.sl 15 0 3 4 (.ex 3),.i .i64 0,.i .i64 0,.i .i64 1,.i .i64 0,.s ⟨#[104]⟩,.sl 22 0 1 3 (.ex 1),.sl 25 0 1 4 (.ex 1),.i .i64 1,.i .i64 4,.i .i64 2,.i .i64 3,.s ⟨#[98]⟩,.ns,.sl 33 0 2 4 (.ex 2),.i .i64 0,.i .i64 0,.i .i64 1,.i .i64 0,.s ⟨#[122]⟩,.ns,.ns,.i .i64 2,.i .i64 3,.i .i64 0,.i .i64 0]),(15,[.i .i64 0,.i .i64 0,.ns,.vr 0,.i .i64 0,.i .i64 1,.ns,.vr 1,.i .i64 0,.i .i64 2,.ns,.i .i64 1]),(22,[.i .i64 3,.sl 19 0 2 1 (.ex 2),.sl 20 0 2 1 (.ex 2)]),(19,[.i .i64 0,.i .i64 5]),(20,[.i .i64 0,.i .i64 2]),(25,[.i .i64 8,.i .i64 4,.sl 23 0 2 1 (.ex 2),.i .i64 0]),(23,[.i .i64 3,.i .i64 1]),(33,[.i .i64 17,.i .i64 (-1),.sl 29 0 1 1 (.ex 1),.i .i64 0,.i .i64 2,.i .i64 5,.sl 31 0 2 1 (.ex 2),.i .i64 0]),(29,[.i .i64 3]),(31,[.i .i64 3,.i .i64 2])],.b true,[],5994000000⟩
theorem Et (hL:aE E) (hP:d7 E):bZ prog E xm:=zM (nv:=2) (al:=fun val=>[.agg (b9 (uN (val 0) (val 1)))]) (fun val=>uf hL (val 0) (val 1)) (fun val=>by kernel_rfl)
def xn:List dh:=xm::xk
theorem xo (hL:aE E) (hP:d7 E):∀m∈xn,bZ prog E m:=bV (Et hL hP) (xl hL hP)
def xp:dh:=⟨30,[.ag [.sl 9 0 6 2 (.ex 6),.ns,.sl 39 0 4 7 (.ex 4)]],[(9,[.s ⟨#[122]⟩,.i .i64 0,.s ⟨#[110]⟩,.i .i64 0,.s ⟨#[111,110,101]⟩,.i .i64 0,.s ⟨#[105]⟩,.i .i64 0,.s ⟨#[99]⟩,.i .i64 1,.s ⟨#[106]⟩,.i .i64 0]),(39,[.s ⟨#[97]⟩,.ns,.sl 15 0 3 4 (.ex 3),.i .i64 0,.i .i64 0,.i .i64 1,.i .i64 0,.s ⟨#[104]⟩,.sl 22 0 1 3 (.ex 1),.sl 25 0 1 4 (.ex 1),.i .i64 1,.i .i64 4,.i .i64 2,.i .i64 3,.s ⟨#[98]⟩,.ns,.sl 33 0 2 4 (.ex 2),.i .i64 0,.i .i64 0,.i .i64 1,.i .i64 0,.s ⟨#[122]⟩,.ns,.ns,.i .i64 2,.i .i64 3,.i .i64 0,.i .i64 0]),(15,[.i .i64 0,.i .i64 0,.ns,.vr 0,.i .i64 0,.i .i64 1,.ns,.vr 1,.i .i64 0,.i .i64 2,.ns,.i .i64 1]),(22,[.i .i64 3,.sl 19 0 2 1 (.ex 2),.sl 20 0 2 1 (.ex 2)]),(19,[.i .i64 0,.i .i64 5]),(20,[.i .i64 0,.i .i64 2]),(25,[.i .i64 8,.i .i64 4,.sl 23 0 2 1 (.ex 2),.i .i64 0]),(23,[.i .i64 3,.i .i64 1]),(33,[.i .i64 17,.i .i64 (-1),.sl 29 0 1 1 (.ex 1),.i .i64 0,.i .i64 2,.i .i64 5,.sl 31 0 2 1 (.ex 2),.i .i64 0]),(29,[.i .i64 3]),(31,[.i .i64 3,.i .i64 2])],.i .i64 0,[],4995000000⟩
theorem Eu (hL:aE E) (hP:d7 E):bZ prog E xp:=dH (cF hL hP (xo hL hP)) (by decide +kernel)
def xq:List dh:=xp::xn
theorem xr (hL:aE E) (hP:d7 E):∀m∈xq,bZ prog E m:=bV (Eu hL hP) (xo hL hP)
def xt:dh:=⟨41,[.ag [.sl 9 0 6 2 (.ex 6),.ns,.sl 39 0 4 7 (.ex 4)]],[(9,[.s ⟨#[122]⟩,.i .i64 0,.s ⟨#[110]⟩,.i .i64 0,.s ⟨#[111,110,101]⟩,.i .i64 0,.s ⟨#[105]⟩,.i .i64 0,.s ⟨#[99]⟩,.i .i64 1,.s ⟨#[106]⟩,.i .i64 0]),(39,[.s ⟨#[97]⟩,.ns,.sl 15 0 3 4 (.ex 3),.i .i64 0,.i .i64 0,.i .i64 1,.i .i64 0,.s ⟨#[104]⟩,.sl 22 0 1 3 (.ex 1),.sl 25 0 1 4 (.ex 1),.i .i64 1,.i .i64 4,.i .i64 2,.i .i64 3,.s ⟨#[98]⟩,.ns,.sl 33 0 2 4 (.ex 2),.i .i64 0,.i .i64 0,.i .i64 1,.i .i64 0,.s ⟨#[122]⟩,.ns,.ns,.i .i64 2,.i .i64 3,.i .i64 0,.i .i64 0]),(15,[.i .i64 0,.i .i64 0,.ns,.vr 0,.i .i64 0,.i .i64 1,.ns,.vr 1,.i .i64 0,.i .i64 2,.ns,.i .i64 1]),(22,[.i .i64 3,.sl 19 0 2 1 (.ex 2),.sl 20 0 2 1 (.ex 2)]),(19,[.i .i64 0,.i .i64 5]),(20,[.i .i64 0,.i .i64 2]),(25,[.i .i64 8,.i .i64 4,.sl 23 0 2 1 (.ex 2),.i .i64 0]),(23,[.i .i64 3,.i .i64 1]),(33,[.i .i64 17,.i .i64 (-1),.sl 29 0 1 1 (.ex 1),.i .i64 0,.i .i64 2,.i .i64 5,.sl 31 0 2 1 (.ex 2),.i .i64 0]),(29,[.i .i64 3]),(31,[.i .i64 3,.i .i64 2])],.b true,[],3996000000⟩
theorem Ev (hL:aE E) (hP:d7 E):bZ prog E xt:=dH (cF hL hP (xr hL hP)) (by decide +kernel)
def xu:List dh:=xt::xq
theorem xv (hL:aE E) (hP:d7 E):∀m∈xu,bZ prog E m:=bV (Ev hL hP) (xr hL hP)
def xw:dh:=⟨42,[.ag [.sl 9 0 6 2 (.ex 6),.ns,.sl 39 0 4 7 (.ex 4)]],[(9,[.s ⟨#[122]⟩,.i .i64 0,.s ⟨#[110]⟩,.i .i64 0,.s ⟨#[111,110,101]⟩,.i .i64 0,.s ⟨#[105]⟩,.i .i64 0,.s ⟨#[99]⟩,.i .i64 1,.s ⟨#[106]⟩,.i .i64 0]),(39,[.s ⟨#[97]⟩,.ns,.sl 15 0 3 4 (.ex 3),.i .i64 0,.i .i64 0,.i .i64 1,.i .i64 0,.s ⟨#[104]⟩,.sl 22 0 1 3 (.ex 1),.sl 25 0 1 4 (.ex 1),.i .i64 1,.i .i64 4,.i .i64 2,.i .i64 3,.s ⟨#[98]⟩,.ns,.sl 33 0 2 4 (.ex 2),.i .i64 0,.i .i64 0,.i .i64 1,.i .i64 0,.s ⟨#[122]⟩,.ns,.ns,.i .i64 2,.i .i64 3,.i .i64 0,.i .i64 0]),(15,[.i .i64 0,.i .i64 0,.ns,.vr 0,.i .i64 0,.i .i64 1,.ns,.vr 1,.i .i64 0,.i .i64 2,.ns,.i .i64 1]),(22,[.i .i64 3,.sl 19 0 2 1 (.ex 2),.sl 20 0 2 1 (.ex 2)]),(19,[.i .i64 0,.i .i64 5]),(20,[.i .i64 0,.i .i64 2]),(25,[.i .i64 8,.i .i64 4,.sl 23 0 2 1 (.ex 2),.i .i64 0]),(23,[.i .i64 3,.i .i64 1]),(33,[.i .i64 17,.i .i64 (-1),.sl 29 0 1 1 (.ex 1),.i .i64 0,.i .i64 2,.i .i64 5,.sl 31 0 2 1 (.ex 2),.i .i64 0]),(29,[.i .i64 3]),(31,[.i .i64 3,.i .i64 2])],.sl 3993000005 0 4 1 (.ex 4),[(3993000005,[.ns,.sl 3993000169 0 2 1 .en,.sl 3993000109 0 1 1 .en,.sl 3993000126 0 1 1 .en]),(3993000169,[.i .i64 0,.i .i64 2]),(3993000109,[.i .i64 1]),(3993000126,[.i .i64 1])],3993000000⟩
theorem Ew (hL:aE E) (hP:d7 E):bZ prog E xw:=dH (cF hL hP (xv hL hP)) (by decide +kernel)
def xx:List dh:=xw::xu
theorem xy (hL:aE E) (hP:d7 E):∀m∈xx,bZ prog E m:=bV (Ew hL hP) (xv hL hP)
def xz:dh:=⟨65,[.ag [.sl 9 0 6 2 (.ex 6),.ns,.sl 39 0 4 7 (.ex 4)]],[(9,[.s ⟨#[122]⟩,.i .i64 0,.s ⟨#[110]⟩,.i .i64 0,.s ⟨#[111,110,101]⟩,.i .i64 0,.s ⟨#[105]⟩,.i .i64 0,.s ⟨#[99]⟩,.i .i64 1,.s ⟨#[106]⟩,.i .i64 0]),(39,[.s ⟨#[97]⟩,.ns,.sl 15 0 3 4 (.ex 3),.i .i64 0,.i .i64 0,.i .i64 1,.i .i64 0,.s ⟨#[104]⟩,.sl 22 0 1 3 (.ex 1),.sl 25 0 1 4 (.ex 1),.i .i64 1,.i .i64 4,.i .i64 2,.i .i64 3,.s ⟨#[98]⟩,.ns,.sl 33 0 2 4 (.ex 2),.i .i64 0,.i .i64 0,.i .i64 1,.i .i64 0,.s ⟨#[122]⟩,.ns,.ns,.i .i64 2,.i .i64 3,.i .i64 0,.i .i64 0]),(15,[.i .i64 0,.i .i64 0,.ns,.vr 0,.i .i64 0,.i .i64 1,.ns,.vr 1,.i .i64 0,.i .i64 2,.ns,.i .i64 1]),(22,[.i .i64 3,.sl 19 0 2 1 (.ex 2),.sl 20 0 2 1 (.ex 2)]),(19,[.i .i64 0,.i .i64 5]),(20,[.i .i64 0,.i .i64 2]),(25,[.i .i64 8,.i .i64 4,.sl 23 0 2 1 (.ex 2),.i .i64 0]),(23,[.i .i64 3,.i .i64 1]),(33,[.i .i64 17,.i .i64 (-1),.sl 29 0 1 1 (.ex 1),.i .i64 0,.i .i64 2,.i .i64 5,.sl 31 0 2 1 (.ex 2),.i .i64 0]),(29,[.i .i64 3]),(31,[.i .i64 3,.i .i64 2])],.sl 3992000546 0 4 1 .en,[(3992000546,[.i .i64 0,.i .i64 1,.i .i64 3,.i .i64 2])],3992000000⟩
theorem Ey (hL:aE E) (hP:d7 E):bZ prog E xz:=dH (cF hL hP (xy hL hP)) (by decide +kernel)
def xA:List dh:=xz::xx
theorem xB (hL:aE E) (hP:d7 E):∀m∈xA,bZ prog E m:=bV (Ey hL hP) (xy hL hP)
def xC:dh:=⟨37,[.sl 3991000012 0 4 1 .en,.sl 3991000032 0 4 1 (.ex 4),.i .i64 4],[(3991000012,[.i .i64 0,.i .i64 1,.i .i64 3,.i .i64 2]),(3991000032,[.ns,.sl 3991000033 0 2 1 .en,.sl 3991000034 0 1 1 .en,.sl 3991000035 0 1 1 .en]),(3991000033,[.i .i64 0,.i .i64 2]),(3991000034,[.i .i64 1]),(3991000035,[.i .i64 1])],.sl 4990000090 0 4 1 (.ex 4),[(4990000090,[.i .i64 (-1),.i .i64 0,.i .i64 1,.i .i64 1])],4990000000⟩
theorem Ez (hL:aE E) (hP:d7 E):bZ prog E xC:=dH (cF hL hP (xB hL hP)) (by decide +kernel)
def xD:List dh:=xC::xA
theorem xE (hL:aE E) (hP:d7 E):∀m∈xD,bZ prog E m:=bV (Ez hL hP) (xB hL hP)
def xF:dh:=⟨16,[.ag [.sl 9 0 6 2 (.ex 6),.ns,.sl 39 0 4 7 (.ex 4)]],[(9,[.s ⟨#[122]⟩,.i .i64 0,.s ⟨#[110]⟩,.i .i64 0,.s ⟨#[111,110,101]⟩,.i .i64 0,.s ⟨#[105]⟩,.i .i64 0,.s ⟨#[99]⟩,.i .i64 1,.s ⟨#[106]⟩,.i .i64 0]),(39,[.s ⟨#[97]⟩,.ns,.sl 15 0 3 4 (.ex 3),.i .i64 0,.i .i64 0,.i .i64 1,.i .i64 0,.s ⟨#[104]⟩,.sl 22 0 1 3 (.ex 1),.sl 25 0 1 4 (.ex 1),.i .i64 1,.i .i64 4,.i .i64 2,.i .i64 3,.s ⟨#[98]⟩,.ns,.sl 33 0 2 4 (.ex 2),.i .i64 0,.i .i64 0,.i .i64 1,.i .i64 0,.s ⟨#[122]⟩,.ns,.ns,.i .i64 2,.i .i64 3,.i .i64 0,.i .i64 0]),(15,[.i .i64 0,.i .i64 0,.ns,.vr 0,.i .i64 0,.i .i64 1,.ns,.vr 1,.i .i64 0,.i .i64 2,.ns,.i .i64 1]),(22,[.i .i64 3,.sl 19 0 2 1 (.ex 2),.sl 20 0 2 1 (.ex 2)]),(19,[.i .i64 0,.i .i64 5]),(20,[.i .i64 0,.i .i64 2]),(25,[.i .i64 8,.i .i64 4,.sl 23 0 2 1 (.ex 2),.i .i64 0]),(23,[.i .i64 3,.i .i64 1]),(33,[.i .i64 17,.i .i64 (-1),.sl 29 0 1 1 (.ex 1),.i .i64 0,.i .i64 2,.i .i64 5,.sl 31 0 2 1 (.ex 2),.i .i64 0]),(29,[.i .i64 3]),(31,[.i .i64 3,.i .i64 2])],.tu [.p 3991000049 0,.i .i64 0],[(3991000049,[.sl 3991000051 0 4 1 (.ex 4),.sl 3991000138 0 4 1 (.ex 4),.sl 3991000045 0 4 1 (.ex 4),.sl 3991000047 0 4 1 (.ex 4)]),(3991000051,[.i .i64 (-1),.i .i64 0,.i .i64 1,.i .i64 1]),(3991000138,[.i .i64 0,.i .i64 1,.i .i64 2,.i .i64 2]),(3991000045,[.sl 3991000314 0 1 1 .en,.sl 3991000378 0 2 1 .en,.ns,.ns]),(3991000314,[.i .i64 1]),(3991000378,[.i .i64 2,.i .i64 3]),(3991000047,[.ns,.sl 3991000554 0 1 1 .en,.sl 3991000498 0 1 1 .en,.ns]),(3991000554,[.i .i64 1]),(3991000498,[.i .i64 1])],3991000000⟩
theorem EA (hL:aE E) (hP:d7 E):bZ prog E xF:=dH (cF hL hP (xE hL hP)) (by decide +kernel)
def xG:List dh:=xF::xD
theorem xH (hL:aE E) (hP:d7 E):∀m∈xG,bZ prog E m:=bV (EA hL hP) (xE hL hP)
def xI:dh:=⟨17,[.ag [.sl 9 0 6 2 (.ex 6),.ns,.sl 39 0 4 7 (.ex 4)]],[(9,[.s ⟨#[122]⟩,.i .i64 0,.s ⟨#[110]⟩,.i .i64 0,.s ⟨#[111,110,101]⟩,.i .i64 0,.s ⟨#[105]⟩,.i .i64 0,.s ⟨#[99]⟩,.i .i64 1,.s ⟨#[106]⟩,.i .i64 0]),(39,[.s ⟨#[97]⟩,.ns,.sl 15 0 3 4 (.ex 3),.i .i64 0,.i .i64 0,.i .i64 1,.i .i64 0,.s ⟨#[104]⟩,.sl 22 0 1 3 (.ex 1),.sl 25 0 1 4 (.ex 1),.i .i64 1,.i .i64 4,.i .i64 2,.i .i64 3,.s ⟨#[98]⟩,.ns,.sl 33 0 2 4 (.ex 2),.i .i64 0,.i .i64 0,.i .i64 1,.i .i64 0,.s ⟨#[122]⟩,.ns,.ns,.i .i64 2,.i .i64 3,.i .i64 0,.i .i64 0]),(15,[.i .i64 0,.i .i64 0,.ns,.vr 0,.i .i64 0,.i .i64 1,.ns,.vr 1,.i .i64 0,.i .i64 2,.ns,.i .i64 1]),(22,[.i .i64 3,.sl 19 0 2 1 (.ex 2),.sl 20 0 2 1 (.ex 2)]),(19,[.i .i64 0,.i .i64 5]),(20,[.i .i64 0,.i .i64 2]),(25,[.i .i64 8,.i .i64 4,.sl 23 0 2 1 (.ex 2),.i .i64 0]),(23,[.i .i64 3,.i .i64 1]),(33,[.i .i64 17,.i .i64 (-1),.sl 29 0 1 1 (.ex 1),.i .i64 0,.i .i64 2,.i .i64 5,.sl 31 0 2 1 (.ex 2),.i .i64 0]),(29,[.i .i64 3]),(31,[.i .i64 3,.i .i64 2])],.sl 3989000372 0 6 2 .en,[(3989000372,[.i .i64 0,.i .i64 0,.i .i64 0,.i .i64 1,.i .i64 0,.i .i64 2,.i .i64 1,.i .i64 (-1),.i .i64 1,.i .i64 0,.i .i64 2,.i .i64 1])],3989000000⟩
theorem EB (hL:aE E) (hP:d7 E):bZ prog E xI:=dH (cF hL hP (xH hL hP)) (by decide +kernel)
def xJ:List dh:=xI::xG
theorem xK (hL:aE E) (hP:d7 E):∀m∈xJ,bZ prog E m:=bV (EB hL hP) (xH hL hP)
def xL:dh:=⟨25,[.ag [.sl 9 0 6 2 (.ex 6),.ns,.sl 39 0 4 7 (.ex 4)]],[(9,[.s ⟨#[122]⟩,.i .i64 0,.s ⟨#[110]⟩,.i .i64 0,.s ⟨#[111,110,101]⟩,.i .i64 0,.s ⟨#[105]⟩,.i .i64 0,.s ⟨#[99]⟩,.i .i64 1,.s ⟨#[106]⟩,.i .i64 0]),(39,[.s ⟨#[97]⟩,.ns,.sl 15 0 3 4 (.ex 3),.i .i64 0,.i .i64 0,.i .i64 1,.i .i64 0,.s ⟨#[104]⟩,.sl 22 0 1 3 (.ex 1),.sl 25 0 1 4 (.ex 1),.i .i64 1,.i .i64 4,.i .i64 2,.i .i64 3,.s ⟨#[98]⟩,.ns,.sl 33 0 2 4 (.ex 2),.i .i64 0,.i .i64 0,.i .i64 1,.i .i64 0,.s ⟨#[122]⟩,.ns,.ns,.i .i64 2,.i .i64 3,.i .i64 0,.i .i64 0]),(15,[.i .i64 0,.i .i64 0,.ns,.vr 0,.i .i64 0,.i .i64 1,.ns,.vr 1,.i .i64 0,.i .i64 2,.ns,.i .i64 1]),(22,[.i .i64 3,.sl 19 0 2 1 (.ex 2),.sl 20 0 2 1 (.ex 2)]),(19,[.i .i64 0,.i .i64 5]),(20,[.i .i64 0,.i .i64 2]),(25,[.i .i64 8,.i .i64 4,.sl 23 0 2 1 (.ex 2),.i .i64 0]),(23,[.i .i64 3,.i .i64 1]),(33,[.i .i64 17,.i .i64 (-1),.sl 29 0 1 1 (.ex 1),.i .i64 0,.i .i64 2,.i .i64 5,.sl 31 0 2 1 (.ex 2),.i .i64 0]),(29,[.i .i64 3]),(31,[.i .i64 3,.i .i64 2])],.i .i64 0,[],2997000000⟩
theorem EC (hL:aE E) (hP:d7 E):bZ prog E xL:=dH (cF hL hP (xK hL hP)) (by decide +kernel)
def xM:List dh:=xL::xJ
theorem xN (hL:aE E) (hP:d7 E):∀m∈xM,bZ prog E m:=bV (EC hL hP) (xK hL hP)
def xO:dh:=⟨15,[.ag [.sl 9 0 6 2 (.ex 6),.ns,.sl 39 0 4 7 (.ex 4)]],[(9,[.s ⟨#[122]⟩,.i .i64 0,.s ⟨#[110]⟩,.i .i64 0,.s ⟨#[111,110,101]⟩,.i .i64 0,.s ⟨#[105]⟩,.i .i64 0,.s ⟨#[99]⟩,.i .i64 1,.s ⟨#[106]⟩,.i .i64 0]),(39,[.s ⟨#[97]⟩,.ns,.sl 15 0 3 4 (.ex 3),.i .i64 0,.i .i64 0,.i .i64 1,.i .i64 0,.s ⟨#[104]⟩,.sl 22 0 1 3 (.ex 1),.sl 25 0 1 4 (.ex 1),.i .i64 1,.i .i64 4,.i .i64 2,.i .i64 3,.s ⟨#[98]⟩,.ns,.sl 33 0 2 4 (.ex 2),.i .i64 0,.i .i64 0,.i .i64 1,.i .i64 0,.s ⟨#[122]⟩,.ns,.ns,.i .i64 2,.i .i64 3,.i .i64 0,.i .i64 0]),(15,[.i .i64 0,.i .i64 0,.ns,.vr 0,.i .i64 0,.i .i64 1,.ns,.vr 1,.i .i64 0,.i .i64 2,.ns,.i .i64 1]),(22,[.i .i64 3,.sl 19 0 2 1 (.ex 2),.sl 20 0 2 1 (.ex 2)]),(19,[.i .i64 0,.i .i64 5]),(20,[.i .i64 0,.i .i64 2]),(25,[.i .i64 8,.i .i64 4,.sl 23 0 2 1 (.ex 2),.i .i64 0]),(23,[.i .i64 3,.i .i64 1]),(33,[.i .i64 17,.i .i64 (-1),.sl 29 0 1 1 (.ex 1),.i .i64 0,.i .i64 2,.i .i64 5,.sl 31 0 2 1 (.ex 2),.i .i64 0]),(29,[.i .i64 3]),(31,[.i .i64 3,.i .i64 2])],.i .i64 0,[],1998000000⟩
theorem ED (hL:aE E) (hP:d7 E):bZ prog E xO:=dH (cF hL hP (xN hL hP)) (by decide +kernel)
def ug:List dh:=xO::xM
theorem uh (hL:aE E) (hP:d7 E):∀m∈ug,bZ prog E m:=bV (ED hL hP) (xN hL hP)
def ui:dh:=⟨20,[.sl 999000546 0 6 1 .en,.i .i64 506],[(999000546,[.s ⟨#[122]⟩,.s ⟨#[110]⟩,.s ⟨#[111,110,101]⟩,.s ⟨#[105]⟩,.s ⟨#[99]⟩,.s ⟨#[106]⟩])],.sl 1988010184 0 506 1 .en,[(1988010184,[.s ⟨#[120,48]⟩,.s ⟨#[120,49]⟩,.s ⟨#[120,50]⟩,.s ⟨#[120,51]⟩,.s ⟨#[120,52]⟩,.s ⟨#[120,53]⟩,.s ⟨#[120,54]⟩,.s ⟨#[120,55]⟩,.s ⟨#[120,56]⟩,.s ⟨#[120,57]⟩,.s ⟨#[120,49,48]⟩,.s ⟨#[120,49,49]⟩,.s ⟨#[120,49,50]⟩,.s ⟨#[120,49,51]⟩,.s ⟨#[120,49,52]⟩,.s ⟨#[120,49,53]⟩,.s ⟨#[120,49,54]⟩,.s ⟨#[120,49,55]⟩,.s ⟨#[120,49,56]⟩,.s ⟨#[120,49,57]⟩,.s ⟨#[120,50,48]⟩,.s ⟨#[120,50,49]⟩,.s ⟨#[120,50,50]⟩,.s ⟨#[120,50,51]⟩,.s ⟨#[120,50,52]⟩,.s ⟨#[120,50,53]⟩,.s ⟨#[120,50,54]⟩,.s ⟨#[120,50,55]⟩,.s ⟨#[120,50,56]⟩,.s ⟨#[120,50,57]⟩,.s ⟨#[120,51,48]⟩,.s ⟨#[120,51,49]⟩,.s ⟨#[120,51,50]⟩,.s ⟨#[120,51,51]⟩,.s ⟨#[120,51,52]⟩,.s ⟨#[120,51,53]⟩,.s ⟨#[120,51,54]⟩,.s ⟨#[120,51,55]⟩,.s ⟨#[120,51,56]⟩,.s ⟨#[120,51,57]⟩,.s ⟨#[120,52,48]⟩,.s ⟨#[120,52,49]⟩,.s ⟨#[120,52,50]⟩,.s ⟨#[120,52,51]⟩,.s ⟨#[120,52,52]⟩,.s ⟨#[120,52,53]⟩,.s ⟨#[120,52,54]⟩,.s ⟨#[120,52,55]⟩,.s ⟨#[120,52,56]⟩,.s ⟨#[120,52,57]⟩,.s ⟨#[120,53,48]⟩,.s ⟨#[120,53,49]⟩,.s ⟨#[120,53,50]⟩,.s ⟨#[120,53,51]⟩,.s ⟨#[120,53,52]⟩,.s ⟨#[120,53,53]⟩,.s ⟨#[120,53,54]⟩,.s ⟨#[120,53,55]⟩,.s ⟨#[120,53,56]⟩,.s ⟨#[120,53,57]⟩,.s ⟨#[120,54,48]⟩,.s ⟨#[120,54,49]⟩,.s ⟨#[120,54,50]⟩,.s ⟨#[120,54,51]⟩,.s ⟨#[120,54,52]⟩,.s ⟨#[120,54,53]⟩,.s ⟨#[120,54,54]⟩,.s ⟨#[120,54,55]⟩,.s ⟨#[120,54,56]⟩,.s ⟨#[120,54,57]⟩,.s ⟨#[120,55,48]⟩,.s ⟨#[120,55,49]⟩,.s ⟨#[120,55,50]⟩,.s ⟨#[120,55,51]⟩,.s ⟨#[120,55,52]⟩,.s ⟨#[120,55,53]⟩,.s ⟨#[120,55,54]⟩,.s ⟨#[120,55,55]⟩,.s ⟨#[120,55,56]⟩,.s ⟨#[120,55,57]⟩,.s ⟨#[120,56,48]⟩,.s ⟨#[120,56,49]⟩,.s ⟨#[120,56,50]⟩,.s ⟨#[120,56,51]⟩,.s ⟨#[120,56,52]⟩,.s ⟨#[120,56,53]⟩,.s ⟨#[120,56,54]⟩,.s ⟨#[120,56,55]⟩,.s ⟨#[120,56,56]⟩,.s ⟨#[120,56,57]⟩,.s ⟨#[120,57,48]⟩,.s ⟨#[120,57,49]⟩,.s ⟨#[120,57,50]⟩,.s ⟨#[120,57,51]⟩,.s ⟨#[120,57,52]⟩,.s ⟨#[120,57,53]⟩,.s ⟨#[120,57,54]⟩,.s ⟨#[120,57,55]⟩,.s ⟨#[120,57,56]⟩,.s ⟨#[120,57,57]⟩,.s ⟨#[120,49,48,48]⟩,.s ⟨#[120,49,48,49]⟩,.s ⟨#[120,49,48,50]⟩,.s ⟨#[120,49,48,51]⟩,.s ⟨#[120,49,48,52]⟩,.s ⟨#[120,49,48,53]⟩,.s ⟨#[120,49,48,54]⟩,.s ⟨#[120,49,48,55]⟩,.s ⟨#[120,49,48,56]⟩,.s ⟨#[120,49,48,57]⟩,.s ⟨#[120,49,49,48]⟩,.s ⟨#[120,49,49,49]⟩,.s ⟨#[120,49,49,50]⟩,.s ⟨#[120,49,49,51]⟩,.s ⟨#[120,49,49,52]⟩,.s ⟨#[120,49,49,53]⟩,.s ⟨#[120,49,49,54]⟩,.s ⟨#[120,49,49,55]⟩,.s ⟨#[120,49,49,56]⟩,.s ⟨#[120,49,49,57]⟩,.s ⟨#[120,49,50,48]⟩,.s ⟨#[120,49,50,49]⟩,.s ⟨#[120,49,50,50]⟩,.s ⟨#[120,49,50,51]⟩,.s ⟨#[120,49,50,52]⟩,.s ⟨#[120,49,50,53]⟩,.s ⟨#[120,49,50,54]⟩,.s ⟨#[120,49,50,55]⟩,.s ⟨#[120,49,50,56]⟩,.s ⟨#[120,49,50,57]⟩,.s ⟨#[120,49,51,48]⟩,.s ⟨#[120,49,51,49]⟩,.s ⟨#[120,49,51,50]⟩,.s ⟨#[120,49,51,51]⟩,.s ⟨#[120,49,51,52]⟩,.s ⟨#[120,49,51,53]⟩,.s ⟨#[120,49,51,54]⟩,.s ⟨#[120,49,51,55]⟩,.s ⟨#[120,49,51,56]⟩,.s ⟨#[120,49,51,57]⟩,.s ⟨#[120,49,52,48]⟩,.s ⟨#[120,49,52,49]⟩,.s ⟨#[120,49,52,50]⟩,.s ⟨#[120,49,52,51]⟩,.s ⟨#[120,49,52,52]⟩,.s ⟨#[120,49,52,53]⟩,.s ⟨#[120,49,52,54]⟩,.s ⟨#[120,49,52,55]⟩,.s ⟨#[120,49,52,56]⟩,.s ⟨#[120,49,52,57]⟩,.s ⟨#[120,49,53,48]⟩,.s ⟨#[120,49,53,49]⟩,.s ⟨#[120,49,53,50]⟩,.s ⟨#[120,49,53,51]⟩,.s ⟨#[120,49,53,52]⟩,.s ⟨#[120,49,53,53]⟩,.s ⟨#[120,49,53,54]⟩,.s ⟨#[120,49,53,55]⟩,.s ⟨#[120,49,53,56]⟩,.s ⟨#[120,49,53,57]⟩,.s ⟨#[120,49,54,48]⟩,.s ⟨#[120,49,54,49]⟩,.s ⟨#[120,49,54,50]⟩,.s ⟨#[120,49,54,51]⟩,.s ⟨#[120,49,54,52]⟩,.s ⟨#[120,49,54,53]⟩,.s ⟨#[120,49,54,54]⟩,.s ⟨#[120,49,54,55]⟩,.s ⟨#[120,49,54,56]⟩,.s ⟨#[120,49,54,57]⟩,.s ⟨#[120,49,55,48]⟩,.s ⟨#[120,49,55,49]⟩,.s ⟨#[120,49,55,50]⟩,.s ⟨#[120,49,55,51]⟩,.s ⟨#[120,49,55,52]⟩,.s ⟨#[120,49,55,53]⟩,.s ⟨#[120,49,55,54]⟩,.s ⟨#[120,49,55,55]⟩,.s ⟨#[120,49,55,56]⟩,.s ⟨#[120,49,55,57]⟩,.s ⟨#[120,49,56,48]⟩,.s ⟨#[120,49,56,49]⟩,.s ⟨#[120,49,56,50]⟩,.s ⟨#[120,49,56,51]⟩,.s ⟨#[120,49,56,52]⟩,.s ⟨#[120,49,56,53]⟩,.s ⟨#[120,49,56,54]⟩,.s ⟨#[120,49,56,55]⟩,.s ⟨#[120,49,56,56]⟩,.s ⟨#[120,49,56,57]⟩,.s ⟨#[120,49,57,48]⟩,.s ⟨#[120,49,57,49]⟩,.s ⟨#[120,49,57,50]⟩,.s ⟨#[120,49,57,51]⟩,.s ⟨#[120,49,57,52]⟩,.s ⟨#[120,49,57,53]⟩,.s ⟨#[120,49,57,54]⟩,.s ⟨#[120,49,57,55]⟩,.s ⟨#[120,49,57,56]⟩,.s ⟨#[120,49,57,57]⟩,.s ⟨#[120,50,48,48]⟩,.s ⟨#[120,50,48,49]⟩,.s ⟨#[120,50,48,50]⟩,.s ⟨#[120,50,48,51]⟩,.s ⟨#[120,50,48,52]⟩,.s ⟨#[120,50,48,53]⟩,.s ⟨#[120,50,48,54]⟩,.s ⟨#[120,50,48,55]⟩,.s ⟨#[120,50,48,56]⟩,.s ⟨#[120,50,48,57]⟩,.s ⟨#[120,50,49,48]⟩,.s ⟨#[120,50,49,49]⟩,.s ⟨#[120,50,49,50]⟩,.s ⟨#[120,50,49,51]⟩,.s ⟨#[120,50,49,52]⟩,.s ⟨#[120,50,49,53]⟩,.s ⟨#[120,50,49,54]⟩,.s ⟨#[120,50,49,55]⟩,.s ⟨#[120,50,49,56]⟩,.s ⟨#[120,50,49,57]⟩,.s ⟨#[120,50,50,48]⟩,.s ⟨#[120,50,50,49]⟩,.s ⟨#[120,50,50,50]⟩,.s ⟨#[120,50,50,51]⟩,.s ⟨#[120,50,50,52]⟩,.s ⟨#[120,50,50,53]⟩,.s ⟨#[120,50,50,54]⟩,.s ⟨#[120,50,50,55]⟩,.s ⟨#[120,50,50,56]⟩,.s ⟨#[120,50,50,57]⟩,.s ⟨#[120,50,51,48]⟩,.s ⟨#[120,50,51,49]⟩,.s ⟨#[120,50,51,50]⟩,.s ⟨#[120,50,51,51]⟩,.s ⟨#[120,50,51,52]⟩,.s ⟨#[120,50,51,53]⟩,.s ⟨#[120,50,51,54]⟩,.s ⟨#[120,50,51,55]⟩,.s ⟨#[120,50,51,56]⟩,.s ⟨#[120,50,51,57]⟩,.s ⟨#[120,50,52,48]⟩,.s ⟨#[120,50,52,49]⟩,.s ⟨#[120,50,52,50]⟩,.s ⟨#[120,50,52,51]⟩,.s ⟨#[120,50,52,52]⟩,.s ⟨#[120,50,52,53]⟩,.s ⟨#[120,50,52,54]⟩,.s ⟨#[120,50,52,55]⟩,.s ⟨#[120,50,52,56]⟩,.s ⟨#[120,50,52,57]⟩,.s ⟨#[120,50,53,48]⟩,.s ⟨#[120,50,53,49]⟩,.s ⟨#[120,50,53,50]⟩,.s ⟨#[120,50,53,51]⟩,.s ⟨#[120,50,53,52]⟩,.s ⟨#[120,50,53,53]⟩,.s ⟨#[120,50,53,54]⟩,.s ⟨#[120,50,53,55]⟩,.s ⟨#[120,50,53,56]⟩,.s ⟨#[120,50,53,57]⟩,.s ⟨#[120,50,54,48]⟩,.s ⟨#[120,50,54,49]⟩,.s ⟨#[120,50,54,50]⟩,.s ⟨#[120,50,54,51]⟩,.s ⟨#[120,50,54,52]⟩,.s ⟨#[120,50,54,53]⟩,.s ⟨#[120,50,54,54]⟩,.s ⟨#[120,50,54,55]⟩,.s ⟨#[120,50,54,56]⟩,.s ⟨#[120,50,54,57]⟩,.s ⟨#[120,50,55,48]⟩,.s ⟨#[120,50,55,49]⟩,.s ⟨#[120,50,55,50]⟩,.s ⟨#[120,50,55,51]⟩,.s ⟨#[120,50,55,52]⟩,.s ⟨#[120,50,55,53]⟩,.s ⟨#[120,50,55,54]⟩,.s ⟨#[120,50,55,55]⟩,.s ⟨#[120,50,55,56]⟩,.s ⟨#[120,50,55,57]⟩,.s ⟨#[120,50,56,48]⟩,.s ⟨#[120,50,56,49]⟩,.s ⟨#[120,50,56,50]⟩,.s ⟨#[120,50,56,51]⟩,.s ⟨#[120,50,56,52]⟩,.s ⟨#[120,50,56,53]⟩,.s ⟨#[120,50,56,54]⟩,.s ⟨#[120,50,56,55]⟩,.s ⟨#[120,50,56,56]⟩,.s ⟨#[120,50,56,57]⟩,.s ⟨#[120,50,57,48]⟩,.s ⟨#[120,50,57,49]⟩,.s ⟨#[120,50,57,50]⟩,.s ⟨#[120,50,57,51]⟩,.s ⟨#[120,50,57,52]⟩,.s ⟨#[120,50,57,53]⟩,.s ⟨#[120,50,57,54]⟩,.s ⟨#[120,50,57,55]⟩,.s ⟨#[120,50,57,56]⟩,.s ⟨#[120,50,57,57]⟩,.s ⟨#[120,51,48,48]⟩,.s ⟨#[120,51,48,49]⟩,.s ⟨#[120,51,48,50]⟩,.s ⟨#[120,51,48,51]⟩,.s ⟨#[120,51,48,52]⟩,.s ⟨#[120,51,48,53]⟩,.s ⟨#[120,51,48,54]⟩,.s ⟨#[120,51,48,55]⟩,.s ⟨#[120,51,48,56]⟩,.s ⟨#[120,51,48,57]⟩,.s ⟨#[120,51,49,48]⟩,.s ⟨#[120,51,49,49]⟩,.s ⟨#[120,51,49,50]⟩,.s ⟨#[120,51,49,51]⟩,.s ⟨#[120,51,49,52]⟩,.s ⟨#[120,51,49,53]⟩,.s ⟨#[120,51,49,54]⟩,.s ⟨#[120,51,49,55]⟩,.s ⟨#[120,51,49,56]⟩,.s ⟨#[120,51,49,57]⟩,.s ⟨#[120,51,50,48]⟩,.s ⟨#[120,51,50,49]⟩,.s ⟨#[120,51,50,50]⟩,.s ⟨#[120,51,50,51]⟩,.s ⟨#[120,51,50,52]⟩,.s ⟨#[120,51,50,53]⟩,.s ⟨#[120,51,50,54]⟩,.s ⟨#[120,51,50,55]⟩,.s ⟨#[120,51,50,56]⟩,.s ⟨#[120,51,50,57]⟩,.s ⟨#[120,51,51,48]⟩,.s ⟨#[120,51,51,49]⟩,.s ⟨#[120,51,51,50]⟩,.s ⟨#[120,51,51,51]⟩,.s ⟨#[120,51,51,52]⟩,.s ⟨#[120,51,51,53]⟩,.s ⟨#[120,51,51,54]⟩,.s ⟨#[120,51,51,55]⟩,.s ⟨#[120,51,51,56]⟩,.s ⟨#[120,51,51,57]⟩,.s ⟨#[120,51,52,48]⟩,.s ⟨#[120,51,52,49]⟩,.s ⟨#[120,51,52,50]⟩,.s ⟨#[120,51,52,51]⟩,.s ⟨#[120,51,52,52]⟩,.s ⟨#[120,51,52,53]⟩,.s ⟨#[120,51,52,54]⟩,.s ⟨#[120,51,52,55]⟩,.s ⟨#[120,51,52,56]⟩,.s ⟨#[120,51,52,57]⟩,.s ⟨#[120,51,53,48]⟩,.s ⟨#[120,51,53,49]⟩,.s ⟨#[120,51,53,50]⟩,.s ⟨#[120,51,53,51]⟩,.s ⟨#[120,51,53,52]⟩,.s ⟨#[120,51,53,53]⟩,.s ⟨#[120,51,53,54]⟩,.s ⟨#[120,51,53,55]⟩,.s ⟨#[120,51,53,56]⟩,.s ⟨#[120,51,53,57]⟩,.s ⟨#[120,51,54,48]⟩,.s ⟨#[120,51,54,49]⟩,.s ⟨#[120,51,54,50]⟩,.s ⟨#[120,51,54,51]⟩,.s ⟨#[120,51,54,52]⟩,.s ⟨#[120,51,54,53]⟩,.s ⟨#[120,51,54,54]⟩,.s ⟨#[120,51,54,55]⟩,.s ⟨#[120,51,54,56]⟩,.s ⟨#[120,51,54,57]⟩,.s ⟨#[120,51,55,48]⟩,.s ⟨#[120,51,55,49]⟩,.s ⟨#[120,51,55,50]⟩,.s ⟨#[120,51,55,51]⟩,.s ⟨#[120,51,55,52]⟩,.s ⟨#[120,51,55,53]⟩,.s ⟨#[120,51,55,54]⟩,.s ⟨#[120,51,55,55]⟩,.s ⟨#[120,51,55,56]⟩,.s ⟨#[120,51,55,57]⟩,.s ⟨#[120,51,56,48]⟩,.s ⟨#[120,51,56,49]⟩,.s ⟨#[120,51,56,50]⟩,.s ⟨#[120,51,56,51]⟩,.s ⟨#[120,51,56,52]⟩,.s ⟨#[120,51,56,53]⟩,.s ⟨#[120,51,56,54]⟩,.s ⟨#[120,51,56,55]⟩,.s ⟨#[120,51,56,56]⟩,.s ⟨#[120,51,56,57]⟩,.s ⟨#[120,51,57,48]⟩,.s ⟨#[120,51,57,49]⟩,.s ⟨#[120,51,57,50]⟩,.s ⟨#[120,51,57,51]⟩,.s ⟨#[120,51,57,52]⟩,.s ⟨#[120,51,57,53]⟩,.s ⟨#[120,51,57,54]⟩,.s ⟨#[120,51,57,55]⟩,.s ⟨#[120,51,57,56]⟩,.s ⟨#[120,51,57,57]⟩,.s ⟨#[120,52,48,48]⟩,.s ⟨#[120,52,48,49]⟩,.s ⟨#[120,52,48,50]⟩,.s ⟨#[120,52,48,51]⟩,.s ⟨#[120,52,48,52]⟩,.s ⟨#[120,52,48,53]⟩,.s ⟨#[120,52,48,54]⟩,.s ⟨#[120,52,48,55]⟩,.s ⟨#[120,52,48,56]⟩,.s ⟨#[120,52,48,57]⟩,.s ⟨#[120,52,49,48]⟩,.s ⟨#[120,52,49,49]⟩,.s ⟨#[120,52,49,50]⟩,.s ⟨#[120,52,49,51]⟩,.s ⟨#[120,52,49,52]⟩,.s ⟨#[120,52,49,53]⟩,.s ⟨#[120,52,49,54]⟩,.s ⟨#[120,52,49,55]⟩,.s ⟨#[120,52,49,56]⟩,.s ⟨#[120,52,49,57]⟩,.s ⟨#[120,52,50,48]⟩,.s ⟨#[120,52,50,49]⟩,.s ⟨#[120,52,50,50]⟩,.s ⟨#[120,52,50,51]⟩,.s ⟨#[120,52,50,52]⟩,.s ⟨#[120,52,50,53]⟩,.s ⟨#[120,52,50,54]⟩,.s ⟨#[120,52,50,55]⟩,.s ⟨#[120,52,50,56]⟩,.s ⟨#[120,52,50,57]⟩,.s ⟨#[120,52,51,48]⟩,.s ⟨#[120,52,51,49]⟩,.s ⟨#[120,52,51,50]⟩,.s ⟨#[120,52,51,51]⟩,.s ⟨#[120,52,51,52]⟩,.s ⟨#[120,52,51,53]⟩,.s ⟨#[120,52,51,54]⟩,.s ⟨#[120,52,51,55]⟩,.s ⟨#[120,52,51,56]⟩,.s ⟨#[120,52,51,57]⟩,.s ⟨#[120,52,52,48]⟩,.s ⟨#[120,52,52,49]⟩,.s ⟨#[120,52,52,50]⟩,.s ⟨#[120,52,52,51]⟩,.s ⟨#[120,52,52,52]⟩,.s ⟨#[120,52,52,53]⟩,.s ⟨#[120,52,52,54]⟩,.s ⟨#[120,52,52,55]⟩,.s ⟨#[120,52,52,56]⟩,.s ⟨#[120,52,52,57]⟩,.s ⟨#[120,52,53,48]⟩,.s ⟨#[120,52,53,49]⟩,.s ⟨#[120,52,53,50]⟩,.s ⟨#[120,52,53,51]⟩,.s ⟨#[120,52,53,52]⟩,.s ⟨#[120,52,53,53]⟩,.s ⟨#[120,52,53,54]⟩,.s ⟨#[120,52,53,55]⟩,.s ⟨#[120,52,53,56]⟩,.s ⟨#[120,52,53,57]⟩,.s ⟨#[120,52,54,48]⟩,.s ⟨#[120,52,54,49]⟩,.s ⟨#[120,52,54,50]⟩,.s ⟨#[120,52,54,51]⟩,.s ⟨#[120,52,54,52]⟩,.s ⟨#[120,52,54,53]⟩,.s ⟨#[120,52,54,54]⟩,.s ⟨#[120,52,54,55]⟩,.s ⟨#[120,52,54,56]⟩,.s ⟨#[120,52,54,57]⟩,.s ⟨#[120,52,55,48]⟩,.s ⟨#[120,52,55,49]⟩,.s ⟨#[120,52,55,50]⟩,.s ⟨#[120,52,55,51]⟩,.s ⟨#[120,52,55,52]⟩,.s ⟨#[120,52,55,53]⟩,.s ⟨#[120,52,55,54]⟩,.s ⟨#[120,52,55,55]⟩,.s ⟨#[120,52,55,56]⟩,.s ⟨#[120,52,55,57]⟩,.s ⟨#[120,52,56,48]⟩,.s ⟨#[120,52,56,49]⟩,.s ⟨#[120,52,56,50]⟩,.s ⟨#[120,52,56,51]⟩,.s ⟨#[120,52,56,52]⟩,.s ⟨#[120,52,56,53]⟩,.s ⟨#[120,52,56,54]⟩,.s ⟨#[120,52,56,55]⟩,.s ⟨#[120,52,56,56]⟩,.s ⟨#[120,52,56,57]⟩,.s ⟨#[120,52,57,48]⟩,.s ⟨#[120,52,57,49]⟩,.s ⟨#[120,52,57,50]⟩,.s ⟨#[120,52,57,51]⟩,.s ⟨#[120,52,57,52]⟩,.s ⟨#[120,52,57,53]⟩,.s ⟨#[120,52,57,54]⟩,.s ⟨#[120,52,57,55]⟩,.s ⟨#[120,52,57,56]⟩,.s ⟨#[120,52,57,57]⟩,.s ⟨#[120,53,48,48]⟩,.s ⟨#[120,53,48,49]⟩,.s ⟨#[120,53,48,50]⟩,.s ⟨#[120,53,48,51]⟩,.s ⟨#[120,53,48,52]⟩,.s ⟨#[120,53,48,53]⟩])],1988000000⟩
theorem C1 (hL:aE E) (hP:d7 E):bZ prog E ui:=dH (cF hL hP (uh hL hP)) (by decide +kernel)
def C2:List dh:=ui::ug
theorem C3 (hL:aE E) (hP:d7 E):∀m∈C2,bZ prog E m:=bV (C1 hL hP) (uh hL hP)
def Gx:List (Nat × List EV):=[(9,[.s ⟨#[122]⟩,.i .i64 0,.s ⟨#[110]⟩,.i .i64 0,.s ⟨#[111,110,101]⟩,.i .i64 0,.s ⟨#[105]⟩,.i .i64 0,.s ⟨#[99]⟩,.i .i64 1,.s ⟨#[106]⟩,.i .i64 0]),(39,[.s ⟨#[97]⟩,.ns,.sl 15 0 3 4 (.ex 3),.i .i64 0,.i .i64 0,.i .i64 1,.i .i64 0,.s ⟨#[104]⟩,.sl 22 0 1 3 (.ex 1),.sl 25 0 1 4 (.ex 1),.i .i64 1,.i .i64 4,.i .i64 2,.i .i64 3,.s ⟨#[98]⟩,.ns,.sl 33 0 2 4 (.ex 2),.i .i64 0,.i .i64 0,.i .i64 1,.i .i64 0,.s ⟨#[122]⟩,.ns,.ns,.i .i64 2,.i .i64 3,.i .i64 0,.i .i64 0]),(15,[.i .i64 0,.i .i64 0,.ns,.vr 0,.i .i64 0,.i .i64 1,.ns,.vr 1,.i .i64 0,.i .i64 2,.ns,.i .i64 1]),(22,[.i .i64 3,.sl 19 0 2 1 (.ex 2),.sl 20 0 2 1 (.ex 2)]),(19,[.i .i64 0,.i .i64 5]),(20,[.i .i64 0,.i .i64 2]),(25,[.i .i64 8,.i .i64 4,.sl 23 0 2 1 (.ex 2),.i .i64 0]),(23,[.i .i64 3,.i .i64 1]),(33,[.i .i64 17,.i .i64 (-1),.sl 29 0 1 1 (.ex 1),.i .i64 0,.i .i64 2,.i .i64 5,.sl 31 0 2 1 (.ex 2),.i .i64 0]),(29,[.i .i64 3]),(31,[.i .i64 3,.i .i64 2])]
def C4:List EV:=[.sl 9 0 6 2 (.ex 6),.ns,.sl 39 0 4 7 (.ex 4)]
def Iq:dh:=⟨5,[.ag C4],Gx,.tu [.ag [.sl 999003541 0 8 2 .en,.ns,.sl 999000387 0 4 7 .en],.i .i64 0],[(999003541,[.s ⟨#[122]⟩,.i .i64 0,.s ⟨#[110]⟩,.i .i64 0,.s ⟨#[111,110,101]⟩,.i .i64 0,.s ⟨#[105]⟩,.i .i64 0,.s ⟨#[99]⟩,.i .i64 1,.s ⟨#[106]⟩,.i .i64 0,.s ⟨#[120,48]⟩,.i .i64 0,.s ⟨#[120,49]⟩,.i .i64 0]),(999000387,[.s ⟨#[97]⟩,.ns,.sl 999000829 0 3 4 .en,.i .i64 0,.i .i64 0,.i .i64 1,.i .i64 0,.s ⟨#[104]⟩,.sl 999000218 0 1 3 .en,.sl 999001404 0 1 4 .en,.i .i64 1,.i .i64 4,.i .i64 2,.i .i64 3,.s ⟨#[98]⟩,.ns,.sl 999002519 0 3 4 .en,.i .i64 0,.i .i64 0,.i .i64 1,.i .i64 0,.s ⟨#[122]⟩,.ns,.sl 999003573 0 1 4 .en,.i .i64 2,.i .i64 7,.i .i64 0,.i .i64 0]),(999000829,[.i .i64 0,.i .i64 0,.ns,.vr 0,.i .i64 0,.i .i64 1,.ns,.vr 1,.i .i64 0,.i .i64 2,.ns,.i .i64 1]),(999000218,[.i .i64 3,.sl 999000226 0 2 1 .en,.sl 999000233 0 2 1 .en]),(999000226,[.i .i64 0,.i .i64 5]),(999000233,[.i .i64 0,.i .i64 2]),(999001404,[.i .i64 8,.i .i64 4,.sl 999001382 0 2 1 .en,.i .i64 0]),(999001382,[.i .i64 3,.i .i64 1]),(999002519,[.i .i64 25,.i .i64 6,.sl 999002150 0 2 1 (.ex 2),.i .i64 0,.i .i64 17,.i .i64 (-1),.sl 999002390 0 1 1 .en,.i .i64 0,.i .i64 2,.i .i64 5,.sl 999002497 0 2 1 .en,.i .i64 0]),(999002150,[.i .i64 3,.i .i64 1]),(999002390,[.i .i64 6]),(999002497,[.i .i64 6,.i .i64 2]),(999003573,[.i .i64 25,.i .i64 7,.sl 999003451 0 2 1 (.ex 2),.i .i64 3]),(999003451,[.i .i64 3,.i .i64 1])],999000000⟩
def HM:Nat:=999000000
def HN (a b:Int):Nat→Int
 |0=>a
 |_+1=>b
theorem rZ (hL:aE E) (hP:d7 E) (a b:Int):aU prog E 6 [.int .i64 a,.int .i64 b] [] fun y O=>∃g:b7 × Value × List Value,y=Hr Gx 2 (HN a b) HM g∧O=[]∧RelVs g.1 C4 (g.2.1::g.2.2):=
 Cm (x:=.sl 9 0 6 2 (.ex 6)) (xs:=[.ns,.sl 39 0 4 7 (.ex 4)]) (ar:=[.vr 0,.vr 1]) (cF hL hP (xl hL hP)) (fun φ vs h v us e=>by
  obtain ⟨w,ws,e1,⟨q,o,cap,_,e2,_⟩,_⟩:=h
  rw[e1] at e
  cases e
  rw[e2];rfl) (fun I vs h=>by
  obtain ⟨v,us,rfl,h1,v2,us2,rfl,h2,h3⟩:=h
  exact ⟨v,_,rfl,⟨lu.ofI a,rfl,by rw[lu.num_ofI];exact h1⟩,v2,us2,rfl,⟨lu.ofI b,rfl,by rw[lu.num_ofI];exact h2⟩,h3⟩) (by kernel_rfl)
theorem EE (hL:aE E) (hP:d7 E):bZ prog E Iq:=dH (cF hL hP (C3 hL hP)) (by decide +kernel)
theorem uj (hL:aE E) (hP:d7 E) (a b:Int) (g:b7 × Value × List Value) (hg:RelVs g.1 C4 (g.2.1::g.2.2)):aF prog E 5 [Hr Gx 2 (HN a b) HM g] (.tup [.agg (b9 (aY a b)),.int .i64 0]):=
 D7 (EE hL hP) rfl hg (by decide) (by kernel_rfl)
end
section
open Go.Proofs.Tryz
open Go.Proofs Go.Lib Go.Shelf Go.RowKit
variable {E:World}
set_option maxRecDepth 20000
theorem C5 {a b:Int} (ha:aK a) (hb:aK b):∀q∈(aY a b).blocks,∀x∈q.insts,aK x.num:=by
 unfold aY
 simp only[List.mem_cons,List.not_mem_nil,or_false,forall_eq_or_imp,forall_eq]
 exact ⟨⟨ha,hb,by decide⟩,by decide,⟨by decide,by decide,by decide⟩,by decide⟩
theorem Gy {a b:Int} (ha:aK a) (hb:aK b) (hL:aE E):aF prog E 7 [.agg (b9 (aY a b))] (.tup [.fro 2 ((gx a b).map bk),.int .i64 0]):=by
 obtain ⟨K,hK,hKe⟩:=BA ha hb
 have hF:=oQ (qz a b) (ue a b)
 have h:=CY (E:=E) (aY a b) (qz a b) hL (ue a b) (nW (tZ hF (C5 ha hb)) (m9 hF)) K hK
 rw[hKe] at h
 exact h
set_option maxHeartbeats 4000000 in
theorem mM (hL:aE E) (hP:d7 E) (a b:Int) (ha:aK a) (hb:aK b):aF prog E 3 [.int .i64 a,.int .i64 b] (.bool true):=by
 have hlv:=rW (E:=E) hL
 have hof:=Gy (E:=E) ha hb hL
 unfold aK at ha hb
 refine zk func3 Z (by decide) Z<|ae<|ad Z<|z6<|ze<|ae<|zg (hlv) Z<|z7 (yo Z)<|z6<|yn Z Z<|zi<|ae<|aa Z<|aa Z<|zq Z (zn (.rest _)) (rZ (E:=E) hL hP a b) ?_
 rintro r14 O14 ⟨g,rfl,rfl,hg⟩
 refine zg (uj (E:=E) hL hP a b g hg) Z<|z7 (vX Z)<|z7 (q4 (v:=.agg _) Z Z)<|z7 (r8 Z Z)<|zo (cs:=[.raw (.slice none 0 0),.raw (.slice none 0 0),.raw (.slice none 0 0)]) zeroValue27 Z Z<|fun i5=>zf js Z Z Z Z Z Z .head Z<|zc (yk (t:=5) Z .head)<|aq Z<|z6<|ae<|ab jx js Z Z<|zg (hof) Z<|z7 (vX Z)<|z7 (q4 (v:=.fro _ _) Z Z)<|z7 (r8 Z Z)<|z7 (um Z)<|aq Z<|z6<|ze<|ae<|aa Z<|z7 (yw Z Z)<|ay Z<|za Z Z Z<|aa Z<|za Z Z Z<|z7 (yw Z Z)<|aD Z Z Z<|ay Z ?_
 by_cases h:b≤a
 ·have hl:gx a b=[(a,a),(b,b),(1,1),(a,a),(0,0),bw,bw,(a,a)]:=if_pos h
  have hno:¬bw.1≤bw.2:=by decide
  have hno2:bw.2<bw.1:=by decide
  refine za Z Z Z<|bh Z<|za Z Z Z<|au Z3 Z<|za Z Z Z<|aj jt Z Y4 Z Z<|za Z Z Z<|bd Yb Z<|za Z Z Z<|au Zd Z<|za Z Z Z<|z7 (yw Z Z)<|aD Z Z Z<|ay Z<|za Z Z (by rw[hl];rfl)<|bh Z<|za Z Z (by rw[hl];rfl)<|au Z3 Z<|za Z Z (by rw[hl];rfl)<|ax Z Z<|z7 (C8 Z (by rw[hl];rfl) Z)<|z6<|yn Z (by rw[hl];rfl)<|zi<|ze<|ae<|aa Z<|aa Z<|z7 (qa Z Z)<|z6<|yq Z (decide_eq_true h)<|ze<|ym (γ:=Bool) [] (fun u=>[(4,.bool u)]) (fun u=>[]) (fun u=>u=true) ?_ (fun _ _ h=>h) ?_
  ·refine zw (fun j=>false) (by kernel_rfl) Z (zn (.rest _))<|ao 0 Z (C7 Z)<|ao 1 Z (db 3 Z3 jf Z Z Z (by rw[hl];rfl)) ?_
   refine ao 2 Z (yl jg jf Z Z)<|ao 3 Z (fC Z)<|ao 4 Z (fC Z)<|ao 5 Z (zt (cps:=[(0,[_]),(1,[_])]) (rs:=[_,_]) iI Z Z Z)<|ao 6 Z (Gv.eqlP (xs:=[.int _ _,.int _ _]) (ys:=[.int _ _,.int _ _]) (by kernel_rfl) Z Z (fun w=>eL _ _ _ _ w))<|ao 7 Z (EK Z)<|bt.case (s:=52) Z (fun c1=>?_) (fun c1=>?_)
   ·refine ir 8 Z Z Z c1 (C7 Z)<|ir 9 Z Z Z c1 (db 6 Z3 jf Z Z Z (by rw[hl];rfl)) ?_
    refine ir 10 Z Z Z c1 (eh ji Z jp Z Z)<|ir 11 Z Z Z c1 (gy ju Z)<|ir 12 Z Z Z c1 (C7 Z)<|ir 13 Z Z Z c1 (db 6 Z3 jf Z Z Z (by rw[hl];rfl)) ?_
    refine ir 14 Z Z Z c1 (eh ji Z jp Z Z)<|ir 15 Z Z Z c1 (gy ju Z)<|ir 16 Z Z Z c1 (Gv.gtr Z Z)<|ao 17 Z (Fh Z c1 Z)<|ao 18 Z (EK Z)<|bt.case (s:=63) Z (fun c2=>?_) (fun c2=>?_)
    ·refine ir 19 Z Z Z c2 (C7 Z)<|ir 20 Z Z Z c2 (db 7 Z3 jf Z Z Z (by rw[hl];rfl)) ?_
     refine ir 21 Z Z Z c2 (yl jg jf Z Z)<|ir 22 Z Z Z c2 (C7 Z)<|ir 23 Z Z Z c2 (db 3 Z3 jf Z Z Z (by rw[hl];rfl)) ?_
     refine ir 24 Z Z Z c2 (yl jg jf Z Z)<|ir 25 Z Z Z c2 (Gv.eqlP (xs:=[.int _ _,.int _ _]) (ys:=[.int _ _,.int _ _]) (by kernel_rfl) Z Z (fun w=>eL _ _ _ _ w))<|ao 26 Z (Fh Z c2 Z)<|ao 27 Z (sA Z)<|bO ?_
     exact ⟨_,trivial,aT,aJ,by simp_all⟩
    ·refine fm 19 Z Z Z c2<|fm 20 Z Z Z c2<|fm 21 Z Z Z c2<|fm 22 Z Z Z c2<|fm 23 Z Z Z c2<|fm 24 Z Z Z c2<|fm 25 Z Z Z c2<|ao 26 Z (C8 Z c2 Z)<|ao 27 Z (sA Z)<|bO ?_
     exact ⟨_,trivial,aT,aJ,by simp_all⟩
   ·refine fm 8 Z Z Z c1<|fm 9 Z Z Z c1<|fm 10 Z Z Z c1<|fm 11 Z Z Z c1<|fm 12 Z Z Z c1<|fm 13 Z Z Z c1<|fm 14 Z Z Z c1<|fm 15 Z Z Z c1<|fm 16 Z Z Z c1<|ao 17 Z (C8 Z c1 Z)<|ao 18 Z (EK Z)<|fm 19 Z Z Z Z<|fm 20 Z Z Z Z<|fm 21 Z Z Z Z<|fm 22 Z Z Z Z<|fm 23 Z Z Z Z<|fm 24 Z Z Z Z<|fm 25 Z Z Z Z<|ao 26 Z (C8 Z Z Z)<|ao 27 Z (sA Z)<|bO ?_
    exact ⟨_,trivial,aT,aJ,by simp_all⟩
  ·rintro u hu
   refine zh<|zm (x:=.bool _) Z ?_
   exact jb hu
 ·have hl:gx a b=[(a,a),(b,b),(1,1),(a,b),(0,1),(a+1,b - 1+1),(a,b - 1),(b,b)]:=if_neg h
  refine za Z Z Z<|bh Z<|za Z Z Z<|au Z3 Z<|za Z Z Z<|aj jt Z Y4 Z Z<|za Z Z Z<|bd Yb Z<|za Z Z Z<|au Zd Z<|za Z Z Z<|z7 (yw Z Z)<|aD Z Z Z<|ay Z<|za Z Z (by rw[hl];rfl)<|bh Z<|za Z Z (by rw[hl];rfl)<|au Z3 Z<|za Z Z (by rw[hl];rfl)<|ax Z Z<|z7 (C8 Z (by rw[hl];rfl) Z)<|z6<|yn Z (by rw[hl];rfl)<|zi<|ze<|ae<|aa Z<|aa Z<|z7 (qa Z Z)<|z6<|yn Z (decide_eq_false h)<|zi<|ze<|ym (γ:=Bool) [] (fun u=>[(4,.bool u)]) (fun u=>[]) (fun u=>u=true) ?_ (fun _ _ h=>h) ?_
  ·refine bD<|bh Z<|z7 (db 3 Z3 jf Z Z Z (by rw[hl];rfl)) ?_
   refine ab jg jf Z Z<|aa Z<|aa Z<|z7 (zt (cps:=[(0,[_]),(1,[_])]) (rs:=[_,_]) iI Z Z Z)<|z7 (Gv.eqlP (xs:=[.int _ _,.int _ _]) (ys:=[.int _ _,.int _ _]) (by kernel_rfl) Z Z (fun w=>eL _ _ _ _ w))<|ay Z<|zx (s:=79) Z (fun c3=>?_) (fun c3=>?_)
   ·refine za Z Z c3<|bh Z<|za Z Z c3<|z7 (db 6 Z3 jf Z Z Z (by rw[hl];rfl)) ?_
    refine za Z Z c3<|ab jg jf Z Z<|za Z Z c3<|aa Z<|za Z Z c3<|aa Z<|za Z Z c3<|z7 (Gv.sub Z Z (by unfold pq;omega))<|za Z Z c3<|z7 (zt (cps:=[(0,[_]),(1,[_])]) (rs:=[_,_]) iI Z Z Z)<|za Z Z c3<|z7 (Gv.eqlP (xs:=[.int _ _,.int _ _]) (ys:=[.int _ _,.int _ _]) (by kernel_rfl) Z Z (fun w=>eL _ _ _ _ w))<|aM Z c3 Z<|ay Z<|zx (s:=89) Z (fun c4=>?_) (fun c4=>?_)
    ·refine za Z Z c4<|bh Z<|za Z Z c4<|z7 (db 7 Z3 jf Z Z Z (by rw[hl];rfl)) ?_
     refine za Z Z c4<|ab jg jf Z Z<|za Z Z c4<|aa Z<|za Z Z c4<|aa Z<|za Z Z c4<|z7 (zt (cps:=[(0,[_]),(1,[_])]) (rs:=[_,_]) iI Z Z Z)<|za Z Z c4<|z7 (Gv.eqlP (xs:=[.int _ _,.int _ _]) (ys:=[.int _ _,.int _ _]) (by kernel_rfl) Z Z (fun w=>eL _ _ _ _ w))<|aM Z c4 Z<|ay Z<|zx (s:=98) Z (fun c5=>?_) (fun c5=>?_)
     ·refine za Z Z c5<|bh Z<|za Z Z c5<|z7 (db 5 Z3 jf Z Z Z (by rw[hl];rfl)) ?_
      refine za Z Z c5<|aj ji Z jp Z Z<|za Z Z c5<|aw ju Z<|za Z Z c5<|aa Z<|za Z Z c5<|ak Z Z<|aM Z c5 Z<|ad Z<|z6 ?_
      exact ⟨_,trivial,aT,aJ,by simp_all⟩
     ·refine z8 Z Z c5<|z8 Z Z c5<|z8 Z Z c5<|z8 Z Z c5<|z8 Z Z c5<|z8 Z Z c5<|aD Z c5 Z<|ad Z<|z6 ?_
      exact ⟨_,trivial,aT,aJ,by simp_all⟩
    ·refine z8 Z Z c4<|z8 Z Z c4<|z8 Z Z c4<|z8 Z Z c4<|z8 Z Z c4<|z8 Z Z c4<|z8 Z Z c4<|aD Z c4 Z<|ay Z<|z8 Z Z Z<|z8 Z Z Z<|z8 Z Z Z<|z8 Z Z Z<|z8 Z Z Z<|z8 Z Z Z<|aD Z Z Z<|ad Z<|z6 ?_
     exact ⟨_,trivial,aT,aJ,by simp_all⟩
   ·refine z8 Z Z c3<|z8 Z Z c3<|z8 Z Z c3<|z8 Z Z c3<|z8 Z Z c3<|z8 Z Z c3<|z8 Z Z c3<|z8 Z Z c3<|aD Z c3 Z<|ay Z<|z8 Z Z Z<|z8 Z Z Z<|z8 Z Z Z<|z8 Z Z Z<|z8 Z Z Z<|z8 Z Z Z<|z8 Z Z Z<|aD Z Z Z<|ay Z<|z8 Z Z Z<|z8 Z Z Z<|z8 Z Z Z<|z8 Z Z Z<|z8 Z Z Z<|z8 Z Z Z<|aD Z Z Z<|ad Z<|z6 ?_
    exact ⟨_,trivial,aT,aJ,by simp_all⟩
  ·rintro u hu
   refine zh<|zm (x:=.bool _) Z ?_
   exact jb hu
end
section
open Go.Proofs.Tryz
open Go.Proofs Go.Lib Go.Shelf Go.RowKit Go.WideShapes
set_option maxRecDepth 20000
variable {W:World}
theorem C6 {H:Type} {enc:TypeId × Value→H} {held:Bool} {T:TypeId} {base:Nat} {v:Value} {d:DataW H} {p:List MemPlace} (ht:prog.underlying T=some (.int .i64))
  (hv:Value.okWide prog W .any base T v) (h:DataW.Trod enc prog W 0 (fun _=>true) held T v d p):∃n:Int,aK n∧v=.int .i64 n:=by
 obtain ⟨n,rfl⟩:=okWide_int ht hv
 obtain ⟨fuel,h⟩:=h
 obtain ⟨m,h1,h2⟩:=H8.int ht enc held fuel _ _ h
 obtain ⟨v,_,e,h2,h3⟩:=h2
 cases e
 cases h2
 exact ⟨n,by simpa [aK,Lit.wf,IntKind.min,IntKind.max,IntKind.signed,IntKind.bits] using h1,rfl⟩
theorem Ir:RExtra prog Tryz.lays200_ren:=⟨by kernel_rfl,by kernel_rfl,by kernel_rfl,by kernel_rfl,by kernel_rfl,by kernel_rfl,by kernel_rfl,by kernel_rfl⟩
theorem vL (h:Lib.VarReads prog W "unicode.properties" (Lib.tabData .u8 Lib.propertiesTab)) (h2:Lib.VarReads prog W "unicode.Letter" (Lib.rtabData letterT)):aE W:=
 ⟨jd (g:=3) (by kernel_rfl) (by kernel_rfl) underlying239 underlying5 (by kernel_rfl) (by kernel_rfl) h,
  rvar_of_reads { Tryz.lays200 with } Ir (name:="unicode.Letter") (g:=4) (by kernel_rfl) (by kernel_rfl) h2⟩
end
section
open Go.Proofs.Tryz
open Go.Proofs
theorem Is:prog.mayEnter=true:=by kernel_rfl
theorem HO:(Rows.rangesCountRow.lifted == prog.liftsFinal)=true:=by kernel_rfl
theorem HP:(prog.make == some Rows.rangesCountRow.make)=true:=by kernel_rfl
theorem HQ:laidOutB prog=true:=by kernel_rfl
theorem It:mapsRowed prog=true:=by kernel_rfl
theorem HR:(prog.stops == [])=true:=by kernel_rfl
theorem HS:(prog.stopKnobs == [])=true:=by kernel_rfl
theorem HT:(Rows.rangesCountRow.plainKeys == prog.plainKeys)=true:=by kernel_rfl
theorem Gz:prog.stopsHeard=true:=by kernel_rfl
theorem Ix:(Rows.rangesCountRow.inPlace == prog.inPlace 3)=true:=by kernel_rfl
theorem Iy:(Rows.rangesCountRow.unfollowed == prog.unfollowed 3)=true:=by kernel_rfl
theorem Iu:(Rows.rangesCountRow.recurses == prog.recurses 3)=true:=by kernel_rfl
theorem Iv:(Rows.rangesCountRow.named == prog.varsNamed 3)=true:=by kernel_rfl
theorem closed:joinedFacts prog 3 Tryz.f3 Rows.rangesCountSpec Rows.rangesCountRow=true:=by
 unfold joinedFacts
 rw[HQ,It,HR,HS,Ix,Iy,Iu,Iv,HT,Gz,Is,HO,HP]
 kernel_rfl
end
section
open Go.Proofs.Tryz
open Go.Proofs Go.Lib Go.Shelf Go.RowKit
variable {W:World}
theorem EF (h:Lib.VarReads prog W "internal/strconv.uint64pow10" (Lib.tabData .u64 Lib.pow10Tab)):d7 W:=
 jd (g:=0) (by kernel_rfl) (by kernel_rfl) underlying221 Zy (by kernel_rfl) (by kernel_rfl) h
end
end Go.Proofs.YthphijnnbfjikaaGreatDoor
