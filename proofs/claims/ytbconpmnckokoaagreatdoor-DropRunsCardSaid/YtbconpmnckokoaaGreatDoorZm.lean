/- Programs and lists of ranges, out of what a call is handed; the tables, out of what is laid. No conditions. -/
import Derived.Test.YtbconpmnckokoaaGreatDoorZi
import Derived.Test.YtbconpmnckokoaaGreatDoorZh
import Derived.Test.YtbconpmnckokoaaGreatDoorZl
import Derived.Test.YtbconpmnckokoaaGreatDoorZf
import Derived.Test.YtbconpmnckokoaaGreatDoorZe
import Derived.Lib.LaidRTab
set_option linter.unusedVariables false
set_option linter.unusedSimpArgs false
set_option linter.unusedSectionVars false
namespace Go.Proofs.YtbconpmnckokoaaGreatDoor
section
open Go.Proofs.Tryz
open Go.Proofs Go.Lib Go.Shelf Go.RowKit
variable {E:World}
set_option maxRecDepth 20000
theorem EB (a b c d e f g h:Int) (w:World):(Op.equalIn 10000 48 (.agg [.int .i64 a,.int .i64 b,.int .i64 c,.int .i64 d,.int .i64 e,.int .i64 f,.int .i64 g,.int .i64 h].toArray) (.agg [.int .i64 a,.int .i64 b,.int .i64 c,.int .i64 d,.int .i64 e,.int .i64 f,.int .i64 g,.int .i64 h].toArray)).run prog w=.ok true w:=by
 rw[Op.equalIn]
 simp only[Sem.run_bind,run_underlying jh,Result.andThen_ok]
 simp only[Std.Legacy.Range.forIn_eq_forIn_range',Std.Legacy.Range.size,Nat.sub_zero,Nat.add_sub_cancel,Nat.div_one,List.range'_succ,List.range'_zero,List.forIn_cons,List.forIn_nil]
 simp[part,je,j7,run_equalIn_int,underlying3]
theorem pM (s:GS) (hl:s.trace.length≤281474976710656):aV prog E 20 [.agg (gO s),.agg (gO s)] (.bool true):=by
 have ha:=pL (E:=E) s s hl
 rw[show iG s s=true by unfold iG;simp] at ha
 refine zr func20 Z (by decide) Z<|ao<|yf (cs:=_) Z Z Z<|yf (cs:=_) Z Z Z<|ab Z<|z6<|ao<|ac isAgg53 jz Z Z<|ac isAgg53 jz Z Z<|zh (ha) Z<|ah Z<|z7 Z Z Z<|aw jf Z j7 Z Z<|z7 Z Z Z<|aN je Z<|z7 Z Z Z<|aw jf Z j7 Z Z<|z7 Z Z Z<|aN je Z<|z7 Z Z Z<|az Z Z<|ap Z Z Z<|ah Z<|z7 Z Z (by simp)<|aw jf Z Z1 Z Z<|z7 Z Z (by simp)<|ac isAgg48 Z1 Z Z<|z7 Z Z (by simp)<|aw jf Z Z1 Z Z<|z7 Z Z (by simp)<|ac isAgg48 Z1 Z Z<|z7 Z Z (by simp)<|z8 (Gv.eqlP (xs:=[.int _ _,.int _ _,.int _ _,.int _ _,.int _ _,.int _ _,.int _ _,.int _ _]) (ys:=[.int _ _,.int _ _,.int _ _,.int _ _,.int _ _,.int _ _,.int _ _,.int _ _]) (by kernel_rfl) Z Z (fun w=>EB _ _ _ _ _ _ _ _ w))<|z8 (yS Z (by simp) Z)<|ab Z<|z6<|ze<|zi (x:=.bool _) Z ?_
 rfl
theorem pN {f:ai} (h:b5 f):∀b∈f.blocks,∀x∈b.insts,0≤x.op∧x.op≤26:=fun b hb x hx=>by
 obtain ⟨h1,h2,_⟩:=(h.2.2.2.2.2 b hb).2.1 x hx
 exact ⟨h1,h2⟩
def c8 (c:Nat→Nat):List AV:=[.int .i64 (c 0),.int .i64 (c 1),.int .i64 (c 2),.int .i64 (c 3),.int .i64 (c 4),.int .i64 (c 5),.int .i64 (c 6),.int .i64 (c 7)]
def kl (c:Nat→Nat) (j:Nat):Nat→Nat:=fun i=>c i+if i=j then 1 else 0
theorem CA (c:Nat→Nat):([.int .i64 (c 0),.int .i64 ((c 1:Int)+1),.int .i64 (c 2),.int .i64 (c 3),.int .i64 (c 4),.int .i64 (c 5),.int .i64 (c 6),.int .i64 (c 7)]:List AV)=c8 (kl c 1):=by simp[c8,kl]
theorem CB (c:Nat→Nat):([.int .i64 (c 0),.int .i64 (c 1),.int .i64 ((c 2:Int)+1),.int .i64 (c 3),.int .i64 (c 4),.int .i64 (c 5),.int .i64 (c 6),.int .i64 (c 7)]:List AV)=c8 (kl c 2):=by simp[c8,kl]
theorem CC (c:Nat→Nat):([.int .i64 (c 0),.int .i64 (c 1),.int .i64 (c 2),.int .i64 ((c 3:Int)+1),.int .i64 (c 4),.int .i64 (c 5),.int .i64 (c 6),.int .i64 (c 7)]:List AV)=c8 (kl c 3):=by simp[c8,kl]
theorem CD (c:Nat→Nat):([.int .i64 (c 0),.int .i64 (c 1),.int .i64 (c 2),.int .i64 (c 3),.int .i64 ((c 4:Int)+1),.int .i64 (c 5),.int .i64 (c 6),.int .i64 (c 7)]:List AV)=c8 (kl c 4):=by simp[c8,kl]
theorem CE (c:Nat→Nat):([.int .i64 (c 0),.int .i64 (c 1),.int .i64 (c 2),.int .i64 (c 3),.int .i64 (c 4),.int .i64 ((c 5:Int)+1),.int .i64 (c 6),.int .i64 (c 7)]:List AV)=c8 (kl c 5):=by simp[c8,kl]
theorem CF (c:Nat→Nat):([.int .i64 (c 0),.int .i64 (c 1),.int .i64 (c 2),.int .i64 (c 3),.int .i64 (c 4),.int .i64 (c 5),.int .i64 ((c 6:Int)+1),.int .i64 (c 7)]:List AV)=c8 (kl c 6):=by simp[c8,kl]
theorem CG (c:Nat→Nat):([.int .i64 (c 0),.int .i64 (c 1),.int .i64 (c 2),.int .i64 (c 3),.int .i64 (c 4),.int .i64 (c 5),.int .i64 (c 6),.int .i64 ((c 7:Int)+1)]:List AV)=c8 (kl c 7):=by simp[c8,kl]
def be (a b:Nat→Nat) (j:Nat):Nat→Nat:=fun q=>if q<j then a q else b q
theorem Ak {a b c:Nat→Nat} (h:∀q,b q=a q+c q):([.int .i64 (((be a b 0 0:Nat):Int) - (c 0:Int)),.int .i64 ((be a b 0 1:Nat):Int),.int .i64 ((be a b 0 2:Nat):Int),.int .i64 ((be a b 0 3:Nat):Int),.int .i64 ((be a b 0 4:Nat):Int),.int .i64 ((be a b 0 5:Nat):Int),.int .i64 ((be a b 0 6:Nat):Int),.int .i64 ((be a b 0 7:Nat):Int)]:List AV)=c8 (be a b 1):=by
 have:=h 0
 simp[c8,be];omega
theorem Al {a b c:Nat→Nat} (h:∀q,b q=a q+c q):([.int .i64 ((be a b 1 0:Nat):Int),.int .i64 (((be a b 1 1:Nat):Int) - (c 1:Int)),.int .i64 ((be a b 1 2:Nat):Int),.int .i64 ((be a b 1 3:Nat):Int),.int .i64 ((be a b 1 4:Nat):Int),.int .i64 ((be a b 1 5:Nat):Int),.int .i64 ((be a b 1 6:Nat):Int),.int .i64 ((be a b 1 7:Nat):Int)]:List AV)=c8 (be a b 2):=by
 have:=h 1
 simp[c8,be];omega
theorem Am {a b c:Nat→Nat} (h:∀q,b q=a q+c q):([.int .i64 ((be a b 2 0:Nat):Int),.int .i64 ((be a b 2 1:Nat):Int),.int .i64 (((be a b 2 2:Nat):Int) - (c 2:Int)),.int .i64 ((be a b 2 3:Nat):Int),.int .i64 ((be a b 2 4:Nat):Int),.int .i64 ((be a b 2 5:Nat):Int),.int .i64 ((be a b 2 6:Nat):Int),.int .i64 ((be a b 2 7:Nat):Int)]:List AV)=c8 (be a b 3):=by
 have:=h 2
 simp[c8,be];omega
theorem Ao {a b c:Nat→Nat} (h:∀q,b q=a q+c q):([.int .i64 ((be a b 3 0:Nat):Int),.int .i64 ((be a b 3 1:Nat):Int),.int .i64 ((be a b 3 2:Nat):Int),.int .i64 (((be a b 3 3:Nat):Int) - (c 3:Int)),.int .i64 ((be a b 3 4:Nat):Int),.int .i64 ((be a b 3 5:Nat):Int),.int .i64 ((be a b 3 6:Nat):Int),.int .i64 ((be a b 3 7:Nat):Int)]:List AV)=c8 (be a b 4):=by
 have:=h 3
 simp[c8,be];omega
theorem Ap {a b c:Nat→Nat} (h:∀q,b q=a q+c q):([.int .i64 ((be a b 4 0:Nat):Int),.int .i64 ((be a b 4 1:Nat):Int),.int .i64 ((be a b 4 2:Nat):Int),.int .i64 ((be a b 4 3:Nat):Int),.int .i64 (((be a b 4 4:Nat):Int) - (c 4:Int)),.int .i64 ((be a b 4 5:Nat):Int),.int .i64 ((be a b 4 6:Nat):Int),.int .i64 ((be a b 4 7:Nat):Int)]:List AV)=c8 (be a b 5):=by
 have:=h 4
 simp[c8,be];omega
theorem Aq {a b c:Nat→Nat} (h:∀q,b q=a q+c q):([.int .i64 ((be a b 5 0:Nat):Int),.int .i64 ((be a b 5 1:Nat):Int),.int .i64 ((be a b 5 2:Nat):Int),.int .i64 ((be a b 5 3:Nat):Int),.int .i64 ((be a b 5 4:Nat):Int),.int .i64 (((be a b 5 5:Nat):Int) - (c 5:Int)),.int .i64 ((be a b 5 6:Nat):Int),.int .i64 ((be a b 5 7:Nat):Int)]:List AV)=c8 (be a b 6):=by
 have:=h 5
 simp[c8,be];omega
theorem Ar {a b c:Nat→Nat} (h:∀q,b q=a q+c q):([.int .i64 ((be a b 6 0:Nat):Int),.int .i64 ((be a b 6 1:Nat):Int),.int .i64 ((be a b 6 2:Nat):Int),.int .i64 ((be a b 6 3:Nat):Int),.int .i64 ((be a b 6 4:Nat):Int),.int .i64 ((be a b 6 5:Nat):Int),.int .i64 (((be a b 6 6:Nat):Int) - (c 6:Int)),.int .i64 ((be a b 6 7:Nat):Int)]:List AV)=c8 (be a b 7):=by
 have:=h 6
 simp[c8,be];omega
theorem As {a b c:Nat→Nat} (h:∀q,b q=a q+c q):([.int .i64 ((be a b 7 0:Nat):Int),.int .i64 ((be a b 7 1:Nat):Int),.int .i64 ((be a b 7 2:Nat):Int),.int .i64 ((be a b 7 3:Nat):Int),.int .i64 ((be a b 7 4:Nat):Int),.int .i64 ((be a b 7 5:Nat):Int),.int .i64 ((be a b 7 6:Nat):Int),.int .i64 (((be a b 7 7:Nat):Int) - (c 7:Int))]:List AV)=c8 (be a b 8):=by
 have:=h 7
 simp[c8,be];omega
theorem Au {s t:GS} {p gn:Nat} {c:Nat→Nat} (h:s=up t p gn c):[.int .i64 s.en,.int .i64 s.val,.int .i64 s.tr,.fro 1 (s.trace.map bS),.int .i64 t.st]++c8 (be t.ck s.ck 8)=gO t:=by
 subst h;rfl
structure jS (l:List Bool) (f:ai) (i:pj) (n k gn:Nat) (c:Nat→Nat) (s t:GS):Prop where
 kn:k≤n
 gk:gn≤k
 D:fM l f s t gn c
 run:t=fR (ba l f) (k - gn) (g9 (ba l f) i)
 inv:bq f s
 st:s.st≤k
 ck:∀q,s.ck q≤k
variable {l:List Bool} {f:ai} {i:pj} {n k gn:Nat} {c:Nat→Nat} {s t:GS}
theorem jS.cle (h:jS l f i n k gn c s t) (q:Nat):c q≤k:=by
 have h1:=h.ck q
 have h2:s.ck q=t.ck q+c q:=congrArg (fun g:GS=>g.ck q) h.D.eq
 omega
theorem jS.gone (h:jS l f i n k gn c s t) (hR:ma f) (hk:k<n) {x:aD} (hx:(bP f s.blk).insts[s.pc]?=some x) (hg:cx l (jP f s) x=true) (hne:(bI f s).ended=false) :
  jS l f i n (k+1) (gn+1) (kl c (x.op - 17).toNat) (bI f s) t:=
 ⟨hk,by have:=h.gk;omega,h.D.gone hx hg hne,by rw[Nat.add_sub_add_right];exact h.run,h.inv.step hR,by rw[m6];have:=h.st;omega,fun q=>Nat.le_trans (m7 f s q) (by have:=h.ck q;omega)⟩
theorem jS.step (h:jS l f i n k gn c s t) (hR:ma f) (hk:k<n) (he:s.ended=false) (hg:∀x,(bP f s.blk).insts[s.pc]?=some x→cx l (jP f s) x=false) :
  jS l f i n (k+1) gn c (bI f s) (bI (ba l f) t):=by
 have ht:t.ended=false:=by rw[h.D.ended];exact he
 refine ⟨hk,by have:=h.gk;omega,h.D.step hg,?_,h.inv.step hR,by rw[m6];have:=h.st;omega,fun q=>Nat.le_trans (m7 f s q) (by have:=h.ck q;omega)⟩
 rw[show k+1 - gn=(k - gn)+1 by have:=h.gk;omega,lq,←h.run]
 show _=if t.ended=true then t else fR (ba l f) 0 (bI (ba l f) t)
 rw[if_neg (by rw[ht];decide)];rfl
theorem jS.out (h:jS l f i n k gn c s t) (he:k=n∨s.ended=true):t=fR (ba l f) (n - gn) (g9 (ba l f) i):=by
 rcases he with rfl|he
 ·exact h.run
 ·have ht:t.ended=true:=by rw[h.D.ended];exact he
  rw[show n - gn=(k - gn)+(n - k) by have:=h.kn;have:=h.gk;omega,lq,←h.run,mB ht]
set_option maxHeartbeats 8000000 in
theorem nt (f:ai) (hw:og f) (h64:∀b∈f.blocks,∀x∈b.insts,bT x.num) (hL:ae E) (hlv:aV prog E 5 [] (.bool true)) (i:pj) (hi64:Co i) (hil:i.args.length≤9223372036854775807) (hil2:i.arrays.length≤9223372036854775807) (m:Int) (hm:0≤m∧m≤65535) (l:List Bool) (hll:l.length≤9223372036854775807):aV prog E 4 [.agg (bW f),.agg (mI i),.int .u16 m,.fro 1 (l.map zW)] (.bool true):=by
 refine zr func4 Z (by decide) Z<|ao<|yf (cs:=_) Z Z Z<|yf (cs:=_) Z Z Z<|ab Z<|z6<|zb<|ao<|zh (hlv) Z<|aE Z<|ah Z<|z7 Z Z Z<|ac jq jl Z Z<|z7 Z Z Z<|zh (mc f hw hL) Z<|z7 Z Z Z<|aE Z<|aq Z Z Z<|ah Z<|zm (s:=28) Z (fun c1=>?_) (fun c1=>?_)
 ·refine z2 Z Z c1<|z2 Z Z c1<|z2 Z Z c1<|ap Z c1 Z<|ah Z<|z2 Z Z Z<|z2 Z Z Z<|z2 Z Z Z<|z2 Z Z Z<|ap Z Z Z<|ah Z<|z2 Z Z Z<|z2 Z Z Z<|z2 Z Z Z<|z2 Z Z Z<|z2 Z Z Z<|z2 Z Z Z<|ap Z Z Z<|z6<|yq Z Z<|ao<|zh (hlv) Z<|ab Z<|z6<|ze<|zi (x:=.bool _) Z ?_
  rfl
 ·have hlt:vl f=true∧cK f=true:=by
   cases h:(vl f&&cK f) with
   |false=>rw[h] at c1;cases c1
   |true=>exact (qz _ _).mp h
  have hsm:=((ly f).1 hlt.1).small
  have ht:=hlt.2
  have hS:=ga ht
  have hop:=pN hS
  refine z7 Z Z c1<|ac isAgg42 sizeOf42 Z Z<|z7 Z Z c1<|zh (nr i hil hil2) Z<|z7 Z Z c1<|aE Z<|aq Z c1 Z<|ah Z<|zm (s:=33) Z (fun c2=>?_) (fun c2=>?_)
  ·refine z2 Z Z c2<|z2 Z Z c2<|z2 Z Z c2<|z2 Z Z c2<|ap Z c2 Z<|ah Z<|z2 Z Z Z<|z2 Z Z Z<|z2 Z Z Z<|z2 Z Z Z<|z2 Z Z Z<|z2 Z Z Z<|ap Z Z Z<|z6<|yq Z Z<|ao<|zh (hlv) Z<|ab Z<|z6<|ze<|zi (x:=.bool _) Z ?_
   rfl
  ·have hsi:eV i=true:=by cases h:eV i;rw[h] at c2;cases c2;rfl
   have hsi2:i.args.length≤20∧i.arrays.length≤40:=by unfold eV at hsi;simp only[qz,decide_eq_true_eq] at hsi;exact ⟨hsi.1,hsi.2.1⟩
   refine z7 Z Z c2<|ac jq jl Z Z<|z7 Z Z c2<|ac isAgg42 sizeOf42 Z Z<|z7 Z Z c2<|zh (oF f i (f8 hS) (by omega) (by omega)) Z<|z7 Z Z c2<|z8 (yl Z Z)<|aq Z c2 Z<|ah Z<|zm (s:=39) Z (fun c3=>?_) (fun c3=>?_)
   ·refine z2 Z Z c3<|z2 Z Z c3<|z2 Z Z c3<|z2 Z Z c3<|z2 Z Z c3<|z2 Z Z c3<|ap Z c3 Z<|z6<|yq Z Z<|ao<|zh (hlv) Z<|ab Z<|z6<|ze<|zi (x:=.bool _) Z ?_
    rfl
   ·have hri:eY f i=0:=by simpa using c3
    refine z7 Z Z c3<|z8 (eR Z)<|z7 Z Z c3<|aj jk Z<|z7 Z Z c3<|ac jq jl Z Z<|z7 Z Z c3<|zh (ig f hsm hop) Z<|z7 Z Z c3<|aj Y6 Z<|z7 Z Z c3<|z8 (yl Z Z)<|aq Z c3 Z<|z6<|zw Z (fun c4=>?_) (fun c4=>?_)
    ·refine ao<|zh (hlv) Z<|ab Z<|z6<|ze<|zi (x:=.bool _) Z ?_
     rfl
    ·have hl:l.length=(pA 0 f.blocks).length:=by simp at c4;omega
     have hR:=k9 hS h64
     have htg:cK (ba l f)=true:=pq ht
     have hsg:small (ba l f):=pt hsm
     have hSg:=ga htg
     have hRg:=k9 hSg (zT h64)
     obtain ⟨hgi,hia⟩:=bq.beg hR (f8 hS) (lc hS) hri hi64
     obtain ⟨hgg,hig⟩:=bq.beg hRg (f8 hSg) (lc hSg) (show eY (ba l f) i=0 from hri) hi64
     have hv:=hsm.1
     have hls:=hgi.ls
     have hlr:=hgi.lr
     have hl2:=ge (E:=E) (ba l f) hsg hL
     rw[htg] at hl2
     obtain ⟨n,hn⟩:∃n:Nat,m.tmod 501=(n:Int):=⟨(m.tmod 501).toNat,by have:=Int.tmod_nonneg 501 hm.1;omega⟩
     have hn2:n≤500:=by have:=Int.tmod_lt_of_pos m (show (0:Int)<501 by decide);omega
     have hnw:IntKind.i64.wrap (m.tmod 501)=(n:Int):=by rw[hn];unfold IntKind.wrap;simp[IntKind.bits,IntKind.signed];omega
     refine zg<|ao<|ac jq jl Z Z<|z8 (eR Z)<|zh (vt f hsm hL ht l hl) Z<|z8 (Eo Z)<|z8 (Gv.extract (v:=.agg _) Z Z)<|z8 (BT Z Z)<|zz (cs:=[.raw (.slice none 0 0),.raw (.slice none 0 0),.raw (.slice none 0 0)]) Zu Z Z<|fun i9=>zx jl Z Z Z Z Z Z .head Z<|zt (yo (t:=9) Z .head)<|ax Z<|z6<|zb<|ao<|aa Z<|z8 (yl Z Z)<|ah Z<|z7 Z Z Z<|ac jq jl Z Z<|z7 Z Z Z<|zh (hl2) Z<|z7 Z Z Z<|aE Z<|aq Z Z Z<|ah Z<|z7 Z Z Z<|aw jj Z jn Z Z<|z7 Z Z Z<|aT js Z<|z7 Z Z Z<|aj j6 Z<|z7 Z Z Z<|aw jj Z jn Z Z<|z7 Z Z Z<|aT js Z<|z7 Z Z Z<|aj j6 Z<|z7 Z Z Z<|z8 (yl Z Z) ?_
     refine aq Z Z Z<|z6<|yv Z (by simp;rfl)<|zg<|ao<|ac jq jl Z Z<|ac isAgg42 sizeOf42 Z Z<|yr Z (zq (.rest _)) (iX f i hv hia hls hlr) ?_
     rintro r72 O72 ⟨iw,ja,jb,jc,jo,jt,ids,hids,rfl,rfl⟩
     refine z8 (yJ Z)<|z6<|ao<|ax Z<|z6<|ao<|zz (cs:=[.int .i64 0,.int .i64 0,.int .i64 0,.int .i64 0,.int .i64 0,.int .i64 0,.int .i64 0,.int .i64 0]) zeroValue48 Z Z<|fun i13=>z6<|ao<|aa Z<|z8 (Gv.rem Z Z (by decide))<|z8 (Gv.conv underlying43 underlying3 Z)<|ax Z<|z6<|zb<|ao<|ax Z<|z6<|yp (γ:=Nat × Nat × (Nat→Nat) × GS × GS × Nat × Nat × List Nat) [5,9,11,13,14] (fun g=>[(12,.int .i64 g.2.1)]) (fun g=>(i13,.cells 48 (c8 g.2.2.1))::wO f iw ja jb jc g.2.2.2.2.2.1 g.2.2.2.2.2.2.1 g.2.2.2.2.2.2.2 g.2.2.2.1) (fun g=>(jS l f i n g.1 g.2.1 g.2.2.1 g.2.2.2.1 g.2.2.2.2.1∧g.2.2.2.2.2.2.2.length=g.2.2.2.1.arrays.length)∧(g.1=n∨g.2.2.2.1.ended=true)) ?_ (fun _ _ h=>h) ?_
     ·refine zk<|yd (γ:=Nat × Nat × (Nat→Nat) × GS × GS × Nat × Nat × List Nat) [3,4,5,9,11,13,14] (fun g=>[(15,.int .i64 g.1),(12,.int .i64 g.2.1)]) (fun g=>(i13,.cells 48 (c8 g.2.2.1))::wO f iw ja jb jc g.2.2.2.2.2.1 g.2.2.2.2.2.2.1 g.2.2.2.2.2.2.2 g.2.2.2.1) (fun g=>jS l f i n g.1 g.2.1 g.2.2.1 g.2.2.2.1 g.2.2.2.2.1∧g.2.2.2.2.2.2.2.length=g.2.2.2.1.arrays.length) (fun g=>n - g.1) (0,0,fun _=>0,g9 f i,g9 (ba l f) i,jo,jt,ids) dX aS (⟨⟨qr _,Nat.le_refl _,fM.beg i,Z,hgi,qr _,fun _=>qr _⟩,hids⟩) ?_
      rintro ⟨k,gn,c,s,t,jo,jt,ids⟩ ⟨hD,hids⟩
      try dsimp only at *
      refine zb<|ao<|aa Z<|aa Z<|ay Z Z<|ah Z<|zm (s:=79) Z (fun ck=>?_) (fun ck=>?_)
      ·have hk2:k<n:=by rw[hnw] at ck;simp at ck;omega
       refine z7 Z Z ck<|bd Z<|z7 Z Z ck<|z8 (zf Z)<|z7 Z Z ck<|z8 (za j8 Z Z8 (by decide) Z Z)<|z7 Z Z ck<|z8 (zd (c:=.bool _) Ye Z ⟨_,.t1⟩ Z)<|z7 Z Z ck<|aE Z<|ap Z ck Z<|z6<|zw Z (fun ce=>?_) (fun ce=>?_)
       ·have he:s.ended=false:=by simpa using ce
        obtain ⟨b,hb⟩:∃b:Nat,s.blk=(b:Int):=⟨s.blk.toNat,by have:=hD.inv.b0;omega⟩
        have hbl:b<f.blocks.length:=by have:=hD.inv.b1;omega
        obtain ⟨B,hB⟩:∃B,f.blocks[b]?=some B:=⟨_,qo hbl⟩
        have hBm:=qv hB
        have hbg:bP f s.blk=B:=by rw[hb];unfold bP;rw[Int.toNat_natCast,hB];rfl
        refine zg<|zb<|zk<|zb<|zo (fun j=>Nat.beq j 9) (by kernel_rfl) Z (zq (.l (.r (.rest _))))<|ad 0 Z (dV jj Z Z6 Z Z)<|ad 1 Z (jH Zk Z)<|ad 2 Z (dh Z)<|ad 3 Z (zf Z)<|ad 4 Z (za j8 Z j7 (by decide) Z Z)<|ad 5 Z (zd (c:=.int _ _) je Z ⟨_,.head⟩ Z)<|ad 6 Z (dj b jp ju Z Z hb hB)<|ad 7 Z (yu Y0 ju Z Z)<|bl 8 Z<|zz (cs:=[.str ⟨#[]⟩,.raw (.slice none 0 0),.raw (.slice none 0 0),.int .i64 0,.int .i64 0,.int .i64 0,.int .i64 0]) Ze Z Z<|fun i16=>z6<|ya<|yg (i:=9) Z (by kernel_rfl) (by kernel_rfl)<|zx ju Z Z Z Z Z Z .t1 Z<|z6<|ye (by kernel_rfl)<|zy (yo (t:=16) Z .t1)<|ao<|ab Z<|z6<|zb<|zb<|zo (fun j=>false) (by kernel_rfl) Z (zq (.r (.rest _)))<|ad 0 Z (dh Z)<|ad 1 Z (zf Z)<|ad 2 Z (za j8 Z j7 (by decide) Z Z)<|ad 3 Z (zd (c:=.int _ _) je Z ⟨_,.head⟩ Z)<|ad 4 Z (dV j9 Z jw Z Z)<|ad 5 Z (jH Zb Z)<|ad 6 Z (Gv.lenM jm Z)<|ad 7 Z (Gv.lss Z Z)<|dU<|yp (γ:=Bool × Nat × (Nat→Nat)) [3,4,5,9,11,13,14,15] (fun u=>[(17,.bool u.1),(12,.int .i64 u.2.1)]) (fun u=>(iw,.cells 55 (nU f ja jb jc jo jt s))::(i13,.cells 48 (c8 u.2.2))::wR ja jb jc jo jt ids s) (fun u=>(u.1=true∧∃x,(bP f s.blk).insts[s.pc]?=some x∧cx l (jP f s) x=true∧u.2.1=gn+1∧u.2.2=kl c (x.op - 17).toNat)∨(u.1=false∧(∀x,(bP f s.blk).insts[s.pc]?=some x→cx l (jP f s) x=false)∧u.2.1=gn∧u.2.2=c)) ?_ (fun _ _ h=>h) ?_
        ·refine zp Z (fun cp=>?_) (fun cp=>?_)
         ·have hp:s.pc<B.insts.length:=by simp at cp;omega
          obtain ⟨x,hx⟩:∃x,B.insts[s.pc]?=some x:=⟨_,qo hp⟩
          have hnum:=ij (E:=E) f hsm hop b s.pc
          rw[←hb] at hnum
          have hgn:=pD (l:=l) hB hx
          have hng:jP f s=bb f.blocks b+bQ (B.insts.take s.pc):=by unfold jP;rw[hbg,hb];rfl
          refine zb<|zo (fun j=>false) (by kernel_rfl) Z (zq (.r (.rest _)))<|ad 0 Z (yu jq jl Z Z)<|ad 1 Z (dh Z)<|ad 2 Z (zf Z)<|ad 3 Z (za j8 Z j7 (by decide) Z Z)<|ad 4 Z (zd (c:=.int _ _) je Z ⟨_,.head⟩ Z)<|ad 5 Z (dh Z)<|ad 6 Z (zf Z)<|ad 7 Z (za j8 Z j7 (by decide) Z Z)<|ad 8 Z (zd (c:=.int _ _) je Z ⟨_,.head⟩ Z)<|bl 9 Z<|zh (hnum) Z<|z6<|ad 10 Z (yR Z)<|dU<|zb<|yp (γ:=Bool) [3,4,5,9,11,12,13,14,15,16] (fun w=>[(17,.bool w)]) (fun w=>(iw,.cells 55 (nU f ja jb jc jo jt s))::(i13,.cells 48 (c8 c))::wR ja jb jc jo jt ids s) (fun w=>w=cx l (jP f s) x) ?_ (fun _ _ h=>h) ?_
          ·refine bj<|aa Z<|z8 (qg Z Z)<|ah Z<|zm (s:=116) Z (fun cn=>?_) (fun cn=>?_)
           ·have hn0:0≤ff f b s.pc:=by simpa using cn
            have hnl:(ff f b s.pc).toNat<l.length:=by
             have hk:=gc hB hx
             by_cases hc:gK x=true
             ·rw[if_pos hc] at hk
              have:=pz hB hx hc
              omega
             ·rw[if_neg hc] at hk;omega
            refine z7 Z Z cn<|z8 (eR Z)<|z7 Z Z cn<|aa Z<|z7 Z Z cn<|z8 (q8 (j:=(ff f b s.pc).toNat) jk Z8 Z Z (w0 hn0).symm (wQ hnl))<|z7 Z Z cn<|z8 (qi (c:=.bool _) Ye Z)<|ap Z cn Z<|ab Z<|z6 ?_
            exact ⟨_,(by repeat (first|with_reducible exact qa _ _|refine qj rfl ?_|exact ⟨rfl,rfl,rfl,rfl,rfl,rfl,rfl,rfl,rfl,rfl,trivial⟩)),aY,aS,by rw[hng,hgn,qx hn0,Bool.true_and,w0 hn0]⟩
           ·refine z2 Z Z cn<|z2 Z Z cn<|z2 Z Z cn<|z2 Z Z cn<|aq Z cn Z<|ab Z<|z6 ?_
            exact ⟨_,(by repeat (first|with_reducible exact qa _ _|refine qj rfl ?_|exact ⟨rfl,rfl,rfl,rfl,rfl,rfl,rfl,rfl,rfl,rfl,trivial⟩)),aY,aS,by rw[hng,hgn,cn,Bool.false_and]⟩
          ·rintro w hw
           refine ao<|ah Z<|z6<|zw Z (fun cw=>?_) (fun cw=>?_)
           ·have hgx:cx l (jP f s) x=true:=by rw[←hw];exact cw
            have hc7:18≤x.op∧x.op≤24:=by unfold cx gK at hgx;simp at hgx;exact hgx.1
            have hchk:=gf (E:=E) x.op (hop B hBm x (qv hx))
            rw[if_pos hc7] at hchk
            have hgk:=hD.gk
            refine ao<|aa Z<|aF Z Z<|ax Z<|z6 ?_
            have ht7:x.op - 17=1∨x.op - 17=2∨x.op - 17=3∨x.op - 17=4∨x.op - 17=5∨x.op - 17=6∨x.op - 17=7:=by omega
            rcases ht7 with h7|h7|h7|h7|h7|h7|h7
            ·have hcb:=hD.cle 1
             refine zo (fun j=>Nat.beq j 14) (by kernel_rfl) Z (zq (.r (.rest _)))<|ad 0 Z (dV j9 Z jw Z Z)<|ad 1 Z (jH Zb Z)<|ad 2 Z (dh Z)<|ad 3 Z (zf Z)<|ad 4 Z (za j8 Z j7 (by decide) Z Z)<|ad 5 Z (zd (c:=.int _ _) je Z ⟨_,.head⟩ Z)<|ad 6 Z (dj s.pc jm jv Z Z Z hx)<|ad 7 Z (dV jd Z Z7 Z Z)<|ad 8 Z (d8 Zh Z)<|bl 9 Z<|zh (hchk) Z<|z6<|ad 10 Z (yi (j:=1) jh j7 Z Z h7 (by decide) Z)<|bl 11 Z<|z8 (zd (c:=.int _ _) je Z ⟨_,.head⟩ Z)<|z6<|ad 12 Z (o7 Z Z)<|ad 13 Z (yi (j:=1) jh j7 Z Z h7 (by decide) Z)<|ya<|yg (i:=14) Z (by kernel_rfl) (by kernel_rfl)<|y8 (l:=[_]) (new:=[_,_,_,_,_,_,_,_]) j7 Z Z Z Z Z Z .t1 Z Z<|z6<|ye (by kernel_rfl) ?_
             exact ⟨(true,gn+1,kl c 1),(by repeat (first|with_reducible exact qa _ _|refine qj rfl ?_|exact oZ)),⟨congrArg AV.bool cw,rfl,trivial⟩,⟨_,(.refl _),congrArg (fun z=>(iw,aW.cells 55 (nU f ja jb jc jo jt s))::(i13,aW.cells 48 z)::wR ja jb jc jo jt ids s) (CA c)⟩,.inl ⟨rfl,x,by rw[hbg];exact hx,hgx,rfl,by rw[h7];rfl⟩⟩
            ·have hcb:=hD.cle 2
             refine zo (fun j=>Nat.beq j 14) (by kernel_rfl) Z (zq (.r (.rest _)))<|ad 0 Z (dV j9 Z jw Z Z)<|ad 1 Z (jH Zb Z)<|ad 2 Z (dh Z)<|ad 3 Z (zf Z)<|ad 4 Z (za j8 Z j7 (by decide) Z Z)<|ad 5 Z (zd (c:=.int _ _) je Z ⟨_,.head⟩ Z)<|ad 6 Z (dj s.pc jm jv Z Z Z hx)<|ad 7 Z (dV jd Z Z7 Z Z)<|ad 8 Z (d8 Zh Z)<|bl 9 Z<|zh (hchk) Z<|z6<|ad 10 Z (yi (j:=2) jh j7 Z Z h7 (by decide) Z)<|bl 11 Z<|z8 (zd (c:=.int _ _) je Z ⟨_,.head⟩ Z)<|z6<|ad 12 Z (o7 Z Z)<|ad 13 Z (yi (j:=2) jh j7 Z Z h7 (by decide) Z)<|ya<|yg (i:=14) Z (by kernel_rfl) (by kernel_rfl)<|y8 (l:=[_]) (new:=[_,_,_,_,_,_,_,_]) j7 Z Z Z Z Z Z .t1 Z Z<|z6<|ye (by kernel_rfl) ?_
             exact ⟨(true,gn+1,kl c 2),(by repeat (first|with_reducible exact qa _ _|refine qj rfl ?_|exact oZ)),⟨congrArg AV.bool cw,rfl,trivial⟩,⟨_,(.refl _),congrArg (fun z=>(iw,aW.cells 55 (nU f ja jb jc jo jt s))::(i13,aW.cells 48 z)::wR ja jb jc jo jt ids s) (CB c)⟩,.inl ⟨rfl,x,by rw[hbg];exact hx,hgx,rfl,by rw[h7];rfl⟩⟩
            ·have hcb:=hD.cle 3
             refine zo (fun j=>Nat.beq j 14) (by kernel_rfl) Z (zq (.r (.rest _)))<|ad 0 Z (dV j9 Z jw Z Z)<|ad 1 Z (jH Zb Z)<|ad 2 Z (dh Z)<|ad 3 Z (zf Z)<|ad 4 Z (za j8 Z j7 (by decide) Z Z)<|ad 5 Z (zd (c:=.int _ _) je Z ⟨_,.head⟩ Z)<|ad 6 Z (dj s.pc jm jv Z Z Z hx)<|ad 7 Z (dV jd Z Z7 Z Z)<|ad 8 Z (d8 Zh Z)<|bl 9 Z<|zh (hchk) Z<|z6<|ad 10 Z (yi (j:=3) jh j7 Z Z h7 (by decide) Z)<|bl 11 Z<|z8 (zd (c:=.int _ _) je Z ⟨_,.head⟩ Z)<|z6<|ad 12 Z (o7 Z Z)<|ad 13 Z (yi (j:=3) jh j7 Z Z h7 (by decide) Z)<|ya<|yg (i:=14) Z (by kernel_rfl) (by kernel_rfl)<|y8 (l:=[_]) (new:=[_,_,_,_,_,_,_,_]) j7 Z Z Z Z Z Z .t1 Z Z<|z6<|ye (by kernel_rfl) ?_
             exact ⟨(true,gn+1,kl c 3),(by repeat (first|with_reducible exact qa _ _|refine qj rfl ?_|exact oZ)),⟨congrArg AV.bool cw,rfl,trivial⟩,⟨_,(.refl _),congrArg (fun z=>(iw,aW.cells 55 (nU f ja jb jc jo jt s))::(i13,aW.cells 48 z)::wR ja jb jc jo jt ids s) (CC c)⟩,.inl ⟨rfl,x,by rw[hbg];exact hx,hgx,rfl,by rw[h7];rfl⟩⟩
            ·have hcb:=hD.cle 4
             refine zo (fun j=>Nat.beq j 14) (by kernel_rfl) Z (zq (.r (.rest _)))<|ad 0 Z (dV j9 Z jw Z Z)<|ad 1 Z (jH Zb Z)<|ad 2 Z (dh Z)<|ad 3 Z (zf Z)<|ad 4 Z (za j8 Z j7 (by decide) Z Z)<|ad 5 Z (zd (c:=.int _ _) je Z ⟨_,.head⟩ Z)<|ad 6 Z (dj s.pc jm jv Z Z Z hx)<|ad 7 Z (dV jd Z Z7 Z Z)<|ad 8 Z (d8 Zh Z)<|bl 9 Z<|zh (hchk) Z<|z6<|ad 10 Z (yi (j:=4) jh j7 Z Z h7 (by decide) Z)<|bl 11 Z<|z8 (zd (c:=.int _ _) je Z ⟨_,.head⟩ Z)<|z6<|ad 12 Z (o7 Z Z)<|ad 13 Z (yi (j:=4) jh j7 Z Z h7 (by decide) Z)<|ya<|yg (i:=14) Z (by kernel_rfl) (by kernel_rfl)<|y8 (l:=[_]) (new:=[_,_,_,_,_,_,_,_]) j7 Z Z Z Z Z Z .t1 Z Z<|z6<|ye (by kernel_rfl) ?_
             exact ⟨(true,gn+1,kl c 4),(by repeat (first|with_reducible exact qa _ _|refine qj rfl ?_|exact oZ)),⟨congrArg AV.bool cw,rfl,trivial⟩,⟨_,(.refl _),congrArg (fun z=>(iw,aW.cells 55 (nU f ja jb jc jo jt s))::(i13,aW.cells 48 z)::wR ja jb jc jo jt ids s) (CD c)⟩,.inl ⟨rfl,x,by rw[hbg];exact hx,hgx,rfl,by rw[h7];rfl⟩⟩
            ·have hcb:=hD.cle 5
             refine zo (fun j=>Nat.beq j 14) (by kernel_rfl) Z (zq (.r (.rest _)))<|ad 0 Z (dV j9 Z jw Z Z)<|ad 1 Z (jH Zb Z)<|ad 2 Z (dh Z)<|ad 3 Z (zf Z)<|ad 4 Z (za j8 Z j7 (by decide) Z Z)<|ad 5 Z (zd (c:=.int _ _) je Z ⟨_,.head⟩ Z)<|ad 6 Z (dj s.pc jm jv Z Z Z hx)<|ad 7 Z (dV jd Z Z7 Z Z)<|ad 8 Z (d8 Zh Z)<|bl 9 Z<|zh (hchk) Z<|z6<|ad 10 Z (yi (j:=5) jh j7 Z Z h7 (by decide) Z)<|bl 11 Z<|z8 (zd (c:=.int _ _) je Z ⟨_,.head⟩ Z)<|z6<|ad 12 Z (o7 Z Z)<|ad 13 Z (yi (j:=5) jh j7 Z Z h7 (by decide) Z)<|ya<|yg (i:=14) Z (by kernel_rfl) (by kernel_rfl)<|y8 (l:=[_]) (new:=[_,_,_,_,_,_,_,_]) j7 Z Z Z Z Z Z .t1 Z Z<|z6<|ye (by kernel_rfl) ?_
             exact ⟨(true,gn+1,kl c 5),(by repeat (first|with_reducible exact qa _ _|refine qj rfl ?_|exact oZ)),⟨congrArg AV.bool cw,rfl,trivial⟩,⟨_,(.refl _),congrArg (fun z=>(iw,aW.cells 55 (nU f ja jb jc jo jt s))::(i13,aW.cells 48 z)::wR ja jb jc jo jt ids s) (CE c)⟩,.inl ⟨rfl,x,by rw[hbg];exact hx,hgx,rfl,by rw[h7];rfl⟩⟩
            ·have hcb:=hD.cle 6
             refine zo (fun j=>Nat.beq j 14) (by kernel_rfl) Z (zq (.r (.rest _)))<|ad 0 Z (dV j9 Z jw Z Z)<|ad 1 Z (jH Zb Z)<|ad 2 Z (dh Z)<|ad 3 Z (zf Z)<|ad 4 Z (za j8 Z j7 (by decide) Z Z)<|ad 5 Z (zd (c:=.int _ _) je Z ⟨_,.head⟩ Z)<|ad 6 Z (dj s.pc jm jv Z Z Z hx)<|ad 7 Z (dV jd Z Z7 Z Z)<|ad 8 Z (d8 Zh Z)<|bl 9 Z<|zh (hchk) Z<|z6<|ad 10 Z (yi (j:=6) jh j7 Z Z h7 (by decide) Z)<|bl 11 Z<|z8 (zd (c:=.int _ _) je Z ⟨_,.head⟩ Z)<|z6<|ad 12 Z (o7 Z Z)<|ad 13 Z (yi (j:=6) jh j7 Z Z h7 (by decide) Z)<|ya<|yg (i:=14) Z (by kernel_rfl) (by kernel_rfl)<|y8 (l:=[_]) (new:=[_,_,_,_,_,_,_,_]) j7 Z Z Z Z Z Z .t1 Z Z<|z6<|ye (by kernel_rfl) ?_
             exact ⟨(true,gn+1,kl c 6),(by repeat (first|with_reducible exact qa _ _|refine qj rfl ?_|exact oZ)),⟨congrArg AV.bool cw,rfl,trivial⟩,⟨_,(.refl _),congrArg (fun z=>(iw,aW.cells 55 (nU f ja jb jc jo jt s))::(i13,aW.cells 48 z)::wR ja jb jc jo jt ids s) (CF c)⟩,.inl ⟨rfl,x,by rw[hbg];exact hx,hgx,rfl,by rw[h7];rfl⟩⟩
            ·have hcb:=hD.cle 7
             refine zo (fun j=>Nat.beq j 14) (by kernel_rfl) Z (zq (.r (.rest _)))<|ad 0 Z (dV j9 Z jw Z Z)<|ad 1 Z (jH Zb Z)<|ad 2 Z (dh Z)<|ad 3 Z (zf Z)<|ad 4 Z (za j8 Z j7 (by decide) Z Z)<|ad 5 Z (zd (c:=.int _ _) je Z ⟨_,.head⟩ Z)<|ad 6 Z (dj s.pc jm jv Z Z Z hx)<|ad 7 Z (dV jd Z Z7 Z Z)<|ad 8 Z (d8 Zh Z)<|bl 9 Z<|zh (hchk) Z<|z6<|ad 10 Z (yi (j:=7) jh j7 Z Z h7 (by decide) Z)<|bl 11 Z<|z8 (zd (c:=.int _ _) je Z ⟨_,.head⟩ Z)<|z6<|ad 12 Z (o7 Z Z)<|ad 13 Z (yi (j:=7) jh j7 Z Z h7 (by decide) Z)<|ya<|yg (i:=14) Z (by kernel_rfl) (by kernel_rfl)<|y8 (l:=[_]) (new:=[_,_,_,_,_,_,_,_]) j7 Z Z Z Z Z Z .t1 Z Z<|z6<|ye (by kernel_rfl) ?_
             exact ⟨(true,gn+1,kl c 7),(by repeat (first|with_reducible exact qa _ _|refine qj rfl ?_|exact oZ)),⟨congrArg AV.bool cw,rfl,trivial⟩,⟨_,(.refl _),congrArg (fun z=>(iw,aW.cells 55 (nU f ja jb jc jo jt s))::(i13,aW.cells 48 z)::wR ja jb jc jo jt ids s) (CG c)⟩,.inl ⟨rfl,x,by rw[hbg];exact hx,hgx,rfl,by rw[h7];rfl⟩⟩
           ·have hgx:cx l (jP f s) x=false:=by rw[←hw];exact cw
            refine zg ?_
            exact ⟨(false,gn,c),(by repeat (first|with_reducible exact qa _ _|refine qj rfl ?_|exact oZ)),⟨congrArg AV.bool cw,rfl,trivial⟩,aS,.inr ⟨rfl,fun y hy=>by rw[hbg,hx] at hy;cases hy;exact hgx,rfl,rfl⟩⟩
         ·have hp:B.insts.length≤s.pc:=by simp at cp;omega
          refine zg ?_
          exact ⟨(false,gn,c),(by repeat (first|with_reducible exact qa _ _|refine qj rfl ?_|exact oZ)),dX,aS,.inr ⟨rfl,fun y hy=>(by rw[hbg,List.getElem?_eq_none hp] at hy;cases hy),rfl,rfl⟩⟩
        ·rintro ⟨dr,gn2,c2⟩ hu
         dsimp only at hu
         rcases hu with ⟨rfl,x,hx,hgx,rfl,rfl⟩|⟨rfl,hgx,rfl,rfl⟩
         ·refine ao<|bd Z<|yr Z (zq (.l (.r (.l (.l (.l (.l (.l (.l (.rest _)))))))))) (gN f iw ja jb jc jo jt ids s hids hD.inv hR hv hsm (by have:=hD.st;have:=hD.kn;omega) (fun q=>by have:=hD.ck q;have:=hD.kn;omega)) ?_
          rintro r140 O140 ⟨jo',jt',ids',hl',rfl,rfl⟩
          refine z6<|ao<|ah Z<|ah Z<|z7 Z Z Z<|bd Z<|z7 Z Z Z<|z8 (zf Z)<|z7 Z Z Z<|z8 (za j8 Z Z8 (by decide) Z Z)<|z7 Z Z Z<|z8 (zd (c:=.bool _) Ye Z ⟨_,.head⟩ Z)<|ap Z Z Z<|z6<|zw Z (fun cend=>?_) (fun cend=>?_)
          ·refine ao<|ab Z<|z6<|ze<|zi (x:=.bool _) Z ?_
           rfl
          ·have hne:(bI f s).ended=false:=by simpa using cend
           refine zy (zj (zn .head))<|zy (zj (zn .t7))<|zg<|bj<|aa Z<|aF Z Z<|ax Z<|z6 ?_
           exact ⟨(k+1,gn+1,kl c (x.op - 17).toNat,bI f s,t,jo',jt',ids'),jI,dX,aS,⟨hD.gone hR hk2 hx hgx hne,hl'⟩,by dsimp only;omega⟩
         ·refine ao<|bd Z<|yr Z (zq (.l (.r (.l (.l (.l (.l (.l (.l (.rest _)))))))))) (gN f iw ja jb jc jo jt ids s hids hD.inv hR hv hsm (by have:=hD.st;have:=hD.kn;omega) (fun q=>by have:=hD.ck q;have:=hD.kn;omega)) ?_
          rintro r140 O140 ⟨jo',jt',ids',hl',rfl,rfl⟩
          refine z6<|ao<|ah Z<|ah Z<|zt (zj (zn .head))<|zt (zj (zn .t7))<|z2 Z Z Z<|z2 Z Z Z<|z2 Z Z Z<|z2 Z Z Z<|aq Z Z Z<|z6<|yv Z Z<|zg<|bj<|aa Z<|aF Z Z<|ax Z<|z6 ?_
          exact ⟨(k+1,gn2,c2,bI f s,bI (ba l f) t,jo',jt',ids'),jI,dX,aS,⟨hD.step hR hk2 he hgx,hl'⟩,by dsimp only;omega⟩
       ·refine zy (zj (zn .t1))<|zy (zj (zn .t1))<|yc ?_
        exact ⟨(k,gn,c,s,t,jo,jt,ids),(by repeat (first|with_reducible exact qa _ _|refine qj rfl ?_|exact qJ)),aY,aS,⟨⟨hD,hids⟩,.inr (by simpa using ce)⟩⟩
      ·refine zt (zj (zn .t1))<|zt (zj (zn .t1))<|z2 Z Z ck<|z2 Z Z ck<|z2 Z Z ck<|z2 Z Z ck<|z2 Z Z ck<|aq Z ck Z<|z6<|yv Z Z<|yc ?_
       exact ⟨(k,gn,c,s,t,jo,jt,ids),(by repeat (first|with_reducible exact qa _ _|refine qj rfl ?_|exact qJ)),aY,aS,⟨⟨hD,hids⟩,.inl (by rw[hnw] at ck;simp at ck;have:=hD.kn;omega)⟩⟩
     ·rintro ⟨k,gn,c,s,t,jo,jt,ids⟩ ⟨⟨hD,hids⟩,hend⟩
      dsimp only at hD hids hend ⊢
      have hout:=hD.out hend
      have hkn:=hD.kn
      have hgk:=hD.gk
      have hsq:s.st=t.st+gn:=congrArg (fun g:GS=>g.st) hD.D.eq
      have hcq:∀q,s.ck q=t.ck q+c q:=fun q=>congrArg (fun g:GS=>g.ck q) hD.D.eq
      have hst2:=hD.st
      have hcl:=hD.cle
      have hck2:=hD.ck
      have hrun:=vz (E:=E) (ba l f) i (n - gn) hRg hsg.1 hsg hgg hig (by omega)
      rw[←hout] at hrun
      rw[show ((n - gn:Nat):Int)=IntKind.i64.wrap (m.tmod 501) - (gn:Int) by rw[hnw];omega] at hrun
      have htl:t.trace.length≤281474976710656:=by
       have h1:s.trace=(up t s.pc gn c).trace:=congrArg (fun g:GS=>g.trace) hD.D.eq
       have h1:s.trace=t.trace:=h1
       have:=hD.inv.lt
       rw[←h1];omega
      have hsam:=pM (E:=E) t htl
      refine zy (aZ.knowIC (off:=12) .t6 .t1 Z Z)<|ao<|bd Z<|z8 (zf Z)<|z8 (za j8 Z jz (by decide) Z Z)<|z8 (Gv.loadAC (l:=[_,_,_,_,_,_,_,_,_,_,_,_,_]) isAgg53 jz Z ⟨_,.t1⟩ Z Z)<|zz (cs:=[.int .i64 0,.int .i64 0,.int .i64 0,.raw (.slice none 0 0),.int .i64 0,.int .i64 0,.int .i64 0,.int .i64 0,.int .i64 0,.int .i64 0,.int .i64 0,.int .i64 0,.int .i64 0]) zeroValue53 Z Z<|fun i19=>zx jz Z Z Z Z Z Z .head Z<|z6<|ao<|z8 (za jf Z j7 (by decide) Z Z)<|z8 (zd (c:=.int _ _) je Z ⟨_,.head⟩ Z)<|aa Z<|z8 (qn Z Z (by unfold ft;omega))<|z8 (za jf Z j7 (by decide) Z Z)<|y8 (l:=[_]) (new:=[_,_,_,_,_,_,_,_,_,_,_,_,_]) j7 Z Z Z Z Z Z .head Z Z<|z6<|zy (qk .t2)<|zy (qk .t2)<|zy (qk .t2)<|zy (qk .t2)<|zy (qk .t2)<|zy (qk .t2)<|zy (yo (t:=13) Z .t1)<|zb<|ao<|aa Z<|z6<|zk<|yd (γ:=Nat) [5,9,12,13,14,19] (fun j=>[(157,.int .i64 j)]) (fun j=>[(i19,.cells 53 ([.int .i64 s.en,.int .i64 s.val,.int .i64 s.tr,.fro 1 (s.trace.map bS),.int .i64 t.st]++c8 (be t.ck s.ck j)))]) (fun j=>j≤8) (fun j=>8 - j) 0 aY ⟨_,(.refl _),congrArg (fun z=>[(i19,aW.cells 53 ([.int .i64 s.en,.int .i64 s.val,.int .i64 s.tr,.fro 1 (s.trace.map bS),.int .i64 z]++c8 s.ck))]) (show (s.st:Int) - gn=t.st by rw[hsq];push_cast;omega)⟩ (qr _) ?_
      rintro j hj
      refine ao<|ay Z Z<|z6<|zb<|zp Z (fun cj=>?_) (fun cj=>?_)
      ·have cj2:j<8:=by first|omega|(simp at cj;omega)
       have hcl2:=hcl j
       have hck3:=hck2 j
       have hmx:be t.ck s.ck j j=s.ck j:=if_neg (Nat.lt_irrefl j)
       have hj8:j=0∨j=1∨j=2∨j=3∨j=4∨j=5∨j=6∨j=7:=by omega
       refine zg<|zb<|zk<|ao<|aa Z<|ax Z<|z6 ?_
       rcases hj8 with rfl|rfl|rfl|rfl|rfl|rfl|rfl|rfl
       ·refine zo (fun j=>Nat.beq j 11) (by kernel_rfl) Z (zq (.rest _))<|ad 0 Z (cG Z)<|ad 1 Z (cG Z)<|ad 2 Z (za jf Z Z1 (by decide) Z Z)<|ad 3 Z (yi (j:=0) jh j7 Z Z Z (by decide) Z)<|ad 5 Z (cG Z)<|ad 6 Z (yz (j:=0) jh j7 Z Z Z (by decide) Z)<|ad 7 Z (d8 je Z)<|yj (i:=9) Z (by kernel_rfl) (by kernel_rfl) (by kernel_rfl) (by kernel_rfl) (za jf Z Z1 (by decide) Z Z)<|bl 4 Z<|z8 (zd (c:=.int _ _) je Z ⟨_,.head⟩ Z)<|z6<|ad 8 Z (qn Z Z (by unfold ft;omega))<|ad 10 Z (yi (j:=0) jh j7 Z Z Z (by decide) Z)<|ya<|yg (i:=11) Z (by kernel_rfl) (by kernel_rfl)<|y8 (l:=[_]) (new:=[_,_,_,_,_,_,_,_,_,_,_,_,_]) j7 Z Z Z Z Z Z .head Z Z<|z6<|ye (by kernel_rfl)<|bj<|aF Z Z<|aa Z<|z6 ?_
        exact ⟨1,oY,aY,⟨_,(.refl _),congrArg (fun z=>[(i19,aW.cells 53 ([.int .i64 s.en,.int .i64 s.val,.int .i64 s.tr,.fro 1 (s.trace.map bS),.int .i64 t.st]++z))]) (Ak hcq)⟩,by decide,by decide⟩
       ·refine zo (fun j=>Nat.beq j 11) (by kernel_rfl) Z (zq (.rest _))<|ad 0 Z (cG Z)<|ad 1 Z (cG Z)<|ad 2 Z (za jf Z Z1 (by decide) Z Z)<|ad 3 Z (yi (j:=1) jh j7 Z Z Z (by decide) Z)<|ad 5 Z (cG Z)<|ad 6 Z (yz (j:=1) jh j7 Z Z Z (by decide) Z)<|ad 7 Z (d8 je Z)<|yj (i:=9) Z (by kernel_rfl) (by kernel_rfl) (by kernel_rfl) (by kernel_rfl) (za jf Z Z1 (by decide) Z Z)<|bl 4 Z<|z8 (zd (c:=.int _ _) je Z ⟨_,.head⟩ Z)<|z6<|ad 8 Z (qn Z Z (by unfold ft;omega))<|ad 10 Z (yi (j:=1) jh j7 Z Z Z (by decide) Z)<|ya<|yg (i:=11) Z (by kernel_rfl) (by kernel_rfl)<|y8 (l:=[_]) (new:=[_,_,_,_,_,_,_,_,_,_,_,_,_]) j7 Z Z Z Z Z Z .head Z Z<|z6<|ye (by kernel_rfl)<|bj<|aF Z Z<|aa Z<|z6 ?_
        exact ⟨2,oY,aY,⟨_,(.refl _),congrArg (fun z=>[(i19,aW.cells 53 ([.int .i64 s.en,.int .i64 s.val,.int .i64 s.tr,.fro 1 (s.trace.map bS),.int .i64 t.st]++z))]) (Al hcq)⟩,by decide,by decide⟩
       ·refine zo (fun j=>Nat.beq j 11) (by kernel_rfl) Z (zq (.rest _))<|ad 0 Z (cG Z)<|ad 1 Z (cG Z)<|ad 2 Z (za jf Z Z1 (by decide) Z Z)<|ad 3 Z (yi (j:=2) jh j7 Z Z Z (by decide) Z)<|ad 5 Z (cG Z)<|ad 6 Z (yz (j:=2) jh j7 Z Z Z (by decide) Z)<|ad 7 Z (d8 je Z)<|yj (i:=9) Z (by kernel_rfl) (by kernel_rfl) (by kernel_rfl) (by kernel_rfl) (za jf Z Z1 (by decide) Z Z)<|bl 4 Z<|z8 (zd (c:=.int _ _) je Z ⟨_,.head⟩ Z)<|z6<|ad 8 Z (qn Z Z (by unfold ft;omega))<|ad 10 Z (yi (j:=2) jh j7 Z Z Z (by decide) Z)<|ya<|yg (i:=11) Z (by kernel_rfl) (by kernel_rfl)<|y8 (l:=[_]) (new:=[_,_,_,_,_,_,_,_,_,_,_,_,_]) j7 Z Z Z Z Z Z .head Z Z<|z6<|ye (by kernel_rfl)<|bj<|aF Z Z<|aa Z<|z6 ?_
        exact ⟨3,oY,aY,⟨_,(.refl _),congrArg (fun z=>[(i19,aW.cells 53 ([.int .i64 s.en,.int .i64 s.val,.int .i64 s.tr,.fro 1 (s.trace.map bS),.int .i64 t.st]++z))]) (Am hcq)⟩,by decide,by decide⟩
       ·refine zo (fun j=>Nat.beq j 11) (by kernel_rfl) Z (zq (.rest _))<|ad 0 Z (cG Z)<|ad 1 Z (cG Z)<|ad 2 Z (za jf Z Z1 (by decide) Z Z)<|ad 3 Z (yi (j:=3) jh j7 Z Z Z (by decide) Z)<|ad 5 Z (cG Z)<|ad 6 Z (yz (j:=3) jh j7 Z Z Z (by decide) Z)<|ad 7 Z (d8 je Z)<|yj (i:=9) Z (by kernel_rfl) (by kernel_rfl) (by kernel_rfl) (by kernel_rfl) (za jf Z Z1 (by decide) Z Z)<|bl 4 Z<|z8 (zd (c:=.int _ _) je Z ⟨_,.head⟩ Z)<|z6<|ad 8 Z (qn Z Z (by unfold ft;omega))<|ad 10 Z (yi (j:=3) jh j7 Z Z Z (by decide) Z)<|ya<|yg (i:=11) Z (by kernel_rfl) (by kernel_rfl)<|y8 (l:=[_]) (new:=[_,_,_,_,_,_,_,_,_,_,_,_,_]) j7 Z Z Z Z Z Z .head Z Z<|z6<|ye (by kernel_rfl)<|bj<|aF Z Z<|aa Z<|z6 ?_
        exact ⟨4,oY,aY,⟨_,(.refl _),congrArg (fun z=>[(i19,aW.cells 53 ([.int .i64 s.en,.int .i64 s.val,.int .i64 s.tr,.fro 1 (s.trace.map bS),.int .i64 t.st]++z))]) (Ao hcq)⟩,by decide,by decide⟩
       ·refine zo (fun j=>Nat.beq j 11) (by kernel_rfl) Z (zq (.rest _))<|ad 0 Z (cG Z)<|ad 1 Z (cG Z)<|ad 2 Z (za jf Z Z1 (by decide) Z Z)<|ad 3 Z (yi (j:=4) jh j7 Z Z Z (by decide) Z)<|ad 5 Z (cG Z)<|ad 6 Z (yz (j:=4) jh j7 Z Z Z (by decide) Z)<|ad 7 Z (d8 je Z)<|yj (i:=9) Z (by kernel_rfl) (by kernel_rfl) (by kernel_rfl) (by kernel_rfl) (za jf Z Z1 (by decide) Z Z)<|bl 4 Z<|z8 (zd (c:=.int _ _) je Z ⟨_,.head⟩ Z)<|z6<|ad 8 Z (qn Z Z (by unfold ft;omega))<|ad 10 Z (yi (j:=4) jh j7 Z Z Z (by decide) Z)<|ya<|yg (i:=11) Z (by kernel_rfl) (by kernel_rfl)<|y8 (l:=[_]) (new:=[_,_,_,_,_,_,_,_,_,_,_,_,_]) j7 Z Z Z Z Z Z .head Z Z<|z6<|ye (by kernel_rfl)<|bj<|aF Z Z<|aa Z<|z6 ?_
        exact ⟨5,oY,aY,⟨_,(.refl _),congrArg (fun z=>[(i19,aW.cells 53 ([.int .i64 s.en,.int .i64 s.val,.int .i64 s.tr,.fro 1 (s.trace.map bS),.int .i64 t.st]++z))]) (Ap hcq)⟩,by decide,by decide⟩
       ·refine zo (fun j=>Nat.beq j 11) (by kernel_rfl) Z (zq (.rest _))<|ad 0 Z (cG Z)<|ad 1 Z (cG Z)<|ad 2 Z (za jf Z Z1 (by decide) Z Z)<|ad 3 Z (yi (j:=5) jh j7 Z Z Z (by decide) Z)<|ad 5 Z (cG Z)<|ad 6 Z (yz (j:=5) jh j7 Z Z Z (by decide) Z)<|ad 7 Z (d8 je Z)<|yj (i:=9) Z (by kernel_rfl) (by kernel_rfl) (by kernel_rfl) (by kernel_rfl) (za jf Z Z1 (by decide) Z Z)<|bl 4 Z<|z8 (zd (c:=.int _ _) je Z ⟨_,.head⟩ Z)<|z6<|ad 8 Z (qn Z Z (by unfold ft;omega))<|ad 10 Z (yi (j:=5) jh j7 Z Z Z (by decide) Z)<|ya<|yg (i:=11) Z (by kernel_rfl) (by kernel_rfl)<|y8 (l:=[_]) (new:=[_,_,_,_,_,_,_,_,_,_,_,_,_]) j7 Z Z Z Z Z Z .head Z Z<|z6<|ye (by kernel_rfl)<|bj<|aF Z Z<|aa Z<|z6 ?_
        exact ⟨6,oY,aY,⟨_,(.refl _),congrArg (fun z=>[(i19,aW.cells 53 ([.int .i64 s.en,.int .i64 s.val,.int .i64 s.tr,.fro 1 (s.trace.map bS),.int .i64 t.st]++z))]) (Aq hcq)⟩,by decide,by decide⟩
       ·refine zo (fun j=>Nat.beq j 11) (by kernel_rfl) Z (zq (.rest _))<|ad 0 Z (cG Z)<|ad 1 Z (cG Z)<|ad 2 Z (za jf Z Z1 (by decide) Z Z)<|ad 3 Z (yi (j:=6) jh j7 Z Z Z (by decide) Z)<|ad 5 Z (cG Z)<|ad 6 Z (yz (j:=6) jh j7 Z Z Z (by decide) Z)<|ad 7 Z (d8 je Z)<|yj (i:=9) Z (by kernel_rfl) (by kernel_rfl) (by kernel_rfl) (by kernel_rfl) (za jf Z Z1 (by decide) Z Z)<|bl 4 Z<|z8 (zd (c:=.int _ _) je Z ⟨_,.head⟩ Z)<|z6<|ad 8 Z (qn Z Z (by unfold ft;omega))<|ad 10 Z (yi (j:=6) jh j7 Z Z Z (by decide) Z)<|ya<|yg (i:=11) Z (by kernel_rfl) (by kernel_rfl)<|y8 (l:=[_]) (new:=[_,_,_,_,_,_,_,_,_,_,_,_,_]) j7 Z Z Z Z Z Z .head Z Z<|z6<|ye (by kernel_rfl)<|bj<|aF Z Z<|aa Z<|z6 ?_
        exact ⟨7,oY,aY,⟨_,(.refl _),congrArg (fun z=>[(i19,aW.cells 53 ([.int .i64 s.en,.int .i64 s.val,.int .i64 s.tr,.fro 1 (s.trace.map bS),.int .i64 t.st]++z))]) (Ar hcq)⟩,by decide,by decide⟩
       ·refine zo (fun j=>Nat.beq j 11) (by kernel_rfl) Z (zq (.rest _))<|ad 0 Z (cG Z)<|ad 1 Z (cG Z)<|ad 2 Z (za jf Z Z1 (by decide) Z Z)<|ad 3 Z (yi (j:=7) jh j7 Z Z Z (by decide) Z)<|ad 5 Z (cG Z)<|ad 6 Z (yz (j:=7) jh j7 Z Z Z (by decide) Z)<|ad 7 Z (d8 je Z)<|yj (i:=9) Z (by kernel_rfl) (by kernel_rfl) (by kernel_rfl) (by kernel_rfl) (za jf Z Z1 (by decide) Z Z)<|bl 4 Z<|z8 (zd (c:=.int _ _) je Z ⟨_,.head⟩ Z)<|z6<|ad 8 Z (qn Z Z (by unfold ft;omega))<|ad 10 Z (yi (j:=7) jh j7 Z Z Z (by decide) Z)<|ya<|yg (i:=11) Z (by kernel_rfl) (by kernel_rfl)<|y8 (l:=[_]) (new:=[_,_,_,_,_,_,_,_,_,_,_,_,_]) j7 Z Z Z Z Z Z .head Z Z<|z6<|ye (by kernel_rfl)<|bj<|aF Z Z<|aa Z<|z6 ?_
        exact ⟨8,oY,aY,⟨_,(.refl _),congrArg (fun z=>[(i19,aW.cells 53 ([.int .i64 s.en,.int .i64 s.val,.int .i64 s.tr,.fro 1 (s.trace.map bS),.int .i64 t.st]++z))]) (As hcq)⟩,by decide,by decide⟩
      ·obtain rfl:j=8:=by first|omega|(simp at cj;omega)
       refine zy (aZ.eq (show _=([(i19,.cells 53 (gO t))]:OL) from congrArg (fun z=>[(i19,aW.cells 53 z)]) (Au hD.D.eq)))<|yc<|zb<|zo (fun j=>false) (by kernel_rfl) Z (zq (.r (.rest _)))<|ad 0 Z (Gv.loadWC isAgg53 jz Z ⟨_,.head⟩ Z)<|ad 1 Z (yu jq jl Z Z)<|ad 2 Z (yu isAgg42 sizeOf42 Z Z)<|ad 3 Z (cG Z)<|ad 4 Z (cG Z)<|ad 5 Z (qn Z Z (by unfold ft;omega))<|bl 6 Z<|zh (hrun) Z<|z6<|bl 7 Z<|zh (hsam) Z<|z6<|ad 8 Z (uQ Z)<|dU<|ze<|zi (x:=.bool _) Z ?_
       rfl
end
section
open Go.Proofs.Tryz
open Go.Proofs Go.Lib Go.Shelf Go.RowKit Go.WideShapes
set_option maxRecDepth 20000
variable {W:World}
theorem vA:d9 prog W 3 bS (fun x=>(Lit.int .i64 x).wf=true):=d9.int underlying3
theorem rm:d9 prog W 23 (fun l:List Int=>[.fro 1 (l.map bS)]) wL:=fun en held fuel cs x h=>by
 obtain ⟨l,hl,r⟩:=d9.slice (k:=1) j6 vA (by kernel_rfl) (by decide) en held fuel cs x h
 exact ⟨l,hl.2,r⟩
theorem CH:d9 prog W 73 bU (fun _=>True):=fun en held fuel cs x h=>by
 obtain ⟨xs,n,_,_,hl,hxl,hf⟩:=DataW.trod_struct Zi h
 have hl:cs.length=2:=hl.trans (by kernel_rfl)
 have hxl:xs.length=2:=hxl
 obtain ⟨a,_,ra⟩:=qc (o:=0) (k:=1) (hf 0 _ rfl) (d9.str Zd) (by omega) rfl (by kernel_rfl)
 obtain ⟨b,_,rb⟩:=qc (o:=1) (k:=1) (hf 1 _ rfl) (d9.int underlying71) (by omega) rfl (by kernel_rfl)
 exact ⟨⟨a,b⟩,trivial,q6 (o:=0) ra (q6 rb (RepL.fin hl))⟩
theorem CI:d9 prog W 77 bD Dq:=fun en held fuel cs x h=>by
 obtain ⟨xs,n,_,_,hl,hxl,hf⟩:=DataW.trod_struct jr h
 have hl:cs.length=3:=hl.trans (by kernel_rfl)
 have hxl:xs.length=3:=hxl
 obtain ⟨a,_,ra⟩:=qc (o:=0) (k:=1) (hf 0 _ rfl) vA (by omega) rfl (by kernel_rfl)
 obtain ⟨b,hb,rb⟩:=qc (o:=1) (k:=1) (hf 1 _ rfl) rm (by omega) rfl (by kernel_rfl)
 obtain ⟨c,hc,rc⟩:=qc (o:=2) (k:=1) (hf 2 _ rfl) rm (by omega) rfl (by kernel_rfl)
 exact ⟨⟨a,b,c⟩,⟨hb,hc⟩,q6 (o:=0) ra (q6 rb (q6 rc (RepL.fin hl)))⟩
def Dz (x:aD):Prop:=wL x.args∧(Lit.int .i64 x.num).wf=true
theorem Av:d9 prog W 67 bf Dz:=fun en held fuel cs x h=>by
 obtain ⟨xs,n,_,_,hl,hxl,hf⟩:=DataW.trod_struct jd h
 have hl:cs.length=4:=hl.trans (by kernel_rfl)
 have hxl:xs.length=4:=hxl
 obtain ⟨a,_,ra⟩:=qc (o:=0) (k:=1) (hf 0 _ rfl) (d9.int underlying65) (by omega) rfl (by kernel_rfl)
 obtain ⟨b,_,rb⟩:=qc (o:=1) (k:=1) (hf 1 _ rfl) vA (by omega) rfl (by kernel_rfl)
 obtain ⟨c,hc,rc⟩:=qc (o:=2) (k:=1) (hf 2 _ rfl) rm (by omega) rfl (by kernel_rfl)
 obtain ⟨d,hd,rd⟩:=qc (o:=3) (k:=1) (hf 3 _ rfl) (d9.int Zf) (by omega) rfl (by kernel_rfl)
 exact ⟨⟨a,b,c,d⟩,⟨hc,hd⟩,q6 (o:=0) ra (q6 rb (q6 rc (q6 rd (RepL.fin hl))))⟩
theorem Aw:d9 prog W 60 mW (fun _=>True):=fun en held fuel cs x h=>by
 obtain ⟨xs,n,_,_,hl,hxl,hf⟩:=DataW.trod_struct ji h
 have hl:cs.length=4:=hl.trans (by kernel_rfl)
 have hxl:xs.length=3:=hxl
 obtain ⟨a,_,ra⟩:=qc (o:=0) (k:=1) (hf 0 _ rfl) (d9.int underlying58) (by omega) rfl (by kernel_rfl)
 obtain ⟨b,_,rb⟩:=qc (o:=1) (k:=1) (hf 1 _ rfl) vA (by omega) rfl (by kernel_rfl)
 obtain ⟨c,_,rc⟩:=qc (o:=2) (k:=2) (hf 2 _ rfl) (d9.pair (k:=1) jx vA (by kernel_rfl) (by kernel_rfl)) (by omega) rfl (by kernel_rfl)
 exact ⟨⟨a,b,c.1,c.2⟩,trivial,q6 (o:=0) ra (q6 rb (q6 rc (RepL.fin hl)))⟩
def DA (f:ai):Prop:=∀b∈f.blocks,∀x∈b.insts,bT x.num
def DB (b:aI):Prop:=Dr b∧∀x∈b.insts,-9223372036854775808≤x.num∧x.num≤9223372036854775807
theorem Ax:d9 prog W 62 bc DB:=fun en held fuel cs x h=>by
 obtain ⟨xs,n,_,_,hl,hxl,hf⟩:=DataW.trod_struct j9 h
 have hl:cs.length=7:=hl.trans (by kernel_rfl)
 have hxl:xs.length=4:=hxl
 obtain ⟨a,_,ra⟩:=qc (o:=0) (k:=1) (hf 0 _ rfl) (d9.str Zd) (by omega) rfl (by kernel_rfl)
 obtain ⟨b,hb,rb⟩:=qc (o:=1) (k:=1) (hf 1 _ rfl) (d9.slice (k:=3) jy CI (by kernel_rfl) (by decide)) (by omega) rfl (by kernel_rfl)
 obtain ⟨c,hc,rc⟩:=qc (o:=2) (k:=1) (hf 2 _ rfl) (d9.slice (k:=4) jm Av (by kernel_rfl) (by decide)) (by omega) rfl (by kernel_rfl)
 obtain ⟨d,_,rd⟩:=qc (o:=3) (k:=4) (hf 3 _ rfl) Aw (by omega) rfl (by kernel_rfl)
 exact ⟨⟨a,b,c,d⟩,⟨⟨hb.2,hc.2,hb.1,fun x hx=>(hc.1 x hx).1⟩,fun x hx=>by simpa [Lit.wf,IntKind.min,IntKind.max,IntKind.signed,IntKind.bits] using (hc.1 x hx).2⟩,q6 (o:=0) ra (q6 rb (q6 rc (q6 rd (RepL.fin hl))))⟩
theorem DC:d9 prog W 26 bW (fun f=>og f∧DA f):=fun en held fuel cs x h=>by
 obtain ⟨xs,n,_,_,hl,hxl,hf⟩:=DataW.trod_struct jj h
 have hl:cs.length=3:=hl.trans (by kernel_rfl)
 have hxl:xs.length=3:=hxl
 obtain ⟨a,ha,ra⟩:=qc (o:=0) (k:=1) (hf 0 _ rfl) (d9.slice (k:=2) Z5 CH (by kernel_rfl) (by decide)) (by omega) rfl (by kernel_rfl)
 obtain ⟨b,hb,rb⟩:=qc (o:=1) (k:=1) (hf 1 _ rfl) rm (by omega) rfl (by kernel_rfl)
 obtain ⟨c,hc,rc⟩:=qc (o:=2) (k:=1) (hf 2 _ rfl) (d9.slice (k:=7) jp Ax (by kernel_rfl) (by decide)) (by omega) rfl (by kernel_rfl)
 exact ⟨⟨a,b,c⟩,⟨⟨ha.2,hb,hc.2,fun x hx=>(hc.1 x hx).1⟩,fun x hx=>(hc.1 x hx).2⟩,q6 (o:=0) ra (q6 rb (q6 rc (RepL.fin hl)))⟩
theorem w7 {H:Type} {enc:TypeId × Value→H} {held:Bool} {α:Type} {T e:TypeId} {k:Nat} {g:α→List (List AV)} {ok:α→Prop} {base:Nat} {v:Value} {d:DataW H} {p:List MemPlace} (hd:d9 prog W T (fun a=>[.fro k (g a)]) ok) (ht:prog.underlying T=some (.slice e))
  (hv:Value.okWide prog W .any base T v) (h:DataW.Trod enc prog W 0 (fun _=>true) held T v d p):∃a,ok a∧bO (I0 W) (.fro k (g a)) v:=by
 obtain ⟨a,len,cap,rfl⟩:=okWide_slice ht hv
 obtain ⟨fuel,h⟩:=h
 obtain ⟨a,h1,v,_,e,h2,h3⟩:=hd enc held fuel _ _ h
 cases e
 exact ⟨a,h1,h2⟩
theorem mK {H:Type} {enc:TypeId × Value→H} {held:Bool} {α:Type} {T:TypeId} {e:α→List AV} {ok:α→Prop} {fs:Array Field} {base:Nat} {v:Value} {d:DataW H} {p:List MemPlace} (hd:d9 prog W T e ok) (ht:prog.underlying T=some (.struct fs))
  (hv:Value.okWide prog W .any base T v) (h:DataW.Trod enc prog W 0 (fun _=>true) held T v d p):∃a,ok a∧bO (I0 W) (.agg (e a)) v:=by
 obtain ⟨cs,rfl,_⟩:=okWide_struct ht hv
 obtain ⟨fuel,h⟩:=h
 obtain ⟨a,h1,h2⟩:=hd enc held fuel _ _ h
 exact ⟨a,h1,cs.toList,by simp,h2⟩
theorem EC:RExtra prog Tryz.lays200_ren:=⟨by kernel_rfl,by kernel_rfl,by kernel_rfl,by kernel_rfl,by kernel_rfl,by kernel_rfl,by kernel_rfl,by kernel_rfl⟩
theorem pO (h:Lib.VarReads prog W "unicode.properties" (Lib.tabData .u8 Lib.propertiesTab)) (h2:Lib.VarReads prog W "unicode.Letter" (Lib.rtabData letterT)):ae W:=
 ⟨kW (g:=0) (by kernel_rfl) (by kernel_rfl) underlying168 underlying5 (by kernel_rfl) (by kernel_rfl) h,
  rvar_of_reads { Tryz.lays200 with } EC (name:="unicode.Letter") (g:=1) (by kernel_rfl) (by kernel_rfl) h2⟩
end
end Go.Proofs.YtbconpmnckokoaaGreatDoor
