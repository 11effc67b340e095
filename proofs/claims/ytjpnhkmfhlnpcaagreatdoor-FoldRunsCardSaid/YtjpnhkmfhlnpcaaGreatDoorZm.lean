/- What is told of a value may be told less closely. No conditions. -/
import Derived.Test.YtjpnhkmfhlnpcaaGreatDoorZh
import Derived.Test.YtjpnhkmfhlnpcaaGreatDoorZi
import Derived.Test.YtjpnhkmfhlnpcaaGreatDoorZg
import Derived.Test.YtjpnhkmfhlnpcaaGreatDoorZj
import Derived.Test.YtjpnhkmfhlnpcaaGreatDoorZk
import Derived.Test.YtjpnhkmfhlnpcaaGreatDoorZd
import Derived.Test.YtjpnhkmfhlnpcaaGreatDoorZe
set_option linter.unusedVariables false
set_option linter.unusedSimpArgs false
set_option linter.unusedSectionVars false
namespace Go.Proofs.YtjpnhkmfhlnpcaaGreatDoor
section
open Go.Proofs.Tryz
theorem fG {α:Type} {P:α→Prop} {c:Prop} [Decidable c] {a b:α} (h1:c→P a) (h2:¬c→P b):P (if c then a else b):=by
 split
 ·exact h1 (by assumption)
 ·exact h2 (by assumption)
theorem xL {P:GS→Prop} (s:GS) (x:bc) (h1:∀e,P (cP s e)) (h2:∀v,P (stI s x.dst v)) (h3:∀v,P (stB s x.dst v)) (h4:∀v,P (stA s x.dst v)) (h5:∀a b c,P (stA (stB (stI s x.dst a) x.dst b) x.dst c)) (h6:∀A,P { s with arrays:=A })
  (h7:∀A v,P (stA { s with arrays:=A } x.dst v)) (h8:∀t,P { s with trace:=t }):P (doG s x):=by
 unfold doG
 refine fG (P:=P) (fun _=>h2 _) fun _=>fG (P:=P) (fun _=>h5 _ _ _) fun _=>fG (P:=P) (fun _=>h2 _) fun _=>fG (P:=P) (fun _=>h2 _) fun _=>fG (P:=P) (fun _=>h2 _) fun _=>
  fG (P:=P) (fun _=>fG (P:=P) (fun _=>h1 _) fun _=>h2 _) fun _=>fG (P:=P) (fun _=>fG (P:=P) (fun _=>h1 _) fun _=>h2 _) fun _=>fG (P:=P) (fun _=>h3 _) fun _=>fG (P:=P) (fun _=>h3 _) fun _=>fG (P:=P) (fun _=>h3 _) fun _=>
  fG (P:=P) (fun _=>h3 _) fun _=>fG (P:=P) (fun _=>h3 _) fun _=>fG (P:=P) (fun _=>fG (P:=P) (fun _=>h1 _) fun _=>h2 _) fun _=>fG (P:=P) (fun _=>fG (P:=P) (fun _=>h2 _) fun _=>h1 _) fun _=>fG (P:=P) (fun _=>fG (P:=P) (fun _=>h6 _) fun _=>h1 _) fun _=>
  fG (P:=P) (fun _=>fG (P:=P) (fun _=>h1 _) fun _=>fG (P:=P) (fun _=>h1 _) fun _=>h7 _ _) fun _=>fG (P:=P) (fun _=>h4 _) fun _=>fG (P:=P) (fun _=>h1 _) fun _=>h8 _
theorem GK (s:GS) (x:bc):(bV s x).st=s.st:=by
 unfold bV
 split
 ·split<;>rfl
 ·exact xL (P:=fun t=>t.st=s.st) s x (fun _=>rfl) (fun _=>rfl) (fun _=>rfl) (fun _=>rfl) (fun _ _ _=>rfl) (fun _=>rfl) (fun _ _=>rfl) (fun _=>rfl)
theorem GL (s:GS) (x:bc) (i:Nat):(bV s x).ck i≤s.ck i+1:=by
 unfold bV
 split
 ·split
  ·show (if i=_ then s.ck i+1 else s.ck i)≤_
   split<;>omega
  ·show (if i=_ then s.ck i+1 else s.ck i)≤_
   split<;>omega
 ·exact xL (P:=fun t=>t.ck i≤s.ck i+1) s x (fun _=>Nat.le_succ _) (fun _=>Nat.le_succ _) (fun _=>Nat.le_succ _) (fun _=>Nat.le_succ _) (fun _ _ _=>Nat.le_succ _) (fun _=>Nat.le_succ _) (fun _ _=>Nat.le_succ _) (fun _=>Nat.le_succ _)
theorem l4 (s:GS):∀(l:List bu) (t:GS),(l.foldl (assign s) t).st=t.st∧(l.foldl (assign s) t).ck=t.ck∧(l.foldl (assign s) t).ended=t.ended
 |[],_=>⟨rfl,rfl,rfl⟩
 |p::l,t=>l4 s l (assign s t p)
theorem pz (f:ab) (s:GS) (dst_:Int):(dB f s dst_).st=s.st∧(dB f s dst_).ck=s.ck:=by
 unfold dB
 split
 ·obtain ⟨h1,h2,_⟩:=l4 s (blkG f dst_).phis s
  exact ⟨h1,h2⟩
 ·exact ⟨rfl,rfl⟩
theorem xM (f:ab) (s:GS):(cU f s).st=s.st+1:=by
 unfold cU
 split
 ·rw[GK]
 ·split
  ·rfl
  ·rw[(pz f _ _).1]
theorem xN (f:ab) (s:GS) (i:Nat):(cU f s).ck i≤s.ck i+1:=by
 unfold cU
 split
 ·exact GL _ _ i
 ·split
  ·exact Nat.le_succ _
  ·rw[(pz f _ _).2];exact Nat.le_succ _
theorem mJ {f:ab} {s:GS} (h:s.ended=true):∀k,df f k s=s
 |0=>rfl
 |k+1=>by unfold df;rw[if_pos h]
def gX (f:ab) (i:vb) (q:vP × Nat):Bool:=decide (nT f q.2=2∧(q.1.arr < -1∨(i.arrays.length:Int)≤q.1.arr))
def fH (f:ab) (i:vb):Int:=if ¬i.args.length=f.params.length then 1 else if i.args.zipIdx.any (gX f i)=true then 1 else if 32<i.arrays.length then 4 else if i.arrays.any (fun r=>decide (64<r.length))=true then 4 else 0
def mK (a b:GS):Bool:=decide (a.en=b.en∧a.val=b.val∧a.tr=b.tr∧a.trace=b.trace)
def Jf (i:vb):Prop:=(∀a∈i.args,cG a.int)∧∀r∈i.arrays,∀x∈r,cG x
theorem uz {α β:Type} {g:Nat→α→β} {d:β} {n:Nat} {l:List α} {x:β} (h:x∈cM g d n l):(∃j a,l[j]?=some a∧x=g j a)∨x=d:=by
 unfold cM at h
 rcases List.mem_append.1 h with h|h
 ·obtain ⟨⟨a,j⟩,hm,rfl⟩:=List.mem_map.1 h
  exact .inl ⟨j,a,List.mk_mem_zipIdx_iff_getElem?.1 hm,rfl⟩
 ·exact .inr (List.mem_replicate.1 h).2
theorem bB.beg {f:ab} {i:vb} (hR:pd f) (hp:f.params.length≤f.vars.length) (ht:∀j,0≤nT f j∧nT f j≤2) (h:fH f i=0) (h64:Jf i):bB f (dF f i)∧i.args.length≤f.vars.length:=by
 unfold fH at h
 split at h
 ·cases h
 rename_i h1
 split at h
 ·cases h
 rename_i h2
 split at h
 ·cases h
 rename_i h3
 split at h
 ·cases h
 rename_i h4
 have h1:i.args.length=f.params.length:=Classical.not_not.1 h1
 have hr:∀r∈i.arrays,r.length≤64:=fun r hr=>by
  refine Classical.byContradiction fun hn=>h4 (List.any_eq_true.2 ⟨r,hr,w4 (by omega)⟩)
 have hl:i.args.length≤f.vars.length:=by omega
 have hf:∀{β:Type} (g:Nat→vP→β) (d:β),(cM g d f.vars.length i.args).length=f.vars.length:=fun g d=>by unfold cM;simp;omega
 refine ⟨⟨hf _ _,hf _ _,hf _ _,fun x hx=>?_,fun x hx=>?_,by show i.arrays.length≤40;omega,fun r h=>Nat.le_trans (hr r h) (by omega),h64.2,qt _,Int.le_refl _,by show (0:Int)<f.blocks.length;have:=hR.pos;omega,qt _⟩,hl⟩
 ·rcases uz hx with ⟨j,a,ha,rfl⟩|rfl
  ·unfold o9;split
   ·exact h64.1 a (w0 ha)
   ·exact ⟨by decide,by decide⟩
  ·exact ⟨by decide,by decide⟩
 ·show _∧_<(i.arrays.length:Int)
  rcases uz hx with ⟨j,a,ha,rfl⟩|rfl
  ·unfold nA
   split
   ·exact ⟨by omega,by omega⟩
   split
   ·exact ⟨by omega,by omega⟩
   have:=ht j
   have hb:¬gX f i (a,j)=true:=fun hb=>h2 (List.any_eq_true.2 ⟨(a,j),w0 (i:=j) (by rw[List.getElem?_zipIdx,ha];simp),hb⟩)
   unfold gX at hb
   simp only[wa] at hb
   have h2':nT f j=2:=by omega
   omega
  ·exact ⟨by omega,by omega⟩
end
section
open Go.Proofs.Tryz
def V (s:GS) (v:Int):Int × Bool × Int:=(vi s.ints v,gb s.bools v,vi s.arrs v)
theorem Ko {l:List Int} {d v x:Int} (h0:0≤d) (g0:0≤v) (hne:v≠d):vi (l.set d.toNat x) v=vi l v:=by
 unfold vi;rw[List.getElem?_set_ne (by omega)]
theorem xO {l:List Int} {d x:Int} (h0:0≤d) (h1:d<l.length):vi (l.set d.toNat x) d=x:=by
 unfold vi;rw[List.getElem?_set_self (by omega)];rfl
theorem Kp {l:List Bool} {d v:Int} {x:Bool} (h0:0≤d) (g0:0≤v) (hne:v≠d):gb (l.set d.toNat x) v=gb l v:=by
 unfold gb;rw[List.getElem?_set_ne (by omega)]
theorem Iv {l:List Bool} {d:Int} {x:Bool} (h0:0≤d) (h1:d<l.length):gb (l.set d.toNat x) d=x:=by
 unfold gb;rw[List.getElem?_set_self (by omega)];rfl
inductive Act where
 |stop (e:Int)
 |i (v:Int)
 |b (v:Bool)
 |a (v:Int)
 |all (v:Int × Bool × Int)
 |row (l:List (List Int))
 |new (l:List (List Int)) (v:Int)
 |out (l:List Int)
def sD (s:GS) (d:Int):Act→GS
 |.stop e=>cP s e
 |.i v=>stI s d v
 |.b v=>stB s d v
 |.a v=>stA s d v
 |.all v=>stA (stB (stI s d v.1) d v.2.1) d v.2.2
 |.row l=>{ s with arrays:=l }
 |.new l v=>stA { s with arrays:=l } d v
 |.out l=>{ s with trace:=l }
def sE (s:GS) (x:bc):Act:=
 if x.op=0 then .i x.num
 else if x.op=1∨x.op=25∨x.op=26 then .all (aG s x,pG s x,rG s x)
 else if x.op=2 then .i (IntKind.i64.wrap (qM 0 (aG s x) (bG s x)))
 else if x.op=3 then .i (IntKind.i64.wrap (qM 1 (aG s x) (bG s x)))
 else if x.op=4 then .i (IntKind.i64.wrap (qM 2 (aG s x) (bG s x)))
 else if x.op=5 then (if bG s x=0 then .stop 2 else .i (Em (aG s x) (bG s x)))
 else if x.op=6 then (if bG s x=0 then .stop 2 else .i (vQ (aG s x) (bG s x)))
 else if x.op=7 then .b (decide (aG s x=bG s x))
 else if x.op=8 then .b (decide (aG s x<bG s x))
 else if x.op=9 then .b (decide (aG s x≤bG s x))
 else if x.op=10 then .b (!pG s x)
 else if x.op=11 then .b (pG s x&&qG s x)
 else if x.op=12 then (if rG s x<0 then .stop 2 else .i ((ga s (rG s x)).length))
 else if x.op=13 then (if dp s (rG s x) (bG s x)=true then .i (vi (ga s (rG s x)) (bG s x)) else .stop 2)
 else if x.op=14 then (if dp s (rG s x) (bG s x)=true then .row (s.arrays.set (rG s x).toNat ((ga s (rG s x)).set (bG s x).toNat (vi s.ints (xy x)))) else .stop 2)
 else if x.op=15 then (if aG s x<0∨64<aG s x then .stop 2 else if 32≤s.arrays.length then .stop 3 else .new (s.arrays++[List.replicate (aG s x).toNat 0]) s.arrays.length)
 else if x.op=16 then .a (-1)
 else (if 4096≤s.trace.length then .stop 3 else .out (s.trace++[aG s x]))
theorem GM {s:GS} {d:Int} {c:Prop} [Decidable c] {p q:GS} {u v:Act} (h1:c→p=sD s d u) (h2:¬c→q=sD s d v):(if c then p else q)=sD s d (if c then u else v):=by
 by_cases h:c
 ·rw[if_pos h,if_pos h];exact h1 h
 ·rw[if_neg h,if_neg h];exact h2 h
theorem Ez (s:GS) (x:bc):doG s x=sD s x.dst (sE s x):=by
 unfold doG sE
 repeat' (first|rfl|refine GM (fun _=>?_) (fun _=>?_))
structure uA (s t:GS) (x y:bc):Prop where
 op:x.op=y.op
 num:x.num=y.num
 a0:0<x.args.length→V s (xx x)=V t (xx y)
 a1:1<x.args.length→V s (Ej x)=V t (Ej y)
 a2:2<x.args.length→V s (xy x)=V t (xy y)
theorem uA.reads {s t:GS} {x y:bc} (h:uA s t x y):(0<x.args.length→aG s x=aG t y∧pG s x=pG t y∧rG s x=rG t y)∧(1<x.args.length→bG s x=bG t y∧qG s x=qG t y)∧(2<x.args.length→vi s.ints (xy x)=vi t.ints (xy y)):=
 ⟨fun hl=>by have:=h.a0 hl;unfold V at this;simp only[Prod.mk.injEq] at this;exact this,fun hl=>by have:=h.a1 hl;unfold V at this;simp only[Prod.mk.injEq] at this;exact ⟨this.1,this.2.1⟩,fun hl=>by have:=h.a2 hl;unfold V at this;simp only[Prod.mk.injEq] at this;exact this.1⟩
theorem m6 {s t:GS} (ha:s.arrays=t.arrays) (a i:Int):dp s a i=dp t a i:=by unfold dp ga;rw[ha]
theorem CS {s t:GS} (ha:s.arrays=t.arrays) (a:Int):ga s a=ga t a:=by unfold ga;rw[ha]
set_option maxRecDepth 4000 in
theorem CT {f:ab} {s t:GS} {x y:bc} (hF:eu f x) (ho:¬(18≤x.op∧x.op≤24)) (h:uA s t x y) (ha:s.arrays=t.arrays) (htr:s.trace=t.trace):sE s x=sE t y:=by
 obtain ⟨r0,r1,r2⟩:=h.reads
 have hc:=hF.argc
 have hop:=hF.op
 unfold sE
 simp only[←h.op,←h.num,←m6 ha,←CS ha,←ha,←htr]
 obtain ⟨j,hj⟩:∃j:Nat,x.op=(j:Int):=⟨x.op.toNat,by omega⟩
 rw[hj] at hc ho
 rw[hj]
 have:j=0∨j=1∨j=2∨j=3∨j=4∨j=5∨j=6∨j=7∨j=8∨j=9∨j=10∨j=11∨j=12∨j=13∨j=14∨j=15∨j=16∨j=17∨j=25∨j=26:=by omega
 rcases this with rfl|rfl|rfl|rfl|rfl|rfl|rfl|rfl|rfl|rfl|rfl|rfl|rfl|rfl|rfl|rfl|rfl|rfl|rfl|rfl
 all_goals
  have hc:x.args.length=_:=hc
  simp only[Int.toNat_natCast,List.getElem?_cons_zero,List.getElem?_cons_succ,Option.getD_some] at hc
  first
  |(rw[(r0 (by omega)).1,(r0 (by omega)).2.1,(r0 (by omega)).2.2,(r1 (by omega)).1,(r1 (by omega)).2,r2 (by omega)];done)
  |(rw[(r0 (by omega)).1,(r0 (by omega)).2.1,(r0 (by omega)).2.2,(r1 (by omega)).1,(r1 (by omega)).2];done)
  |(simp[(r0 (by omega)).1,(r0 (by omega)).2.1,(r0 (by omega)).2.2,(r1 (by omega)).1,(r1 (by omega)).2,r2 (by omega)];done)
  |(simp[(r0 (by omega)).1,(r0 (by omega)).2.1,(r0 (by omega)).2.2,(r1 (by omega)).1,(r1 (by omega)).2];done)
  |(simp[(r0 (by omega)).1,(r0 (by omega)).2.1,(r0 (by omega)).2.2];done)
  |simp
theorem we {f:ab} {s t:GS} {x y:bc} (hF:eu f x) (ho:18≤x.op∧x.op≤24) (h:uA s t x y) (hl:x.args.length=y.args.length) (ha:s.arrays=t.arrays):ed s x.op x.args=ed t y.op y.args:=by
 obtain ⟨r0,r1,_⟩:=h.reads
 have hc:=hF.argc
 have h0:0<x.args.length:=by
  obtain ⟨j,hj⟩:∃j:Nat,x.op=(j:Int):=⟨x.op.toNat,by omega⟩
  rw[hc,hj]
  have:j=18∨j=19∨j=20∨j=21∨j=22∨j=23∨j=24:=by omega
  rcases this with rfl|rfl|rfl|rfl|rfl|rfl|rfl<;>decide
 obtain ⟨e1,e2,e3⟩:=r0 h0
 have e1:vi s.ints ((x.args[0]?).getD 0)=vi t.ints ((y.args[0]?).getD 0):=e1
 have e3:vi s.arrs ((x.args[0]?).getD 0)=vi t.arrs ((y.args[0]?).getD 0):=e3
 have e4:Ek x.args s.ints=Ek y.args t.ints:=by
  unfold Ek
  by_cases h1:1<x.args.length
  ·rw[if_pos h1,if_pos (by omega)]
   exact (r1 h1).1
  ·rw[if_neg h1,if_neg (by omega)]
 unfold ed
 simp only[h.op,e1,e3,e4,m6 ha]
theorem xP {s:GS} {d:Int} {A:Act} {v:Int} (h:0≤d) (h0:0≤v) (hne:v≠d):V (sD s d A) v=V s v:=by
 cases A<;>unfold V sD<;>simp only[cP,stI,stB,stA,Ko h h0 hne,Kp h h0 hne]
theorem GN {s t:GS} {d e:Int} {A:Act} {n m:Nat} (h0:0≤d) (h1:d<n) (g0:0≤e) (g1:e<m) (l1:s.ints.length=n∧s.bools.length=n∧s.arrs.length=n) (l2:t.ints.length=m∧t.bools.length=m∧t.arrs.length=m) (h:V t e=V s d):V (sD t e A) e=V (sD s d A) d:=by
 unfold V at h
 simp only[Prod.mk.injEq] at h
 obtain ⟨e1,e2,e3⟩:=h
 cases A<;>unfold V sD<;>simp only[cP,stI,stB,stA,e1,e2,e3] <;>
  (try rw[xO h0 (by omega),xO g0 (by omega)])<;>(try rw[Iv h0 (by omega),Iv g0 (by omega)])<;>(try rw[xO h0 (by omega),xO g0 (by omega)])
theorem CU {f:ab} {s:GS} {x:bc} (hF:eu f x) (ho:¬(18≤x.op∧x.op≤24)) (hd:x.dst<0):(∃e,sE s x=.stop e)∨(∃l,sE s x=.row l)∨∃l,sE s x=.out l:=by
 have hop:=hF.op
 obtain ⟨j,hj⟩:∃j:Nat,x.op=(j:Int):=⟨x.op.toNat,by omega⟩
 have hm:cQ x.op=false:=by
  rcases hF.dst with h|⟨_,_,h⟩
  ·exact h.1
  ·have:=(dU h).2;omega
 rw[hj,En j (by omega)] at hm
 have:j=14∨j=17:=by
  rw[hj] at ho
  have:j=0∨j=1∨j=2∨j=3∨j=4∨j=5∨j=6∨j=7∨j=8∨j=9∨j=10∨j=11∨j=12∨j=13∨j=14∨j=15∨j=16∨j=17∨j=25∨j=26:=by omega
  rcases this with h|h|h|h|h|h|h|h|h|h|h|h|h|h|h|h|h|h|h|h
  all_goals (subst h;first|(exact absurd hm (by decide))|omega)
 unfold sE
 rw[hj]
 rcases this with rfl|rfl
 ·simp;by_cases h:dp s (rG s x) (bG s x)=true<;>simp[h]
 ·simp;by_cases h:4096≤s.trace.length<;>simp[h]
theorem xQ {s:GS} {d:Int} {A:Act} (h:(∃e,A=.stop e)∨(∃l,A=.row l)∨∃l,A=.out l) (v:Int):V (sD s d A) v=V s v:=by
 rcases h with ⟨_,rfl⟩|⟨_,rfl⟩|⟨_,rfl⟩<;>rfl
theorem pA (s t:GS) (p:bu):assign s t p=sD t p.dst (.all (V s (bv p s.blk))):=rfl
end
section
open Go.Proofs.Tryz
open Go.Proofs Go.Lib
structure ir (R W:Int→Prop) (β ν:Int→Int) (s t:GS):Prop where
 rb:R s.blk
 blk:t.blk=β s.blk
 pc:t.pc=s.pc
 en:t.en=s.en
 val:t.val=s.val
 tr:t.tr=s.tr
 trace:t.trace=s.trace
 st:t.st=s.st
 ck:t.ck=s.ck
 arrays:t.arrays=s.arrays
 ended:t.ended=s.ended
 vars:∀v,W v→V t (ν v)=V s v
def lx (s:GS) (n:Nat):Prop:=s.ints.length=n∧s.bools.length=n∧s.arrs.length=n
theorem xR {s:GS} {d:Int} {A:Act} {n:Nat} (h:lx s n):lx (sD s d A) n:=by
 obtain ⟨h1,h2,h3⟩:=h
 cases A<;>unfold sD lx<;>simp[cP,stI,stB,stA,h1,h2,h3]
theorem nY {f:ab} {s:GS} {x:bc} (h:(blkG f s.blk).insts[s.pc]?=some x):cU f s=bV { s with pc:=s.pc+1,st:=s.st+1 } x:=by unfold cU;rw[h]
theorem l5 {f:ab} {s:GS} (h:(blkG f s.blk).insts[s.pc]?=none):cU f s=if (blkG f s.blk).term.kind=2 then cP { s with st:=s.st+1,val:=vi s.ints (blkG f s.blk).term.var } 0 else dB f { s with st:=s.st+1 } (gc f s):=by unfold cU;rw[h]
theorem sF (p:bu) (b:Int):bv p b=(jZ p b).getD (-1):=by
 unfold bv jZ iF
 cases List.find? (fun q:Int × Int=>decide (q.1=b)) (p.from_.zip p.args)<;>rfl
def l6 (P:bu→bu→Prop):List bu→List bu→Prop
 |[],[]=>True
 |p::l,q::m=>P p q∧l6 P l m
 |_,_=>False
theorem l6.of {P:bu→bu→Prop}:∀{l m:List bu},m.length=l.length→(∀(i:Nat) (p q:bu),l[i]?=some p→m[i]?=some q→P p q)→l6 P l m
 |[],[],_,_=>trivial
 |[],_::_,h,_=>by cases h
 |_::_,[],h,_=>by cases h
 |p::l,q::m,h,k=>⟨k 0 p q rfl rfl,l6.of (by simpa using h) fun i a b ha hb=>k (i+1) a b (by simpa using ha) (by simpa using hb)⟩
section
variable {R W:Int→Prop} {β ν:Int→Int}
theorem ir.acts {s t:GS} (hs:ir R W β ν s t) {n m:Nat} (hi:∀u v,W u→W v→ν u=ν v→u=v) (hv:∀v,W v→(0≤v∧v<n)∧0≤ν v∧ν v<m) (l1:lx s n) (l2:lx t m) {d e:Int} {A:Act} (hd:(W d∧e=ν d)∨((∃e,A=.stop e)∨(∃l,A=.row l)∨∃l,A=.out l)):ir R W β ν (sD s d A) (sD t e A):=by
 have hvars:∀v,W v→V (sD t e A) (ν v)=V (sD s d A) v:=fun v hw=>by
  rcases hd with ⟨hd,rfl⟩|hd
  ·have h1:=hv d hd
   by_cases e:v=d
   ·subst e
    exact GN h1.1.1 h1.1.2 h1.2.1 h1.2.2 l1 l2 (hs.vars v hd)
   ·rw[xP h1.1.1 (hv v hw).1.1 e,xP h1.2.1 (hv v hw).2.1 fun k=>e (hi v d hw hd k)]
    exact hs.vars v hw
  ·rw[xQ hd,xQ hd];exact hs.vars v hw
 obtain ⟨a1,a2,a3,a4,a5,a6,a7,a8,a9,a10,a11,_⟩:=hs
 cases A<;>exact ⟨a1,a2,a3,by first|exact a4|rfl,a5,a6,by first|exact a7|rfl,a8,a9,by first|exact a10|rfl,by first|exact a11|rfl,hvars⟩
theorem ir.folds {s t:GS} {n m:Nat} (hi:∀u v,W u→W v→ν u=ν v→u=v) (hv:∀v,W v→(0≤v∧v<n)∧0≤ν v∧ν v<m) (hst:∀v,W v→V t (ν v)=V s v):∀{l k:List bu} {s1 t1:GS},l6 (fun p q=>q.dst=ν p.dst∧W p.dst∧W (bv p s.blk)∧bv q t.blk=ν (bv p s.blk)) l k→ir R W β ν s1 t1→lx s1 n→lx t1 m→ir R W β ν (l.foldl (assign s) s1) (k.foldl (assign t) t1)∧lx (l.foldl (assign s) s1) n∧lx (k.foldl (assign t) t1) m
 |[],[],s1,t1,_,h,l1,l2=>⟨h,l1,l2⟩
 |[],_::_,_,_,h,_,_,_=>False.elim h
 |_::_,[],_,_,h,_,_,_=>False.elim h
 |p::l,q::k,s1,t1,hr,h,l1,l2=>by
  obtain ⟨⟨r1,r2,r3,r4⟩,hr⟩:=hr
  rw[List.foldl_cons,List.foldl_cons]
  have e1:assign s s1 p=sD s1 p.dst (.all (V s (bv p s.blk))):=pA ..
  have e2:assign t t1 q=sD t1 q.dst (.all (V s (bv p s.blk))):=by rw[pA,r4,hst _ r3]
  refine ir.folds hi hv hst hr ?_ ?_ ?_
  ·rw[e1,e2];exact h.acts hi hv l1 l2 (.inl ⟨r2,r1⟩)
  ·rw[e1];exact xR l1
  ·rw[e2];exact xR l2
variable {f g:ab} (h:lR R W β ν f g) (hRf:pd f) (hRg:pd g) (hW:∀v,W v→bl f v=true∧bl g (ν v)=true) (hD:∀x,R x→∀p∈(bb f x).phis,kT p)
include h hRf hRg hW hD
omit hRf hRg hW hD in
theorem lR.blkG {x:Int} (hx:R x):blkG f x=bb f x∧Go.Proofs.YtjpnhkmfhlnpcaaGreatDoor.blkG g (β x)=bb g (β x):=by
 have hr:=h.rng x hx
 unfold Go.Proofs.YtjpnhkmfhlnpcaaGreatDoor.blkG bb
 rw[qq (by omega),qq (by omega)]
 exact ⟨rfl,rfl⟩
omit hRg in
theorem ir.step {s t:GS} (hs:ir R W β ν s t) (gs:bB f s) (gt:bB g t):ir R W β ν (cU f s) (cU g t):=by
 have hv:∀v,W v→(0≤v∧v<f.vars.length)∧0≤ν v∧ν v<g.vars.length:=fun v k=>by
  have a:=dU (hW v k).1
  have b:=dU (hW v k).2
  exact ⟨⟨a.2,a.1⟩,b.2,b.1⟩
 have ls:lx s f.vars.length:=⟨gs.li,gs.lb,gs.la⟩
 have lt:lx t g.vars.length:=⟨gt.li,gt.lb,gt.la⟩
 have hr:=h.rng _ hs.rb
 have hb:=h.blk _ hs.rb
 have hG:=h.blkG hs.rb
 have hm:=eO hr.1.1 hr.1.2
 have hgx:(Go.Proofs.YtjpnhkmfhlnpcaaGreatDoor.blkG g t.blk).insts[t.pc]?=((bb f s.blk).insts[s.pc]?).map (jG ν):=by rw[hs.blk,hG.2,hb.insts,hs.pc,qy]
 cases hx:(bb f s.blk).insts[s.pc]? with
 |some x=>
  rw[nY (f:=f) (s:=s) (by rw[hG.1];exact hx),nY (f:=g) (s:=t) (x:=jG ν x) (by rw[hgx,hx];rfl),hs.pc]
  have hxm:=w0 hx
  have hF:=(hRf.insts _ hm x hxm).1
  have hiv:=hb.instv x hxm
  have h0:ir R W β ν { s with pc:=s.pc+1,st:=s.st+1 } { t with pc:=s.pc+1,st:=t.st+1 }:=⟨hs.rb,hs.blk,rfl,hs.en,hs.val,hs.tr,hs.trace,by show t.st+1=s.st+1;rw[hs.st],hs.ck,hs.arrays,hs.ended,hs.vars⟩
  have l0:lx { s with pc:=s.pc+1,st:=s.st+1 } f.vars.length:=ls
  have k0:lx { t with pc:=s.pc+1,st:=t.st+1 } g.vars.length:=lt
  generalize ({ s with pc:=s.pc+1,st:=s.st+1 }:GS)=s0 at h0 l0
  generalize ({ t with pc:=s.pc+1,st:=t.st+1 }:GS)=t0 at h0 k0
  have hargs:∀(i:Nat),i<x.args.length→V s0 ((x.args[i]?).getD 0)=V t0 (((jG ν x).args[i]?).getD 0):=fun i hi=>by
   show _=V t0 (((x.args.map ν)[i]?).getD 0)
   rw[qy,qq hi]
   exact (h0.vars _ (hiv _ (List.mem_append_left _ (qu hi)))).symm
  have hA:uA s0 t0 x (jG ν x):=⟨rfl,rfl,fun hl=>hargs 0 hl,fun hl=>hargs 1 hl,fun hl=>hargs 2 hl⟩
  unfold bV
  by_cases ho:18≤x.op∧x.op≤24
  ·have hp:=we hF ho hA (qx ..).symm h0.arrays.symm
   have hp:ed s0 x.op x.args=ed t0 (jG ν x).op (jG ν x).args:=hp
   rw[if_pos ho,if_pos (show 18≤(jG ν x).op∧(jG ν x).op≤24 from ho),←hp]
   have hbp:ir R W β ν (ij s0 (x.op - 17).toNat) (ij t0 (x.op - 17).toNat):=⟨h0.rb,h0.blk,h0.pc,h0.en,h0.val,h0.tr,h0.trace,h0.st,by unfold ij;dsimp only;rw[h0.ck],h0.arrays,h0.ended,h0.vars⟩
   by_cases hq:ed s0 x.op x.args=true
   ·rw[if_pos hq,if_pos hq];exact hbp
   ·rw[if_neg hq,if_neg hq]
    exact ⟨hbp.rb,hbp.blk,hbp.pc,rfl,hbp.val,rfl,hbp.trace,hbp.st,hbp.ck,hbp.arrays,rfl,hbp.vars⟩
  ·rw[if_neg ho,if_neg (show ¬(18≤(jG ν x).op∧(jG ν x).op≤24) from ho),Ez,Ez,←CT hF ho hA h0.arrays.symm h0.trace.symm]
   refine h0.acts h.vinj hv l0 k0 ?_
   rw[pe]
   by_cases hd:0≤x.dst
   ·rw[if_pos hd]
    exact .inl ⟨hiv _ (by unfold f9;rw[if_pos hd];simp),rfl⟩
   ·exact .inr (CU hF ho (by omega))
 |none=>
  have ht:=hRf.term _ hm
  have htv:=hb.termv
  have hend:∀c∈aU (bb f s.blk).term,R c:=by rw[←eh hr.1.1 hr.1.2];exact h.cl _ hs.rb
  have hnx:gc f s=if (bb f s.blk).term.kind=0∨gb s.bools (bb f s.blk).term.var=true then (bb f s.blk).term.to0 else (bb f s.blk).term.to1:=by unfold gc;rw[hG.1]
  have hnx2:gc g t=if (dT ν β (bb f s.blk).term).kind=0∨gb t.bools (dT ν β (bb f s.blk).term).var=true then (dT ν β (bb f s.blk).term).to0 else (dT ν β (bb f s.blk).term).to1:=by unfold gc;rw[hs.blk,hG.2,hb.term]
  have htm:(Go.Proofs.YtjpnhkmfhlnpcaaGreatDoor.blkG g t.blk).term=dT ν β (bb f s.blk).term:=by rw[hs.blk,hG.2,hb.term]
  rw[l5 (f:=f) (s:=s) (by rw[hG.1];exact hx),l5 (f:=g) (s:=t) (by rw[hgx,hx];rfl),hnx,hnx2,htm,hG.1]
  generalize (bb f s.blk).term=u at ht htv hend
  have hk:(dT ν β u).kind=u.kind:=by unfold dT;split;rfl;split<;>rfl
  rw[hk]
  by_cases h2:u.kind=2
  ·rw[if_pos h2,if_pos h2]
   have hvr:(dT ν β u).var=ν u.var:=by unfold dT;rw[if_neg (by omega),if_neg (by omega)]
   have hw:W u.var:=htv _ (by unfold fx;rw[if_neg (by omega)];exact .head _)
   have:=hs.vars _ hw
   unfold V at this
   simp only[Prod.mk.injEq] at this
   refine ⟨hs.rb,hs.blk,hs.pc,Z,?_,hs.tr,hs.trace,by show t.st+1=s.st+1;rw[hs.st],hs.ck,hs.arrays,rfl,hs.vars⟩
   show vi t.ints (dT ν β u).var=vi s.ints u.var
   rw[hvr];exact this.1
  ·rw[if_neg h2,if_neg h2]
   have hto:∃c,R c∧(if u.kind=0∨gb s.bools u.var=true then u.to0 else u.to1)=c∧(if u.kind=0∨gb t.bools (dT ν β u).var=true then (dT ν β u).to0 else (dT ν β u).to1)=β c:=by
    unfold aU at hend
    by_cases k0:u.kind=0
    ·rw[if_pos k0] at hend
     refine ⟨u.to0,hend _ (.head _),if_pos (.inl k0),?_⟩
     rw[if_pos (.inl k0)];unfold dT;rw[if_pos k0]
    ·rw[if_neg k0] at hend
     have k1:u.kind=1:=by
      unfold bj at ht
      rw[if_neg k0] at ht
      by_cases k1:u.kind=1
      ·exact k1
      ·rw[if_neg k1,if_neg h2] at ht;cases ht
     rw[if_pos k1] at hend
     have hw:W u.var:=htv _ (by unfold fx;rw[if_neg k0];exact .head _)
     have hvv:=hs.vars _ hw
     unfold V at hvv
     simp only[Prod.mk.injEq] at hvv
     have et:dT ν β u=⟨u.kind,ν u.var,β u.to0,β u.to1⟩:=by unfold dT;rw[if_neg k0,if_pos k1]
     rw[et]
     dsimp only
     rw[hvv.2.1]
     have r0:R u.to0:=hend _ (by split<;>simp)
     have r1:R u.to1:=by
      by_cases e:u.to0=u.to1
      ·rw[←e];exact r0
      ·exact hend _ (by rw[if_neg e];simp)
     by_cases c:u.kind=0∨gb s.bools u.var=true
     ·exact ⟨u.to0,r0,if_pos c,if_pos c⟩
     ·exact ⟨u.to1,r1,if_neg c,if_neg c⟩
   obtain ⟨c,hc,e1,e2⟩:=hto
   rw[e1,e2]
   have hGc:=h.blkG hc
   have hbc:=h.blk _ hc
   have h0:ir R W β ν { s with st:=s.st+1 } { t with st:=t.st+1 }:=⟨hs.rb,hs.blk,hs.pc,hs.en,hs.val,hs.tr,hs.trace,by show t.st+1=s.st+1;rw[hs.st],hs.ck,hs.arrays,hs.ended,hs.vars⟩
   have l0:lx { s with st:=s.st+1 } f.vars.length:=ls
   have k0:lx { t with st:=t.st+1 } g.vars.length:=lt
   have sb:({ s with st:=s.st+1 }:GS).blk=s.blk:=rfl
   have tb:({ t with st:=t.st+1 }:GS).blk=β s.blk:=hs.blk
   generalize ({ s with st:=s.st+1 }:GS)=s0 at h0 l0 sb
   generalize ({ t with st:=t.st+1 }:GS)=t0 at h0 k0 tb
   have hrel:l6 (fun p q=>q.dst=ν p.dst∧W p.dst∧(0≤bv p s0.blk↔0≤bv q t0.blk)∧(0≤bv p s0.blk→W (bv p s0.blk)∧bv q t0.blk=ν (bv p s0.blk))) (bb f c).phis (bb g (β c)).phis:=by
    refine l6.of hbc.nphi fun i p q hp hq=>?_
    obtain ⟨d1,d2,_⟩:=hbc.phi i p q hp hq
    obtain ⟨hl,hlv⟩:=h.look hD hc hs.rb hp hq
    refine ⟨d1,d2,?_⟩
    rw[sF,sF,sb,tb,hl]
    cases ha:jZ p s.blk with
    |none=>exact ⟨Iff.rfl,fun k=>absurd k (by decide)⟩
    |some a=>
     have hw:=hlv a ha
     have:=hv a hw
     exact ⟨⟨fun _=>this.2.1,fun _=>this.1.1⟩,fun _=>⟨hw,rfl⟩⟩
   have hall:∀{l k:List bu},l6 (fun p q=>q.dst=ν p.dst∧W p.dst∧(0≤bv p s0.blk↔0≤bv q t0.blk)∧(0≤bv p s0.blk→W (bv p s0.blk)∧bv q t0.blk=ν (bv p s0.blk))) l k →
     k.all (fun p=>decide (0≤bv p t0.blk))=l.all (fun p=>decide (0≤bv p s0.blk))∧(l.all (fun p=>decide (0≤bv p s0.blk))=true→l6 (fun p q=>q.dst=ν p.dst∧W p.dst∧W (bv p s0.blk)∧bv q t0.blk=ν (bv p s0.blk)) l k):=by
    intro l
    induction l with
    |nil=>intro k;cases k with
     |nil=>exact fun _=>⟨rfl,fun _=>trivial⟩
     |cons=>exact fun h=>h.elim
    |cons p l ih=>intro k;cases k with
     |nil=>exact fun h=>h.elim
     |cons q k=>
      rintro ⟨⟨r1,r2,r3,r4⟩,hr⟩
      obtain ⟨i1,i2⟩:=ih hr
      refine ⟨?_,fun ha=>?_⟩
      ·rw[List.all_cons,List.all_cons,i1]
       congr 1
       exact decide_eq_decide.2 r3.symm
      ·rw[List.all_cons,w6,wa] at ha
       exact ⟨⟨r1,r2,r4 ha.1⟩,i2 ha.2⟩
   obtain ⟨i1,i2⟩:=hall hrel
   unfold dB
   rw[hGc.1,hGc.2,i1]
   by_cases ha:(bb f c).phis.all (fun p=>decide (0≤bv p s0.blk))=true
   ·rw[if_pos ha,if_pos ha]
    have hf:=(ir.folds h.vinj hv h0.vars (i2 ha) h0 l0 k0).1
    exact ⟨hc,rfl,rfl,hf.en,hf.val,hf.tr,hf.trace,hf.st,hf.ck,hf.arrays,hf.ended,hf.vars⟩
   ·rw[if_neg ha,if_neg ha]
    exact ⟨hc,rfl,rfl,rfl,h0.val,h0.tr,h0.trace,h0.st,h0.ck,h0.arrays,rfl,h0.vars⟩
theorem ir.run:∀(k:Nat) {s t:GS},ir R W β ν s t→bB f s→bB g t→ir R W β ν (df f k s) (df g k t)
 |0,_,_,hs,_,_=>hs
 |k+1,s,t,hs,gs,gt=>by
  unfold df
  rw[hs.ended]
  by_cases e:s.ended=true
  ·rw[if_pos e,if_pos e];exact hs
  ·rw[if_neg e,if_neg e]
   exact ir.run k (hs.step h hRf hW hD gs gt) (gs.step hRf) (gt.step hRg)
end
end
section
open Go.Proofs.Tryz
open Go.Proofs Go.Lib
theorem kJ {α β:Type} {G:Nat→α→β} {d:β} {n:Nat} {l:List α} {v:Nat} {a:α} (h:l[v]?=some a):(cM G d n l)[v]?=some (G v a):=by
 obtain ⟨hv,_⟩:=List.getElem?_eq_some_iff.1 h
 unfold cM
 rw[List.getElem?_append_left (by simpa using hv),qy,List.getElem?_zipIdx,h]
 show some (G (0+v) a)=_
 rw[Nat.zero_add]
theorem iv {α β:Type} {G:Nat→α→β} {d:β} {n:Nat} {l:List α} {v:Nat} (hl:l.length≤v) (hv:v<n):(cM G d n l)[v]?=some d:=by
 unfold cM
 rw[List.getElem?_append_right (by simpa using hl),List.getElem?_replicate,qx,List.length_zipIdx,if_pos (by omega)]
section
variable {R W:Int→Prop} {β ν:Int→Int} {f g:ab} (h:lR R W β ν f g) (hS:bA f)
include h hS
theorem lR.tyP {j:Nat} (hj:j<f.params.length):nT g j=nT f j∧W (j:Int)∧ν j=j:=by
 have hm:(j:Int)∈f.params:=by rw[←hS.2.1 j hj];exact qu hj
 obtain ⟨h1,h2⟩:=h.parv _ hm
 have:=(h.vty _ h1).2.2
 rw[h2] at this
 exact ⟨this,h1,h2⟩
theorem lR.beg (hW:∀v,W v→bl f v=true∧bl g (ν v)=true) {i:vb} (hl:i.args.length=f.params.length):ir R W β ν (dF f i) (dF g i):=by
 refine ⟨h.r0,h.b0.symm,Z,Z,Z,Z,Z,Z,Z,Z,Z,fun v hv=>?_⟩
 have a:=dU (hW v hv).1
 have b:=dU (hW v hv).2
 by_cases hp:v<f.params.length
 ·obtain ⟨t1,t2,t3⟩:=h.tyP hS (j:=v.toNat) (by omega)
  rw[w8 a.2] at t3
  rw[t3]
  have hg:=qq (l:=i.args) (i:=v.toNat) (by omega)
  unfold V vi gb dF
  dsimp only
  rw[kJ hg,kJ hg,kJ hg,kJ hg,kJ hg,kJ hg]
  unfold o9 pa nA
  rw[t1]
 ·have hn:¬ν v<f.params.length:=fun k=>by
   obtain ⟨t1,t2,t3⟩:=h.tyP hS (j:=(ν v).toNat) (by omega)
   rw[w8 b.2] at t2 t3
   have:=h.vinj _ _ t2 hv t3
   omega
  unfold V vi gb dF
  dsimp only
  rw[iv (by omega) (by omega),iv (by omega) (by omega),iv (by omega) (by omega),iv (by omega) (by omega),iv (by omega) (by omega),iv (by omega) (by omega)]
end
end
section
open Go.Proofs.Tryz
open Go.Proofs Go.Lib
section
variable {g:ab} (hE:br g)
include hE
theorem l7 {x:Int} (hx:x∈ord g):au (bh g) (dK g x)=(au g x).map (dK g):=by
 obtain ⟨k,hk,h2,h3⟩:=iR hE hx
 have hr:=bm hE.grph.toEOk hx
 have hl:(bh g).blocks.length=(fy g).length:=qx ..
 have hend:∀c∈aU (bb g x).term,c∈ord g:=by rw[←eh hr.1 hr.2];exact fun c hc=>lV hE hx hc
 rw[eh (f:=bh g) (by omega) (by omega),o1 hE hx,eh hr.1 hr.2]
 exact mC fun a ha b hb=>lS hE (hend a ha) (hend b hb)
theorem rM {P:Int→Prop} {x:Int} (h:gF (au g) P 0 x):x∈ord g∧gF (au (bh g)) (fun _=>True) 0 (dK g x):=by
 induction h with
 |refl _=>exact ⟨lT hE,by rw[lU hE];exact .refl trivial⟩
 |@step b c _ h1 _ ih=>
  refine ⟨lV hE ih.1 h1,.step ih.2 ?_ trivial⟩
  rw[l7 hE ih.1]
  exact List.mem_map.2 ⟨c,h1,rfl⟩
theorem EA {Q:Int→Prop} {y:Int} (h:gF (au (bh g)) Q 0 y):∃x,x∈ord g∧dK g x=y∧gF (au g) (fun z=>Q (dK g z)) 0 x:=by
 induction h with
 |refl h=>exact ⟨0,lT hE,lU hE,.refl (by rw[lU hE];exact h)⟩
 |@step b c _ h1 h2 ih=>
  obtain ⟨x,hx,rfl,hw⟩:=ih
  rw[l7 hE hx] at h1
  obtain ⟨z,hz,rfl⟩:=List.mem_map.1 h1
  exact ⟨z,lV hE hx hz,rfl,.step hw hz h2⟩
theorem sG {x:Int}:x∈ord g↔tj (au g) x:=el hE.grph.toEOk x
theorem CV {x y:Int} (hx:x∈ord g) (h:qV (au g) y x):qV (au (bh g)) (dK g y) (dK g x):=by
 refine ⟨(rM hE ((sG hE).1 hx)).2,fun hw=>?_⟩
 obtain ⟨z,hz,e,w⟩:=EA hE hw
 obtain rfl:=lS hE hz hx e
 exact h.2 (w.mono fun u hu e=>hu (by rw[e]))
theorem wg:xb (bh g):=fun i hi=>by
 have hl:(bh g).blocks.length=(fy g).length:=qx ..
 have hi2:i<(fy g).length:=by omega
 have hg:=qq hi2
 have hm:(((fy g)[i]:Nat):Int)∈ord g:=(j5 hE).1 (qu hi2)
 have:=(rM hE ((sG hE).1 hm)).2
 rwa [kx hE hg] at this
end
theorem GO {S T:Int→List Int} (h:∀x c,c∈S x→c∈T x) {P:Int→Prop} {r x:Int} (hw:gF S P r x):gF T P r x:=by
 induction hw with
 |refl h=>exact .refl h
 |step _ h1 h2 ih=>exact .step ih (h _ _ h1) h2
def Iw (v:Int) (b:aB):Nat:=(jU v 0 b).length
theorem Jg (v:Int) (i:Int) (b:aB):(jU v i b).length=Iw v b:=by simp[jU,Iw]
theorem gM (f:ab) (v:Int):(bq f v).length=(f.blocks.map (Iw v)).sum:=by
 unfold bq
 rw[List.length_flatMap]
 congr 1
 have key:∀(l:List aB) (i:Nat),l.map (Iw v)=(l.zipIdx i).map fun b=>Iw v b.1:=fun l=>by
  induction l with
  |nil=>exact fun _=>rfl
  |cons b l ih=>intro i;rw[List.zipIdx_cons,List.map_cons,List.map_cons,ih (i+1)]
 rw[key f.blocks 0]
 exact List.map_congr_left fun b _=>Jg v _ _
theorem uB (v:Int) (i j:Int) (nm:Int→Int) (fr:List Int) (b:aB):jU v i (eM nm fr b)=(jU v j b).map fun z=>(i,z.2):=by
 unfold jU
 rw[List.map_append,List.map_map,List.map_map]
 show (((b.phis.map (cL nm fr)).filter _).map _)++_=_
 rw[List.filter_map,List.map_map]
 rfl
theorem EB (v:Int) (nm:Int→Int) (fr:List Int) (b:aB):Iw v (eM nm fr b)=Iw v b:=by
 unfold Iw
 rw[uB v 0 0,qx]
theorem sH (f:ab) (G:aB→Nat):f.blocks.map G=(List.range f.blocks.length).map fun b:Nat=>G (bb f b):=by
 apply List.ext_getElem
 ·simp
 ·intro i h1 h2
  rw[List.getElem_map,List.getElem_map,List.getElem_range,eN (qq (by simpa using h1))]
theorem rN (g:ab) (G H:aB→Nat) (h:∀nm fr b,G (eM nm fr b)≤H b):((bh g).blocks.map G).sum≤(g.blocks.map H).sum:=by
 rw[sH g H]
 refine Nat.le_trans ?_ (xD (List.filter_sublist (p:=fun b:Nat=>decide ((b:Int)∈ord g))))
 show (((fy g).map _).map _).sum≤_
 rw[List.map_map]
 show ((fy g).map _).sum≤((fy g).map _).sum
 generalize fy g=L
 induction L with
 |nil=>exact Nat.le_refl _
 |cons a L ih=>rw[List.map_cons,List.map_cons,List.sum_cons,List.sum_cons];exact Nat.add_le_add (h _ _ _) ih
theorem uC (g:ab) (v:Int):(bq (bh g) v).length≤(bq g v).length:=by
 rw[gM,gM]
 exact rN g _ _ fun nm fr b=>Nat.le_of_eq (EB v nm fr b)
theorem EC {g:ab} (hE:br g) {v:Int} {m:pZ} (h:m∈bq (bh g) v):∃x,x∈ord g∧m.1=dK g x∧(x,m.2)∈bq g v:=by
 obtain ⟨i,c,hc,hm⟩:=gJ.1 h
 have hc:((fy g).map _)[i]?=some c:=hc
 rw[qy] at hc
 obtain ⟨b,hb,rfl⟩:=Option.map_eq_some_iff.1 hc
 have hbo:(b:Int)∈ord g:=(j5 hE).1 (w0 hb)
 have hr:=bm hE.grph.toEOk hbo
 have hbl:b<g.blocks.length:=by omega
 rw[uB v i b] at hm
 obtain ⟨z,hz,rfl⟩:=List.mem_map.1 hm
 refine ⟨b,hbo,(kx hE hb).symm,gJ.2 ⟨b,g.blocks[b],qq hbl,?_⟩⟩
 rw[eN (qq hbl)] at hz
 have hz1:z.1=(b:Int):=by
  unfold jU at hz
  rcases List.mem_append.1 hz with h|h
  ·obtain ⟨_,_,rfl⟩:=List.mem_map.1 h;rfl
  ·obtain ⟨_,_,rfl⟩:=List.mem_map.1 h;rfl
 have e:((b:Int),z.2)=z:=by rw[←hz1]
 show ((b:Int),z.2)∈_
 rw[e];exact hz
theorem GP {f:ab} {l:List Int} {v:Int} {m:pZ} (h:m∈bq (aL l f) v):m∈bq f v:=by
 obtain ⟨i,c,hc,hm⟩:=gJ.1 h
 have e:(aL l f).blocks[i]?=(f.blocks[i]?).map (eW l i):=fF i
 rw[e] at hc
 obtain ⟨b,hb,rfl⟩:=Option.map_eq_some_iff.1 hc
 exact gJ.2 ⟨i,b,hb,hm⟩
theorem uD {α:Type} {f:ab} {l:List Int} (G:aB→α) (h:∀i b,G (eW l i b)=G b):(aL l f).blocks.map G=f.blocks.map G:=by
 refine List.ext_getElem? fun i=>?_
 have e:(aL l f).blocks[i]?=(f.blocks[i]?).map (eW l i):=fF i
 rw[qy,qy,e]
 cases f.blocks[i]? with
 |none=>rfl
 |some b=>exact congrArg some (h i b)
theorem wh {f:ab} {l:List Int} (v:Int):(bq (aL l f) v).length=(bq f v).length:=by
 rw[gM,gM,uD _ fun _ _=>rfl]
section
variable {f:ab} {l:List Int}
theorem fS {x:Int} (h0:0≤x) (h1:x<f.blocks.length):bb (aL l f) x=eW l x.toNat (bb f x):=lX h0 h1
theorem ff:(aL l f).blocks.length=f.blocks.length:=mH
theorem pB {g:ab} {x:Int} (h0:0≤x) (h1:x<g.blocks.length):g9 g x=(bb g x).insts.length:=by
 unfold g9 bb
 rw[qq (by omega)];rfl
theorem pC (hT:aT f=true) {x:Int} (hx:x∈ord (aL l f)):0≤x∧x<f.blocks.length:=by
 have:=bm (dC (da (l:=l) hT)).grph.toEOk hx
 rwa [ff] at this
theorem wi (hT:aT f=true) {x:Int} (hx:x∈ord (aL l f)):g9 (bh (aL l f)) (dK (aL l f) x)=g9 f x:=by
 have hE:=dC (da (l:=l) hT)
 have hr:=pC hT hx
 obtain ⟨k,hk,h2,h3⟩:=iR hE hx
 have hl:(bh (aL l f)).blocks.length=(fy (aL l f)).length:=qx ..
 rw[pB (by omega) (by omega),o1 hE hx,pB hr.1 hr.2,fS hr.1 hr.2];rfl
theorem ED (hT:aT f=true) {x y:Int} (hx:x∈ord (aL l f)) (h:qV (au f) y x):qV (au (aL l f)) y x:=
 ⟨(sG (dC (da (l:=l) hT))).1 hx,fun hw=>h.2 (GO (fun _ _=>rI) hw)⟩
theorem ly (hT:aT f=true) (hO:rm f) {v x a:Int} (hv:bl f v=true) (hx:x∈ord (aL l f)) (h:gT f (bx f v) x a):gT (bh (aL l f)) (bx (bh (aL l f)) v) (dK (aL l f) x) a:=by
 have hE:=dC (da (l:=l) hT)
 by_cases hm:0≤(bx (bh (aL l f)) v).1
 ·obtain ⟨y,hy,e1,hmk⟩:=EC hE (Cz hm)
  have hv2:=dU hv
  have hv1:(bq f v).length≤1:=by
   have:=(hO v.toNat (by omega)).1
   rwa [w8 hv2.2] at this
  have e2:=Ei hv1 (GP hmk)
  rw[e2] at h
  rcases h with h|h|h
  ·have h:y<0:=h
   have:=pC hT hy
   omega
  ·exact .inr (.inl ⟨by rw[e1];exact congrArg _ h.1,h.2⟩)
  ·refine .inr (.inr ⟨hm,?_,?_⟩)
   ·rw[e1];exact fun e=>h.2.1 (lS hE hy hx e)
   ·rw[e1];exact CV hE hx (ED hT hx h.2.2)
 ·exact .inl (by omega)
theorem EE (w:Int) (t:cC) (nm:Int→Int):(dT id nm (bI w t)).kind=0∨((dT id nm (bI w t)).var=t.var∧t.kind≠0):=by
 by_cases h1:t.kind=1
 ·by_cases w1:w=1
  ·exact .inl (by unfold bI;rw[if_pos h1,if_pos w1];rfl)
  ·by_cases w2:w=2
   ·exact .inl (by unfold bI;rw[if_pos h1,if_neg w1,if_pos w2];rfl)
   ·refine .inr ⟨?_,by omega⟩
    unfold bI
    rw[if_pos h1,if_neg w1,if_neg w2]
    unfold dT
    rw[if_neg (by omega),if_pos h1];rfl
 ·unfold bI
  rw[if_neg h1]
  unfold dT
  by_cases h0:t.kind=0
  ·rw[if_pos h0];exact .inl h0
  ·rw[if_neg h0,if_neg h1];exact .inr ⟨rfl,h0⟩
theorem uE:∀{xs ys:List Int} {z:Int × Int},z∈ys.zip xs→(z.2,z.1)∈xs.zip ys
 |[],ys,z,h=>by cases ys<;>cases h
 |_::_,[],z,h=>by cases h
 |a::xs,b::ys,z,h=>by
  rw[List.zip_cons_cons] at h ⊢
  rcases List.mem_cons.1 h with rfl|h
  ·exact .head _
  ·exact .tail _ (uE h)
theorem rO {nm:Int→Int}:∀{L:List (Int × Int)} {q:Int × Int},q∈(L.map (·.2)).zip (L.map fun z=>nm z.1)→∃z∈L,q=(z.2,nm z.1)
 |[],_,h=>by cases h
 |z::L,q,h=>by
  rw[List.map_cons,List.map_cons,List.zip_cons_cons] at h
  rcases List.mem_cons.1 h with rfl|h
  ·exact ⟨z,.head _,rfl⟩
  ·obtain ⟨y,hy,e⟩:=rO h
   exact ⟨y,.tail _ hy,e⟩
theorem CW (hO:rm f):rm (bh (aL l f)):=fun v hv=>by
 have h:=hO v hv
 have hl:=uC (aL l f) v
 rw[wh] at hl
 refine ⟨by omega,fun hne=>h.2 fun e=>hne ?_⟩
 rw[e] at hl
 exact List.eq_nil_of_length_eq_zero (Nat.le_zero.1 hl)
theorem CX (hT:aT f=true) (hs:xc f):xc (bh (aL l f)):=by
 obtain ⟨hJ,_,hO,hB⟩:=hs
 have hE:=dC (da (l:=l) hT)
 have hS:=ej hT
 refine ⟨(j7 hT hJ).2,wg hE,CW hO,fun k hk=>?_⟩
 have hl:(bh (aL l f)).blocks.length=(fy (aL l f)).length:=qx ..
 have hk2:k<(fy (aL l f)).length:=by omega
 obtain ⟨b,hb⟩:∃b,(fy (aL l f))[k]?=some b:=⟨_,qq hk2⟩
 have hbo:(b:Int)∈ord (aL l f):=(j5 hE).1 (w0 hb)
 have hr:=pC hT hbo
 have hbl:b<f.blocks.length:=by omega
 have hmem:f.blocks[b]∈f.blocks:=qu hbl
 have hnb:=kx hE hb
 have hblk:(bh (aL l f)).blocks[k]=eM (dK (aL l f)) (fR (aL l f) b) (eW l b f.blocks[b]):=by
  have e:(bh (aL l f)).blocks[k]?=some (eM (dK (aL l f)) (fR (aL l f) b) (bb (aL l f) b)):=by
   show ((fy (aL l f)).map _)[k]?=_
   rw[qy,hb];rfl
  rw[fS hr.1 hr.2,eN (qq hbl)] at e
  exact (List.getElem?_eq_some_iff.1 e).2
 obtain ⟨b1,b2,b3⟩:=hB b hbl
 rw[hblk]
 unfold nQ
 rw[←hnb]
 refine ⟨fun p hp q hq=>?_,fun j hj v hv=>?_,?_⟩
 ·have hp:p∈(f.blocks[b].phis).map (cL (dK (aL l f)) (fR (aL l f) b)):=hp
  obtain ⟨p0,hp0,rfl⟩:=List.mem_map.1 hp
  obtain ⟨z,hz,rfl⟩:=rO hq
  obtain ⟨hz1,hz2⟩:=List.mem_filter.1 hz
  have hz2:=w9 hz2
  have hzo:z.1∈ord (aL l f):=(xr hE).1 hz2.2
  have hsh:=(hS.2.2.2.2.2 _ hmem).1 p0 hp0
  have hva:bl f z.2=true:=List.all_eq_true.1 hsh.2.2.2.1 _ (List.of_mem_zip hz1).2
  show gT _ _ (dK _ z.1) (g9 _ (dK _ z.1))
  rw[wi hT hzo]
  exact ly hT hO hva hzo (b1 p0 hp0 (z.2,z.1) (uE hz1))
 ·have hx:f.blocks[b].insts[j]∈f.blocks[b].insts:=qu hj
  have hva:bl f v=true:=rC hS hmem hx v (by unfold f9;exact List.mem_append_left _ hv)
  exact ly hT hO hva hbo (b2 j hj v hv)
 ·rcases EE ((l[b]?).getD 0) f.blocks[b].term (dK (aL l f)) with h|⟨h,h0⟩
  ·exact .inl h
  ·refine .inr ?_
   show gT _ (bx _ (dT id (dK (aL l f)) (bI _ f.blocks[b].term)).var) _ _
   rw[h]
   have hva:bl f f.blocks[b].term.var=true:=rD hS hmem _ (by unfold fx;rw[if_neg h0];exact .head _)
   exact ly hT hO hva hbo (b3.resolve_left h0)
theorem uF (h:iP f):iP (bh (aL l f)):=by
 obtain ⟨h1,h2,h3,h4,h5,h6⟩:=h
 have hrl:=List.length_filter_le (fun b:Nat=>decide ((b:Int)∈ord (aL l f))) (List.range (aL l f).blocks.length)
 rw[List.length_range,ff] at hrl
 have hpl:∀(nm:Int→Int) (fr:List Int) (p:bu),(cL nm fr p).args.length≤p.args.length∧(cL nm fr p).from_.length≤p.from_.length:=fun nm fr p=>by
  have hk:=List.length_filter_le (fun z:Int × Int=>decide (z.1∈fr∧0≤nm z.1)) (iF p)
  have hz:(iF p).length≤p.args.length∧(iF p).length≤p.from_.length:=by unfold iF;rw[List.length_zip];omega
  show ((gW nm fr p).map _).length≤_∧((gW nm fr p).map _).length≤_
  rw[qx,qx]
  unfold gW
  omega
 have hwP:∀(nm:Int→Int) (fr:List Int) (L:List bu),wP (L.map (cL nm fr))≤wP L:=fun nm fr L=>by
  unfold wP
  rw[List.map_map]
  induction L with
  |nil=>exact Nat.le_refl _
  |cons p L ih=>
   rw[List.map_cons,List.map_cons,List.sum_cons,List.sum_cons]
   have:=hpl nm fr p
   show (cL nm fr p).args.length+(cL nm fr p).from_.length+_≤_
   omega
 refine ⟨h1,by show ((fy _).map _).length≤_;rw[qx];unfold fy;rw[ff];omega,h3,h4,fun c hc=>?_,fun _=>?_⟩
 ·obtain ⟨b,hb,rfl⟩:=List.mem_map.1 hc
  have hb2:b<f.blocks.length:=by
   have:=List.mem_range.1 (List.mem_filter.1 hb).1
   rwa [ff] at this
  rw[fS (by omega) (by omega)]
  obtain ⟨g0,g1,g2,g3,g4⟩:=h5 _ (eO (f:=f) (x:=(b:Int)) (by omega) (by omega))
  refine ⟨g0,by show (List.map _ _).length≤_;rw[qx];exact g1,g2,fun q hq=>?_,g4⟩
  obtain ⟨p,hp,rfl⟩:=List.mem_map.1 hq
  have:=hpl (dK (aL l f)) (fR (aL l f) b) p
  have:=g3 p hp
  omega
 ·by_cases hne:f.blocks=[]
  ·have he:(bh (aL l f)).blocks=[]:=by
    refine List.eq_nil_of_length_eq_zero ?_
    show ((fy _).map _).length=0
    rw[qx]
    rw[hne] at hrl
    exact Nat.le_zero.1 (by unfold fy;rw[ff,hne];exact hrl)
   rw[he]
   exact absurd he (by assumption)
  ·refine Nat.le_trans (Nat.add_le_add_left ?_ _) (h6 hne)
   show ((bh (aL l f)).blocks.map wB).sum≤(f.blocks.map wB).sum
   rw[←uD (f:=f) (l:=l) wB fun _ _=>rfl]
   refine rN (aL l f) wB wB fun nm fr b=>?_
   have:=hwP nm fr b.phis
   show b.name.size+10*((b.phis.map _).length+b.insts.length)+wP (b.phis.map _)+wX b.insts≤b.name.size+10*(b.phis.length+b.insts.length)+wP b.phis+wX b.insts
   rw[qx]
   omega
end
theorem mL {fr:List Int} {b:Int} (h:b∈fr):∀L:List (Int × Int),(L.filter fun z=>decide (z.1∈fr)).find? (fun q=>decide (q.1=b))=L.find? fun q=>decide (q.1=b)
 |[]=>rfl
 |z::L=>by
  by_cases hz:z.1∈fr
  ·have e:(z::L).filter (fun z=>decide (z.1∈fr))=z::L.filter fun z=>decide (z.1∈fr):=by simp[List.filter_cons,hz]
   rw[e,List.find?_cons,List.find?_cons,mL h L]
  ·have hne:¬z.1=b:=fun e=>hz (e▸h)
   have e:(z::L).filter (fun z=>decide (z.1∈fr))=L.filter fun z=>decide (z.1∈fr):=by simp[List.filter_cons,hz]
   rw[e,mL h L,List.find?_cons,w5 hne]
theorem m7 {fr:List Int} {b:Int} (h:b∈fr) (p:bu):bv (fb fr p) b=bv p b:=by
 rw[sF,sF]
 unfold jZ
 rw[rJ]
 unfold iS
 rw[mL h]
theorem kK {g:ab} {x:Int} (h0:0≤x) (h1:x<g.blocks.length):blkG g x=bb g x:=by
 unfold blkG bb
 rw[qq (by omega)];rfl
theorem sJ {fr:List Int} {s:GS} (h:s.blk∈fr) (t:GS) (p:bu):assign s t (fb fr p)=assign s t p:=by
 unfold assign
 rw[m7 h];rfl
theorem uG {g:ab} (hE:br g) {s:GS} {c:Int} (hc:c∈au g s.blk):dB (cF g) s c=dB g s c:=by
 have hb:0≤s.blk∧s.blk<g.blocks.length:=Classical.byContradiction fun hn=>by rw[hE.grph.out _ hn] at hc;cases hc
 have hr:=hE.grph.rng _ hb.1 hb.2 c hc
 have hm:s.blk∈fR g c.toNat:=(bW hE.grph.toEOk hE.grph.out).2 (by rw[w8 hr.1];exact hc)
 have e1:blkG (cF g) c=uh g c.toNat (bb g c):=by
  rw[kK hr.1 (by rw[fc];exact hr.2)]
  exact lX hr.1 hr.2
 have e2:(uh g c.toNat (bb g c)).phis=(bb g c).phis.map (fb (fR g c.toNat)):=by
  show gh _ _=_
  unfold gh
  rw[if_neg (fun e=>by rw[e] at hm;cases hm)]
 unfold dB
 rw[e1,e2,kK hr.1 hr.2,List.all_map,List.foldl_map]
 have e3:((fun p:bu=>decide (0≤bv p s.blk))∘fb (fR g c.toNat))=fun p:bu=>decide (0≤bv p s.blk):=by
  funext p
  show decide (0≤bv (fb _ p) s.blk)=_
  rw[m7 hm]
 have e4:(fun (x:GS) (y:bu)=>assign s x (fb (fR g c.toNat) y))=assign s:=by
  funext t p
  exact sJ hm t p
 rw[e3,e4]
def uH (w:Int) (t:cC) (s:GS):Prop:=t.kind=1→(w=1→gb s.bools t.var=true)∧(w=2→gb s.bools t.var=false)
theorem CY {w:Int} {t:cC} {s:GS} (h:uH w t s) (h2:t.kind=0∨t.kind=1) :
  (if (bI w t).kind=0∨gb s.bools (bI w t).var=true then (bI w t).to0 else (bI w t).to1)=(if t.kind=0∨gb s.bools t.var=true then t.to0 else t.to1)∧(if t.kind=0∨gb s.bools t.var=true then t.to0 else t.to1)∈aU (bI w t)∧(bI w t).kind≠2:=by
 have two:∀a b:Int,a∈(if a=b then[a] else[a,b])∧b∈(if a=b then[a] else[a,b]):=fun a b=>by
  by_cases e:a=b
  ·rw[if_pos e,e];simp
  ·rw[if_neg e];simp
 rcases h2 with h0|h1
 ·have e:bI w t=t:=by unfold bI;rw[if_neg (by omega)]
  rw[e,if_pos (.inl h0)]
  refine ⟨Z,?_,by omega⟩
  unfold aU;rw[if_pos h0];simp
 ·obtain ⟨g1,g2⟩:=h h1
  have n0:¬t.kind=0:=by omega
  by_cases w1:w=1
  ·have e:bI w t=⟨0,0,t.to0,0⟩:=by unfold bI;rw[if_pos h1,if_pos w1]
   rw[e,if_pos (.inl rfl),if_pos (.inr (g1 w1))]
   exact ⟨rfl,by unfold aU;simp,by show (0:Int)≠2;decide⟩
  ·by_cases w2:w=2
   ·have e:bI w t=⟨0,0,t.to1,0⟩:=by unfold bI;rw[if_pos h1,if_neg w1,if_pos w2]
    have hf:¬(t.kind=0∨gb s.bools t.var=true):=by rw[g2 w2];simp[n0]
    rw[e,if_pos (.inl rfl),if_neg hf]
    exact ⟨rfl,by unfold aU;simp,by show (0:Int)≠2;decide⟩
   ·have e:bI w t=t:=by unfold bI;rw[if_pos h1,if_neg w1,if_neg w2]
    rw[e]
    refine ⟨Z,?_,by omega⟩
    unfold aU
    rw[if_neg n0,if_pos h1]
    by_cases c:t.kind=0∨gb s.bools t.var=true
    ·rw[if_pos c];exact (two t.to0 t.to1).1
    ·rw[if_neg c];exact (two t.to0 t.to1).2
section
variable {f:ab} {l:List Int} (hT:aT f=true)
include hT
theorem CZ {s:GS} (hs:bB f s) (hk:(blkG f s.blk).insts[s.pc]?=none→uH ((l[s.blk.toNat]?).getD 0) (blkG f s.blk).term s):cU (cF (aL l f)) s=cU f s:=by
 have hE:=dC (da (l:=l) hT)
 have hr:0≤s.blk∧s.blk<f.blocks.length:=⟨hs.b0,hs.b1⟩
 have hrg:s.blk<(aL l f).blocks.length:=by rw[ff];exact hr.2
 have hbf:=kK (g:=f) hr.1 hr.2
 have hbc:blkG (cF (aL l f)) s.blk=uh (aL l f) s.blk.toNat (eW l s.blk.toNat (bb f s.blk)):=by
  rw[kK hr.1 (by rw[fc];exact hrg),←fS hr.1 hr.2]
  exact lX hr.1 hrg
 have hte:au (aL l f) s.blk=aU (bI ((l[s.blk.toNat]?).getD 0) (bb f s.blk).term):=by
  rw[eh hr.1 hrg,fS hr.1 hr.2];rfl
 have hterm:=((ej hT).2.2.2.2.2 _ (eO hr.1 hr.2)).2.2
 cases hx:(bb f s.blk).insts[s.pc]? with
 |some x=>rw[nY (f:=f) (by rw[hbf];exact hx),nY (f:=cF (aL l f)) (x:=x) (by rw[hbc];exact hx)]
 |none=>
  have hk:=hk (by rw[hbf];exact hx)
  rw[hbf] at hk
  rw[l5 (f:=f) (by rw[hbf];exact hx),l5 (f:=cF (aL l f)) (by rw[hbc];exact hx)]
  have en:gc f s=if (bb f s.blk).term.kind=0∨gb s.bools (bb f s.blk).term.var=true then (bb f s.blk).term.to0 else (bb f s.blk).term.to1:=by unfold gc;rw[hbf]
  have ec:gc (cF (aL l f)) s=if (bI ((l[s.blk.toNat]?).getD 0) (bb f s.blk).term).kind=0∨gb s.bools (bI ((l[s.blk.toNat]?).getD 0) (bb f s.blk).term).var=true then (bI ((l[s.blk.toNat]?).getD 0) (bb f s.blk).term).to0 else (bI ((l[s.blk.toNat]?).getD 0) (bb f s.blk).term).to1:=by unfold gc;rw[hbc];rfl
  have et:(blkG (cF (aL l f)) s.blk).term=bI ((l[s.blk.toNat]?).getD 0) (bb f s.blk).term:=by rw[hbc];rfl
  rw[et,en,ec,hbf]
  generalize hw:(l[s.blk.toNat]?).getD 0=w at hk hte
  generalize ht:(bb f s.blk).term=t at hk hte hterm
  by_cases h2:t.kind=2
  ·have e:bI w t=t:=by unfold bI;rw[if_neg (by omega)]
   rw[e,if_pos h2,if_pos h2]
  ·have h01:t.kind=0∨t.kind=1:=by
    by_cases h0:t.kind=0
    ·exact .inl h0
    ·by_cases h1:t.kind=1
     ·exact .inr h1
     ·unfold bj at hterm
      rw[if_neg h0,if_neg h1,if_neg h2] at hterm;cases hterm
   obtain ⟨n1,n2,n3⟩:=CY hk h01
   rw[if_neg h2,if_neg n3,n1]
   generalize (if t.kind=0∨gb s.bools t.var=true then t.to0 else t.to1)=c at n2
   have hc:c∈au (aL l f) s.blk:=by rw[hte];exact n2
   rw[uG (s:={ s with st:=s.st+1 }) hE hc]
   have hr2:=hE.grph.rng _ hr.1 hrg c hc
   have hc2:c<f.blocks.length:=by rw[←ff (l:=l)];exact hr2.2
   unfold dB
   rw[kK hr2.1 hr2.2,kK hr2.1 hc2,fS hr2.1 hc2]
   rfl
omit hT in
theorem fB (f:ab):∀(a b:Nat) (s:GS),df f (a+b) s=df f b (df f a s)
 |0,b,s=>by rw[Nat.zero_add];rfl
 |a+1,b,s=>by
  rw[Nat.add_right_comm]
  show (if s.ended=true then s else df f (a+b) (cU f s))=df f b (if s.ended=true then s else df f a (cU f s))
  by_cases e:s.ended=true
  ·rw[if_pos e,if_pos e]
   cases b with
   |zero=>rfl
   |succ b=>show s=if s.ended=true then s else _;rw[if_pos e]
  ·rw[if_neg e,if_neg e];exact fB f a b _
theorem EF {i:vb} {k:Nat} (h:df (cF (aL l f)) k (dF f i)=df f k (dF f i)) (he:(df f k (dF f i)).ended=false) (hs:bB f (df f k (dF f i))) (hk:(blkG f (df f k (dF f i)).blk).insts[(df f k (dF f i)).pc]?=none→uH ((l[(df f k (dF f i)).blk.toNat]?).getD 0) (blkG f (df f k (dF f i)).blk).term (df f k (dF f i))) :
  df (cF (aL l f)) (k+1) (dF f i)=cU f (df f k (dF f i))∧df f (k+1) (dF f i)=cU f (df f k (dF f i)):=by
 rw[fB,fB,h]
 have one:∀g:ab,df g 1 (df f k (dF f i))=cU g (df f k (dF f i)):=fun g=>by
  show (if _ then _ else _)=_
  rw[if_neg (by rw[he];decide)];rfl
 rw[one,one]
 exact ⟨CZ hT hs hk,rfl⟩
end
end
section
open Go.Proofs.Tryz
open Go.Proofs Go.Lib Go.Shelf Go.RowKit
variable {E:World}
set_option maxRecDepth 20000
noncomputable def gN (f:ab):Bool:=(v6 f&&aT f)&&cO f
theorem qQ {f:ab} (h:gN f=true):small f∧aT f=true∧ep f:=by
 unfold gN at h
 simp only[w6] at h
 exact ⟨((gk f).1 h.1.1).small,h.1.2,(gG f).1 h.2⟩
theorem pD (f:ab) (hw:m1 f) (hL:aj E):aZ prog E 8 [.agg (bQ f)] (.bool (gN f)):=by
 refine zo func8 Z (by decide) Z<|ah<|yb (cs:=_) Z Z Z<|ad Z<|z7<|ah<|ac js jk Z Z<|zi (kV f hw hL) Z<|ai Z<|zk (s:=5) Z (fun g=>?_) (fun g=>?_)
 ·refine z8 Z Z g<|ac js jk Z Z<|z8 Z Z g<|zi (j8 f (dC (by simp only[w6] at g;exact g.2)) ((gk f).1 (by simp only[w6] at g;exact g.1)).small (ej (by simp only[w6] at g;exact g.2))) Z<|ap Z g Z<|ad Z<|z7<|zf<|zh (x:=.bool _) Z ?_
  exact jb (by unfold gN;rw[g];rfl)
 ·refine z6 Z Z g<|z6 Z Z g<|al Z g Z<|ad Z<|z7<|zf<|zh (x:=.bool _) Z ?_
  exact jb (by unfold gN;rw[g];rfl)
end
section
open Go.Proofs.Tryz
open Go.Proofs Go.Lib Go.Shelf Go.RowKit
variable {E:World}
set_option maxRecDepth 20000
end
section
open Go.Proofs.Tryz
open Go.Proofs Go.Lib Go.Shelf Go.RowKit
variable {E:World}
set_option maxRecDepth 20000
theorem uI (op:Int) (h:0≤op∧op≤26):aZ prog E 52 [.int .i64 op] (.int .i64 (if 18≤op∧op≤24 then op - 17 else 0)):=by
 refine zo func52 Z (by decide) Z<|ah<|aw Z<|z7<|zb<|ah<|aa Z<|ay Z Z<|ai Z<|zk (s:=5) Z (fun c1=>?_) (fun c1=>?_)
 ·have h1:op<18:=by simpa using c1
  refine z6 Z Z c1<|z6 Z Z c1<|ap Z c1 Z<|z7<|yt Z Z<|ah<|aw Z<|z7<|zf<|zh (x:=.int _ _) Z ?_
  rw[if_neg (by omega)]
 ·have h1:¬op<18:=by simpa using c1
  refine z8 Z Z c1<|aa Z<|z8 Z Z c1<|za (yy Z Z)<|al Z c1 Z<|z7<|zr Z (fun c2=>?_) (fun c2=>?_)
  ·have h2:24<op:=by simpa using c2
   refine ah<|aw Z<|z7<|zf<|zh (x:=.int _ _) Z ?_
   rw[if_neg (by omega)]
  ·have h2:¬24<op:=by simpa using c2
   refine ze<|ah<|aa Z<|za (Gv.sub Z Z (by unfold ko;omega))<|aw Z<|z7<|zf<|zh (x:=.int _ _) Z ?_
   rw[if_pos (by omega)]
end
section
open Go.Proofs.Tryz
open Go.Proofs
variable {E:World}
set_option maxRecDepth 20000
end
section
open Go.Proofs.Tryz
open Go.Proofs
variable {E:World}
set_option maxRecDepth 20000
theorem wj {k:Nat} (hk:k≤2) {x y:Int} (hx:cG x) (hy:cG y):aZ prog E 73 [.int .i64 k,.int .i64 x,.int .i64 y] (.bool (decide (fz k x y))):=by
 have hx1:=hx;have hy1:=hy
 unfold cG at hx1 hy1
 refine zo func73 Z (by decide) Z<|ah<|ad Z<|z7<|zb<|ah<|aa Z<|z7<|zg<|ah<|ax Z Z<|ad Z<|z7<|zm Z (fun c0=>?_) (fun c0=>?_)
 ·have hk0:k=0:=by omega
  subst hk0
  refine ah<|aa Z<|za (yy Z Z)<|ai Z<|zk (s:=16) Z (fun c1=>?_) (fun c1=>?_)
  ·refine z8 Z Z c1<|aa Z<|z8 Z Z c1<|aa Z<|z8 Z Z c1<|za (Gv.sub Z Z (by unfold ko;simp at *;omega))<|z8 Z Z c1<|za (yy Z Z)<|ap Z c1 Z<|aD Z<|ai Z<|zk (s:=23) Z (fun c2=>?_) (fun c2=>?_)
   ·refine z8 Z Z c2<|aa Z<|z8 Z Z c2<|ay Z Z<|z8 Z Z c2<|ai Z<|zk (s:=26) Z (fun c3=>?_) (fun c3=>?_)
    ·refine z8 Z Z c3<|aa Z<|z8 Z Z c3<|aa Z<|z8 Z Z c3<|za (Gv.sub Z Z (by unfold ko;simp at *;omega))<|z8 Z Z c3<|ay Z Z<|z8 Z Z c2<|ap Z c3 Z<|z8 Z Z c2<|aD Z<|ap Z c2 Z<|ad Z<|z7<|zf<|zh (x:=.bool _) Z ?_
     exact jb (by rw[qz];unfold fz qM cG;simp at *<;>omega)
    ·refine z6 Z Z c3<|z6 Z Z c3<|z6 Z Z c3<|z6 Z Z c3<|z8 Z Z c2<|al Z c3 Z<|z8 Z Z c2<|aD Z<|ap Z c2 Z<|ad Z<|z7<|zf<|zh (x:=.bool _) Z ?_
     exact jb (by rw[qz];unfold fz qM cG;simp at *<;>omega)
   ·refine z6 Z Z c2<|z6 Z Z c2<|z6 Z Z c2<|zd Z Z<|zd Z Z<|zd Z Z<|zd Z Z<|z6 Z Z c2<|z6 Z Z c2<|al Z c2 Z<|ad Z<|z7<|zf<|zh (x:=.bool _) Z ?_
    exact jb (by rw[qz];unfold fz qM cG;simp at *<;>omega)
  ·refine z6 Z Z c1<|z6 Z Z c1<|z6 Z Z c1<|z6 Z Z c1<|al Z c1 Z<|aD Z<|ai Z<|z8 Z Z Z<|aa Z<|z8 Z Z Z<|ay Z Z<|z8 Z Z Z<|ai Z<|zk (s:=26) Z (fun c4=>?_) (fun c4=>?_)
   ·refine z8 Z Z c4<|aa Z<|z8 Z Z c4<|aa Z<|z8 Z Z c4<|za (Gv.sub Z Z (by unfold ko;simp at *;omega))<|z8 Z Z c4<|ay Z Z<|z8 Z Z Z<|ap Z c4 Z<|z8 Z Z Z<|aD Z<|ap Z Z Z<|ad Z<|z7<|zf<|zh (x:=.bool _) Z ?_
    exact jb (by rw[qz];unfold fz qM cG;simp at *<;>omega)
   ·refine z6 Z Z c4<|z6 Z Z c4<|z6 Z Z c4<|z6 Z Z c4<|z8 Z Z Z<|al Z c4 Z<|z8 Z Z Z<|aD Z<|ap Z Z Z<|ad Z<|z7<|zf<|zh (x:=.bool _) Z ?_
    exact jb (by rw[qz];unfold fz qM cG;simp at *<;>omega)
 ·refine ah<|ax Z Z<|ad Z<|z7<|zm Z (fun c1=>?_) (fun c1=>?_)
  ·have hk1:k=1:=by omega
   subst hk1
   refine ah<|aa Z<|ay Z Z<|ai Z<|zk (s:=38) Z (fun c5=>?_) (fun c5=>?_)
   ·refine z8 Z Z c5<|aa Z<|z8 Z Z c5<|aa Z<|z8 Z Z c5<|za (Gv.add Z Z (by unfold ko;simp at *;omega))<|z8 Z Z c5<|za (yy Z Z)<|ap Z c5 Z<|aD Z<|ai Z<|zk (s:=45) Z (fun c6=>?_) (fun c6=>?_)
    ·refine z8 Z Z c6<|aa Z<|z8 Z Z c6<|za (yy Z Z)<|z8 Z Z c6<|ai Z<|zk (s:=48) Z (fun c7=>?_) (fun c7=>?_)
     ·refine z8 Z Z c7<|aa Z<|z8 Z Z c7<|aa Z<|z8 Z Z c7<|za (Gv.add Z Z (by unfold ko;simp at *;omega))<|z8 Z Z c7<|ay Z Z<|z8 Z Z c6<|ap Z c7 Z<|z8 Z Z c6<|aD Z<|ap Z c6 Z<|ad Z<|z7<|zf<|zh (x:=.bool _) Z ?_
      exact jb (by rw[qz];unfold fz qM cG;simp at *<;>omega)
     ·refine z6 Z Z c7<|z6 Z Z c7<|z6 Z Z c7<|z6 Z Z c7<|z8 Z Z c6<|al Z c7 Z<|z8 Z Z c6<|aD Z<|ap Z c6 Z<|ad Z<|z7<|zf<|zh (x:=.bool _) Z ?_
      exact jb (by rw[qz];unfold fz qM cG;simp at *<;>omega)
    ·refine z6 Z Z c6<|z6 Z Z c6<|z6 Z Z c6<|zd Z Z<|zd Z Z<|zd Z Z<|zd Z Z<|z6 Z Z c6<|z6 Z Z c6<|al Z c6 Z<|ad Z<|z7<|zf<|zh (x:=.bool _) Z ?_
     exact jb (by rw[qz];unfold fz qM cG;simp at *<;>omega)
   ·refine z6 Z Z c5<|z6 Z Z c5<|z6 Z Z c5<|z6 Z Z c5<|al Z c5 Z<|aD Z<|ai Z<|z8 Z Z Z<|aa Z<|z8 Z Z Z<|za (yy Z Z)<|z8 Z Z Z<|ai Z<|zk (s:=48) Z (fun c8=>?_) (fun c8=>?_)
    ·refine z8 Z Z c8<|aa Z<|z8 Z Z c8<|aa Z<|z8 Z Z c8<|za (Gv.add Z Z (by unfold ko;simp at *;omega))<|z8 Z Z c8<|ay Z Z<|z8 Z Z Z<|ap Z c8 Z<|z8 Z Z Z<|aD Z<|ap Z Z Z<|ad Z<|z7<|zf<|zh (x:=.bool _) Z ?_
     exact jb (by rw[qz];unfold fz qM cG;simp at *<;>omega)
    ·refine z6 Z Z c8<|z6 Z Z c8<|z6 Z Z c8<|z6 Z Z c8<|z8 Z Z Z<|al Z c8 Z<|z8 Z Z Z<|aD Z<|ap Z Z Z<|ad Z<|z7<|zf<|zh (x:=.bool _) Z ?_
     exact jb (by rw[qz];unfold fz qM cG;simp at *<;>omega)
  ·have hk2:k=2:=by omega
   subst hk2
   refine ze<|zb<|zb<|yq (γ:=Bool) [1,2] (fun u=>[(61,.bool u)]) (fun u=>[]) (fun u=>u=decide (x=0∨y=0)) ?_ (fun _ _ h=>h) ?_
   ·refine bi<|aa Z<|ax Z Z<|ai Z<|zk (s:=58) Z (fun c9=>?_) (fun c9=>?_)
    ·refine z6 Z Z c9<|z6 Z Z c9<|ap Z c9 Z<|z7 ?_
     exact ⟨_,eE,aW,aN,by simp_all⟩
    ·refine z8 Z Z c9<|aa Z<|z8 Z Z c9<|ax Z Z<|al Z c9 Z<|z7 ?_
     exact ⟨_,eE,aW,aN,by simp_all⟩
   ·rintro u hu
    subst hu
    refine zm Z (fun cz=>?_) (fun cz=>?_)
    ·refine ah<|ad Z<|z7<|zf<|zh (x:=.bool _) Z ?_
     exact jb (by rw[w4];unfold fz;rw[show qM 2 x y=x*y from rfl];rcases cz with h|h<;>rw[h]<;>simp[cG])
    ·have hx0:x≠0:=fun e=>cz (.inl e)
     have hy0:y≠0:=fun e=>cz (.inr e)
     refine ze<|ah<|aa Z<|ay Z Z<|aa Z<|ay Z Z<|za (Gv.eqlB Yl Z Z)<|ad Z<|z7<|ah<|aa Z<|za (Gv.conv Zl Zd Z)<|aa Z<|za (Gv.conv Zl Zd Z)<|aw Z<|aw Z<|z7<|zb<|ah<|aa Z<|ay Z Z<|z7<|yq (γ:=Int) [2,7,9] (fun u=>[(8,.int .u64 u)]) (fun u=>[]) (fun u=>u=(x.natAbs:Int)) ?_ (fun _ _ h=>h) ?_
     ·refine zm Z (fun c=>?_) (fun c=>?_)
      ·refine bi<|aa Z<|za (Gv.neg Z)<|aw Z<|z7 ?_
       exact ⟨_,hZ,aW,aN,by have:=lW hx;rwa [if_pos c] at this⟩
      ·refine ze ?_
       exact ⟨_,hZ,aW,aN,by have:=lW hx;rwa [if_neg c] at this⟩
     ·rintro u hu
      subst hu
      refine zb<|ah<|aa Z<|ay Z Z<|z7<|yq (γ:=Int) [7,8] (fun u=>[(9,.int .u64 u)]) (fun u=>[]) (fun u=>u=(y.natAbs:Int)) ?_ (fun _ _ h=>h) ?_
      ·refine zm Z (fun c=>?_) (fun c=>?_)
       ·refine bi<|aa Z<|za (Gv.neg Z)<|aw Z<|z7 ?_
        exact ⟨_,eE,aW,aN,by have:=lW hy;rwa [if_pos c] at this⟩
       ·refine ze ?_
        exact ⟨_,eE,aW,aN,by have:=lW hy;rwa [if_neg c] at this⟩
      ·rintro u hu
       subst hu
       refine ah<|aw Z<|z7<|zb<|ah<|ai Z<|aD Z<|z7<|yq (γ:=Int) [8,9] (fun u=>[(10,.int .u64 u)]) (fun u=>[]) (fun u=>u=(if (decide (x<0) == decide (y<0))=true then 9223372036854775807 else 9223372036854775808)) ?_ (fun _ _ h=>h) ?_
       ·refine zr Z (fun c=>?_) (fun c=>?_)
        ·refine bi<|aw Z<|z7 ?_
         exact ⟨_,eE,aW,aN,by rw[if_neg (by simpa using c)]⟩
        ·refine ze ?_
         exact ⟨_,eE,aW,aN,by rw[if_pos (by simpa using c)]⟩
       ·rintro u hu
        subst hu
        refine ah<|aa Z<|aa Z<|aa Z<|za (Gv.quo Z Z (by omega))<|za (Gv.leq Z Z)<|ad Z<|z7<|zf<|zh (x:=.bool _) Z ?_
        exact jb (Lv hx hx0 hy0)
theorem Kq {k:Nat} (hk:k≤2) {x y:Int}:aZ prog E 54 [.int .i64 k,.int .i64 x,.int .i64 y] (.int .i64 (IntKind.i64.wrap (qM k x y))):=by
 refine zo func54 Z (by decide) Z<|ah<|aw Z<|z7<|zb<|ah<|aa Z<|z7<|zg<|ah<|ax Z Z<|ad Z<|z7<|zm Z (fun c0=>?_) (fun c0=>?_)
 ·have hk0:k=0:=by omega
  subst hk0
  refine ah<|aa Z<|za (Gv.conv Zl Zd Z)<|aa Z<|za (Gv.conv Zl Zd Z)<|za (Gv.addW Z Z)<|za (Gv.conv Zd Zl Z)<|aw Z<|z7<|zf<|zh (x:=.int _ _) Z ?_
  exact congrArg (AV.int .i64) (CA x y)
 ·refine ah<|ax Z Z<|ad Z<|z7<|zm Z (fun c1=>?_) (fun c1=>?_)
  ·have hk1:k=1:=by omega
   subst hk1
   refine ah<|aa Z<|za (Gv.conv Zl Zd Z)<|aa Z<|za (Gv.conv Zl Zd Z)<|za (Gv.subW Z Z)<|za (Gv.conv Zd Zl Z)<|aw Z<|z7<|zf<|zh (x:=.int _ _) Z ?_
   exact congrArg (AV.int .i64) (CB x y)
  ·have hk2:k=2:=by omega
   subst hk2
   refine ze<|ah<|aa Z<|za (Gv.conv Zl Zd Z)<|aa Z<|za (Gv.conv Zl Zd Z)<|za (Gv.mulW Z Z)<|za (Gv.conv Zd Zl Z)<|aw Z<|z7<|zf<|zh (x:=.int _ _) Z ?_
   exact congrArg (AV.int .i64) (CC x y)
theorem Kr {x y:Int} (hy:y≠0):aZ prog E 55 [.int .i64 x,.int .i64 y] (.tup [.int .i64 (IntKind.i64.wrap (x.tdiv y)),.int .i64 (if y=-1 then 0 else IntKind.i64.wrap (x - IntKind.i64.wrap (IntKind.i64.wrap (x.tdiv y)*y)))]):=by
 refine zo func55 Z (by decide) Z<|ah<|aw Z<|aw Z<|z7<|zb<|ah<|aa Z<|ax Z Z<|z7<|zm Z (fun c=>?_) (fun c=>?_)
 ·refine ah<|aa Z<|za (Gv.conv Zl Zd Z)<|za (Gv.neg Z)<|za (Gv.conv Zd Zl Z)<|aw Z<|aw Z<|z7<|zf<|dh.t2 (x:=.int _ _) (y:=.int _ _) Z Z ?_
  rw[if_pos c,c,CD];try rfl
 ·refine ze<|zb<|zq (fun j=>false) (by kernel_rfl) Z (zu (.rest _))<|ak 0 Z (d9 Z)<|ak 1 Z (d9 Z)<|ak 2 Z (Gv.quo Z Z (by omega))<|ak 3 Z (d9 Z)<|ak 4 Z (d9 Z)<|ak 5 Z (d9 Z)<|ak 6 Z (Gv.quo Z Z (by omega))<|ak 7 Z (d9 Z)<|ak 8 Z (Gv.mulW Z Z)<|ak 9 Z (Gv.subW Z Z)<|ak 10 Z (Il Z)<|ak 11 Z (Il Z)<|eG<|zf<|dh.t2 (x:=.int _ _) (y:=.int _ _) Z Z ?_
  rw[if_neg c];try rfl
end
section
open Go.Proofs.Tryz
def iy (P:Program) (E:World) (l:List Oper) (Q:aO→OL→Prop) (fuel:Nat) (listed:Array Bool) (env:aO) (R Om:OL):Prop:=
 ∀I F ρ w Lr,dX I env ρ→bS I R Lr→gC I Om (Lr++F) E w→bR P l.toArray (dD I.k Lr E) (dD I.k Lr E) (fun _=>false) (eV I F E Q) fuel listed ρ w
section
variable {E:World} {P:Program} {n:Nat} {l:List Oper} {Q:aO→OL→Prop} {fuel:Nat} {listed:Array Bool} {env:aO} {O R Om:OL}
variable {d ty:Nat} {op:Op} {pos:String} {af:Array Edge}
theorem cX.regionDrawR {Q:Exit→aO→OL→Prop} {id:Nat} (hm:P.follows .mixedOrders=true) (hd:eX n l=true) (hO:O.Perm (Om++R)) (h:iy P E l (Q .normal) l.length (Array.replicate l.length false) env R Om):cX P E n (.region id l.toArray true) Q env O:=fun I F ρ w h1 h2=>by
 obtain ⟨Lr,hLr,h3⟩:=h2.split hO
 refine WP.regionDraw (dD I.k Lr E) (dD I.k Lr E) (fun _=>false) hm hd fun w' hw=>?_
 subst hw
 refine h I F ρ _ Lr h1 hLr ?_
 obtain ⟨ht,L,hL,hS⟩:=h3
 exact ⟨ht,L,hL,hS.drew⟩
theorem iy.takeK {i:Nat} {x:AV} (hi:l[i]?=some (Oper.mk (some d) op ty pos af none)) (hs:Region.noSelect l.toArray=true) (hf:Region.free .any l.toArray listed i=true)
  (hr:(Region.ready .any l.toArray listed).contains i=true) (hg:Gv P env R (Oper.mk (some d) op ty pos af none) x)
  (h:iy P E l Q fuel (listed.setIfInBounds i true) (bD env d x) R Om):iy P E l Q (fuel+1) listed env R Om:=fun I F ρ w Lr h1 hLr h2=>by
 obtain ⟨v,hv,hrun⟩:=hg I Lr E ρ h1 hLr
 exact bR.takeK hi hs hf hr rfl h2.here (.inr h2.here) (fun w ⟨J,L',a,b,c⟩=>hrun w J L' a b c) (h I F _ w Lr (h1.upd d hv) hLr h2)
theorem iy.one {i:Nat} {o:Oper} (hi:l[i]?=some o) (hr:Region.ready .any l.toArray listed=[i])
  (h:ao P E l.toArray (fun env' Om'=>iy P E l Q fuel (listed.setIfInBounds i true) env' R Om') [o] env Om):iy P E l Q (fuel+1) listed env R Om:=fun I F ρ w Lr h1 hLr h2=>
 bR.one hi hr (q5 (fun ρ' w' ⟨J,env',Om',a,b,c,d⟩=>by
  have hst:dD I.k Lr E w':=by
   obtain ⟨J',L',h3,h4,h5⟩:=c.here
   exact ⟨J',L',a.k.trans h3,h4,h5⟩
  refine ⟨⟨hst,.inr hst⟩,bR.mono ?_ ?_ (fun _ _=>qo a) _ _ _ _ (d J F ρ' w' Lr b (hLr.mono a) c)⟩
  ·rintro w ⟨J',L',h3,h4⟩;exact ⟨J',L',a.k.trans h3,h4⟩
  ·rintro w ⟨J',L',h3,h4⟩;exact ⟨J',L',a.k.trans h3,h4⟩) _ _ _ (h I (Lr++F) ρ w h1 h2))
theorem iy.done (hr:Region.ready .any l.toArray listed=[]) (h:Q env (R++Om)):iy P E l Q fuel listed env R Om:=fun I F ρ w Lr h1 hLr h2=>
 bR.done hr ⟨I,env,R++Om,.refl _,h1,gC.together hLr h2,h⟩
end
end
section
open Go.Proofs.Tryz
open Go.Proofs
set_option linter.defProp false
def y8:=@iy.takeK
def qp:=@iy.one
end
end Go.Proofs.YtjpnhkmfhlnpcaaGreatDoor
