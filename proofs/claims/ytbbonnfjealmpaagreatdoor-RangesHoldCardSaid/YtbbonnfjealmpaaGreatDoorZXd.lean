/- Typed; which blocks are reached; joined. Of programs that are little. -/
import Derived.Test.YtbbonnfjealmpaaGreatDoorZXc
import Derived.Test.YtbbonnfjealmpaaGreatDoorZXb
import Derived.Lib.MapLaws
set_option linter.unusedVariables false
set_option linter.unusedSimpArgs false
set_option linter.unusedSectionVars false
namespace Go.Proofs.YtbbonnfjealmpaaGreatDoor
section
open Go.Proofs.Tryz
open Go.Proofs Go.Lib Go.Shelf Go.RowKit
set_option maxRecDepth 20000
variable {E:World}
def tB (f:ab) (p:dh):Prop:=bn f p.dst=true∧p.args.length=p.w.length∧1≤p.args.length∧p.args.all (bn f)=true∧p.w.all (eQ f)=true
def kH (x:aB):Bool:=decide ((cF x.op).1=⟨#[99,111,110,115,116]⟩)||decide ((cF x.op).1=⟨#[112,105]⟩)
def mE (f:ab) (x:aB):Bool:=!decide ((x.args.length:Int)=((cF x.op).2.1.size:Int))||(!(decide ((cF x.op).2.2=⟨#[]⟩) == decide (x.dst=-1))||((!decide (x.dst=-1)&&!bn f x.dst)||(!decide (x.num=0)&&!kH x)))
def pp (f:ab) (x:aB):Prop:=0≤x.op∧x.op≤26∧mE f x=false∧x.args.all (bn f)=true
def CK (f:ab) (b:aF):Prop:=(∀p∈b.p,tB f p)∧(∀x∈b.s,pp f x)∧bP f b.t=true
def eu (l:List aF):Nat:=(l.map fun b=>b.p.length+b.s.length).sum
def nP (f:ab):Bool:=decide ((512:Int)<f.v.length)||(decide ((8:Int)<f.z.length)||(decide ((f.v.length:Int)<f.z.length)||(decide ((f.q.length:Int)<1)||decide ((64:Int)<f.q.length))))
def Fy (f:ab) (i:Nat) (v:lg):Prop:=mY v.name=true∧0≤v.ty∧v.ty≤2∧∀s∈(f.v.take i).map (·.name),s≠v.name
def Kz (f:ab) (i:Nat) (b:aF):Prop:=mY b.name=true∧∀s∈(f.q.take i).map (·.name),s≠b.name
def bN (f:ab):Prop:=nP f=false∧(∀i (h:i<f.z.length),f.z[i]=(i:Int))∧(∀i (h:i<f.v.length),Fy f i f.v[i])∧(∀i (h:i<f.q.length),Kz f i f.q[i])∧eu f.q≤1024∧∀b∈f.q,CK f b
instance (f:ab) (p:dh):Decidable (tB f p):=by unfold tB;infer_instance
instance (f:ab) (x:aB):Decidable (pp f x):=by unfold pp;infer_instance
instance (f:ab) (b:aF):Decidable (CK f b):=by unfold CK;infer_instance
instance (f:ab) (i:Nat) (v:lg):Decidable (Fy f i v):=by unfold Fy;infer_instance
instance (f:ab) (i:Nat) (b:aF):Decidable (Kz f i b):=by unfold Kz;infer_instance
instance (f:ab):Decidable (bN f):=by unfold bN;infer_instance
theorem tC (l:List aF) (k:Nat):eu (l.take k)≤eu l:=by
 have:eu l=eu (l.take k)+eu (l.drop k):=by
  unfold eu;rw[←List.sum_append,←w7,List.take_append_drop]
 omega
theorem ow (l:List aF) (k:Nat) (h:k<l.length):eu (l.take (k+1))=eu (l.take k)+(l[k].p.length+l[k].s.length):=by
 unfold eu;rw[qu h,w7,List.sum_append];simp only[List.map_cons,List.map_nil,List.sum_cons,List.sum_nil,Nat.add_zero]
theorem Ah {α:Type} {g:α→ByteArray} {l:List α} {k:Nat} {s:ByteArray} (h:k<l.length) (h1:∀x∈(l.take k).map g,x≠s) (h2:¬g l[k]=s):∀x∈(l.take (k+1)).map g,x≠s:=by
 rw[qu h,w7];intro x hx;rcases List.mem_append.1 hx with hx|hx
 ·exact h1 x hx
 simp only[List.map_cons,List.map_nil,List.mem_singleton] at hx;rw[hx];exact h2
theorem Ee {α:Type} {g:α→ByteArray} {l:List α} {k i:Nat} {s:ByteArray} (h:k<l.length) (hk:k<i) (h1:∀x∈(l.take i).map g,x≠s):¬g l[k]=s:=by
 refine h1 _ (List.mem_map.2 ⟨l[k],?_,U⟩);refine List.mem_iff_getElem?.2 ⟨k,?_⟩;rw[List.getElem?_take,if_pos hk,qt h]
theorem cD {α:Type} {p:α→Bool} {l:List α} {k:Nat} (h:k<l.length) (h1:(l.take k).all p=true) (h2:p l[k]=true):(l.take (k+1)).all p=true:=by
 rw[qu h,List.all_append,h1];simp[h2]
theorem dW {α:Type} {p:α→Bool} {l:List α} {k:Nat} (h:k<l.length) (h2:p l[k]=false):¬l.all p=true:=fun h3=>by
 have:=List.all_eq_true.1 h3 _ (qx h);rw[h2] at this;cases this
theorem mZ {α:Type} {l:List α} {k:Nat} (h:l.length≤k):l.take k=l:=List.take_of_length_le h
theorem fQ {α:Type} {p:α→Prop} {l:List α} {k:Nat} (h:k<l.length) (h1:∀x∈l.take k,p x) (h2:p l[k]):∀x∈l.take (k+1),p x:=by
 rw[qu h];intro x hx;rcases List.mem_append.1 hx with hx|hx
 ·exact h1 x hx
 rw[List.mem_singleton.1 hx];exact h2
def pq (f:ab):Prop:=(∀v∈f.v,v.name.size≤140737488355328)∧∀b∈f.q,b.name.size≤140737488355328
set_option maxHeartbeats 8000000 in
theorem tD (f:ab) (hf:xx f) (hn:pq f) (hL:bS E):aS prog E 126 [.agg (bH f)] (.bool (decide (bN f))):=by
 obtain ⟨hf1,hf2,hf3,hf4⟩:=hf;have hl1:=hf1.lt;have hl2:=hf2.lt;have hl3:=hf3.lt;refine zm func126 U (by decide) U<|Z<|zx (cs:=_) U U U<|ah U<|Y<|Z<|ao jf U Zs U U<|aK Y4 U<|am Z7 U<|ap U<|Y<|za<|za<|y3 (γ:=Unit) [1,3] (fun u=>[(53,.bool (nP f))]) (fun u=>[]) (fun u=>True) ?_ (fun _ _ h=>h) ?_
 ·refine bZ<|C U<|bg U U<|aw U<|zo (s:=29) U (fun c1=>?_) (fun c1=>?_)
  ·refine H U U c1<|H U U c1<|H U U c1<|H U U c1<|aA U c1 U<|aw U<|H U U U<|H U U U<|H U U U<|H U U U<|H U U U<|aA U U U<|aw U<|H U U U<|H U U U<|H U U U<|H U U U<|aA U U U<|aw U<|H U U U<|H U U U<|H U U U<|H U U U<|aA U U U<|Y ?_;exact ⟨(),cV,⟨jb (by simp_all[nP]<;>grind),trivial⟩,aJ,trivial⟩
  refine M U U c1<|ao jf U jh U U<|M U U c1<|aK jy U<|M U U c1<|am j7 U<|M U U c1<|bg U U<|ay U c1 U<|aw U<|zo (s:=35) U (fun c2=>?_) (fun c2=>?_)
  ·refine H U U c2<|H U U c2<|H U U c2<|H U U c2<|H U U c2<|aA U c2 U<|aw U<|H U U U<|H U U U<|H U U U<|H U U U<|aA U U U<|aw U<|H U U U<|H U U U<|H U U U<|H U U U<|aA U U U<|Y ?_;exact ⟨(),cV,⟨jb (by simp_all[nP]<;>grind),trivial⟩,aJ,trivial⟩
  refine M U U c2<|ao jf U jh U U<|M U U c2<|aK jy U<|M U U c2<|am j7 U<|M U U c2<|C U<|M U U c2<|bg U U<|ay U c2 U<|aw U<|zo (s:=42) U (fun c3=>?_) (fun c3=>?_)
  ·refine H U U c3<|H U U c3<|H U U c3<|H U U c3<|aA U c3 U<|aw U<|H U U U<|H U U U<|H U U U<|H U U U<|aA U U U<|Y ?_;exact ⟨(),cV,⟨jb (by simp_all[nP]<;>grind),trivial⟩,aJ,trivial⟩
  refine M U U c3<|ao jf U Zd U U<|M U U c3<|aK Zf U<|M U U c3<|am jr U<|M U U c3<|aq U U<|ay U c3 U<|aw U<|zo (s:=48) U (fun c4=>?_) (fun c4=>?_)
  ·refine H U U c4<|H U U c4<|H U U c4<|H U U c4<|aA U c4 U<|Y ?_;exact ⟨(),cV,⟨jb (by simp_all[nP]<;>grind),trivial⟩,aJ,trivial⟩
  refine M U U c4<|ao jf U Zd U U<|M U U c4<|aK Zf U<|M U U c4<|am jr U<|M U U c4<|bg U U<|ay U c4 U<|Y ?_;exact ⟨(),cV,⟨jb (by simp_all[nP]<;>grind),trivial⟩,aJ,trivial⟩
 rintro _ _;refine zq U (fun c1=>?_) (fun c1=>?_)
 ·refine Z<|ah U<|Y<|zf ?_
  repeat (first|refine ad ?_|refine aa ?_)
  refine bt U ?_;rw[wb (fun h=>by rw[h.1] at c1;cases c1)]
 have hsz:f.v.length≤512∧f.z.length≤8∧f.z.length≤f.v.length∧1≤f.q.length∧f.q.length≤64:=by unfold nP at c1;simp at c1;omega
 refine zc<|za<|Z<|ao jf U jh U U<|aK jy U<|am j7 U<|C U<|Y<|zd<|zu (γ:=Nat) [1,3,55,56] (fun k=>[(57,.i k)]) (fun k=>[]) (fun k=>k≤f.z.length∧∀i (h:i<f.z.length),i<k→f.z[i]=(i:Int)) (fun k=>f.z.length - k) 0 aN aJ (⟨qw _,fun i h hk=>by omega⟩) ?_;rintro k ⟨hk,hpar⟩;refine Z<|aq U U<|Y<|za<|zh U (fun ck=>?_) (fun ck=>?_)
 ·have hk2:k<f.z.length:=by omega
  refine zc<|za<|zd<|Z<|C U<|X (qf j7 j9 U U U (qt (by omega)))<|aD jg U<|ap U<|ap U<|Y<|Z<|C U<|C U<|aT U U<|Y<|zq U (fun cp=>?_) (fun cp=>?_)
  ·refine Z<|ah U<|Y<|zf ?_
   repeat (first|refine ad ?_|refine aa ?_)
   refine bt U ?_;rw[wb (fun h=>by have:=h.2.1 k hk2;simp[this] at cp)]
  refine zc<|bQ U U ?_;exact ⟨k+1,f7,aN,aJ,⟨hk2,fun i h hi=>by rcases Nat.lt_or_ge i k with h3|h3;exact hpar i h h3;obtain rfl:i=k:=(by omega);simpa using cp⟩,by omega⟩
 have hpars:∀i (h:i<f.z.length),f.z[i]=(i:Int):=fun i h=>hpar i h (by omega);refine zt<|za<|Z<|ao jf U Zs U U<|aK Y4 U<|am Z7 U<|C U<|Y<|zd<|zu (γ:=Nat) [1,3,67,68] (fun k=>[(69,.i k)]) (fun k=>[]) (fun k=>k≤f.v.length∧∀i (h:i<f.v.length),i<k→Fy f i f.v[i]) (fun k=>f.v.length - k) 0 aN aJ (⟨qw _,fun i h hk=>by omega⟩) ?_;rintro k ⟨hk,hvar⟩;refine Z<|aq U U<|Y<|za<|zh U (fun ck=>?_) (fun ck=>?_)
 ·have hk2:k<f.v.length:=by omega
  have hnk:f.v[k].name.size≤140737488355328:=hn.1 _ (qx hk2);refine zc<|za<|zd<|Z<|C U<|X (qf Z7 Yc U U U (qt (by omega)))<|ae isAgg48 Yc U U<|zp (cs:=[.e,.i 0]) Xf U U<|fun i7=>ap U<|zi Yc U U U U U U .head U<|Y<|za<|za<|y3 (γ:=Unit) [1,3,6,7,67,68,69] (fun u=>[(87,.bool (!mY f.v[k].name||(decide (f.v[k].ty<0)||decide (2<f.v[k].ty))))]) (fun u=>[(i7,.cells 48 (bO f.v[k]))]) (fun u=>True) ?_ (fun _ _ h=>h) ?_
  ·refine bZ<|X (ze Zr U Y7 (by decide) U U)<|X (zj (c:=.str _) Ym U ⟨_,.head⟩ U)<|zb (wx _ (by assumption) hL) U<|aL U<|aw U<|zo (s:=78) U (fun c5=>?_) (fun c5=>?_)
   ·refine H U U c5<|H U U c5<|H U U c5<|aA U c5 U<|aw U<|H U U U<|H U U U<|H U U U<|aA U U U<|Y ?_;exact ⟨(),lI,⟨jb (by simp_all<;>grind),trivial⟩,aJ,trivial⟩
   refine M U U c5<|X (ze Zr U X5 (by decide) U U)<|M U U c5<|X (zj (c:=.int _ _) Xh U ⟨_,.head⟩ U)<|M U U c5<|aq U U<|ay U c5 U<|aw U<|zo (s:=83) U (fun c6=>?_) (fun c6=>?_)
   ·refine H U U c6<|H U U c6<|H U U c6<|aA U c6 U<|Y ?_;exact ⟨(),lI,⟨jb (by simp_all<;>grind),trivial⟩,aJ,trivial⟩
   refine M U U c6<|X (ze Zr U X5 (by decide) U U)<|M U U c6<|X (zj (c:=.int _ _) Xh U ⟨_,.head⟩ U)<|M U U c6<|bg U U<|ay U c6 U<|Y ?_;exact ⟨(),lI,⟨jb (by simp_all<;>grind),trivial⟩,aJ,trivial⟩
  rintro _ _;refine zq U (fun cv=>?_) (fun cv=>?_)
  ·refine Z<|ah U<|Y<|zf ?_
   repeat (first|refine ad ?_|refine aa ?_)
   refine bt U ?_;rw[wb (fun h=>by have:=h.2.2.1 k hk2;obtain ⟨h1,h2,h3,_⟩:=this;simp[h1] at cv;omega)]
  have hv3:mY f.v[k].name=true∧0≤f.v[k].ty∧f.v[k].ty≤2:=by simp at cv;omega
  refine zc<|Z<|C U<|C U<|Y<|zd<|zu (γ:=Nat) [1,3,7,67,68,69,88] (fun j=>[(89,.i j)]) (fun j=>[(i7,.cells 48 (bO f.v[k]))]) (fun j=>j≤k∧∀s∈(f.v.take j).map (·.name),s≠f.v[k].name) (fun j=>k - j) 0 aN aJ (⟨qw _,by simp⟩) ?_;rintro j ⟨hj,hno⟩;refine Z<|aq U U<|Y<|za<|zh U (fun cj=>?_) (fun cj=>?_)
  ·have hj1:j<f.v.length:=by omega
   refine zc<|za<|zd<|Z<|C U<|ap U<|Y<|za<|zn (fun j=>false) (by kernel_rfl) U (zk (.r (.rest _)))<|D 0 U (dk jf U Zs U U)<|D 1 U (gJ Y4 U)<|D 2 U (dC U)<|D 3 U (qf Z7 Yc U U U (qt (by omega)))<|D 4 U (dk Zr U Y7 U U)<|D 5 U (q8 (c:=.str _) Ym U)<|D 6 U (ze Zr U Y7 (by decide) U U)<|D 7 U (zj (c:=.str _) Ym U ⟨_,.head⟩ U)<|D 8 U (q6 U U)<|dS<|zh U (fun ce=>?_) (fun ce=>?_)
   ·refine Z<|ah U<|Y<|zf ?_
    repeat (first|refine ad ?_|refine aa ?_)
    refine bt U ?_;rw[wb (fun h=>by exact Ee (g:=lg.name) hj1 (by omega) (h.2.2.1 k hk2).2.2.2 ce)]
   refine zc<|bQ U U ?_;exact ⟨j+1,lI,aN,aJ,⟨by omega,Ah hj1 hno ce⟩,by omega⟩
  obtain rfl:j=k:=by omega
  refine zt<|bQ U U ?_;exact ⟨j+1,f7,aN,⟨_,(.drop (.refl _)),rfl⟩,⟨hk2,fun i h hi=>by rcases Nat.lt_or_ge i j with h3|h3;exact hvar i h h3;obtain rfl:i=j:=(by omega);exact ⟨hv3.1,hv3.2.1,hv3.2.2,hno⟩⟩,by omega⟩
 have hvars:∀i (h:i<f.v.length),Fy f i f.v[i]:=fun i h=>hvar i h (by omega);refine zt<|Z<|ao jf U Zd U U<|aK Zf U<|am jr U<|ap U<|Y<|Z<|ap U<|Y<|za<|Z<|ao jf U Zd U U<|aK Zf U<|am jr U<|C U<|Y<|zd<|zu (γ:=Nat) [1,3,9,107,108] (fun g=>[(109,.i g),(10,.i (eu (f.q.take g)))]) (fun g=>[]) (fun g=>g≤f.q.length∧(∀i (h:i<f.q.length),i<g→Kz f i f.q[i])∧eu (f.q.take g)≤1024∧∀b∈f.q.take g,CK f b) (fun g=>f.q.length - g) 0 cV aJ (⟨qw _,fun i h hk=>by omega,by simp[eu],by simp⟩) ?_;rintro k ⟨hk,hnam,hsum,hblk⟩;refine Z<|aq U U<|Y<|za<|zh U (fun ck=>?_) (fun ck=>?_)
 ·have hk2:k<f.q.length:=by omega
  have hnk:f.q[k].name.size≤140737488355328:=hn.2 _ (qx hk2);obtain ⟨hb1,hb2,hb3,hb4⟩:=hf4 _ (qx hk2);have hl4:=hb1.lt;have hl5:=hb2.lt;refine zc<|za<|zd<|Z<|C U<|X (qf jr Z1 U U U (qt (by omega)))<|ae Ye Z1 U U<|zp (cs:=[.e,.n,.n,.i 0,.i 0,.i 0,.i 0]) Zh U U<|fun i12=>ap U<|zi Z1 U U U U U U .head U<|Y<|za<|Z<|X (ze ji U Y7 (by decide) U U)<|X (zj (c:=.str _) Ym U ⟨_,.head⟩ U)<|zb (wx _ (by assumption) hL) U<|aL U<|Y<|zq U (fun cv=>?_) (fun cv=>?_)
  ·refine Z<|ah U<|Y<|zf ?_
   repeat (first|refine ad ?_|refine aa ?_)
   refine bt U ?_;rw[wb (fun h=>by have:=(h.2.2.2.1 k hk2).1;simp[this] at cv)]
  refine zc<|za<|Z<|C U<|C U<|Y<|zd<|zu (γ:=Nat) [1,3,9,10,12,107,108,109,118] (fun j=>[(119,.i j)]) (fun j=>[(i12,.cells 59 (bK f.q[k]))]) (fun j=>j≤k∧∀s∈(f.q.take j).map (·.name),s≠f.q[k].name) (fun j=>k - j) 0 aN aJ (⟨qw _,by simp⟩) ?_;rintro j ⟨hj,hno⟩;refine Z<|aq U U<|Y<|za<|zh U (fun cj=>?_) (fun cj=>?_)
  ·have hj1:j<f.q.length:=by omega
   refine zc<|za<|zd<|Z<|C U<|ap U<|Y<|za<|zn (fun j=>false) (by kernel_rfl) U (zk (.r (.rest _)))<|D 0 U (dk jf U Zd U U)<|D 1 U (gJ Zf U)<|D 2 U (dC U)<|D 3 U (qf jr Z1 U U U (qt (by omega)))<|D 4 U (dk ji U Y7 U U)<|D 5 U (q8 (c:=.str _) Ym U)<|D 6 U (ze ji U Y7 (by decide) U U)<|D 7 U (zj (c:=.str _) Ym U ⟨_,.head⟩ U)<|D 8 U (q6 U U)<|dS<|zh U (fun ce=>?_) (fun ce=>?_)
   ·refine Z<|ah U<|Y<|zf ?_
    repeat (first|refine ad ?_|refine aa ?_)
    refine bt U ?_;rw[wb (fun h=>by exact Ee (g:=aF.name) hj1 (by omega) (h.2.2.2.1 k hk2).2 ce)]
   refine zc<|bQ U U ?_;exact ⟨j+1,p9,aN,aJ,⟨by omega,Ah hj1 hno ce⟩,by omega⟩
  obtain rfl:j=k:=by omega
  have hs1:=ow f.q j hk2;refine zt<|Z<|C U<|X (ze ji U Zv (by decide) U U)<|X (zj (c:=.fro _ _) Yf U ⟨_,.head⟩ U)<|am Z6 U<|X (ky U U)<|X (ze ji U Zw (by decide) U U)<|X (zj (c:=.fro _ _) Y3 U ⟨_,.head⟩ U)<|am Z4 U<|X (ky U U)<|ap U<|Y<|za<|Z<|C U<|bg U U<|Y<|zh U (fun cs=>?_) (fun cs=>?_)
  ·refine Z<|ah U<|Y<|zf ?_
   repeat (first|refine ad ?_|refine aa ?_)
   refine bt U ?_;rw[wb (fun h=>by have:=h.2.2.2.2.1;have:=tC f.q (j+1);omega)]
  refine zc<|za<|Z<|X (ze ji U Zv (by decide) U U)<|X (zj (c:=.fro _ _) Yf U ⟨_,.head⟩ U)<|am Z6 U<|C U<|Y<|zd<|zu (γ:=Nat) [1,3,9,10,12,107,108,109,144,145] (fun p=>[(146,.i p)]) (fun p=>[(i12,.cells 59 (bK f.q[j]))]) (fun p=>p≤f.q[j].p.length∧∀q∈f.q[j].p.take p,tB f q) (fun p=>f.q[j].p.length - p) 0 aN aJ (⟨qw _,by simp⟩) ?_;rintro p ⟨hp,hphi⟩;refine Z<|aq U U<|Y<|za<|zh U (fun cp=>?_) (fun cp=>?_)
  ·have hp2:p<f.q[j].p.length:=by omega
   obtain ⟨hq1,hq2⟩:=hb3 _ (qx hp2);have hl6:=hq1.lt;have hl7:=hq2.lt;refine zc<|za<|zd<|Z<|X (qf Z6 Ze U U U (qt (by omega)))<|ae Ys Ze U U<|zp (cs:=[.i 0,.n,.n]) Y0 U U<|fun i15=>zi Ze U U U U U U .head U<|Y<|za<|za<|y3 (γ:=Unit) [1,3,9,10,12,15,107,108,109,144,145,146] (fun u=>[(169,.bool (!bn f f.q[j].p[p].dst||(!decide ((f.q[j].p[p].args.length:Int)=f.q[j].p[p].w.length)||decide ((f.q[j].p[p].args.length:Int)<1))))]) (fun u=>[(i15,.cells 83 (dQ f.q[j].p[p])),(i12,.cells 59 (bK f.q[j]))]) (fun u=>True) ?_ (fun _ _ h=>h) ?_
   ·refine bZ<|X (ze Z3 U j9 (by decide) U U)<|X (zj (c:=.int _ _) jg U ⟨_,.head⟩ U)<|C U<|zb (iI _ _) U<|aL U<|aw U<|zo (s:=155) U (fun c7=>?_) (fun c7=>?_)
    ·refine H U U c7<|H U U c7<|H U U c7<|H U U c7<|H U U c7<|H U U c7<|H U U c7<|aA U c7 U<|aw U<|H U U U<|H U U U<|H U U U<|H U U U<|aA U U U<|Y ?_;exact ⟨(),lK,⟨jb (by simp_all[bn]<;>grind),trivial⟩,aJ,trivial⟩
    refine M U U c7<|X (ze Z3 U jh (by decide) U U)<|M U U c7<|X (zj (c:=.fro _ _) jy U ⟨_,.head⟩ U)<|M U U c7<|am j7 U<|M U U c7<|X (ze Z3 U jh (by decide) U U)<|M U U c7<|X (zj (c:=.fro _ _) jy U ⟨_,.head⟩ U)<|M U U c7<|am j7 U<|M U U c7<|aT U U<|ay U c7 U<|aw U<|zo (s:=164) U (fun c8=>?_) (fun c8=>?_)
    ·refine H U U c8<|H U U c8<|H U U c8<|H U U c8<|aA U c8 U<|Y ?_;exact ⟨(),lK,⟨jb (by simp_all[bn]<;>grind),trivial⟩,aJ,trivial⟩
    refine M U U c8<|X (ze Z3 U jh (by decide) U U)<|M U U c8<|X (zj (c:=.fro _ _) jy U ⟨_,.head⟩ U)<|M U U c8<|am j7 U<|M U U c8<|aq U U<|ay U c8 U<|Y ?_;exact ⟨(),lK,⟨jb (by simp_all[bn]<;>grind),trivial⟩,aJ,trivial⟩
   rintro _ _;refine zq U (fun cq=>?_) (fun cq=>?_)
   ·refine Z<|ah U<|Y<|zf ?_
    repeat (first|refine ad ?_|refine aa ?_)
    refine bt U ?_;rw[wb (fun h=>by have:=(h.2.2.2.2.2 _ (qx hk2)).1 _ (qx hp2);obtain ⟨h1,h2,h3,_⟩:=this;rw[h1,h2] at cq;simp only[Bool.not_true,Bool.false_or,decide_true,wi] at cq;omega)]
   have hq3:bn f f.q[j].p[p].dst=true∧f.q[j].p[p].args.length=f.q[j].p[p].w.length∧1≤f.q[j].p[p].args.length:=by
    rcases Bool.or_eq_false_iff.1 cq with ⟨a1,a2⟩
    rcases Bool.or_eq_false_iff.1 a2 with ⟨a3,a4⟩
    exact ⟨by simpa using a1,by simp only[Bool.not_eq_false',wi] at a3;omega,by have:=wh a4;omega⟩
   refine zc<|Z<|X (ze Z3 U jh (by decide) U U)<|X (zj (c:=.fro _ _) jy U ⟨_,.head⟩ U)<|am j7 U<|C U<|Y<|zd<|zu (γ:=Nat) [1,3,9,10,12,15,107,108,109,144,145,146,172] (fun m=>[(173,.i m)]) (fun m=>[(i15,.cells 83 (dQ f.q[j].p[p])),(i12,.cells 59 (bK f.q[j]))]) (fun m=>m≤f.q[j].p[p].args.length∧(f.q[j].p[p].args.take m).all (bn f)=true∧(f.q[j].p[p].w.take m).all (eQ f)=true) (fun m=>f.q[j].p[p].args.length - m) 0 aN aJ (⟨qw _,U,U⟩) ?_;rintro m ⟨hm,ha1,ha2⟩;refine Z<|aq U U<|Y<|za<|zh U (fun cm=>?_) (fun cm=>?_)
   ·have hm1:m<f.q[j].p[p].args.length:=by omega
    have hm2:m<f.q[j].p[p].w.length:=by omega
    refine zc<|za<|zd<|Z<|C U<|ap U<|Y<|za<|y3 (γ:=Unit) [1,3,9,10,12,15,107,108,109,144,145,146,172,173] (fun u=>[(193,.bool (!bn f f.q[j].p[p].args[m]||!eQ f f.q[j].p[p].w[m]))]) (fun u=>[(i15,.cells 83 (dQ f.q[j].p[p])),(i12,.cells 59 (bK f.q[j]))]) (fun u=>True) ?_ (fun _ _ h=>h) ?_
    ·refine bZ<|X (ze Z3 U jh (by decide) U U)<|X (zj (c:=.fro _ _) jy U ⟨_,.head⟩ U)<|C U<|X (qf j7 j9 U U U (qt (by omega)))<|aD jg U<|C U<|zb (iI _ _) U<|aL U<|aw U<|zo (s:=184) U (fun c9=>?_) (fun c9=>?_)
     ·refine H U U c9<|H U U c9<|H U U c9<|H U U c9<|H U U c9<|H U U c9<|H U U c9<|H U U c9<|aA U c9 U<|Y ?_;exact ⟨(),⟨rfl,rfl,rfl,rfl,rfl,rfl,rfl,rfl,rfl,rfl,rfl,rfl,rfl,rfl,trivial⟩,⟨jb (by simp_all[bn,eQ]<;>grind),trivial⟩,aJ,trivial⟩
     refine M U U c9<|X (ze Z3 U jh (by decide) U U)<|M U U c9<|X (zj (c:=.fro _ _) jy U ⟨_,.head⟩ U)<|M U U c9<|C U<|M U U c9<|X (qf j7 j9 U U U (qt (by omega)))<|M U U c9<|aD jg U<|M U U c9<|C U<|M U U c9<|zb (iI _ _) U<|M U U c9<|aL U<|ay U c9 U<|Y ?_;exact ⟨(),⟨rfl,rfl,rfl,rfl,rfl,rfl,rfl,rfl,rfl,rfl,rfl,rfl,rfl,rfl,trivial⟩,⟨jb (by simp_all[bn,eQ]<;>grind),trivial⟩,aJ,trivial⟩
    rintro _ _;refine zq U (fun cw=>?_) (fun cw=>?_)
    ·refine Z<|ah U<|Y<|zf ?_
     repeat (first|refine ad ?_|refine aa ?_)
     refine bt U ?_;rw[wb (fun h=>by have:=(h.2.2.2.2.2 _ (qx hk2)).1 _ (qx hp2);obtain ⟨_,_,_,h4,h5⟩:=this;have h6:=List.all_eq_true.1 h4 _ (qx hm1);have h7:=List.all_eq_true.1 h5 _ (qx hm2);rw[h6,h7] at cw;cases cw)]
    refine zc<|bQ U U ?_;exact ⟨m+1,⟨rfl,rfl,rfl,rfl,rfl,rfl,rfl,rfl,rfl,rfl,rfl,rfl,rfl,trivial⟩,aN,aJ,⟨hm1,cD hm1 ha1 (by simp at cw;exact cw.1),cD hm2 ha2 (by simp at cw;exact cw.2)⟩,by omega⟩
   rw[mZ (by omega)] at ha1;rw[mZ (by omega)] at ha2;refine zt<|bQ U U ?_;exact ⟨p+1,jX,aN,⟨_,(.drop (.refl _)),rfl⟩,⟨hp2,fQ hp2 hphi ⟨hq3.1,hq3.2.1,hq3.2.2,ha1,ha2⟩⟩,by omega⟩
  rw[mZ (by omega)] at hphi;refine zt<|za<|Z<|X (ze ji U Zw (by decide) U U)<|X (zj (c:=.fro _ _) Y3 U ⟨_,.head⟩ U)<|am Z4 U<|C U<|Y<|zd<|zu (γ:=Nat) [1,3,9,10,12,107,108,109,197,198] (fun p=>[(199,.i p)]) (fun p=>[(i12,.cells 59 (bK f.q[j]))]) (fun p=>p≤f.q[j].s.length∧∀q∈f.q[j].s.take p,pp f q) (fun p=>f.q[j].s.length - p) 0 aN aJ (⟨qw _,by simp⟩) ?_;rintro p ⟨hp,hins⟩;refine Z<|aq U U<|Y<|za<|zh U (fun cp=>?_) (fun cp=>?_)
  ·have hp2:p<f.q[j].s.length:=by omega
   have hq1:=hb4 _ (qx hp2);have hl6:=hq1.lt;refine zc<|za<|zd<|Z<|X (qf Z4 Z9 U U U (qt (by omega)))<|ae Yg Z9 U U<|zp (cs:=[.i 0,.i 0,.n,.i 0]) Zo U U<|fun i18=>zi Z9 U U U U U U .head U<|Y<|za<|za<|y3 (γ:=Unit) [1,3,9,10,12,18,107,108,109,197,198,199] (fun u=>[(210,.bool (decide (f.q[j].s[p].op<0)||decide (26<f.q[j].s[p].op)))]) (fun u=>[(i18,.cells 51 (bu f.q[j].s[p])),(i12,.cells 59 (bK f.q[j]))]) (fun u=>True) ?_ (fun _ _ h=>h) ?_
   ·refine bZ<|X (ze jd U Zu (by decide) U U)<|X (zj (c:=.int _ _) Y2 U ⟨_,.head⟩ U)<|aq U U<|aw U<|zo (s:=206) U (fun c10=>?_) (fun c10=>?_)
    ·refine H U U c10<|H U U c10<|H U U c10<|aA U c10 U<|Y ?_;exact ⟨(),lK,⟨jb (by simp_all<;>grind),trivial⟩,aJ,trivial⟩
    refine M U U c10<|X (ze jd U Zu (by decide) U U)<|M U U c10<|X (zj (c:=.int _ _) Y2 U ⟨_,.head⟩ U)<|M U U c10<|bg U U<|ay U c10 U<|Y ?_;exact ⟨(),lK,⟨jb (by simp_all<;>grind),trivial⟩,aJ,trivial⟩
   rintro _ _;refine zq U (fun cq=>?_) (fun cq=>?_)
   ·refine Z<|ah U<|Y<|zf ?_
    repeat (first|refine ad ?_|refine aa ?_)
    refine bt U ?_;rw[wb (fun h=>by have:=(h.2.2.2.2.2 _ (qx hk2)).2.1 _ (qx hp2);obtain ⟨h1,h2,_⟩:=this;simp at cq;omega)]
   have hop:0≤f.q[j].s[p].op∧f.q[j].s[p].op≤26:=by simp at cq;omega
   have hrow:iJ[f.q[j].s[p].op.toNat]?=some (cF f.q[j].s[p].op):=by unfold cF;rw[if_pos hop.1,qt (show _<27 by omega)];rfl
   refine zc<|za<|y3 (γ:=Nat) [1,3,9,10,12,18,107,108,109,197,198,199] (fun i=>[(19,.po i 0)]) (fun i=>[(i18,.cells 51 (bu f.q[j].s[p])),(i,.cells 169 (vu (cF f.q[j].s[p].op))),(i12,.cells 59 (bK f.q[j]))]) (fun i=>True) ?_ (fun _ _ h=>h) ?_
   ·refine zn (fun j=>Nat.beq j 6) (by kernel_rfl) U (zk (.r (.rest _)))<|D 1 U (ze jd U Zu (by decide) U U)<|D 2 U (zj (c:=.int _ _) Y2 U ⟨_,.head⟩ U)<|yq (i:=0) (j:=5) U U (by kernel_rfl) ?_ ?_
    ·refine zb (lm) U<|Y<|D 3 U (qf (j:=(f.q[j].s[p].op.toNat)) Xc Yz U U (we hop.1).symm hrow)<|D 4 U (yj isAgg169 Yz U U)<|bp 5 U<|zp (cs:=[.e,.e,.e]) Xi U U<|fun i19=>Y<|y4<|yg (i:=6) U (by kernel_rfl) (by kernel_rfl)<|zi Yz U U U U U U .t1 U<|Y<|y8 (by kernel_rfl) ?_;exact ⟨i19,lK,aN,aJ,trivial⟩
    refine zp (cs:=[.e,.e,.e]) Xi U U<|fun i19=>Y<|bp 0 U<|zb (lm) U<|Y<|D 3 U (qf (j:=(f.q[j].s[p].op.toNat)) Xc Yz U U (we hop.1).symm hrow)<|D 4 U (yj isAgg169 Yz U U)<|y4<|yg (i:=6) U (by kernel_rfl) (by kernel_rfl)<|zi Yz U U U U U U .t1 U<|Y<|y8 (by kernel_rfl) ?_;exact ⟨i19,lK,aN,aJ,trivial⟩
   rintro i19 _;refine za<|za<|y3 (γ:=Unit) [1,3,9,10,12,18,107,108,109,197,198,199] (fun u=>[(258,.bool (mE f f.q[j].s[p]))]) (fun u=>[(i18,.cells 51 (bu f.q[j].s[p])),(i19,.cells 169 (vu (cF f.q[j].s[p].op))),(i12,.cells 59 (bK f.q[j]))]) (fun u=>True) ?_ (fun _ _ h=>h) ?_
   ·refine bZ<|X (ze jd U jh (by decide) U U)<|X (zj (c:=.fro _ _) jy U ⟨_,.head⟩ U)<|am j7 U<|X (ze Y8 U Y7 (by decide) U U)<|X (zj (c:=.str _) Ym U ⟨_,.t1⟩ U)<|X (Gv.lenT Zy U)<|aT U U<|aw U<|zo (s:=223) U (fun c11=>?_) (fun c11=>?_)
    ·refine H U U c11<|H U U c11<|H U U c11<|H U U c11<|H U U c11<|H U U c11<|H U U c11<|aA U c11 U<|aw U<|H U U U<|H U U U<|H U U U<|H U U U<|zg U U<|zg U U<|zg U U<|zg U U<|zg U U<|H U U U<|aA U U U<|aw U<|H U U U<|H U U U<|H U U U<|H U U U<|zg U U<|zg U U<|zg U U<|H U U U<|H U U U<|zg U U<|zg U U<|zg U U<|H U U U<|aA U U U<|Y ?_;exact ⟨(),lK,⟨jb (by simp_all[mE,kH,bn]<;>grind),trivial⟩,aJ,trivial⟩
    refine M U U c11<|X (ze Y8 U Y7 (by decide) U U)<|M U U c11<|X (zj (c:=.str _) Ym U ⟨_,.t1⟩ U)<|M U U c11<|X (q6 U U)<|M U U c11<|X (ze jd U j9 (by decide) U U)<|M U U c11<|X (zj (c:=.int _ _) jg U ⟨_,.head⟩ U)<|M U U c11<|au U U<|M U U c11<|X (Gv.neqB Yp U U)<|ay U c11 U<|aw U<|zo (s:=232) U (fun c12=>?_) (fun c12=>?_)
    ·refine H U U c12<|H U U c12<|H U U c12<|H U U c12<|zg U U<|zg U U<|zg U U<|zg U U<|zg U U<|H U U c12<|aA U c12 U<|aw U<|H U U U<|H U U U<|H U U U<|H U U U<|zg U U<|zg U U<|zg U U<|H U U U<|H U U U<|zg U U<|zg U U<|zg U U<|H U U U<|aA U U U<|Y ?_;exact ⟨(),lK,⟨jb (by simp_all[mE,kH,bn]<;>grind),trivial⟩,aJ,trivial⟩
    refine M U U c12<|X (ze jd U j9 (by decide) U U)<|M U U c12<|X (zj (c:=.int _ _) jg U ⟨_,.head⟩ U)<|M U U c12<|aT U U<|M U U c12<|aw U<|zo (s:=236) U (fun c13=>?_) (fun c13=>?_)
    ·refine M U U c13<|X (ze jd U j9 (by decide) U U)<|M U U c13<|X (zj (c:=.int _ _) jg U ⟨_,.head⟩ U)<|M U U c13<|C U<|M U U c13<|zb (iI _ _) U<|M U U c13<|aL U<|M U U c12<|aA U c13 U<|ay U c12 U<|aw U<|zo (s:=244) U (fun c14=>?_) (fun c14=>?_)
     ·refine H U U c14<|H U U c14<|H U U c14<|H U U c14<|zg U U<|zg U U<|zg U U<|H U U c14<|H U U c14<|zg U U<|zg U U<|zg U U<|H U U c14<|aA U c14 U<|Y ?_;exact ⟨(),lK,⟨jb (by simp_all[mE,kH,bn]<;>grind),trivial⟩,aJ,trivial⟩
     refine M U U c14<|X (ze jd U Z0 (by decide) U U)<|M U U c14<|X (zj (c:=.int _ _) Zb U ⟨_,.head⟩ U)<|M U U c14<|aT U U<|M U U c14<|aw U<|zo (s:=248) U (fun c15=>?_) (fun c15=>?_)
     ·refine M U U c15<|X (ze Y8 U Y7 (by decide) U U)<|M U U c15<|X (zj (c:=.str _) Ym U ⟨_,.t1⟩ U)<|M U U c15<|X (Gv.neqT U U)<|M U U c14<|aA U c15 U<|M U U c14<|aw U<|zo (s:=253) U (fun c16=>?_) (fun c16=>?_)
      ·refine M U U c16<|X (ze Y8 U Y7 (by decide) U U)<|M U U c16<|X (zj (c:=.str _) Ym U ⟨_,.t1⟩ U)<|M U U c16<|X (Gv.neqT U U)<|M U U c14<|aA U c16 U<|ay U c14 U<|Y ?_;exact ⟨(),lK,⟨jb (by simp_all[mE,kH,bn]<;>grind),trivial⟩,aJ,trivial⟩
      refine H U U c16<|H U U c16<|H U U c16<|M U U c14<|ay U c16 U<|ay U c14 U<|Y ?_;exact ⟨(),lK,⟨jb (by simp_all[mE,kH,bn]<;>grind),trivial⟩,aJ,trivial⟩
     refine H U U c15<|H U U c15<|H U U c15<|M U U c14<|ay U c15 U<|M U U c14<|aw U<|H U U U<|H U U U<|H U U U<|M U U c14<|ay U U U<|ay U c14 U<|Y ?_;exact ⟨(),lK,⟨jb (by simp_all[mE,kH,bn]<;>grind),trivial⟩,aJ,trivial⟩
    refine H U U c13<|H U U c13<|H U U c13<|H U U c13<|H U U c13<|M U U c12<|ay U c13 U<|ay U c12 U<|aw U<|M U U U<|X (ze jd U Z0 (by decide) U U)<|M U U U<|X (zj (c:=.int _ _) Zb U ⟨_,.head⟩ U)<|M U U U<|aT U U<|M U U U<|aw U<|zo (s:=248) U (fun c17=>?_) (fun c17=>?_)
    ·refine M U U c17<|X (ze Y8 U Y7 (by decide) U U)<|M U U c17<|X (zj (c:=.str _) Ym U ⟨_,.t1⟩ U)<|M U U c17<|X (Gv.neqT U U)<|M U U U<|aA U c17 U<|M U U U<|aw U<|zo (s:=253) U (fun c18=>?_) (fun c18=>?_)
     ·refine M U U c18<|X (ze Y8 U Y7 (by decide) U U)<|M U U c18<|X (zj (c:=.str _) Ym U ⟨_,.t1⟩ U)<|M U U c18<|X (Gv.neqT U U)<|M U U U<|aA U c18 U<|ay U U U<|Y ?_;exact ⟨(),lK,⟨jb (by simp_all[mE,kH,bn]<;>grind),trivial⟩,aJ,trivial⟩
     refine H U U c18<|H U U c18<|H U U c18<|M U U U<|ay U c18 U<|ay U U U<|Y ?_;exact ⟨(),lK,⟨jb (by simp_all[mE,kH,bn]<;>grind),trivial⟩,aJ,trivial⟩
    refine H U U c17<|H U U c17<|H U U c17<|M U U U<|ay U c17 U<|M U U U<|aw U<|H U U U<|H U U U<|H U U U<|M U U U<|ay U U U<|ay U U U<|Y ?_;exact ⟨(),lK,⟨jb (by simp_all[mE,kH,bn]<;>grind),trivial⟩,aJ,trivial⟩
   rintro _ _;refine zq U (fun cw=>?_) (fun cw=>?_)
   ·refine Z<|ah U<|Y<|zf ?_
    repeat (first|refine ad ?_|refine aa ?_)
    refine bt U ?_;rw[wb (fun h=>by have:=(h.2.2.2.2.2 _ (qx hk2)).2.1 _ (qx hp2);rw[this.2.2.1] at cw;cases cw)]
   refine zc<|Z<|X (ze jd U jh (by decide) U U)<|X (zj (c:=.fro _ _) jy U ⟨_,.head⟩ U)<|am j7 U<|C U<|Y<|zd<|zu (γ:=Nat) [1,3,9,10,12,107,108,109,197,198,199,260,261] (fun m=>[(262,.i m)]) (fun m=>[(i18,.cells 51 (bu f.q[j].s[p])),(i12,.cells 59 (bK f.q[j]))]) (fun m=>m≤f.q[j].s[p].args.length∧(f.q[j].s[p].args.take m).all (bn f)=true) (fun m=>f.q[j].s[p].args.length - m) 0 aN ⟨_,(.keep (.drop (.refl _))),U⟩ (⟨qw _,U⟩) ?_;rintro m ⟨hm,ha1⟩;refine Z<|aq U U<|Y<|za<|zh U (fun cm=>?_) (fun cm=>?_)
   ·have hm1:m<f.q[j].s[p].args.length:=by omega
    refine zc<|za<|zd<|Z<|X (qf j7 j9 U U U (qt (by omega)))<|aD jg U<|ap U<|Y<|Z<|C U<|C U<|zb (iI _ _) U<|aL U<|Y<|zq U (fun ca=>?_) (fun ca=>?_)
    ·have ca:bn f f.q[j].s[p].args[m]=false:=by simp[bn] at ca ⊢;omega
     refine Z<|ah U<|Y<|zf ?_
     repeat (first|refine ad ?_|refine aa ?_)
     refine bt U ?_;rw[wb (fun h=>by have:=(h.2.2.2.2.2 _ (qx hk2)).2.1 _ (qx hp2);have h6:=List.all_eq_true.1 this.2.2.2 _ (qx hm1);rw[ca] at h6;cases h6)]
    have ca:bn f f.q[j].s[p].args[m]=true:=by simp[bn] at ca ⊢;omega
    refine zc<|bQ U U ?_;exact ⟨m+1,⟨rfl,rfl,rfl,rfl,rfl,rfl,rfl,rfl,rfl,rfl,rfl,rfl,rfl,trivial⟩,aN,aJ,⟨hm1,cD hm1 ha1 ca⟩,by omega⟩
   rw[mZ (by omega)] at ha1;refine zt<|bQ U U ?_;exact ⟨p+1,jX,aN,⟨_,(.drop (.refl _)),rfl⟩,⟨hp2,fQ hp2 hins ⟨hop.1,hop.2,cw,ha1⟩⟩,by omega⟩
  rw[mZ (by omega)] at hins;refine zt<|Z<|X (ze ji U Zp (by decide) U U)<|X (qh (l:=[_,_,_,_]) Xl Zp U ⟨_,.head⟩ U U)<|zp (cs:=[.i 0,.i 0,.i 0,.i 0]) Xg U U<|fun i22=>zi Zp U U U U U U .head U<|Y<|Z<|ah U<|Y<|za<|Z<|X (ze jj U Y5 (by decide) U U)<|X (zj (c:=.int _ _) Yk U ⟨_,.head⟩ U)<|Y<|y3 (γ:=Unit) [1,3,9,10,107,108,109] (fun u=>[(23,.bool (bP f f.q[j].t))]) (fun u=>[]) (fun u=>True) ?_ (fun _ _ h=>h) ?_
  ·refine zd<|Z<|au U U<|ah U<|Y<|zq U (fun c19=>?_) (fun c19=>?_)
   ·refine bZ<|X (ze jj U Zi (by decide) U U)<|X (qa (j:=0) Z8 j9 U U U (by decide) U)<|X (zj (c:=.int _ _) jg U ⟨_,.head⟩ U)<|C U<|zb (iI _ _) U<|aw U<|zo (s:=283) U (fun c20=>?_) (fun c20=>?_)
    ·refine M U U c20<|X (ze jj U Zi (by decide) U U)<|M U U c20<|X (qa (j:=1) Z8 j9 U U U (by decide) U)<|M U U c20<|X (zj (c:=.int _ _) jg U ⟨_,.head⟩ U)<|M U U c20<|au U U<|aA U c20 U<|aw U<|zo (s:=289) U (fun c21=>?_) (fun c21=>?_)
     ·refine M U U c21<|X (ze jj U j9 (by decide) U U)<|M U U c21<|X (zj (c:=.int _ _) jg U ⟨_,.head⟩ U)<|M U U c21<|au U U<|aA U c21 U<|ah U<|Y ?_;exact ⟨(),lI,⟨jb (by simp_all[bP,bn,eQ]<;>grind),trivial⟩,⟨_,(.drop (.drop (.refl _))),rfl⟩,trivial⟩
     refine H U U c21<|H U U c21<|H U U c21<|ay U c21 U<|ah U<|Y ?_;exact ⟨(),lI,⟨jb (by simp_all[bP,bn,eQ]<;>grind),trivial⟩,⟨_,(.drop (.drop (.refl _))),rfl⟩,trivial⟩
    refine H U U c20<|H U U c20<|H U U c20<|H U U c20<|ay U c20 U<|aw U<|H U U U<|H U U U<|H U U U<|ay U U U<|ah U<|Y ?_;exact ⟨(),lI,⟨jb (by simp_all[bP,bn,eQ]<;>grind),trivial⟩,⟨_,(.drop (.drop (.refl _))),rfl⟩,trivial⟩
   refine Z<|au U U<|ah U<|Y<|zq U (fun c22=>?_) (fun c22=>?_)
   ·refine bZ<|X (ze jj U j9 (by decide) U U)<|X (zj (c:=.int _ _) jg U ⟨_,.head⟩ U)<|C U<|zb (iI _ _) U<|aw U<|zo (s:=300) U (fun c23=>?_) (fun c23=>?_)
    ·refine M U U c23<|X (ze jj U Zi (by decide) U U)<|M U U c23<|X (qa (j:=0) Z8 j9 U U U (by decide) U)<|M U U c23<|X (zj (c:=.int _ _) jg U ⟨_,.head⟩ U)<|M U U c23<|C U<|M U U c23<|zb (iI _ _) U<|aA U c23 U<|aw U<|zo (s:=307) U (fun c24=>?_) (fun c24=>?_)
     ·refine M U U c24<|X (ze jj U Zi (by decide) U U)<|M U U c24<|X (qa (j:=1) Z8 j9 U U U (by decide) U)<|M U U c24<|X (zj (c:=.int _ _) jg U ⟨_,.head⟩ U)<|M U U c24<|C U<|M U U c24<|zb (iI _ _) U<|aA U c24 U<|ah U<|Y ?_;exact ⟨(),lI,⟨jb (by simp_all[bP,bn,eQ]<;>grind),trivial⟩,⟨_,(.drop (.drop (.refl _))),rfl⟩,trivial⟩
     refine H U U c24<|H U U c24<|H U U c24<|H U U c24<|H U U c24<|ay U c24 U<|ah U<|Y ?_;exact ⟨(),lI,⟨jb (by simp_all[bP,bn,eQ]<;>grind),trivial⟩,⟨_,(.drop (.drop (.refl _))),rfl⟩,trivial⟩
    refine H U U c23<|H U U c23<|H U U c23<|H U U c23<|H U U c23<|ay U c23 U<|aw U<|H U U U<|H U U U<|H U U U<|H U U U<|H U U U<|ay U U U<|ah U<|Y ?_;exact ⟨(),lI,⟨jb (by simp_all[bP,bn,eQ]<;>grind),trivial⟩,⟨_,(.drop (.drop (.refl _))),rfl⟩,trivial⟩
   refine Z<|au U U<|ah U<|Y<|zq U (fun c25=>?_) (fun c25=>?_)
   ·refine bZ<|X (ze jj U j9 (by decide) U U)<|X (zj (c:=.int _ _) jg U ⟨_,.head⟩ U)<|C U<|zb (iI _ _) U<|aw U<|zo (s:=320) U (fun c26=>?_) (fun c26=>?_)
    ·refine M U U c26<|X (ze jj U Zi (by decide) U U)<|M U U c26<|X (qh (l:=[_,_]) isAgg54 Zi U ⟨_,.head⟩ U U)<|M U U c26<|X (Gv.buildA (cps:=[]) (rs:=[.i 0,.i 0]) N6 U U U)<|M U U c26<|X (Gv.eqlP (xs:=[.int _ _,.int _ _]) (ys:=[.int _ _,.int _ _]) (by kernel_rfl) U U (fun w=>Ad _ _ _ _ w))<|aA U c26 U<|ah U<|Y ?_;exact ⟨(),lI,⟨jb (by simp_all[bP,bn,eQ]<;>grind),trivial⟩,⟨_,(.drop (.drop (.refl _))),rfl⟩,trivial⟩
    refine H U U c26<|H U U c26<|H U U c26<|H U U c26<|ay U c26 U<|ah U<|Y ?_;exact ⟨(),lI,⟨jb (by simp_all[bP,bn,eQ]<;>grind),trivial⟩,⟨_,(.drop (.drop (.refl _))),rfl⟩,trivial⟩
   refine zc ?_;exact ⟨(),lI,⟨jb (by simp_all[bP,bn,eQ]<;>grind),trivial⟩,⟨_,(.drop (.drop (.refl _))),rfl⟩,trivial⟩
  rintro _ _;refine Z<|aw U<|aL U<|Y<|zq U (fun ct=>?_) (fun ct=>?_)
  ·refine Z<|ah U<|Y<|zf ?_
   repeat (first|refine ad ?_|refine aa ?_)
   refine bt U ?_;rw[wb (fun h=>by have:=(h.2.2.2.2.2 _ (qx hk2)).2.2;rw[this] at ct;cases ct)]
  have ct:bP f f.q[j].t=true:=by simpa using ct
  refine zc<|bQ U U ?_;exact ⟨j+1,lf,⟨rfl,(congrArg (AV.int .i64) (by rw[hs1];omega)),trivial⟩,aJ,⟨hk2,fun i h hi=>by rcases Nat.lt_or_ge i j with h3|h3;exact hnam i h h3;obtain rfl:i=j:=(by omega);exact ⟨by simpa using cv,hno⟩,by omega,fQ hk2 hblk ⟨hphi,hins,ct⟩⟩,by omega⟩
 have hkn:k=f.q.length:=by omega
 subst hkn;rw[qy] at hsum hblk;refine zt<|Z<|ah U<|Y<|zf ?_
 repeat (first|refine ad ?_|refine aa ?_)
 refine bt U ?_;rw[wa (show bN f from ⟨c1,hpars,hvars,fun i h=>hnam i h h,hsum,hblk⟩)]
def Ai (b:aF):Prop:=b.name.size≤1000∧b.p.length≤1000∧b.s.length≤1000∧(∀p∈b.p,p.args.length≤1000∧p.w.length≤1000)∧∀x∈b.s,x.args.length≤1000
def small (f:ab):Prop:=f.v.length≤1000∧f.z.length≤1000∧f.q.length≤1000∧(∀v∈f.v,v.name.size≤1000)∧∀b∈f.q,Ai b
theorem small.ok {f:ab} (h:small f):xx f:=by
 obtain ⟨h1,h2,h3,h4,h5⟩:=h;refine ⟨by unfold s7;omega,by unfold s7;omega,by unfold s7;omega,fun b hb=>?_⟩;obtain ⟨g1,g2,g3,g4,g5⟩:=h5 b hb;exact ⟨by unfold s7;omega,by unfold s7;omega,fun p hp=>⟨by have:=g4 p hp;unfold s7;omega,by have:=g4 p hp;unfold s7;omega⟩,fun x hx=>by have:=g5 x hx;unfold s7;omega⟩
theorem small.names {f:ab} (h:small f):pq f:=⟨fun v hv=>by have:=h.2.2.2.1 v hv;omega,fun b hb=>by have:=(h.2.2.2.2 b hb).1;omega⟩
theorem m0 {α:Type} {enc:α→List AV} (h:∀x,(enc x).all AV.cell=true) (xs:List α):(xs.map enc).flatten.all AV.cell=true:=by
 induction xs with
 |nil=>rfl
 |cons x xs ih=>simp only[List.map_cons,List.flatten_cons,List.all_append,h,ih,Bool.and_self]
def wV (l:List lg):Nat:=(l.map fun v=>v.name.size).sum
def wP (l:List dh):Nat:=(l.map fun p=>p.args.length+p.w.length).sum
def wX (l:List aB):Nat:=(l.map fun x=>x.args.length).sum
def wB (b:aF):Nat:=b.name.size+10*(b.p.length+b.s.length)+wP b.p+wX b.s
def CL (l:List aF):Nat:=(l.map wB).sum
theorem KA {l:List lg} {k:Nat} (h:k<l.length):wV (l.take (k+1))=wV (l.take k)+l[k].name.size:=by
 unfold wV;rw[qu h,w7,List.sum_append];simp only[List.map_cons,List.map_nil,List.sum_cons,List.sum_nil,Nat.add_zero]
theorem KC {l:List dh} {k:Nat} (h:k<l.length):wP (l.take (k+1))=wP (l.take k)+(l[k].args.length+l[k].w.length):=by
 unfold wP;rw[qu h,w7,List.sum_append];simp only[List.map_cons,List.map_nil,List.sum_cons,List.sum_nil,Nat.add_zero]
theorem KD {l:List aB} {k:Nat} (h:k<l.length):wX (l.take (k+1))=wX (l.take k)+l[k].args.length:=by
 unfold wX;rw[qu h,w7,List.sum_append];simp only[List.map_cons,List.map_nil,List.sum_cons,List.sum_nil,Nat.add_zero]
theorem Aj {l:List aF} {k:Nat} (h:k<l.length):CL (l.take (k+1))=CL (l.take k)+wB l[k]:=by
 unfold CL;rw[qu h,w7,List.sum_append];simp only[List.map_cons,List.map_nil,List.sum_cons,List.sum_nil,Nat.add_zero]
def Ef (b:aF):Prop:=b.name.size≤400∧b.p.length≤400∧b.s.length≤400∧(∀p∈b.p,p.args.length≤400∧p.w.length≤400)∧∀x∈b.s,x.args.length≤400
def ox (f:ab):Prop:=f.v.length≤100∧f.q.length≤40∧f.z.length≤20∧(∀v∈f.v,v.name.size≤400)∧(∀b∈f.q,Ef b)∧(f.q≠[]→wV f.v+CL f.q≤4000)
theorem ox.small {f:ab} (h:ox f):small f:=by
 obtain ⟨h1,h2,h3,h4,h5,_⟩:=h;refine ⟨by omega,by omega,by omega,fun v hv=>by have:=h4 v hv;omega,fun b hb=>?_⟩;obtain ⟨g1,g2,g3,g4,g5⟩:=h5 b hb;exact ⟨by omega,by omega,by omega,fun p hp=>by have:=g4 p hp;omega,fun x hx=>by have:=g5 x hx;omega⟩
def wL {α:Type} (l:List α):Prop:=l.length≤9223372036854775807
def N7 (p:dh):Prop:=wL p.args∧wL p.w
def N8 (b:aF):Prop:=wL b.p∧wL b.s∧(∀p∈b.p,N7 p)∧(∀x∈b.s,wL x.args)
def wy (f:ab):Prop:=wL f.v∧wL f.z∧wL f.q∧∀b∈f.q,N8 b
theorem wL.lt {α:Type} {l:List α} (h:wL l):l.length≤9223372036854775807:=h
def Fz (f:ab):Bool:=decide ((100:Int)<f.v.length)||(decide ((40:Int)<f.q.length)||decide ((20:Int)<f.z.length))
def FA (b:aF):Bool:=decide ((400:Int)<b.name.size)||(decide ((400:Int)<b.p.length)||decide ((400:Int)<b.s.length))
theorem KE:∀r∈iJ,r.1≠⟨#[]⟩:=by decide
theorem KF {op:Int} (h:0≤op∧op≤26):(cF op).1≠⟨#[]⟩:=by
 have hm:cF op∈iJ:=by
  unfold cF;rw[if_pos h.1,qt (show _<27 by omega)];exact qx _
 exact KE _ hm
theorem HG:∀j:Nat,j<27→sU (j:Int)=(decide ((cF (j:Int)).1=⟨#[99,111,110,115,116]⟩)||decide ((cF (j:Int)).1=⟨#[112,105]⟩)):=by decide
theorem wz {x:aB} (h:0≤x.op∧x.op≤26):kH x=sU x.op:=by
 have:=HG x.op.toNat (by omega);rw[we h.1] at this;unfold kH;exact this.symm
theorem qJ (op:Int):(aW op).length=(cF op).2.1.size:=by unfold aW;rw[w2];exact Array.length_toList
theorem FB (b:ByteArray):b.data.toList.isEmpty=decide (b=⟨#[]⟩):=by
 obtain ⟨⟨l⟩⟩:=b;cases l<;>simp
theorem nD (op:Int):bF op=!decide ((cF op).2.2=⟨#[]⟩):=by unfold bF;rw[FB]
theorem FC {op:Int} (h:¬(0≤op∧op≤26)):cF op=(⟨#[]⟩,⟨#[]⟩,⟨#[]⟩):=zI (by unfold vt;simp;omega)
theorem tE (f:ab) (x:aB):em f x=true↔pp f x:=by
 by_cases h:0≤x.op∧x.op≤26
 ·have hw:=KF h;have hn:=wz h;unfold em iK jB pp mE;rw[qJ,nD,hn]
  by_cases h1:x.args.length=(cF x.op).2.1.size<;>by_cases h2:(cF x.op).2.2=⟨#[]⟩<;>by_cases h3:x.dst=-1<;>by_cases h4:x.num=0<;>by_cases h5:x.args.all (bn f)=true<;>simp_all[Int.ofNat_inj]<;>(try (unfold bn;simp))<;>(try grind)
 constructor
 ·intro h2;have:=FC h;unfold em iK at h2;rw[this] at h2;simp at h2
 intro h2;exact absurd ⟨h2.1,h2.2.1⟩ h
def only (f:ab) (x:aB):ab:={ f with q:=[⟨⟨#[111,110,108,121]⟩,[],[x],⟨0,0,0,0⟩⟩] }
def ended (f:ab) (b0:aF) (bs:List aF) (t:fJ):ab:={ f with q:={ b0 with t:=t }::bs }
def fF (c:Int):Bool:=isLetterU c&&!decide (c=65533)
def tF (c:Int):Bool:=decide (48≤c)&&decide (c≤57)
def fR (c:Int):Bool:=fF c||(tF c||(decide (c=46)||decide (c=95)))
theorem pt (c:Int) (h1:-2147483648≤c) (h2:c≤2147483647) (hL:bS E):aS prog E 232 [.int .i32 c] (.bool (fF c)):=by
 refine zm func232 U (by decide) U<|Z<|ah U<|Y<|Z<|C U<|zb (rB c h1 h2 hL) U<|aw U<|zo (s:=5) U (fun c1=>?_) (fun c1=>?_)
 ·refine M U U c1<|C U<|M U U c1<|aT U U<|aA U c1 U<|ah U<|Y<|zf ?_
  repeat (first|refine ad ?_|refine aa ?_)
  refine bt U ?_;exact jb (by simp_all[fF])
 refine H U U c1<|H U U c1<|ay U c1 U<|ah U<|Y<|zf ?_
 repeat (first|refine ad ?_|refine aa ?_)
 refine bt U ?_;exact jb (by simp_all[fF])
theorem Ak (c:Int):aS prog E 243 [.int .i32 c] (.bool (tF c)):=by
 refine zm func243 U (by decide) U<|Z<|ah U<|Y<|Z<|C U<|X (q7 U U)<|aw U<|zo (s:=5) U (fun c2=>?_) (fun c2=>?_)
 ·refine M U U c2<|C U<|M U U c2<|X (Gv.leq U U)<|aA U c2 U<|ah U<|Y<|zf ?_
  repeat (first|refine ad ?_|refine aa ?_)
  refine bt U ?_;exact jb (by simp_all[tF]<;>(intros;omega))
 refine H U U c2<|H U U c2<|ay U c2 U<|ah U<|Y<|zf ?_
 repeat (first|refine ad ?_|refine aa ?_)
 refine bt U ?_;exact jb (by simp_all[tF]<;>(intros;omega))
theorem rC (c:Int) (h1:-2147483648≤c) (h2:c≤2147483647) (hL:bS E):aS prog E 233 [.int .i32 c] (.bool (fR c)):=by
 refine zm func233 U (by decide) U<|Z<|ah U<|Y<|Z<|C U<|zb (pt c h1 h2 hL) U<|aw U<|zo (s:=5) U (fun c3=>?_) (fun c3=>?_)
 ·refine H U U c3<|H U U c3<|aA U c3 U<|aw U<|H U U U<|H U U U<|aA U U U<|aw U<|H U U U<|H U U U<|aA U U U<|ah U<|Y<|zf ?_
  repeat (first|refine ad ?_|refine aa ?_)
  refine bt U ?_;exact jb (by simp_all[fR])
 refine M U U c3<|C U<|M U U c3<|zb (Ak _) U<|ay U c3 U<|aw U<|zo (s:=9) U (fun c4=>?_) (fun c4=>?_)
 ·refine H U U c4<|H U U c4<|aA U c4 U<|aw U<|H U U U<|H U U U<|aA U U U<|ah U<|Y<|zf ?_
  repeat (first|refine ad ?_|refine aa ?_)
  refine bt U ?_;exact jb (by simp_all[fR])
 refine M U U c4<|C U<|M U U c4<|au U U<|ay U c4 U<|aw U<|zo (s:=13) U (fun c5=>?_) (fun c5=>?_)
 ·refine H U U c5<|H U U c5<|aA U c5 U<|ah U<|Y<|zf ?_
  repeat (first|refine ad ?_|refine aa ?_)
  refine bt U ?_;exact jb (by simp_all[fR])
 refine M U U c5<|C U<|M U U c5<|au U U<|ay U c5 U<|ah U<|Y<|zf ?_
 repeat (first|refine ad ?_|refine aa ?_)
 refine bt U ?_;exact jb (by simp_all[fR])
def cE (s:ByteArray) (p:Nat):List Int:=if h:p<s.size then ((Utf8.decode s p).1:Int)::cE s (p+(Utf8.decode s p).2) else[]
termination_by s.size - p
decreasing_by have:=(fv s p).1;omega
theorem f4 {s:ByteArray} {p:Nat} (h:p<s.size):cE s p=((Utf8.decode s p).1:Int)::cE s (p+(Utf8.decode s p).2):=by rw[cE,dif_pos h]
theorem dX {s:ByteArray} {p:Nat} (h:¬p<s.size):cE s p=[]:=by rw[cE,dif_neg h]
theorem vz (s:ByteArray):∀k p,s.size - p≤k→(cE s p).length≤k:=by
 intro k;induction k with
 |zero=>intro p h;rw[dX (by omega)];simp
 |succ k ih=>
  intro p h
  by_cases hp:p<s.size
  ·rw[f4 hp];have:=(fv s p).1;have:=ih (p+(Utf8.decode s p).2) (by omega);simp;omega
  rw[dX hp];simp
theorem CM (s:ByteArray) (hs:s.size≤140737488355328):aS prog E 234 [.str s] (.i (cE s 0).length):=by
 have h0:=vz s s.size 0 (by omega);refine zm func234 U (by decide) U<|Z<|ap U<|Y<|Z<|ap U<|Y<|za<|Z<|X (yn (v:=.str _) U)<|ax.rangeT Zy U<|fun i5=>Y<|zd<|zu (γ:=Nat × Nat) [5] (fun g=>[(3,.i g.2)]) (fun g=>[(i5,.iter s g.1)]) (fun g=>g.2+(cE s g.1).length=(cE s 0).length) (fun g=>s.size - g.1) (0,0) aN aJ (by simp) ?_;rintro ⟨p,n⟩ hp;try dsimp only at *
 by_cases hlt:p<s.size
 ·have hd:=(fv s p).1;rw[f4 hlt] at hp;simp only[List.length_cons] at hp;refine Z<|ax.nextT U .head hlt<|X (Cm U U)<|Y<|za<|ym U U<|zc<|zd<|bZ<|C U<|X (ky U U)<|ap U<|Y ?_;exact ⟨(p+(Utf8.decode s p).2,n+1),aN,aN,aJ,by dsimp only;omega,by dsimp only;omega⟩
 rw[dX hlt] at hp;simp only[List.length_nil] at hp;refine Z<|ax.nextTover U .head hlt<|X (Cm U U)<|Y<|za<|yl U U<|zt<|Z<|C U<|ap U<|Y<|zf ?_
 repeat (first|refine ad ?_|refine aa ?_)
 refine gu U ?_;exact congrArg (AV.int .i64) (by omega)
def tG (s:ByteArray) (p:Nat):Bool:=if h:p<s.size then (if (decide (p=0)&&!fF ((Utf8.decode s p).1:Int))||!fR ((Utf8.decode s p).1:Int) then false else tG s (p+(Utf8.decode s p).2)) else (decide (¬s=⟨#[]⟩)&&decide (((cE s 0).length:Int)≤16))
termination_by s.size - p
decreasing_by have:=(fv s p).1;omega
def fS (s:ByteArray):Bool:=tG s 0
theorem CN (s:ByteArray) (hs:s.size≤140737488355328) (hL:bS E):aS prog E 215 [.str s] (.bool (fS s)):=by
 refine zm func215 U (by decide) U<|Z<|ah U<|Y<|za<|Z<|X (yn (v:=.str _) U)<|ax.rangeT Zy U<|fun i6=>Y<|zd<|zu (γ:=Nat) [0,6] (fun p=>[]) (fun p=>[(i6,.iter s p)]) (fun p=>tG s p=fS s) (fun p=>s.size - p) 0 trivial aJ (U) ?_;rintro p hp
 by_cases hlt:p<s.size
 ·obtain ⟨hd1,hd2⟩:=fv s p;have hstep:=hp;rw[tG,dif_pos hlt] at hstep;refine Z<|ax.nextT U .head hlt<|X (Cm U U)<|Y<|za<|ym U U<|zc<|zd<|Z<|X (nU U U)<|X (nU U U)<|ap U<|ap U<|Y<|Z<|C U<|au U U<|aw U<|zo (s:=13) U (fun c6=>?_) (fun c6=>?_)
  ·refine M U U c6<|C U<|M U U c6<|zb (pt _ (by omega) (by omega) hL) U<|M U U c6<|aL U<|aA U c6 U<|aw U<|zo (s:=18) U (fun c7=>?_) (fun c7=>?_)
   ·refine H U U c7<|H U U c7<|H U U c7<|aA U c7 U<|Y<|ym U U<|Z<|ah U<|Y<|zf ?_
    repeat (first|refine ad ?_|refine aa ?_)
    refine bt U ?_;rw[if_pos (by simp_all<;>omega)] at hstep;exact jb hstep
   refine M U U c7<|C U<|M U U c7<|zb (rC _ (by omega) (by omega) hL) U<|M U U c7<|aL U<|ay U c7 U<|Y<|zq U (fun c8=>?_) (fun c8=>?_)
   ·refine Z<|ah U<|Y<|zf ?_
    repeat (first|refine ad ?_|refine aa ?_)
    refine bt U ?_;rw[if_pos (by simp_all<;>omega)] at hstep;exact jb hstep
   refine zc ?_;exact ⟨p+(Utf8.decode s p).2,cV,trivial,aJ,by rw[if_neg (by simp_all<;>omega)] at hstep;exact hstep,by omega⟩
  refine H U U c6<|H U U c6<|H U U c6<|ay U c6 U<|aw U<|M U U U<|C U<|M U U U<|zb (rC _ (by omega) (by omega) hL) U<|M U U U<|aL U<|ay U U U<|Y<|zq U (fun c9=>?_) (fun c9=>?_)
  ·refine Z<|ah U<|Y<|zf ?_
   repeat (first|refine ad ?_|refine aa ?_)
   refine bt U ?_;rw[if_pos (by simp_all<;>omega)] at hstep;exact jb hstep
  refine zc ?_;exact ⟨p+(Utf8.decode s p).2,cV,trivial,aJ,by rw[if_neg (by simp_all<;>omega)] at hstep;exact hstep,by omega⟩
 rw[tG,dif_neg hlt] at hp;refine Z<|ax.nextTover U .head hlt<|X (Cm U U)<|Y<|za<|yl U U<|zt<|Z<|X (yn (v:=.str _) U)<|X (Gv.neqT U U)<|aw U<|zo (s:=25) U (fun c10=>?_) (fun c10=>?_)
 ·refine M U U c10<|X (yn (v:=.str _) U)<|M U U c10<|zb (CM _ (by assumption)) U<|M U U c10<|X (Gv.leq U U)<|aA U c10 U<|ah U<|Y<|zf ?_
  repeat (first|refine ad ?_|refine aa ?_)
  refine bt U ?_;rw[←hp];exact jb (by simp_all<;>(try omega))
 refine H U U c10<|H U U c10<|H U U c10<|ay U c10 U<|ah U<|Y<|zf ?_
 repeat (first|refine ad ?_|refine aa ?_)
 refine bt U ?_;rw[←hp];exact jb (by simp_all<;>(try omega))
def lW (t:Int):ByteArray:=if t=0 then ⟨#[105,110,116]⟩ else if t=1 then ⟨#[98,111,111,108]⟩ else if t=2 then ⟨#[97,114,114]⟩ else ⟨#[]⟩
theorem KG (s:ByteArray):qH s.data.toList=s:=by unfold qH;simp
def Eg:List Int→Bool
 |[]=>false
 |c::rs=>fF c&&(rs.all fR&&decide (rs.length+1≤16))
theorem xK {c:Int} (h:fF c=true):fR c=true:=by unfold fR;rw[h];rfl
theorem HH (s:ByteArray):∀(n p:Nat),s.size - p≤n→0<p→p≤s.size→tG s p=((cE s p).all fR&&decide ((cE s 0).length≤16)):=by
 intro n;induction n with
 |zero=>
  intro p h hp hps;have hne:¬s=⟨#[]⟩:=fun e=>by subst e;have:p≤0:=hps;omega
  rw[tG,dif_neg (by omega),dX (p:=p) (by omega)];simp[hne];omega
 |succ n ih=>
  intro p h hp hps
  by_cases hlt:p<s.size
  ·have hd:=(fv s p).1;have hw:p+(Utf8.decode s p).2≤s.size:=by
    have:=decodeL_le (s.data.toList.drop p) (by intro e;have:=congrArg List.length e;rw[List.length_drop] at this;have h2:s.data.toList.length=s.size:=Array.length_toList;simp only[List.length_nil] at this;omega);rw[decodeL_drop,List.length_drop] at this;have h2:s.data.toList.length=s.size:=Array.length_toList;omega
   rw[tG,dif_pos hlt,f4 hlt,List.all_cons];have hp0:decide (p=0)=false:=wb (by omega);rw[hp0,Bool.false_and,Bool.false_or];cases hi:fR ((Utf8.decode s p).1:Int) with
   |false=>simp
   |true=>rw[if_neg (by simp),ih _ (by omega) (by omega) hw];simp
  have hne:¬s=⟨#[]⟩:=fun e=>by subst e;have:p≤0:=hps;omega
  rw[tG,dif_neg hlt,dX (p:=p) hlt];simp[hne];omega
theorem KH {s:ByteArray} {p:Nat} (hlt:p<s.size):p+(Utf8.decode s p).2≤s.size:=by
 have h2:s.data.toList.length=s.size:=Array.length_toList;have:=decodeL_le (s.data.toList.drop p) (by intro e;have:=congrArg List.length e;rw[List.length_drop] at this;simp only[List.length_nil] at this;omega);rw[decodeL_drop,List.length_drop] at this;omega
theorem CO (s:ByteArray):fS s=Eg (cE s 0):=by
 unfold fS
 by_cases hlt:0<s.size
 ·have hd:=(fv s 0).1;have hw:=KH hlt;have hr:=f4 hlt;have hl:=congrArg List.length hr;rw[List.length_cons] at hl;rw[tG,dif_pos hlt];have h2:Eg (cE s 0)=(fF ((Utf8.decode s 0).1:Int)&&((cE s (0+(Utf8.decode s 0).2)).all fR&&decide ((cE s (0+(Utf8.decode s 0).2)).length+1≤16))):=by rw[hr];rfl
  rw[h2];cases hc:fF ((Utf8.decode s 0).1:Int) with
  |false=>simp
  |true=>
   rw[xK hc,if_neg (by simp),HH s _ _ (Nat.le_refl _) (by omega) hw,hl];rfl
 rw[tG,dif_neg hlt,dX hlt];have:s=⟨#[]⟩:=by
  have h2:s.data.toList.length=s.size:=Array.length_toList;have h3:s.data.toList=[]:=w6 (by omega);rw[←KG s,h3];rfl
 simp[this,Eg]
theorem Eh (k:Nat):(decide ((1:Int)≤((k+1:Nat):Int))&&decide (((k+1:Nat):Int)≤16))=(([]:List Int).all fR&&decide (k+1+([]:List Int).length≤16)):=by
 rw[wa (by omega),Bool.true_and];show _=(true&&_);rw[Bool.true_and,decide_eq_decide];show ((k+1:Nat):Int)≤16↔k+1+0≤16;omega
theorem xL (s:ByteArray):∀(n p k:Nat),s.size - p≤n→fP s p (k+1)=((cE s p).all fR&&decide (k+1+(cE s p).length≤16)):=by
 intro n;induction n with
 |zero=>
  intro p k h;rw[fP,dif_neg (by omega),dX (by omega)];exact Eh k
 |succ n ih=>
  intro p k h
  by_cases hlt:p<s.size
  ·have hd:=(fv s p).1;rw[fP,dif_pos hlt,f4 hlt,List.all_cons];have ho:eo ((Utf8.decode s p).1:Int) (k+1)=fR ((Utf8.decode s p).1:Int):=by
    unfold eo fR fF tF;have:decide (((k+1:Nat):Int)=0)=false:=wb (by omega);rw[this];simp[Bool.or_assoc]
   rw[ho];cases hi:fR ((Utf8.decode s p).1:Int) with
   |false=>simp
   |true=>rw[if_pos rfl,ih _ _ (by omega),Bool.true_and,List.length_cons];congr 2;simp;omega
  rw[fP,dif_neg hlt,dX hlt];exact Eh k
theorem KI (s:ByteArray):mY s=Eg (cE s 0):=by
 unfold mY
 by_cases hlt:0<s.size
 ·rw[fP,dif_pos hlt,f4 hlt];have ho:eo ((Utf8.decode s 0).1:Int) 0=fF ((Utf8.decode s 0).1:Int):=by unfold eo fF;simp
  rw[ho];show _=(fF ((Utf8.decode s 0).1:Int)&&_);cases hc:fF ((Utf8.decode s 0).1:Int) with
  |false=>simp
  |true=>rw[if_pos rfl,xL s _ _ _ (Nat.le_refl _),Bool.true_and];congr 2;simp;omega
 rw[fP,dif_neg hlt,dX hlt];rfl
theorem sF (s:ByteArray):mY s=fS s:=by rw[KI,CO]
structure dT (f:ab) (x:aB):Prop where
 op:0≤x.op∧x.op≤26
 len:x.args.length=(aW x.op).length
 dst:(bF x.op=false∧x.dst=-1)∨(bF x.op=true∧x.dst≠-1∧bn f x.dst=true)
 num:sU x.op=false→x.num=0
 args:∀a∈x.args,bn f a=true
theorem fG {f:ab} {x:aB} (h:pp f x):dT f x:=by
 obtain ⟨h1,h2,h3,h4⟩:=h;have hw:=wz ⟨h1,h2⟩;unfold mE at h3;simp only[Bool.or_eq_false_iff,Bool.not_eq_false',wi,Bool.and_eq_false_iff,beq_iff_eq] at h3;obtain ⟨g1,g2,g3,g4⟩:=h3;refine ⟨⟨h1,h2⟩,by rw[qJ];omega,?_,fun hn=>?_,List.all_eq_true.1 h4⟩
 ·rw[nD]
  by_cases hd:x.dst=-1
  ·left
   rw[wa hd] at g2;exact ⟨by rw[g2];rfl,hd⟩
  right
  rw[wb hd] at g2;refine ⟨by rw[g2];rfl,hd,?_⟩;rcases g3 with g|g
  ·exact absurd g hd
  exact g
 rcases g4 with g|g
 ·exact g
 rw[hw,hn] at g;cases g
theorem Al (t:Int):aS prog E 189 [.i t] (.str (lW t)):=by
 refine zm func189 U (by decide) U<|Z<|X (q9 (v:=.str _) U)<|Y<|za<|Z<|C U<|Y<|zd<|Z<|au U U<|ah U<|Y<|zq U (fun c1=>?_) (fun c1=>?_)
 ·refine Z<|X (q9 (v:=.str _) U)<|Y<|zf<|yz (x:=.str _) U ?_;exact congrArg AV.str (by simp_all[lW])
 refine Z<|au U U<|ah U<|Y<|zq U (fun c2=>?_) (fun c2=>?_)
 ·refine Z<|X (q9 (v:=.str _) U)<|Y<|zf<|yz (x:=.str _) U ?_;exact congrArg AV.str (by simp_all[lW])
 refine Z<|au U U<|ah U<|Y<|zq U (fun c3=>?_) (fun c3=>?_)
 ·refine Z<|X (q9 (v:=.str _) U)<|Y<|zf<|yz (x:=.str _) U ?_;exact congrArg AV.str (by simp_all[lW])
 refine zc<|Z<|X (q9 (v:=.str _) U)<|Y<|zf<|yz (x:=.str _) U ?_;exact congrArg AV.str (by simp_all[lW])
end
section
open Go.Proofs.Tryz
open Go.Proofs Go.Lib Go.Shelf Go.RowKit
theorem Ei:dp prog 246 9 1 1 [.e]:=⟨_,Yw,Y7,zeroValue9,by decide,by decide,by kernel_rfl⟩
set_option maxRecDepth 20000
variable {E:World}
def Am (s:ByteArray) (l:List ByteArray):Bool:=l.any fun t=>decide (t=s)
theorem Ej {s:ByteArray} {l:List ByteArray}:Am s l=true↔s∈l:=by
 unfold Am;rw[List.any_eq_true]
 constructor
 ·rintro ⟨x,hx,h⟩;have h:x=s:=by simpa using h
  exact h▸hx
 intro h;exact ⟨s,h,by simp⟩
theorem HI {s t:ByteArray} {l:List ByteArray}:Am s (l++[t])=(Am s l||decide (t=s)):=by unfold Am;rw[List.any_append];simp
def CP (l:List ByteArray):Prop:=∀i (h:i<l.length),fS l[i]=true∧Am l[i] (l.take i)=false
instance (l:List ByteArray):Decidable (CP l):=by unfold CP;infer_instance
theorem Ek {t:ByteArray} {l:List ByteArray} {mt:Int} (ht:mt=if Am t l=true then 1 else 0) (hc:decide (0<mt)=false):Am t l=false:=by
 have hc:=wh hc;cases h:Am t l with
 |true=>rw[h] at ht;simp at ht;omega
 |false=>rfl
theorem HJ {s t:ByteArray} {l:List ByteArray} {m:Option Int} {mt:Int} (hs:m.getD 0=if Am s l=true then 1 else 0) (ht:mt=if Am t l=true then 1 else 0) (hc:decide (0<mt)=false) :
  (if s=t then some (mt+1) else m).getD 0=if (Am s l||decide (t=s))=true then 1 else 0:=by
 have h:=Ek ht hc;rw[h] at ht;have ht:mt=0:=by simpa using ht
 by_cases e:s=t
 ·subst e;simp[ht]
 rw[if_neg e,hs];have e2:¬t=s:=fun h=>e h.symm;simp[e2]
theorem HK {l:List ByteArray} {k:Nat} (hn:∀i (h:i<l.length),i<k→fS l[i]=true∧Am l[i] (l.take i)=false) (hk:k<l.length) (h1:fS l[k]=true) (h2:Am l[k] (l.take k)=false) :
  ∀i (h:i<l.length),i<k+1→fS l[i]=true∧Am l[i] (l.take i)=false:=fun i h hi=>by
 by_cases e:i=k
 ·subst e;exact ⟨h1,h2⟩
 exact hn i h (by omega)
theorem rD (l:List ByteArray) (hl:l.length≤100000000) (hs:∀s∈l,s.size≤140737488355328) (hL:bS E):aS prog E 190 [.fro 1 (l.map vy)] (.bool (decide (CP l))):=by
 refine zm func190 U (by decide) U<|Z<|ah U<|Y<|Z<|ax.makeMap<|fun b6=>X (q9 (v:=lh _) U)<|Y<|za<|Z<|bj U<|am Yw U<|C U<|Y<|zd<|zu (γ:=Nat × List (ByteArray × Int)) [3,7,8] (fun g=>[(9,.i g.1)]) (fun g=>[(0,E8 b6 g.2)]) (fun g=>g.1≤l.length∧(∀i (h:i<l.length),i<g.1→fS l[i]=true∧Am l[i] (l.take i)=false)∧∀s,(mC s g.2).getD 0=if Am s (l.take g.1)=true then 1 else 0) (fun g=>l.length - g.1) (0,[]) aN aJ (⟨qw _,fun i h h2=>absurd h2 (Nat.not_lt_zero _),fun s=>U⟩) ?_;rintro ⟨k,es⟩ ⟨hk,hn,hm⟩;try dsimp only at *
 refine Z<|aq U U<|Y<|za<|zh U (fun ck=>?_) (fun ck=>?_)
 ·have hk2:k<l.length:=by omega
  have hmk:=hm l[k];have hz:=hs _ (qx hk2);refine zc<|za<|zd<|Z<|X (bD k Yw Y7 U U U (qt hk2))<|X (q8 (c:=.str _) Ym U)<|X (q9 (v:=.str _) U)<|Y<|za<|Z<|X (yn (v:=.str _) U)<|zb (CN _ hz hL) U<|aL U<|aw U<|zo (s:=16) U (fun c1=>?_) (fun c1=>?_)
  ·refine H U U c1<|H U U c1<|H U U c1<|H U U c1<|aA U c1 U<|Y<|ym U U<|Z<|ah U<|Y<|zf ?_
   repeat (first|refine ad ?_|refine aa ?_)
   refine bt U ?_;exact jb (wb fun h=>by have h:=h k hk2;simp_all).symm
  refine M U U c1<|X (yn (v:=lh _) U)<|M U U c1<|X (yn (v:=.str _) U)<|M U U c1<|X (Gv.lookup1S underlying277 Zy Xe U U ⟨_,.head⟩)<|M U U c1<|bg U U<|ay U c1 U<|Y<|zq U (fun c2=>?_) (fun c2=>?_)
  ·refine Z<|ah U<|Y<|zf ?_
   repeat (first|refine ad ?_|refine aa ?_)
   refine bt U ?_;exact jb (wb fun h=>by have h:=h k hk2;simp_all).symm
  refine zc<|bZ<|X (yn (v:=lh _) U)<|X (yn (v:=.str _) U)<|X (Gv.lookup1S underlying277 Zy Xe U U ⟨_,.head⟩)<|X (Gv.add U U (by first|(unfold mB;omega)|(unfold mB;rw[hmk];split<;>omega)))<|ax.mapSet underlying277 Zy U U U .head<|Y<|bZ<|X (Gv.add U U (by first|(unfold mB;omega)|(unfold mB;rw[hmk];split<;>omega)))<|C U<|Y ?_;exact ⟨(k+1,r9 l[k] ((mC l[k] es).getD 0+1) es),eX,aN,aJ,⟨hk2,HK hn hk2 (by simpa using c1) (Ek hmk (by assumption)),fun s=>by dsimp only;rw[zK,qu hk2,HI];exact HJ (hm s) hmk (by assumption)⟩,by dsimp only;omega⟩
 have hkn:k=l.length:=by omega
 refine zt<|Z<|ah U<|Y<|zf ?_
 repeat (first|refine ad ?_|refine aa ?_)
 refine bt U ?_;exact jb (wa fun i h=>hn i h (by omega)).symm
theorem map_take {α:Type} {g:α→ByteArray} {l:List α} {k:Nat} (h:k<l.length):(l.map g).take (k+1)=(l.map g).take k++[g l[k]]:=by
 rw[qu (by simpa using h)];simp
def eF (f:ab):List ByteArray:=f.v.map lg.name
def eV (f:ab):List ByteArray:=f.q.map aF.name
@[simp] theorem Pk (f:ab):(eF f).length=f.v.length:=by unfold eF;simp
@[simp] theorem Pm (f:ab):(eV f).length=f.q.length:=by unfold eV;simp
theorem KJ {f:ab} {k:Nat} (h:k<f.v.length):(eF f).take (k+1)=(eF f).take k++[f.v[k].name]:=map_take h
theorem KK {f:ab} {k:Nat} (h:k<f.q.length):(eV f).take (k+1)=(eV f).take k++[f.q[k].name]:=map_take h
def KL (f:ab):Prop:=∀i (h:i<f.z.length),f.z[i]=(i:Int)
instance (f:ab):Decidable (KL f):=by unfold KL;infer_instance
def KM (f:ab):Prop:=∀i (h:i<f.v.length),¬lW f.v[i].ty=⟨#[]⟩
instance (f:ab):Decidable (KM f):=by unfold KM;infer_instance
def nX (f:ab):Prop:=f.v.length≤512∧f.z.length≤8∧f.z.length≤f.v.length∧1≤f.q.length∧f.q.length≤64
instance (f:ab):Decidable (nX f):=by unfold nX;infer_instance
def ii (f:ab):Prop:=KM f∧KL f∧nX f∧CP (eF f)∧CP (eV f)
instance (f:ab):Decidable (ii f):=by unfold ii;infer_instance
theorem Ao (f:ab) (h1:f.v.length≤100000000) (h2:f.q.length≤100000000) (hp:f.z.length≤100000000) (hn:pq f) (hL:bS E):aS prog E 149 [.agg (bH f)] (.bool (decide (ii f))):=by
 have hnv:(eF f).length=f.v.length:=by unfold eF;simp
 have hnb:(eV f).length=f.q.length:=by unfold eV;simp
 refine zm func149 U (by decide) U<|Z<|zx (cs:=_) U U U<|ah U<|Y<|Z<|X (kT U)<|X (kT U)<|Y<|gN (t:=3) (k:=1) (T:=9) U<|fun i3=>gN (t:=4) (k:=1) (T:=9) U<|fun i4=>za<|Z<|ao jf U Zs U U<|aK Y4 U<|am Z7 U<|C U<|Y<|zd<|zu (γ:=Nat × Nat) [1,4,12,13] (fun g=>[(3,.j g.2 g.1),(14,.i g.1)]) (fun g=>[(i4,.u 1 9 []),(g.2,.u 1 9 ((((eF f).take g.1).map vy).flatten))]) (fun g=>g.1≤f.v.length∧∀i (h:i<f.v.length),i<g.1→¬lW f.v[i].ty=⟨#[]⟩) (fun g=>f.v.length - g.1) (0,i3) cV aJ (⟨qw _,fun i h h2=>absurd h2 (Nat.not_lt_zero _)⟩) ?_;rintro ⟨k,i⟩ ⟨hk,hT⟩;try dsimp only at *
 refine Z<|aq U U<|Y<|za<|zh U (fun ck=>?_) (fun ck=>?_)
 ·have hk2:k<f.v.length:=by simp at ck;omega
  refine zc<|za<|zd<|Z<|X (bD k Z7 Yc U U U (qt hk2))<|ae isAgg48 Yc U U<|zp (cs:=[.e,.int .i64 0]) Xf U U<|fun i6=>zi Yc U U U U U U .head U<|Y<|Z<|bX U<|X (ze Zr U Y7 (by decide) U U)<|X (zj (c:=.str _) Ym U ⟨_,.head⟩ U)<|zw (rows:=[[_]]) Ei U U U U U<|yb (k:=1) Yw type9 U U U U U (fun _=>.t2) (by rw[er (k:=1) (fun _=>rfl),w9];omega) (by decide) U (by show (_+1)*16≤_;omega) (by show _+1≤_;omega)<|fun i22=>X (eO U)<|Y<|Z<|X (ze Zr U X5 (by decide) U U)<|X (zj (c:=.int _ _) Xh U ⟨_,.head⟩ U)<|zb (Al _) U<|X (q6 U U)<|Y<|zh U (fun ct=>?_) (fun ct=>?_)
  ·refine Z<|ah U<|Y<|zf ?_
   repeat (first|refine ad ?_|refine aa ?_)
   refine bt U ?_;exact jb (wb fun h=>h.1 k hk2 (by simpa using ct)).symm
  refine zc<|bQ U U ?_;exact ⟨(k+1,i22),f7,cV,⟨_,(.drop (.refl _)),by dsimp only;rw[←ft (enc:=vy) (KJ hk2)];rfl⟩,⟨hk2,fun i h h2=>by by_cases e:i=k;(subst e;simpa using ct);exact hT i h (by dsimp only at h2;omega)⟩,by dsimp only;omega⟩
 have hkn:k=f.v.length:=by simp at ck;omega
 subst hkn;rw[List.take_of_length_le (by omega:(eF f).length≤f.v.length)];have hTys:KM f:=fun i h=>hT i h h;refine zt<|za<|Z<|ao jf U Zd U U<|aK Zf U<|am jr U<|C U<|Y<|zd<|zu (γ:=Nat × Nat) [1,3,29,30] (fun g=>[(4,.j g.2 g.1),(31,.i g.1)]) (fun g=>[(g.2,.u 1 9 ((((eV f).take g.1).map vy).flatten)),(i,.u 1 9 (((eF f).map vy).flatten))]) (fun g=>g.1≤f.q.length) (fun g=>f.q.length - g.1) (0,i4) cV aJ (qw _) ?_;rintro ⟨k,j⟩ hk;try dsimp only at *
 refine Z<|aq U U<|Y<|za<|zh U (fun ck=>?_) (fun ck=>?_)
 ·have hk2:k<f.q.length:=by simp at ck;omega
  refine zc<|za<|zd<|Z<|X (bD k jr Z1 U U U (qt hk2))<|ae Ye Z1 U U<|zp (cs:=[.e,.n,.n,.int .i64 0,.int .i64 0,.int .i64 0,.int .i64 0]) Zh U U<|fun i8=>zi Z1 U U U U U U .head U<|Y<|bZ<|bX U<|X (ze ji U Y7 (by decide) U U)<|X (zj (c:=.str _) Ym U ⟨_,.head⟩ U)<|zw (rows:=[[_]]) Ei U U U U U<|yb (k:=1) Yw type9 U U U U U (fun _=>.t1) (by rw[er (k:=1) (fun _=>rfl),w9];omega) (by decide) U (by show (_+1)*16≤_;omega) (by show _+1≤_;omega)<|fun i39=>X (eO U)<|Y<|bQ U U ?_;exact ⟨(k+1,i39),f7,cV,⟨_,(.drop (.refl _)),by dsimp only;rw[←ft (enc:=vy) (KK hk2)];rfl⟩,hk2,by dsimp only;omega⟩
 have hkn:k=f.q.length:=by simp at ck;omega
 subst hkn;rw[List.take_of_length_le (by omega:(eV f).length≤f.q.length)];refine zt<|za<|Z<|ao jf U jh U U<|aK jy U<|am j7 U<|C U<|Y<|zd<|zu (γ:=Nat) [1,3,4,42,43] (fun k=>[(44,.i k)]) (fun k=>[(j,.u 1 9 (((eV f).map vy).flatten)),(i,.u 1 9 (((eF f).map vy).flatten))]) (fun k=>k≤f.z.length∧∀i (h:i<f.z.length),i<k→f.z[i]=(i:Int)) (fun k=>f.z.length - k) 0 aN aJ (⟨qw _,fun i h h2=>absurd h2 (Nat.not_lt_zero _)⟩) ?_;rintro k ⟨hk,hP⟩;refine Z<|aq U U<|Y<|za<|zh U (fun ck=>?_) (fun ck=>?_)
 ·have hk2:k<f.z.length:=by simp at ck;omega
  refine zc<|za<|zd<|Z<|C U<|X (bD k j7 j9 U U U (qt hk2))<|aD jg U<|ap U<|ap U<|Y<|Z<|C U<|C U<|aT U U<|Y<|zq U (fun cp=>?_) (fun cp=>?_)
  ·refine Z<|ah U<|Y<|zf ?_
   repeat (first|refine ad ?_|refine aa ?_)
   refine bt U ?_;exact jb (wb fun h=>by have:=h.2.1 k hk2;simp[this] at cp).symm
  refine zc<|bQ U U ?_;exact ⟨k+1,lf,aN,aJ,⟨hk2,fun i h h2=>by by_cases e:i=k;(subst e;simpa using cp);exact hP i h (by omega)⟩,by omega⟩
 have hkn:k=f.z.length:=by simp at ck;omega
 subst hkn;have hPar:KL f:=fun i h=>hP i h h;refine yd (aR.know (t:=3) (rows:=(eF f).map vy) U .t1 (by intro r hr;obtain ⟨x,_,rfl⟩:=List.mem_map.1 hr;rfl) (by decide) (by simp))<|yd (aR.know (t:=4) (rows:=(eV f).map vy) U .head (by intro r hr;obtain ⟨x,_,rfl⟩:=List.mem_map.1 hr;rfl) (by decide) (by simp))<|zt<|Z<|bj U<|am Yw U<|X (Gv.leq U U)<|aw U<|zo (s:=56) U (fun c3=>?_) (fun c3=>?_)
 ·refine M U U c3<|ao jf U jh U U<|M U U c3<|aK jy U<|M U U c3<|am j7 U<|M U U c3<|bj U<|M U U c3<|am Yw U<|M U U c3<|X (Gv.minI U U)<|M U U c3<|X (Gv.leq U U)<|aA U c3 U<|aw U<|zo (s:=65) U (fun c4=>?_) (fun c4=>?_)
  ·refine M U U c4<|bj U<|M U U c4<|am Yw U<|M U U c4<|X (q7 U U)<|aA U c4 U<|aw U<|zo (s:=70) U (fun c5=>?_) (fun c5=>?_)
   ·refine M U U c5<|bj U<|M U U c5<|am Yw U<|M U U c5<|X (Gv.leq U U)<|aA U c5 U<|aw U<|zo (s:=75) U (fun c6=>?_) (fun c6=>?_)
    ·refine M U U c6<|bj U<|M U U c6<|zb (rD (eF f) (by omega) (fun s hs=>by obtain ⟨v,hv,rfl⟩:=List.mem_map.1 hs;exact hn.1 v hv) hL) U<|aA U c6 U<|aw U<|zo (s:=79) U (fun c7=>?_) (fun c7=>?_)
     ·refine M U U c7<|bj U<|M U U c7<|zb (rD (eV f) (by omega) (fun s hs=>by obtain ⟨v,hv,rfl⟩:=List.mem_map.1 hs;exact hn.2 v hv) hL) U<|aA U c7 U<|ah U<|Y<|zf ?_
      repeat (first|refine ad ?_|refine aa ?_)
      refine bt U ?_;exact jb (by unfold ii nX;simp_all<;>grind)
     refine H U U c7<|H U U c7<|ay U c7 U<|ah U<|Y<|zf ?_
     repeat (first|refine ad ?_|refine aa ?_)
     refine bt U ?_;exact jb (by unfold ii nX;simp_all<;>grind)
    refine H U U c6<|H U U c6<|ay U c6 U<|aw U<|H U U U<|H U U U<|ay U U U<|ah U<|Y<|zf ?_
    repeat (first|refine ad ?_|refine aa ?_)
    refine bt U ?_;exact jb (by unfold ii nX;simp_all<;>grind)
   refine H U U c5<|H U U c5<|H U U c5<|ay U c5 U<|aw U<|H U U U<|H U U U<|ay U U U<|aw U<|H U U U<|H U U U<|ay U U U<|ah U<|Y<|zf ?_
   repeat (first|refine ad ?_|refine aa ?_)
   refine bt U ?_;exact jb (by unfold ii nX;simp_all<;>grind)
  refine H U U c4<|H U U c4<|H U U c4<|ay U c4 U<|aw U<|H U U U<|H U U U<|H U U U<|ay U U U<|aw U<|H U U U<|H U U U<|ay U U U<|aw U<|H U U U<|H U U U<|ay U U U<|ah U<|Y<|zf ?_
  repeat (first|refine ad ?_|refine aa ?_)
  refine bt U ?_;exact jb (by unfold ii nX;simp_all<;>grind)
 refine H U U c3<|H U U c3<|H U U c3<|H U U c3<|H U U c3<|H U U c3<|H U U c3<|ay U c3 U<|aw U<|H U U U<|H U U U<|H U U U<|ay U U U<|aw U<|H U U U<|H U U U<|H U U U<|ay U U U<|aw U<|H U U U<|H U U U<|ay U U U<|aw U<|H U U U<|H U U U<|ay U U U<|ah U<|Y<|zf ?_
 repeat (first|refine ad ?_|refine aa ?_)
 refine bt U ?_;exact jb (by unfold ii nX;simp_all<;>grind)
def mq (f:ab) (p:dh):Bool:=!decide (p.args.length=0)&&decide (p.args.length=p.w.length)&&bn f p.dst&&p.args.all (bn f)&&p.w.all (eQ f)
theorem FD (f:ab) (v:Int):aS prog E 193 ([.i v]++[.pf (bH f)]) (.bool (!eQ f v)):=by
 refine zm func193 U (by decide) U<|Z<|ah U<|Y<|Z<|ae Z2 jk U U<|C U<|zb (sC _ _) U<|aL U<|ah U<|Y<|zf ?_
 repeat (first|refine ad ?_|refine aa ?_)
 refine bt U ?_
 rfl
theorem HM (f:ab) (p:dh) (hp:DT p):aS prog E 152 [.agg (bH f),.agg (dQ p)] (.bool (mq f p)):=by
 have hl1:=hp.1.lt;have hl2:=hp.2.lt;refine zm func152 U (by decide) U<|Z<|zx (cs:=_) U U U<|zx (cs:=_) U U U<|ah U<|Y<|za<|Z<|ao Z3 U jh U U<|aK jy U<|am j7 U<|au U U<|aw U<|zo (s:=9) U (fun c8=>?_) (fun c8=>?_)
 ·refine H U U c8<|H U U c8<|H U U c8<|H U U c8<|H U U c8<|H U U c8<|H U U c8<|aA U c8 U<|aw U<|H U U U<|H U U U<|H U U U<|H U U U<|H U U U<|aA U U U<|aw U<|H U U U<|H U U U<|H U U U<|H U U U<|H U U U<|aA U U U<|Y<|ym U U<|Z<|ah U<|Y<|zf ?_
  repeat (first|refine ad ?_|refine aa ?_)
  refine bt U ?_;exact jb (by have:=List.any_eq_not_all_not (l:=p.w) (p:=fun x=>!eQ f x);simp_all[mq,Int.ofNat_inj]<;>grind)
 refine M U U c8<|ao Z3 U jh U U<|M U U c8<|aK jy U<|M U U c8<|am j7 U<|M U U c8<|ao Z3 U jh U U<|M U U c8<|aK jy U<|M U U c8<|am j7 U<|M U U c8<|aT U U<|ay U c8 U<|aw U<|zo (s:=18) U (fun c9=>?_) (fun c9=>?_)
 ·refine H U U c9<|H U U c9<|H U U c9<|H U U c9<|H U U c9<|aA U c9 U<|aw U<|H U U U<|H U U U<|H U U U<|H U U U<|H U U U<|aA U U U<|Y<|ym U U<|Z<|ah U<|Y<|zf ?_
  repeat (first|refine ad ?_|refine aa ?_)
  refine bt U ?_;exact jb (by have:=List.any_eq_not_all_not (l:=p.w) (p:=fun x=>!eQ f x);simp_all[mq,Int.ofNat_inj]<;>grind)
 refine M U U c9<|ae Z2 jk U U<|M U U c9<|ao Z3 U j9 U U<|M U U c9<|aD jg U<|M U U c9<|zb (mP _ _) U<|M U U c9<|aL U<|ay U c9 U<|aw U<|zo (s:=25) U (fun c10=>?_) (fun c10=>?_)
 ·refine H U U c10<|H U U c10<|H U U c10<|H U U c10<|H U U c10<|aA U c10 U<|Y<|ym U U<|Z<|ah U<|Y<|zf ?_
  repeat (first|refine ad ?_|refine aa ?_)
  refine bt U ?_;exact jb (by have:=List.any_eq_not_all_not (l:=p.w) (p:=fun x=>!eQ f x);simp_all[mq,Int.ofNat_inj]<;>grind)
 refine M U U c10<|ae Z2 jk U U<|M U U c10<|ao Z3 U jh U U<|M U U c10<|aK jy U<|M U U c10<|zb (wj f p.args (by omega)) U<|M U U c10<|aL U<|ay U c10 U<|Y<|zq U (fun c11=>?_) (fun c11=>?_)
 ·refine Z<|ah U<|Y<|zf ?_
  repeat (first|refine ad ?_|refine aa ?_)
  refine bt U ?_;exact jb (by have:=List.any_eq_not_all_not (l:=p.w) (p:=fun x=>!eQ f x);simp_all[mq,Int.ofNat_inj]<;>grind)
 refine zc<|Z<|ao Z3 U jh U U<|aK jy U<|X (Gv.func U U)<|zb (jY p.w (by omega) (FD f)) U<|aL U<|ah U<|Y<|zf ?_
 repeat (first|refine ad ?_|refine aa ?_)
 refine bt U ?_;exact jb (by have:=List.any_eq_not_all_not (l:=p.w) (p:=fun x=>!eQ f x);simp_all[mq,Int.ofNat_inj]<;>grind)
end
section
open Go.Proofs.Tryz
open Go.Proofs Go.Lib Go.Shelf Go.RowKit
set_option maxRecDepth 20000
variable {E:World}
theorem mr {p:dh→Bool} {fn:FuncId} {c:List AV} (xs:List dh) (hl:xs.length≤281474976710656) (hp:∀x∈xs,aS prog E fn ([.agg (dQ x)]++c) (.bool (p x))) :
  aS prog E 105 [.fro 3 (xs.map dQ),.fn fn [] c] (.i (di p xs 0)):=by
 refine zm func105 U (by decide) U<|Z<|ap U<|Y<|za<|Z<|bj U<|am Z6 U<|C U<|Y<|zd<|zu (γ:=Nat) [0,1,7] (fun k=>[(8,.i k)]) (fun k=>[]) (fun k=>k≤xs.length∧(xs.take k).all (fun x=>!p x)) (fun k=>xs.length - k) 0 aN aJ (⟨qw _,U⟩) ?_;rintro k ⟨hk,hall⟩;refine Z<|aq U U<|Y<|za<|zh U (fun ck=>?_) (fun ck=>?_)
 ·have hk2:k<xs.length:=by omega
  refine zc<|za<|zd<|Z<|C U<|ap U<|Y<|Z<|X (yn (v:=.fn _ _ _) U)<|bj U<|C U<|X (qf Z6 Ze U U U (qt (by omega)))<|ae Ys Ze U U<|ax.callVP U (hp _ (qx hk2)) U<|Y<|zq U (fun cp=>?_) (fun cp=>?_)
  ·refine Z<|C U<|ap U<|Y<|zf ?_
   repeat (first|refine ad ?_|refine aa ?_)
   refine gu U ?_;rw[cH p xs k hk hall,List.drop_eq_getElem_cons hk2,di,if_pos cp]
  refine zc<|bQ U U ?_;exact ⟨k+1,eX,aN,aJ,⟨hk2,by rw[qu hk2,List.all_append,hall];simp[cp]⟩,by omega⟩
 have hkn:k=xs.length:=by omega
 refine zt<|Z<|ap U<|Y<|zf ?_
 repeat (first|refine ad ?_|refine aa ?_)
 refine gu U ?_;rw[cH p xs k hk hall,hkn,List.drop_length,di]
theorem oy {p:dh→Bool} {fn:FuncId} {c:List AV} (xs:List dh) (hl:xs.length≤281474976710656) (hp:∀x∈xs,aS prog E fn ([.agg (dQ x)]++c) (.bool (p x))) :
  aS prog E 150 [.fro 3 (xs.map dQ),.fn fn [] c] (.bool (xs.any p)):=by
 refine zm func150 U (by decide) U<|Z<|ah U<|Y<|Z<|bj U<|X (yn (v:=.fn _ _ _) U)<|zb (mr xs hl hp) U<|X (q7 U U)<|ah U<|Y<|zf ?_
 repeat (first|refine ad ?_|refine aa ?_)
 refine bt U ?_;rw[gE]
theorem si {p:aB→Bool} {fn:FuncId} {c:List AV} (xs:List aB) (hl:xs.length≤281474976710656) (hp:∀x∈xs,aS prog E fn ([.agg (bu x)]++c) (.bool (p x))) :
  aS prog E 195 [.fro 4 (xs.map bu),.fn fn [] c] (.i (di p xs 0)):=by
 refine zm func195 U (by decide) U<|Z<|ap U<|Y<|za<|Z<|bj U<|am Z4 U<|C U<|Y<|zd<|zu (γ:=Nat) [0,1,7] (fun k=>[(8,.i k)]) (fun k=>[]) (fun k=>k≤xs.length∧(xs.take k).all (fun x=>!p x)) (fun k=>xs.length - k) 0 aN aJ (⟨qw _,U⟩) ?_;rintro k ⟨hk,hall⟩;refine Z<|aq U U<|Y<|za<|zh U (fun ck=>?_) (fun ck=>?_)
 ·have hk2:k<xs.length:=by omega
  refine zc<|za<|zd<|Z<|C U<|ap U<|Y<|Z<|X (yn (v:=.fn _ _ _) U)<|bj U<|C U<|X (qf Z4 Z9 U U U (qt (by omega)))<|ae Yg Z9 U U<|ax.callVP U (hp _ (qx hk2)) U<|Y<|zq U (fun cp=>?_) (fun cp=>?_)
  ·refine Z<|C U<|ap U<|Y<|zf ?_
   repeat (first|refine ad ?_|refine aa ?_)
   refine gu U ?_;rw[cH p xs k hk hall,List.drop_eq_getElem_cons hk2,di,if_pos cp]
  refine zc<|bQ U U ?_;exact ⟨k+1,eX,aN,aJ,⟨hk2,by rw[qu hk2,List.all_append,hall];simp[cp]⟩,by omega⟩
 have hkn:k=xs.length:=by omega
 refine zt<|Z<|ap U<|Y<|zf ?_
 repeat (first|refine ad ?_|refine aa ?_)
 refine gu U ?_;rw[cH p xs k hk hall,hkn,List.drop_length,di]
theorem oz {p:aB→Bool} {fn:FuncId} {c:List AV} (xs:List aB) (hl:xs.length≤281474976710656) (hp:∀x∈xs,aS prog E fn ([.agg (bu x)]++c) (.bool (p x))) :
  aS prog E 153 [.fro 4 (xs.map bu),.fn fn [] c] (.bool (xs.any p)):=by
 refine zm func153 U (by decide) U<|Z<|ah U<|Y<|Z<|bj U<|X (yn (v:=.fn _ _ _) U)<|zb (si xs hl hp) U<|X (q7 U U)<|ah U<|Y<|zf ?_
 repeat (first|refine ad ?_|refine aa ?_)
 refine bt U ?_;rw[gE]
theorem xM (f:ab) (p:dh) (hp:DT p):aS prog E 151 ([.agg (dQ p)]++[.pf (bH f)]) (.bool (!mq f p)):=by
 refine zm func151 U (by decide) U<|Z<|zx (cs:=_) U U U<|ah U<|Y<|Z<|ae Z2 jk U U<|ae Ys Ze U U<|zb (HM _ _ (by assumption)) U<|aL U<|ah U<|Y<|zf ?_
 repeat (first|refine ad ?_|refine aa ?_)
 refine bt U ?_
 rfl
theorem xN (f:ab) (x:aB) (hx:s7 x.args):aS prog E 154 ([.agg (bu x)]++[.pf (bH f)]) (.bool (!em f x)):=by
 refine zm func154 U (by decide) U<|Z<|zx (cs:=_) U U U<|ah U<|Y<|Z<|ae Z2 jk U U<|ae Yg Z9 U U<|zb (Fv _ _ (by assumption)) U<|aL U<|ah U<|Y<|zf ?_
 repeat (first|refine ad ?_|refine aa ?_)
 refine bt U ?_
 rfl
def kg (f:ab) (b:aF):Bool:=!(b.p.any fun p=>!mq f p)&&!(b.s.any fun x=>!em f x)&&bP f b.t
theorem tH {f:ab} {b:aF} (h:(b.p.any fun p=>!mq f p)=true):kg f b=false:=by unfold kg;rw[h];rfl
theorem tI {f:ab} {b:aF} (h:(b.s.any fun x=>!em f x)=true):kg f b=false:=by unfold kg;rw[h];simp
theorem tJ {f:ab} {b:aF} (h:(!bP f b.t)=true):kg f b=false:=by unfold kg;rw[show bP f b.t=false by simpa using h];simp
theorem HN {f:ab} {b:aF} (h1:(b.p.any fun p=>!mq f p)=false) (h2:(b.s.any fun x=>!em f x)=false) (h3:(!bP f b.t)=false):kg f b=true:=by unfold kg;rw[h1,h2,show bP f b.t=true by simpa using h3];rfl
def gq (f:ab):Bool:=decide (ii f)&&(f.q.all (kg f)&&decide (eu f.q≤1024))
theorem Ap (f:ab) (hf:xx f) (h1:f.v.length≤100000000) (h2:f.q.length≤100000000) (hp:f.z.length≤100000000) (hn:pq f) (hL:bS E):aS prog E 108 [.agg (bH f)] (.bool (gq f)):=by
 refine zm func108 U (by decide) U<|Z<|zx (cs:=_) U U U<|ah U<|Y<|za<|Z<|ae Z2 jk U U<|zb (Ao _ (by omega) (by omega) (by omega) (by assumption) hL) U<|aL U<|Y<|zq U (fun cn=>?_) (fun cn=>?_)
 ·refine Z<|ah U<|Y<|zf ?_
  repeat (first|refine ad ?_|refine aa ?_)
  refine bt U ?_;exact jb (by unfold gq;rw[show decide (ii f)=false by simpa using cn];rfl)
 have hN:ii f:=by simpa using cn
 have hbl:=hN.2.2.1.2.2.2.2;refine zc<|Z<|ap U<|Y<|za<|Z<|ao jf U Zd U U<|aK Zf U<|am jr U<|C U<|Y<|zd<|zu (γ:=Nat) [1,11,12] (fun k=>[(3,.i (eu (f.q.take k))),(13,.i k)]) (fun k=>[]) (fun k=>k≤f.q.length∧eu (f.q.take k)≤k*562949953421312∧(f.q.take k).all (kg f)=true) (fun k=>f.q.length - k) 0 cV aJ (⟨qw _,qw _,U⟩) ?_;rintro k ⟨hk,hsum,hall⟩;refine Z<|aq U U<|Y<|za<|zh U (fun ck=>?_) (fun ck=>?_)
 ·have hk2:k<f.q.length:=by simp at ck;omega
  obtain ⟨b,hbk⟩:∃b,f.q[k]=b:=⟨_,rfl⟩;have hget:f.q[k]?=some b:=by rw[qt hk2,hbk]
  have hb:=hf.2.2.2 b (hbk▸qx hk2);have hb1:=hb.1.lt;have hb2:=hb.2.1.lt;have hsucc:=ow f.q k hk2;rw[hbk] at hsucc;refine zc<|za<|zd<|Z<|X (bD k jr Z1 U U U hget)<|ae Ye Z1 U U<|zp (cs:=[.e,.n,.n,.i 0,.i 0,.i 0,.i 0]) Zh U U<|fun i5=>zi Z1 U U U U U U .head U<|Y<|Z<|C U<|X (ze ji U Zv (by decide) U U)<|X (zj (c:=.fro _ _) Yf U ⟨_,.head⟩ U)<|am Z6 U<|X (ze ji U Zw (by decide) U U)<|X (zj (c:=.fro _ _) Y3 U ⟨_,.head⟩ U)<|am Z4 U<|X (ky U U)<|X (ky U U)<|ap U<|Y<|Z<|X (ze ji U Zv (by decide) U U)<|X (zj (c:=.fro _ _) Yf U ⟨_,.head⟩ U)<|X (Gv.func U U)<|zb (oy b.p (by omega) (fun p hp=>xM f p (hb.2.2.1 p hp))) U<|aw U<|zo (s:=30) U (fun c1=>?_) (fun c1=>?_)
  ·refine H U U c1<|H U U c1<|H U U c1<|H U U c1<|aA U c1 U<|ah U<|Y<|Z<|aw U<|aw U<|H U U U<|H U U U<|H U U U<|H U U U<|H U U U<|aA U U U<|Y<|ym U U<|Z<|ah U<|Y<|zf ?_
   repeat (first|refine ad ?_|refine aa ?_)
   refine bt U ?_;exact jb (by unfold gq;rw[show f.q.all (kg f)=false from Bool.eq_false_iff.2 (dW hk2 (by rw[hbk];first|exact tH (by assumption)|exact tI (by assumption)|exact tJ (by assumption)))];simp)
  refine M U U c1<|X (ze ji U Zw (by decide) U U)<|M U U c1<|X (zj (c:=.fro _ _) Y3 U ⟨_,.head⟩ U)<|M U U c1<|X (Gv.func U U)<|M U U c1<|zb (oz b.s (by omega) (fun x hx=>xN f x (hb.2.2.2 x hx))) U<|ay U c1 U<|ah U<|Y<|Z<|aw U<|aw U<|zo (s:=37) U (fun c2=>?_) (fun c2=>?_)
  ·refine H U U c2<|H U U c2<|H U U c2<|H U U c2<|H U U c2<|aA U c2 U<|Y<|ym U U<|Z<|ah U<|Y<|zf ?_
   repeat (first|refine ad ?_|refine aa ?_)
   refine bt U ?_;exact jb (by unfold gq;rw[show f.q.all (kg f)=false from Bool.eq_false_iff.2 (dW hk2 (by rw[hbk];first|exact tH (by assumption)|exact tI (by assumption)|exact tJ (by assumption)))];simp)
  refine M U U c2<|ae Z2 jk U U<|M U U c2<|X (ze ji U Zp (by decide) U U)<|M U U c2<|X (qh (l:=[_,_,_,_]) Xl Zp U ⟨_,.head⟩ U U)<|M U U c2<|zb (Fw _ _) U<|M U U c2<|aL U<|ay U c2 U<|Y<|zq U (fun c3=>?_) (fun c3=>?_)
  ·refine Z<|ah U<|Y<|zf ?_
   repeat (first|refine ad ?_|refine aa ?_)
   refine bt U ?_;exact jb (by unfold gq;rw[show f.q.all (kg f)=false from Bool.eq_false_iff.2 (dW hk2 (by rw[hbk];first|exact tH (by assumption)|exact tI (by assumption)|exact tJ (by assumption)))];simp)
  refine zc<|bQ U U ?_;exact ⟨k+1,eX,⟨congrArg (AV.int .i64) (by rw[hsucc];omega),rfl,trivial⟩,⟨_,(.drop (.refl _)),rfl⟩,⟨hk2,by rw[hsucc];omega,cD hk2 hall (by rw[hbk];exact HN (by assumption) (by assumption) (by assumption))⟩,by omega⟩
 have hkn:k=f.q.length:=by simp at ck;omega
 subst hkn;rw[qy] at hall ⊢;refine zt<|Z<|C U<|X (Gv.leq U U)<|ah U<|Y<|zf ?_
 repeat (first|refine ad ?_|refine aa ?_)
 refine bt U ?_;exact jb (by unfold gq;rw[wa hN,hall];simp;omega)
theorem wA (f:ab) (p:dh):mq f p=true↔tB f p:=by
 unfold mq tB;simp only[wc,Bool.not_eq_true',decide_eq_false_iff_not,wi]
 constructor
 ·rintro ⟨⟨⟨⟨h1,h2⟩,h3⟩,h4⟩,h5⟩;exact ⟨h3,h2,by omega,h4,h5⟩
 rintro ⟨h3,h2,h1,h4,h5⟩;exact ⟨⟨⟨⟨by omega,h2⟩,h3⟩,h4⟩,h5⟩
theorem wC (t:Int):¬lW t=⟨#[]⟩↔0≤t∧t≤2:=by
 unfold lW
 constructor
 ·intro h
  by_cases h0:t=0
  ·omega
  by_cases h1:t=1
  ·omega
  by_cases h2:t=2
  ·omega
  rw[if_neg h0,if_neg h1,if_neg h2] at h;exact absurd rfl h
 intro h e;have:t=0∨t=1∨t=2:=by omega
 rcases this with rfl|rfl|rfl<;>exact absurd e (by decide)
theorem FE (f:ab) (b:aF):kg f b=true↔CK f b:=by
 unfold kg CK;simp only[wc,Bool.not_eq_true',List.any_eq_false,Bool.not_eq_false]
 constructor
 ·rintro ⟨⟨h1,h2⟩,h3⟩;exact ⟨fun p hp=>(wA f p).1 (by simpa using h1 p hp),fun x hx=>(tE f x).1 (by simpa using h2 x hx),h3⟩
 rintro ⟨h1,h2,h3⟩;exact ⟨⟨fun p hp=>by simpa using (wA f p).2 (h1 p hp),fun x hx=>by simpa using (tE f x).2 (h2 x hx)⟩,h3⟩
theorem HO {l:List ByteArray}:CP l↔∀i (h:i<l.length),fS l[i]=true∧l[i] ∉ l.take i:=by
 unfold CP
 constructor<;>intro h i hi
 ·exact ⟨(h i hi).1,fun hm=>by have:=Ej.2 hm;rw[(h i hi).2] at this;cases this⟩
 exact ⟨(h i hi).1,Bool.eq_false_iff.2 fun hm=>(h i hi).2 (Ej.1 hm)⟩
theorem El {f:ab} {i:Nat} (h:i<(eF f).length) (h':i<f.v.length):(eF f)[i]=f.v[i].name:=by
 have:(eF f)[i]?=some f.v[i].name:=by unfold eF;rw[w3,qt h'];rfl
 rw[qt h] at this
 simpa using this
theorem Em {f:ab} {i:Nat} (h:i<(eV f).length) (h':i<f.q.length):(eV f)[i]=f.q[i].name:=by
 have:(eV f)[i]?=some f.q[i].name:=by unfold eV;rw[w3,qt h'];rfl
 rw[qt h] at this
 simpa using this
theorem ij (f:ab):gq f=decide (bN f):=by
 rw[w4,decide_eq_true_iff];unfold gq;simp only[wc,decide_eq_true_iff,wd,FE];unfold ii nX bN nP;simp only[HO]
 constructor
 ·rintro ⟨⟨h1,h2,⟨g1,g2,g3,g4,g5⟩,h4,h5⟩,h6,h7⟩;refine ⟨?_,h2,fun i h=>?_,fun i h=>?_,h7,h6⟩
  ·simp;omega
  ·have ht:=(wC _).1 (h1 i h);have hu:=h4 i (by unfold eF;simpa using h);have e:=El (f:=f) (i:=i) (by unfold eF;simpa using h) h;rw[e] at hu;exact ⟨by rw[sF];exact hu.1,ht.1,ht.2,fun s hs e2=>hu.2 (by unfold eF;rw[←List.map_take,←e2];exact hs)⟩
  have hu:=h5 i (by unfold eV;simpa using h);have e:=Em (f:=f) (i:=i) (by unfold eV;simpa using h) h;rw[e] at hu;exact ⟨by rw[sF];exact hu.1,fun s hs e2=>hu.2 (by unfold eV;rw[←List.map_take,←e2];exact hs)⟩
 rintro ⟨h1,h2,h3,h4,h7,h6⟩;simp at h1;refine ⟨⟨fun i h=>(wC _).2 ⟨(h3 i h).2.1,(h3 i h).2.2.1⟩,h2,by omega,fun i h=>?_,fun i h=>?_⟩,h6,h7⟩
 ·have h':i<f.v.length:=by simpa using h
  have e:=El h h';rw[e];exact ⟨by rw[←sF];exact (h3 i h').1,fun hm=>(h3 i h').2.2.2 _ (by unfold eF at hm;rw[←List.map_take] at hm;exact hm) rfl⟩
 have h':i<f.q.length:=by simpa using h
 have e:=Em h h';rw[e];exact ⟨by rw[←sF];exact (h4 i h').1,fun hm=>(h4 i h').2 _ (by unfold eV at hm;rw[←List.map_take] at hm;exact hm) rfl⟩
end
section
open Go.Proofs.Tryz
open Go.Proofs Go.Lib Go.Shelf Go.RowKit
variable {E:World}
set_option maxRecDepth 20000
theorem bN.ends {f:ab} (h:bN f):cK f:=by
 obtain ⟨h1,_,_,_,_,h6⟩:=h;unfold nP at h1;simp only[Bool.or_eq_false_iff,decide_eq_false_iff_not] at h1;refine ⟨by omega,fun b hb c hc=>?_⟩;have ht:=(h6 b hb).2.2;unfold bP at ht;unfold cS at hc;split at hc
 ·rename_i hk;rw[if_pos hk] at ht;simp only[wc,eQ,wi] at ht;simp at hc;subst hc;exact ht.1.1
 rename_i hk;rw[if_neg hk] at ht;split at hc
 ·rename_i hk1;rw[if_pos hk1] at ht;simp only[wc,eQ,wi] at ht;split at hc
  ·simp at hc;subst hc;exact ht.1.2
  simp at hc;rcases hc with rfl|rfl
  ·exact ht.1.2
  exact ht.2
 cases hc
def gX (f:ab) (b:aF):Bool:=b.p.all (o5 f)&&b.s.all (fl f)&&eK f b.t
def bv (f:ab):Bool:=gq f&&f.q.all (gX f)
theorem small.shaped {f:ab} (hf:small f) (hL:bS E):aS prog E 108 [.agg (bH f)] (.bool (gq f)):=
 Ap f hf.ok (by have:=hf.1;omega) (by have:=hf.2.2.1;omega) (by have:=hf.2.1;omega) hf.names hL
theorem gl {f:ab} {t:fJ} (h:bP f t=true) (hk:¬t.kind=0):bn f t.var=true:=by
 unfold bP at h;rw[if_neg hk] at h;split at h
 ·simp only[wc] at h;exact h.1.1
 split at h
 ·simp only[wc] at h;exact h.1
 cases h
theorem oA (f:ab) (hf:small f) (hL:bS E):aS prog E 68 [.agg (bH f)] (.i (if bv f then 0 else 3)):=by
 have hok:=hf.ok;refine zm func68 U (by decide) U<|Z<|zx (cs:=_) U U U<|ap U<|Y<|za<|Z<|ae Z2 jk U U<|zb (hf.shaped hL) U<|aL U<|Y<|zq U (fun cs=>?_) (fun cs=>?_)
 ·refine Z<|ap U<|Y<|zf ?_
  repeat (first|refine ad ?_|refine aa ?_)
  refine gu U ?_;unfold bv;rw[show gq f=false by simpa using cs];rfl
 have hsb:gq f=true:=by simpa using cs
 have hS:bN f:=by rw[ij] at hsb;exact wg hsb
 have hB:=hS.2.2.2.2.2;have hfl:=hok.2.2.1.lt;refine zc<|za<|Z<|ao jf U Zd U U<|aK Zf U<|am jr U<|C U<|Y<|zd<|zu (γ:=Nat) [1,13,14] (fun k=>[(15,.i k)]) (fun k=>[]) (fun k=>k≤f.q.length∧(f.q.take k).all (gX f)=true) (fun k=>f.q.length - k) 0 aN aJ (⟨qw _,U⟩) ?_;rintro k ⟨hk,hall⟩;refine Z<|aq U U<|Y<|za<|zh U (fun ck=>?_) (fun ck=>?_)
 ·have hk2:k<f.q.length:=by simp at ck;omega
  obtain ⟨b,hbk⟩:∃b,f.q[k]=b:=⟨_,rfl⟩;have hget:f.q[k]?=some b:=by rw[qt hk2,hbk]
  have hmem:b∈f.q:=hbk▸qx hk2;obtain ⟨hph,hin,htm⟩:=hB b hmem;have hbad:gX f b=false→bv f=false:=fun h=>by unfold bv;rw[Bool.eq_false_iff.2 (dW hk2 (by rw[hbk];exact h))];simp
  have hs5:=hok.2.2.2 b hmem;have hpl:=hs5.1.lt;have hil:=hs5.2.1.lt;refine zc<|za<|zd<|Z<|X (bD k jr Z1 U U U hget)<|ae Ye Z1 U U<|zp (cs:=[.e,.n,.n,.i 0,.i 0,.i 0,.i 0]) Zh U U<|fun i4=>zi Z1 U U U U U U .head U<|y9 (zz (t:=4) U .head)<|Y<|za<|Z<|ao ji U Zv U U<|aK Yf U<|am Z6 U<|C U<|Y<|zd<|zu (γ:=Nat) [1,4,13,14,15,20,21] (fun p=>[(22,.i p)]) (fun p=>[]) (fun p=>p≤b.p.length∧(b.p.take p).all (o5 f)=true) (fun p=>b.p.length - p) 0 aN aJ (⟨qw _,U⟩) ?_;rintro p ⟨hp,hpall⟩;refine Z<|aq U U<|Y<|za<|zh U (fun cp=>?_) (fun cp=>?_)
  ·have hp2:p<b.p.length:=by simp at cp;omega
   have hpm:=qx hp2;have hP:=hph _ hpm;refine zc<|za<|zd<|Z<|X (bD p Z6 Ze U U U (qt hp2))<|ae Ys Ze U U<|zp (cs:=[.i 0,.n,.n]) Y0 U U<|fun i6=>zi Ze U U U U U U .head U<|y9 (zz (t:=6) U .head)<|Y<|Z<|ae Z2 jk U U<|ae Ys Ze U U<|zb (Fb f b.p[p] (hs5.2.2.1 _ hpm) hP.2.2.2.1 hP.1) U<|aL U<|Y<|zq U (fun cq=>?_) (fun cq=>?_)
   ·refine Z<|ap U<|Y<|zf ?_
    repeat (first|refine ad ?_|refine aa ?_)
    refine gu U ?_;rw[hbad (by unfold gX;rw[Bool.eq_false_iff.2 (dW hp2 (by simpa using cq))];rfl)];rfl
   refine zc<|bQ U U ?_;exact ⟨p+1,lI,aN,aJ,⟨hp2,cD hp2 hpall (by simpa using cq)⟩,by omega⟩
  have hpn:p=b.p.length:=by simp at cp;omega
  subst hpn;rw[qy] at hpall;refine zt<|za<|Z<|ao ji U Zw U U<|aK Y3 U<|am Z4 U<|C U<|Y<|zd<|zu (γ:=Nat) [1,4,13,14,15,32,33] (fun q=>[(34,.i q)]) (fun q=>[]) (fun q=>q≤b.s.length∧(b.s.take q).all (fl f)=true) (fun q=>b.s.length - q) 0 aN aJ (⟨qw _,U⟩) ?_;rintro q ⟨hq,hqall⟩;refine Z<|aq U U<|Y<|za<|zh U (fun cp2=>?_) (fun cp2=>?_)
  ·have hq2:q<b.s.length:=by simp at cp2;omega
   have hqm:=qx hq2;have hI:=fG (hin _ hqm);have hId:bF b.s[q].op=true→bn f b.s[q].dst=true:=fun h=>by
    rcases hI.dst with ⟨d1,_⟩|⟨_,_,d3⟩
    ·rw[h] at d1;cases d1
    exact d3
   refine zc<|za<|zd<|Z<|X (bD q Z4 Z9 U U U (qt hq2))<|ae Yg Z9 U U<|zp (cs:=[.i 0,.i 0,.n,.i 0]) Zo U U<|fun i8=>zi Z9 U U U U U U .head U<|y9 (zz (t:=8) U .head)<|Y<|Z<|ae Z2 jk U U<|ae Yg Z9 U U<|zb (Cv f b.s[q] (List.all_eq_true.2 hI.args) hI.len hId) U<|aL U<|Y<|zq U (fun cq=>?_) (fun cq=>?_)
   ·refine Z<|ap U<|Y<|zf ?_
    repeat (first|refine ad ?_|refine aa ?_)
    refine gu U ?_;rw[hbad (by unfold gX;rw[hpall,Bool.eq_false_iff.2 (dW hq2 (by simpa using cq))];rfl)];rfl
   refine zc<|bQ U U ?_;exact ⟨q+1,lI,aN,aJ,⟨hq2,cD hq2 hqall (by simpa using cq)⟩,by omega⟩
  have hqn:q=b.s.length:=by simp at cp2;omega
  subst hqn;rw[qy] at hqall;refine zt<|Z<|ae Z2 jk U U<|ao ji U Zp U U<|ae Xl Zp U U<|zb (Cx f b.t (gl htm)) U<|aL U<|Y<|zq U (fun ct=>?_) (fun ct=>?_)
  ·refine Z<|ap U<|Y<|zf ?_
   repeat (first|refine ad ?_|refine aa ?_)
   refine gu U ?_;rw[hbad (by unfold gX;rw[hpall,hqall];simpa using ct)];rfl
  refine zc<|bQ U U ?_;exact ⟨k+1,eX,aN,aJ,⟨hk2,cD hk2 hall (by rw[hbk];unfold gX;rw[hpall,hqall];simpa using ct)⟩,by omega⟩
 have hkn:k=f.q.length:=by simp at ck;omega
 subst hkn;rw[qy] at hall;refine zt<|Z<|ap U<|Y<|zf ?_
 repeat (first|refine ad ?_|refine aa ?_)
 refine gu U ?_;unfold bv;rw[hsb,hall];rfl
end
end Go.Proofs.YtbbonnfjealmpaaGreatDoor
