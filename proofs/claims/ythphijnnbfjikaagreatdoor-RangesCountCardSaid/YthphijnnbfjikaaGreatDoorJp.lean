/- Few's answer; what is little and typed, single, plain. No conditions but bounds. -/
import Derived.Test.YthphijnnbfjikaaGreatDoorJo
import Derived.Test.YthphijnnbfjikaaGreatDoorJn
import Derived.Test.YthphijnnbfjikaaGreatDoorJj
set_option linter.unusedVariables false
set_option linter.unusedSimpArgs false
set_option linter.unusedSectionVars false
namespace Go.Proofs.YthphijnnbfjikaaGreatDoor
section
open Go.Proofs.Tryz
open Go.Proofs Go.Lib Go.Shelf Go.RowKit
theorem HD:gM prog 210 2 [.int .i64 0,.int .i64 0,.int .i64 0,.int .i64 0,.int .i64 0,.int .i64 0]:=⟨_,_,_,Zq,zeroValue210,jf,rfl⟩
variable {E:World}
set_option maxRecDepth 20000
def tU (f:ac) (chk:List Bool) (Lv:AV):List AV:=b9 f++[.fro 2 ((bP f).map eP.row),.fro 1 (chk.map CN),Lv]
def f8 (f:ac) (chk:List Bool) (Lv:AV):AV:=.pf (tU f chk Lv)
def iB (i:Nat) (HL:bm) (x:AV):AV→OL→Prop:=fun y O=>y=x∧O=[(i,HL)]
theorem Gl (f:ac) (hS:cf f) (chk:List Bool) (l:List aA) (hll:l.length=f.vars.length) (i:Nat) (HL:bm) {a:Int} (ha:cA f a=true) :
  aU prog E 140 [f8 f chk (.fro 2 (l.map bk)),.int .i64 a] [(i,HL)] (iB i HL (.agg (bk (j4 f l a)))):=by
 obtain ⟨ha0,ha1⟩:=fw ha
 obtain ⟨y,hy,hyt,hy0,hy2⟩:=Gk hS ha
 refine aU.same<|zk func140 Z (by decide) Z<|ae<|zo (cs:=[.int .i64 0,.int .i64 0]) jk Z Z<|fun i4=>z6<|ze<|zw (fun j=>Nat.beq j 18) (by kernel_rfl) Z (zn (.rest _))<|ao 0 Z (j8 Z)<|ao 1 Z (yr Z)<|ao 2 Z (eh Z7 Z Yd Z Z)<|ao 3 Z (lA isAgg32 Z)<|ao 4 Z (fC Z)<|ao 5 Z (db a.toNat Z3 jf Z Z (by omega) (vD (by omega)))<|ao 6 Z (yl jg jf Z Z)<|ao 7 Z (j8 Z)<|ao 8 Z (yr Z)<|ao 9 Z (eh Z7 Z js Z Z)<|ao 10 Z (eh jt Z Y4 Z Z)<|ao 11 Z (lA Yb Z)<|ao 12 Z (fC Z)<|ao 13 Z (db a.toNat Zd sizeOf40 Z Z (by omega) hy)<|ao 14 Z (eh Y3 Z sizeOf38 Z Z)<|ao 15 Z (gy isAgg38 Z)<|aL 16 Z<|zg (wW _) Z<|z6<|aL 17 Z<|zg (lm _ _) Z<|z6<|yu<|yz (i:=18) Z (by kernel_rfl) (by kernel_rfl)<|zf jf Z Z Z Z Z Z .head Z<|z6<|yx (by kernel_rfl)<|zh<|yc Z ⟨_,.head⟩ jg jf Z ?_
 exact ⟨by unfold j4;rw[←hyt];rfl,.d1⟩
theorem Ak (f:ac) (l:List aA) {w:AV} {i:Nat} {HL:bm} (hof:∀{a:Int},cA f a=true→aU prog E 140 [w,.int .i64 a] [(i,HL)] (iB i HL (.agg (bk (j4 f l a)))))
  (p:dY) (hpa:p.args.all (cA f)=true) (hpl:p.args.length≤1000):aU prog E 117 [w,.agg (eY p)] [(i,HL)] (iB i HL (.agg (bk (lG f l bw p.args)))):=by
 refine aU.same<|zk func117 Z (by decide) Z<|ae<|zy (cs:=_) Z Z Z<|zo (cs:=[.int .i64 0,.int .i64 0]) jk Z Z<|fun i4=>z6<|ae<|zg (fD) Z<|zo (cs:=[.int .i64 0,.int .i64 0]) jk Z Z<|fun i5=>zf jf Z Z Z Z Z Z .head Z<|z6<|ze<|ae<|aj Za Z jr Z Z<|bd jv Z<|au jh Z<|aa Z<|z6<|zj<|ya (γ:=Nat) [0,4,5,10,11] (fun m=>[(12,.int .i64 m)]) (fun m=>[(i5,.cells 36 (bk (lG f l bw (p.args.take m)))),(i4,.cells 36 [.int .i64 0,.int .i64 0]),(i,HL)]) (fun m=>m≤p.args.length) (fun m=>p.args.length - m) 0 aT aJ (qm _) ?_
 rintro m hm
 refine ae<|ax Z Z<|z6<|ze<|zp Z (fun cm=>?_) (fun cm=>?_)
 ·have hm2:m<p.args.length:=by simp at cm;omega
  obtain ⟨a,ha⟩:∃a,p.args[m]=a:=⟨_,rfl⟩
  have hav:=List.all_eq_true.1 hpa a (ha▸qn hm2)
  refine zi<|ze<|zj<|ae<|z7 (db m jh jm Z Z Z (by rw[qj hm2,ha])) ?_
  refine aw jq Z<|aq Z<|z6<|zw (fun j=>Nat.beq j 5) (by kernel_rfl) Z (zn (.r (.rest _)))<|ao 0 Z (q0 jg jf Z ⟨_,.head⟩ Z)<|ao 1 Z (yb (v:=_) Z)<|ao 2 Z (fC Z)<|aL 3 Z<|zq Z (zn (.r (.l (.rest _)))) (hof hav) ?_
  rintro r19 O19 ⟨rfl,rfl⟩
  refine z6<|aL 4 Z<|zg (wX _ _) Z<|z6<|yu<|yz (i:=5) Z (by kernel_rfl) (by kernel_rfl)<|zf jf Z Z Z Z Z Z .head Z<|zc (zb (zd .t1))<|zc (zb (zd .t2))<|zc (zb (zd .t2))<|z6<|yx (by kernel_rfl)<|bD<|aQ Z Z<|aa Z<|z6 ?_
  exact ⟨m+1,oV,aT,⟨_,(.refl _),by rw[qk hm2,ha,sL];rfl⟩,hm2,by omega⟩
 ·have hmn:m=p.args.length:=by simp at cm;omega
  rw[hmn,qo]
  refine y8<|ae<|z7 (q0 jg jf Z ⟨_,.head⟩ Z)<|zf jf Z Z Z Z Z Z .t1 Z<|z6<|zh<|yc Z ⟨_,.t1⟩ jg jf Z ?_
  exact ⟨rfl,.d2⟩
theorem Al (f:ac) (chk:List Bool) (Lv:AV) (x:bg) {a b:aA} (ha:bb a) (hb:bb b) (h0:0≤x.dst) (h1:x.dst.toNat<chk.length):aF prog E 141 [f8 f chk Lv,.agg (d8 x),.agg (bk a),.agg (bk b)] (.agg (bk (if gb chk x.dst=true then oP x.op a b else ff x.op a b))):=by
 refine zk func141 Z (by decide) Z<|ae<|zy (cs:=_) Z Z Z<|zy (cs:=_) Z Z Z<|zy (cs:=_) Z Z Z<|zo (cs:=[.int .i64 0,.int .i64 0]) jk Z Z<|fun i8=>z6<|ze<|ze<|zw (fun j=>false) (by kernel_rfl) Z (zn (.rest _))<|ao 0 Z (j8 Z)<|ao 1 Z (yr Z)<|ao 2 Z (eh Z7 Z sizeOf69 Z Z)<|ao 3 Z (lA isAgg69 Z)<|ao 4 Z (eh jo Z jm Z Z)<|ao 5 Z (gy jq Z)<|ao 6 Z (db x.dst.toNat Zk Zr Z Z (by omega) (show chk[x.dst.toNat]?=some (gb chk x.dst) by unfold gb;rw[qj h1];rfl))<|ao 7 Z (q7 (c:=.bool _) isAgg4 Z)<|bO<|zz Z (fun c=>?_) (fun c=>?_)
 ·refine ae<|aj jo Z Zi Z Z<|aw Zm Z<|ab jg jf Z Z<|ab jg jf Z Z<|zg (HB x.op ha hb) Z<|zf jf Z Z Z Z Z Z .head Z<|z6<|zh<|yc Z ⟨_,.head⟩ jg jf Z ?_
  rw[if_pos c];try rfl
 ·refine zi<|ae<|aj jo Z Zi Z Z<|aw Zm Z<|ab jg jf Z Z<|ab jg jf Z Z<|zg (vC x.op ha hb) Z<|zf jf Z Z Z Z Z Z .head Z<|z6<|zh<|yc Z ⟨_,.head⟩ jg jf Z ?_
  rw[if_neg (by rw[show gb chk x.dst=false from c];decide)];try rfl
theorem Gm {r s:aA} (h:r=s):AV.agg (bk r)=AV.agg (bk s):=by rw[h]
def c3 (rs:List aA):List AV:=bk (ra rs 0)++bk (ra rs 1)++bk (ra rs 2)
theorem Ep {a b:aA} (ha:bb a) (hn:nrm a) (nb:b.1≤b.2):uX 0 a b=nJ 0 a b:=by
 by_cases na:a.1≤a.2
 ·exact wu ha na nb
 ·have:=hn (by omega)
  subst this
  unfold uX nJ
  rw[if_pos (.inl (by decide)),if_pos rfl]
  by_cases hb:b.2=dy
  ·rw[if_pos hb]
  ·rw[if_neg hb]
   have h1:∀z:Int,b5 0 z≤0:=fun z=>by unfold b5;split<;>omega
   have h2:(1:Int)≤bK 1 dy:=by decide
   have h3:=h1 (b.2 - 1)
   show bw=cG (bK 1 dy) (b5 0 (b.2 - 1))
   rw[cG,if_pos (by omega)]
theorem Am {op:Int} {k:Nat} (hk:k≤2) (h:op=2+(k:Int)) {a b:aA} (na:a.1≤a.2) (nb:b.1≤b.2) (c:Bool):(if c=true then oP op a b else ff op a b)=lD k a b c:=by
 have h2:=lU hk h (a:=a) (b:=b) (by omega)
 cases c
 ·rw[if_neg (by decide),h2.1,wt]
 ·rw[if_pos rfl,h2.2,wt]
theorem Gn {a b:aA} (ha:bb a) (hb:bb b) (na:a.1≤a.2) (nb:b.1≤b.2):ff 5 a b=dV a b:=by unfold ff;rw[if_neg (by omega),if_neg (by decide),if_neg (by decide),if_neg (by decide),if_pos rfl,BQ ha hb na nb]
theorem Gp {a b:aA} (na:a.1≤a.2) (nb:b.1≤b.2):ff 6 a b=qO a b:=by unfold ff;rw[if_neg (by omega),if_neg (by decide),if_neg (by decide),if_neg (by decide),if_neg (by decide),if_pos rfl,BR nb]
set_option maxHeartbeats 8000000 in
theorem vE (f:ac) (l:List aA) (chk:List Bool) (Lv:AV) {i:Nat} {HL:bm} (hof:∀{a:Int},cA f a=true→aU prog E 140 [f8 f chk Lv,.int .i64 a] [(i,HL)] (iB i HL (.agg (bk (j4 f l a)))))
  (ho:∀u:Int,0≤u→bb (lv l u)) (x:bg) (hI:E2 f x) (hb:x.op=10∨x.op=11→∀v∈x.args,sG f v=1) (h1:0≤x.dst→x.dst.toNat<chk.length) (hd:x.op=2∨x.op=3∨x.op=4→0≤x.dst) :
  aU prog E 115 [f8 f chk Lv,.agg (d8 x)] [(i,HL)] (iB i HL (.agg (bk (if (cC f l x).any iD=true then bw else j9 x.op x.num (cC f l x) (gb chk x.dst))))):=by
 have hal:(cC f l x).length=x.args.length:=by unfold cC;rw[qq]
 have hx3:x.args.length≤3:=by
  rw[hI.len]
  rcases kT x.op with h|h
  ·unfold bu;rw[h];decide
  ·have:∀r∈ip,r.2.1.data.toList.length≤3:=by decide
   have:=this _ h
   unfold bu;simpa using this
 refine aU.same<|zk func115 Z (by decide) Z<|ae<|zy (cs:=_) Z Z Z<|zo (cs:=[.int .i64 0,.int .i64 0]) jk Z Z<|fun i4=>z6<|ae<|z7 (Gv.buildA (cps:=[]) (rs:=[.int .i64 0,.int .i64 0,.int .i64 0,.int .i64 0,.int .i64 0,.int .i64 0]) HD Z Z Z)<|zo (cs:=[.int .i64 0,.int .i64 0,.int .i64 0,.int .i64 0,.int .i64 0,.int .i64 0]) zeroValue210 Z Z<|fun i5=>zf sizeOf210 Z Z Z Z Z Z .head Z<|z6<|ze<|ae<|aj jo Z jr Z Z<|bd jv Z<|au jh Z<|aa Z<|z6<|zj<|ya (γ:=Nat) [0,3,4,5,12,13] (fun m=>[(14,.int .i64 m)]) (fun m=>[(i5,.cells 210 (c3 ((cC f l x).take m))),(i4,.cells 36 [.int .i64 0,.int .i64 0]),(i,HL)]) (fun m=>m≤x.args.length∧((cC f l x).take m).any iD=false) (fun m=>x.args.length - m) 0 aT aJ (⟨qm _,Z⟩) ?_
 rintro m ⟨hm,hne⟩
 refine ae<|ax Z Z<|z6<|ze<|zp Z (fun cm=>?_) (fun cm=>?_)
 ·have hm2:m<x.args.length:=by simp at cm;omega
  obtain ⟨a,ha⟩:∃a,x.args[m]=a:=⟨_,rfl⟩
  have hav:=hI.args a (ha▸qn hm2)
  have htk:=Aj (f:=f) (l:=l) hm2
  rw[ha] at htk
  have hta:(cC f l x)[m]?=some (j4 f l a):=by unfold cC;rw[qr,qj hm2,ha];rfl
  have hAl:((cC f l x).take m).length=m:=by rw[List.length_take];omega
  have hne2:¬(j4 f l a).2<(j4 f l a).1→((cC f l x).take (m+1)).any iD=false:=fun h=>by rw[htk,List.any_append,hne];simp[iD];omega
  have hyes:(j4 f l a).2<(j4 f l a).1→(cC f l x).any iD=true:=fun h=>List.any_eq_true.2 ⟨_,qt hta,by unfold iD;exact decide_eq_true h⟩
  obtain ⟨A,hA⟩:∃A,(cC f l x).take m=A:=⟨_,rfl⟩
  rw[hA] at hAl htk hne ⊢
  refine zi<|ze<|zj<|ae<|aa Z<|z7 (db m jh jm Z Z Z (by rw[qj hm2,ha])) ?_
  refine aw jq Z<|aq Z<|aq Z<|z6 ?_
  rcases (by omega:m=0∨m=1∨m=2) with rfl|rfl|rfl
  ·obtain rfl:A=[]:=List.eq_nil_of_length_eq_zero hAl
   refine ae<|aa Z<|z7 (yb (v:=_) Z)<|aa Z<|zq Z (zn (.r (.r (.l (.rest _))))) (hof hav) ?_
   rintro r22 O22 ⟨rfl,rfl⟩
   refine z7 (Gv.idxAO (j:=0) Zq jf Z Z Z (by decide) Z)<|q8 (l:=[_,_]) (new:=[_,_,_,_,_,_]) jf Z Z Z Z Z Z .t1 Z Z<|z6<|yh (zb (zd .t2))<|yh (zb (zd .t2))<|ae<|aa Z<|z7 (Gv.idxAO (j:=0) Zq jf Z Z Z (by decide) Z)<|z7 (yf (l:=[_,_]) jg jf Z ⟨_,.head⟩ Z Z)<|zg (di _) Z<|z6<|zp Z (fun ce=>?_) (fun ce=>?_)
   ·refine ae<|zg (fD) Z<|zf jf Z Z Z Z Z Z .t1 Z<|z6<|zh<|yc Z ⟨_,.t1⟩ jg jf Z ?_
    exact ⟨by rw[if_pos (hyes ce)];rfl,.d2⟩
   ·refine zi<|bD<|aQ Z Z<|aa Z<|z6 ?_
    exact ⟨1,AY,aT,⟨_,(.refl _),by rw[htk];rfl⟩,⟨hm2,hne2 ce⟩,by omega⟩
  ·obtain ⟨r0,rfl⟩:=List.length_eq_one_iff.1 hAl
   refine ae<|aa Z<|z7 (yb (v:=_) Z)<|aa Z<|zq Z (zn (.r (.r (.l (.rest _))))) (hof hav) ?_
   rintro r22 O22 ⟨rfl,rfl⟩
   refine z7 (Gv.idxAO (j:=1) Zq jf Z Z Z (by decide) Z)<|q8 (l:=[_,_]) (new:=[_,_,_,_,_,_]) jf Z Z Z Z Z Z .t1 Z Z<|z6<|yh (zb (zd .t2))<|yh (zb (zd .t2))<|ae<|aa Z<|z7 (Gv.idxAO (j:=1) Zq jf Z Z Z (by decide) Z)<|z7 (yf (l:=[_,_]) jg jf Z ⟨_,.head⟩ Z Z)<|zg (di _) Z<|z6<|zp Z (fun ce=>?_) (fun ce=>?_)
   ·refine ae<|zg (fD) Z<|zf jf Z Z Z Z Z Z .t1 Z<|z6<|zh<|yc Z ⟨_,.t1⟩ jg jf Z ?_
    exact ⟨by rw[if_pos (hyes ce)];rfl,.d2⟩
   ·refine zi<|bD<|aQ Z Z<|aa Z<|z6 ?_
    exact ⟨2,AY,aT,⟨_,(.refl _),by rw[htk];rfl⟩,⟨hm2,hne2 ce⟩,by omega⟩
  ·obtain ⟨r0,r1,rfl⟩:∃r0 r1,A=[r0,r1]:=by
    match A,hAl with
    |[r0,r1],_=>exact ⟨r0,r1,rfl⟩
   refine ae<|aa Z<|z7 (yb (v:=_) Z)<|aa Z<|zq Z (zn (.r (.r (.l (.rest _))))) (hof hav) ?_
   rintro r22 O22 ⟨rfl,rfl⟩
   refine z7 (Gv.idxAO (j:=2) Zq jf Z Z Z (by decide) Z)<|q8 (l:=[_,_]) (new:=[_,_,_,_,_,_]) jf Z Z Z Z Z Z .t1 Z Z<|z6<|yh (zb (zd .t2))<|yh (zb (zd .t2))<|ae<|aa Z<|z7 (Gv.idxAO (j:=2) Zq jf Z Z Z (by decide) Z)<|z7 (yf (l:=[_,_]) jg jf Z ⟨_,.head⟩ Z Z)<|zg (di _) Z<|z6<|zp Z (fun ce=>?_) (fun ce=>?_)
   ·refine ae<|zg (fD) Z<|zf jf Z Z Z Z Z Z .t1 Z<|z6<|zh<|yc Z ⟨_,.t1⟩ jg jf Z ?_
    exact ⟨by rw[if_pos (hyes ce)];rfl,.d2⟩
   ·refine zi<|bD<|aQ Z Z<|aa Z<|z6 ?_
    exact ⟨3,AY,aT,⟨_,(.refl _),by rw[htk];rfl⟩,⟨hm2,hne2 ce⟩,by omega⟩
 ·have hmn:m=x.args.length:=by simp at cm;omega
  subst hmn
  rw[←hal,qo] at hne
  rw[←hal,qo]
  obtain ⟨rs,hrs⟩:∃rs,cC f l x=rs:=⟨_,rfl⟩
  have hokr:Gj rs:=fun r hr=>by
   rw[←hrs] at hr
   have hnn:=List.any_eq_false.1 hne _ hr
   obtain ⟨a,ha,rfl⟩:=List.mem_map.1 hr
   have hav:=fw (hI.args a ha)
   exact ⟨nO ho hav.1,by simpa [iD] using hnn⟩
  have hbl:x.op=10∨x.op=11→∀j,j<rs.length→0≤(ra rs j).1∧(ra rs j).2≤1:=fun h j hj=>by
   have h3:=hokr.at hj
   have h4:=E4 hj
   rw[←hrs] at h4
   have h5:=qt h4
   rw[hrs] at h5
   rw[←hrs] at h5
   obtain ⟨a,ha,e⟩:=List.mem_map.1 h5
   rw[hrs] at e
   rw[←e] at h3 ⊢
   exact Bh (hb h a ha) h3.2
  rw[hrs] at hne hal ⊢
  rw[if_neg (by rw[hne];decide)]
  have hl:rs.length=(bu x.op).length:=by rw[hal];exact hI.len
  rw[j9]
  refine y8<|ze<|ym (γ:=Nat × Nat) [0,3,4] (fun z=>[(8,.po z.1 0),(9,.po z.2 0)]) (fun z=>[(z.1,.cells 36 (bk (ra rs 0))),(z.2,.cells 36 (bk (ra rs 1))),(i5,.cells 210 (c3 rs)),(i4,.cells 36 [.int .i64 0,.int .i64 0]),(i,HL)]) (fun z=>True) ?_ (fun _ _ h=>h) ?_
  ·refine zw (fun j=>false) (by kernel_rfl) Z (zn (.rest _))<|ao 0 Z (Gv.idxAO (j:=0) Zq jf Z Z Z (by decide) Z)<|ao 2 Z (Gv.idxAO (j:=1) Zq jf Z Z Z (by decide) Z)<|bt.four (i:=1) (j:=3) (m:=4) (q:=5) Z Z Z Z (by kernel_rfl) ?_ ?_ ?_ ?_
   ·refine z7 (yf (l:=[_,_]) jg jf Z ⟨_,.head⟩ Z Z)<|z6<|qh (i:=3) (j:=4) (m:=5) Z Z Z (by kernel_rfl) ?_ ?_ ?_
    ·refine z7 (yf (l:=[_,_]) jg jf Z ⟨_,.head⟩ Z Z)<|z6<|yg (i:=4) (j:=5) Z Z (by kernel_rfl) ?_ ?_
     ·refine zo (cs:=[.int .i64 0,.int .i64 0]) jk Z Z<|fun i8=>z6<|aL 5 Z<|zo (cs:=[.int .i64 0,.int .i64 0]) jk Z Z<|fun i9=>z6<|aL 6 Z<|zf jf Z Z Z Z Z Z .t1 Z<|z6<|aL 7 Z<|zf jf Z Z Z Z Z Z .head Z<|zc (zb (zd .head))<|zc (zb (zd .t1))<|z6<|bO ?_
      exact ⟨(i8,i9),bX,cU,aJ,trivial⟩
     ·refine zo (cs:=[.int .i64 0,.int .i64 0]) jk Z Z<|fun i9=>z6<|aL 4 Z<|zo (cs:=[.int .i64 0,.int .i64 0]) jk Z Z<|fun i8=>z6<|aL 6 Z<|zf jf Z Z Z Z Z Z .head Z<|z6<|aL 7 Z<|zf jf Z Z Z Z Z Z .t1 Z<|z6<|bO ?_
      exact ⟨(i8,i9),bX,cU,aJ,trivial⟩
    ·refine zo (cs:=[.int .i64 0,.int .i64 0]) jk Z Z<|fun i8=>z6<|yg (i:=3) (j:=5) Z Z (by kernel_rfl) ?_ ?_
     ·refine z7 (yf (l:=[_,_]) jg jf Z ⟨_,.t1⟩ Z Z)<|z6<|aL 5 Z<|zo (cs:=[.int .i64 0,.int .i64 0]) jk Z Z<|fun i9=>z6<|aL 6 Z<|zf jf Z Z Z Z Z Z .t1 Z<|z6<|aL 7 Z<|zf jf Z Z Z Z Z Z .head Z<|zc (zb (zd .head))<|zc (zb (zd .t1))<|z6<|bO ?_
      exact ⟨(i8,i9),bX,cU,aJ,trivial⟩
     ·refine zo (cs:=[.int .i64 0,.int .i64 0]) jk Z Z<|fun i9=>z6<|yg (i:=3) (j:=6) Z Z (by kernel_rfl) ?_ ?_
      ·refine z7 (yf (l:=[_,_]) jg jf Z ⟨_,.t2⟩ Z Z)<|z6<|aL 6 Z<|zf jf Z Z Z Z Z Z .t1 Z<|z6<|aL 7 Z<|zf jf Z Z Z Z Z Z .head Z<|zc (zb (zd .head))<|zc (zb (zd .t1))<|z6<|bO ?_
       exact ⟨(i8,i9),bX,cU,aJ,trivial⟩
      ·refine zf jf Z Z Z Z Z Z .t1 Z<|z6<|aL 3 Z<|z7 (yf (l:=[_,_]) jg jf Z ⟨_,.t2⟩ Z Z)<|z6<|aL 7 Z<|zf jf Z Z Z Z Z Z .head Z<|zc (zb (zd .head))<|zc (zb (zd .t1))<|z6<|bO ?_
       exact ⟨(i8,i9),bX,cU,aJ,trivial⟩
    ·refine zo (cs:=[.int .i64 0,.int .i64 0]) jk Z Z<|fun i9=>z6<|yg (i:=3) (j:=4) Z Z (by kernel_rfl) ?_ ?_
     ·refine z7 (yf (l:=[_,_]) jg jf Z ⟨_,.t1⟩ Z Z)<|z6<|aL 4 Z<|zo (cs:=[.int .i64 0,.int .i64 0]) jk Z Z<|fun i8=>z6<|aL 6 Z<|zf jf Z Z Z Z Z Z .head Z<|z6<|aL 7 Z<|zf jf Z Z Z Z Z Z .t1 Z<|z6<|bO ?_
      exact ⟨(i8,i9),bX,cU,aJ,trivial⟩
     ·refine zo (cs:=[.int .i64 0,.int .i64 0]) jk Z Z<|fun i8=>z6<|yg (i:=3) (j:=6) Z Z (by kernel_rfl) ?_ ?_
      ·refine z7 (yf (l:=[_,_]) jg jf Z ⟨_,.t2⟩ Z Z)<|z6<|aL 6 Z<|zf jf Z Z Z Z Z Z .head Z<|z6<|aL 7 Z<|zf jf Z Z Z Z Z Z .t1 Z<|z6<|bO ?_
       exact ⟨(i8,i9),bX,cU,aJ,trivial⟩
      ·refine zf jf Z Z Z Z Z Z .head Z<|z6<|aL 3 Z<|z7 (yf (l:=[_,_]) jg jf Z ⟨_,.t2⟩ Z Z)<|z6<|aL 7 Z<|zf jf Z Z Z Z Z Z .t1 Z<|z6<|bO ?_
       exact ⟨(i8,i9),bX,cU,aJ,trivial⟩
   ·refine z7 (yf (l:=[_,_]) jg jf Z ⟨_,.head⟩ Z Z)<|z6<|qh (i:=1) (j:=4) (m:=5) Z Z Z (by kernel_rfl) ?_ ?_ ?_
    ·refine z7 (yf (l:=[_,_]) jg jf Z ⟨_,.head⟩ Z Z)<|z6<|yg (i:=4) (j:=5) Z Z (by kernel_rfl) ?_ ?_
     ·refine zo (cs:=[.int .i64 0,.int .i64 0]) jk Z Z<|fun i8=>z6<|aL 5 Z<|zo (cs:=[.int .i64 0,.int .i64 0]) jk Z Z<|fun i9=>z6<|aL 6 Z<|zf jf Z Z Z Z Z Z .t1 Z<|z6<|aL 7 Z<|zf jf Z Z Z Z Z Z .head Z<|zc (zb (zd .head))<|zc (zb (zd .t1))<|z6<|bO ?_
      exact ⟨(i8,i9),bX,cU,aJ,trivial⟩
     ·refine zo (cs:=[.int .i64 0,.int .i64 0]) jk Z Z<|fun i9=>z6<|aL 4 Z<|zo (cs:=[.int .i64 0,.int .i64 0]) jk Z Z<|fun i8=>z6<|aL 6 Z<|zf jf Z Z Z Z Z Z .head Z<|z6<|aL 7 Z<|zf jf Z Z Z Z Z Z .t1 Z<|z6<|bO ?_
      exact ⟨(i8,i9),bX,cU,aJ,trivial⟩
    ·refine zo (cs:=[.int .i64 0,.int .i64 0]) jk Z Z<|fun i8=>z6<|yg (i:=1) (j:=5) Z Z (by kernel_rfl) ?_ ?_
     ·refine z7 (yf (l:=[_,_]) jg jf Z ⟨_,.t1⟩ Z Z)<|z6<|aL 5 Z<|zo (cs:=[.int .i64 0,.int .i64 0]) jk Z Z<|fun i9=>z6<|aL 6 Z<|zf jf Z Z Z Z Z Z .t1 Z<|z6<|aL 7 Z<|zf jf Z Z Z Z Z Z .head Z<|zc (zb (zd .head))<|zc (zb (zd .t1))<|z6<|bO ?_
      exact ⟨(i8,i9),bX,cU,aJ,trivial⟩
     ·refine zo (cs:=[.int .i64 0,.int .i64 0]) jk Z Z<|fun i9=>z6<|aL 1 Z<|z7 (yf (l:=[_,_]) jg jf Z ⟨_,.t2⟩ Z Z)<|z6<|aL 6 Z<|zf jf Z Z Z Z Z Z .t1 Z<|z6<|aL 7 Z<|zf jf Z Z Z Z Z Z .head Z<|zc (zb (zd .head))<|zc (zb (zd .t1))<|z6<|bO ?_
      exact ⟨(i8,i9),bX,cU,aJ,trivial⟩
    ·refine zo (cs:=[.int .i64 0,.int .i64 0]) jk Z Z<|fun i9=>z6<|yg (i:=1) (j:=4) Z Z (by kernel_rfl) ?_ ?_
     ·refine z7 (yf (l:=[_,_]) jg jf Z ⟨_,.t1⟩ Z Z)<|z6<|aL 4 Z<|zo (cs:=[.int .i64 0,.int .i64 0]) jk Z Z<|fun i8=>z6<|aL 6 Z<|zf jf Z Z Z Z Z Z .head Z<|z6<|aL 7 Z<|zf jf Z Z Z Z Z Z .t1 Z<|z6<|bO ?_
      exact ⟨(i8,i9),bX,cU,aJ,trivial⟩
     ·refine zo (cs:=[.int .i64 0,.int .i64 0]) jk Z Z<|fun i8=>z6<|aL 1 Z<|z7 (yf (l:=[_,_]) jg jf Z ⟨_,.t2⟩ Z Z)<|z6<|aL 6 Z<|zf jf Z Z Z Z Z Z .head Z<|z6<|aL 7 Z<|zf jf Z Z Z Z Z Z .t1 Z<|z6<|bO ?_
      exact ⟨(i8,i9),bX,cU,aJ,trivial⟩
   ·refine zo (cs:=[.int .i64 0,.int .i64 0]) jk Z Z<|fun i8=>z6<|qh (i:=1) (j:=3) (m:=5) Z Z Z (by kernel_rfl) ?_ ?_ ?_
    ·refine z7 (yf (l:=[_,_]) jg jf Z ⟨_,.t1⟩ Z Z)<|z6<|yg (i:=3) (j:=5) Z Z (by kernel_rfl) ?_ ?_
     ·refine z7 (yf (l:=[_,_]) jg jf Z ⟨_,.t1⟩ Z Z)<|z6<|aL 5 Z<|zo (cs:=[.int .i64 0,.int .i64 0]) jk Z Z<|fun i9=>z6<|aL 6 Z<|zf jf Z Z Z Z Z Z .t1 Z<|z6<|aL 7 Z<|zf jf Z Z Z Z Z Z .head Z<|zc (zb (zd .head))<|zc (zb (zd .t1))<|z6<|bO ?_
      exact ⟨(i8,i9),bX,cU,aJ,trivial⟩
     ·refine zo (cs:=[.int .i64 0,.int .i64 0]) jk Z Z<|fun i9=>z6<|yg (i:=3) (j:=6) Z Z (by kernel_rfl) ?_ ?_
      ·refine z7 (yf (l:=[_,_]) jg jf Z ⟨_,.t2⟩ Z Z)<|z6<|aL 6 Z<|zf jf Z Z Z Z Z Z .t1 Z<|z6<|aL 7 Z<|zf jf Z Z Z Z Z Z .head Z<|zc (zb (zd .head))<|zc (zb (zd .t1))<|z6<|bO ?_
       exact ⟨(i8,i9),bX,cU,aJ,trivial⟩
      ·refine zf jf Z Z Z Z Z Z .t1 Z<|z6<|aL 3 Z<|z7 (yf (l:=[_,_]) jg jf Z ⟨_,.t2⟩ Z Z)<|z6<|aL 7 Z<|zf jf Z Z Z Z Z Z .head Z<|zc (zb (zd .head))<|zc (zb (zd .t1))<|z6<|bO ?_
       exact ⟨(i8,i9),bX,cU,aJ,trivial⟩
    ·refine z7 (yf (l:=[_,_]) jg jf Z ⟨_,.t1⟩ Z Z)<|z6<|yg (i:=1) (j:=5) Z Z (by kernel_rfl) ?_ ?_
     ·refine z7 (yf (l:=[_,_]) jg jf Z ⟨_,.t1⟩ Z Z)<|z6<|aL 5 Z<|zo (cs:=[.int .i64 0,.int .i64 0]) jk Z Z<|fun i9=>z6<|aL 6 Z<|zf jf Z Z Z Z Z Z .t1 Z<|z6<|aL 7 Z<|zf jf Z Z Z Z Z Z .head Z<|zc (zb (zd .head))<|zc (zb (zd .t1))<|z6<|bO ?_
      exact ⟨(i8,i9),bX,cU,aJ,trivial⟩
     ·refine zo (cs:=[.int .i64 0,.int .i64 0]) jk Z Z<|fun i9=>z6<|aL 1 Z<|z7 (yf (l:=[_,_]) jg jf Z ⟨_,.t2⟩ Z Z)<|z6<|aL 6 Z<|zf jf Z Z Z Z Z Z .t1 Z<|z6<|aL 7 Z<|zf jf Z Z Z Z Z Z .head Z<|zc (zb (zd .head))<|zc (zb (zd .t1))<|z6<|bO ?_
      exact ⟨(i8,i9),bX,cU,aJ,trivial⟩
    ·refine zo (cs:=[.int .i64 0,.int .i64 0]) jk Z Z<|fun i9=>z6<|yg (i:=1) (j:=3) Z Z (by kernel_rfl) ?_ ?_
     ·refine z7 (yf (l:=[_,_]) jg jf Z ⟨_,.t2⟩ Z Z)<|z6<|yg (i:=3) (j:=6) Z Z (by kernel_rfl) ?_ ?_
      ·refine z7 (yf (l:=[_,_]) jg jf Z ⟨_,.t2⟩ Z Z)<|z6<|aL 6 Z<|zf jf Z Z Z Z Z Z .t1 Z<|z6<|aL 7 Z<|zf jf Z Z Z Z Z Z .head Z<|zc (zb (zd .head))<|zc (zb (zd .t1))<|z6<|bO ?_
       exact ⟨(i8,i9),bX,cU,aJ,trivial⟩
      ·refine zf jf Z Z Z Z Z Z .t1 Z<|z6<|aL 3 Z<|z7 (yf (l:=[_,_]) jg jf Z ⟨_,.t2⟩ Z Z)<|z6<|aL 7 Z<|zf jf Z Z Z Z Z Z .head Z<|zc (zb (zd .head))<|zc (zb (zd .t1))<|z6<|bO ?_
       exact ⟨(i8,i9),bX,cU,aJ,trivial⟩
     ·refine z7 (yf (l:=[_,_]) jg jf Z ⟨_,.t2⟩ Z Z)<|z6<|aL 1 Z<|z7 (yf (l:=[_,_]) jg jf Z ⟨_,.t2⟩ Z Z)<|z6<|aL 6 Z<|zf jf Z Z Z Z Z Z .t1 Z<|z6<|aL 7 Z<|zf jf Z Z Z Z Z Z .head Z<|zc (zb (zd .head))<|zc (zb (zd .t1))<|z6<|bO ?_
      exact ⟨(i8,i9),bX,cU,aJ,trivial⟩
   ·refine zo (cs:=[.int .i64 0,.int .i64 0]) jk Z Z<|fun i9=>z6<|qh (i:=1) (j:=3) (m:=4) Z Z Z (by kernel_rfl) ?_ ?_ ?_
    ·refine z7 (yf (l:=[_,_]) jg jf Z ⟨_,.t1⟩ Z Z)<|z6<|yg (i:=3) (j:=4) Z Z (by kernel_rfl) ?_ ?_
     ·refine z7 (yf (l:=[_,_]) jg jf Z ⟨_,.t1⟩ Z Z)<|z6<|aL 4 Z<|zo (cs:=[.int .i64 0,.int .i64 0]) jk Z Z<|fun i8=>z6<|aL 6 Z<|zf jf Z Z Z Z Z Z .head Z<|z6<|aL 7 Z<|zf jf Z Z Z Z Z Z .t1 Z<|z6<|bO ?_
      exact ⟨(i8,i9),bX,cU,aJ,trivial⟩
     ·refine zo (cs:=[.int .i64 0,.int .i64 0]) jk Z Z<|fun i8=>z6<|yg (i:=3) (j:=6) Z Z (by kernel_rfl) ?_ ?_
      ·refine z7 (yf (l:=[_,_]) jg jf Z ⟨_,.t2⟩ Z Z)<|z6<|aL 6 Z<|zf jf Z Z Z Z Z Z .head Z<|z6<|aL 7 Z<|zf jf Z Z Z Z Z Z .t1 Z<|z6<|bO ?_
       exact ⟨(i8,i9),bX,cU,aJ,trivial⟩
      ·refine zf jf Z Z Z Z Z Z .head Z<|z6<|aL 3 Z<|z7 (yf (l:=[_,_]) jg jf Z ⟨_,.t2⟩ Z Z)<|z6<|aL 7 Z<|zf jf Z Z Z Z Z Z .t1 Z<|z6<|bO ?_
       exact ⟨(i8,i9),bX,cU,aJ,trivial⟩
    ·refine z7 (yf (l:=[_,_]) jg jf Z ⟨_,.t1⟩ Z Z)<|z6<|yg (i:=1) (j:=4) Z Z (by kernel_rfl) ?_ ?_
     ·refine z7 (yf (l:=[_,_]) jg jf Z ⟨_,.t1⟩ Z Z)<|z6<|aL 4 Z<|zo (cs:=[.int .i64 0,.int .i64 0]) jk Z Z<|fun i8=>z6<|aL 6 Z<|zf jf Z Z Z Z Z Z .head Z<|z6<|aL 7 Z<|zf jf Z Z Z Z Z Z .t1 Z<|z6<|bO ?_
      exact ⟨(i8,i9),bX,cU,aJ,trivial⟩
     ·refine zo (cs:=[.int .i64 0,.int .i64 0]) jk Z Z<|fun i8=>z6<|aL 1 Z<|z7 (yf (l:=[_,_]) jg jf Z ⟨_,.t2⟩ Z Z)<|z6<|aL 6 Z<|zf jf Z Z Z Z Z Z .head Z<|z6<|aL 7 Z<|zf jf Z Z Z Z Z Z .t1 Z<|z6<|bO ?_
      exact ⟨(i8,i9),bX,cU,aJ,trivial⟩
    ·refine zo (cs:=[.int .i64 0,.int .i64 0]) jk Z Z<|fun i8=>z6<|yg (i:=1) (j:=3) Z Z (by kernel_rfl) ?_ ?_
     ·refine z7 (yf (l:=[_,_]) jg jf Z ⟨_,.t2⟩ Z Z)<|z6<|yg (i:=3) (j:=6) Z Z (by kernel_rfl) ?_ ?_
      ·refine z7 (yf (l:=[_,_]) jg jf Z ⟨_,.t2⟩ Z Z)<|z6<|aL 6 Z<|zf jf Z Z Z Z Z Z .head Z<|z6<|aL 7 Z<|zf jf Z Z Z Z Z Z .t1 Z<|z6<|bO ?_
       exact ⟨(i8,i9),bX,cU,aJ,trivial⟩
      ·refine zf jf Z Z Z Z Z Z .head Z<|z6<|aL 3 Z<|z7 (yf (l:=[_,_]) jg jf Z ⟨_,.t2⟩ Z Z)<|z6<|aL 7 Z<|zf jf Z Z Z Z Z Z .t1 Z<|z6<|bO ?_
       exact ⟨(i8,i9),bX,cU,aJ,trivial⟩
     ·refine z7 (yf (l:=[_,_]) jg jf Z ⟨_,.t2⟩ Z Z)<|z6<|aL 1 Z<|z7 (yf (l:=[_,_]) jg jf Z ⟨_,.t2⟩ Z Z)<|z6<|aL 6 Z<|zf jf Z Z Z Z Z Z .head Z<|z6<|aL 7 Z<|zf jf Z Z Z Z Z Z .t1 Z<|z6<|bO ?_
      exact ⟨(i8,i9),bX,cU,aJ,trivial⟩
  ·rintro ⟨i8,i9⟩ _
   refine yh (yk (t:=8) Z .head)<|yh (yk (t:=9) Z .head)<|yh (aN.drop .head)<|ze<|ae<|aj jo Z Zi Z Z<|aw Zm Z<|z6<|zj<|ae<|ak Z Z<|ad Z<|z6<|zp Z (fun c0=>?_) (fun c0=>?_)
   ·refine ae<|aj jo Z jp Z Z<|aw ju Z<|zg (EZ _) Z<|zf jf Z Z Z Z Z Z .head Z<|z6<|zh<|yc Z ⟨_,.head⟩ jg jf Z ?_
    exact ⟨by rw[if_pos c0];rfl,.d1⟩
   ·rw[if_neg c0]
    refine ze<|ae<|ak Z Z<|ad Z<|z6<|ym (γ:=Bool) [0,3,4,8,9,35] (fun u=>[(41,.bool u)]) (fun u=>[(i4,.cells 36 [.int .i64 0,.int .i64 0]),(i,HL)]) (fun u=>u=decide (x.op=1∨x.op=12)) ?_ (fun _ _ h=>h) ?_
    ·refine zz Z (fun c1=>?_) (fun c1=>?_)
     ·refine zi ?_
      exact ⟨_,AY,aT,aJ,by simp_all⟩
     ·refine bD<|ak Z Z<|ad Z<|z6 ?_
      exact ⟨_,AY,aT,aJ,by simp_all⟩
    ·rintro u hu
     subst hu
     refine zp Z (fun c1=>?_) (fun c1=>?_)
     ·refine ae<|ab jg jf Z Z<|zf jf Z Z Z Z Z Z .head Z<|z6<|zh<|yc Z ⟨_,.head⟩ jg jf Z ?_
      exact ⟨by rw[if_pos c1];rfl,.d1⟩
     ·rw[if_neg c1]
      refine ze<|ae<|ak Z Z<|ad Z<|z6<|ym (γ:=Bool) [0,3,4,8,9,35] (fun u=>[(45,.bool u)]) (fun u=>[(i4,.cells 36 [.int .i64 0,.int .i64 0]),(i,HL)]) (fun u=>u=decide (x.op=2∨x.op=3∨x.op=4)) ?_ (fun _ _ h=>h) ?_
      ·refine zz Z (fun c2=>?_) (fun c2=>?_)
       ·refine zi ?_
        exact ⟨_,AY,aT,aJ,by simp_all⟩
       ·refine ae<|ak Z Z<|ad Z<|z6<|zz Z (fun c3=>?_) (fun c3=>?_)
        ·refine zi ?_
         exact ⟨_,AY,aT,aJ,by simp_all⟩
        ·refine bD<|ak Z Z<|ad Z<|z6 ?_
         exact ⟨_,AY,aT,aJ,by simp_all⟩
      ·rintro u hu
       subst hu
       refine zp Z (fun c2=>?_) (fun c2=>?_)
       ·have hl1:rs.length=2:=by rw[hl];rcases c2 with c|c|c<;>rw[c]<;>rfl
        obtain ⟨ha,na⟩:=hokr.at (i:=0) (by omega)
        obtain ⟨hb,nb⟩:=hokr.at (i:=1) (by omega)
        obtain ⟨k,hk,hk2⟩:=vA c2
        have hd0:=hd c2
        refine ae<|z7 (yb (v:=_) Z)<|ab Y8 Z8 Z Z<|ab jg jf Z Z<|ab jg jf Z Z<|zg (Al f chk Lv x ha hb hd0 (h1 hd0)) Z<|zf jf Z Z Z Z Z Z .head Z<|z6<|zh<|yc Z ⟨_,.head⟩ jg jf Z ?_
        exact ⟨Gm (by rw[Am hk hk2 na nb];rcases (by omega:k=0∨k=1∨k=2) with rfl|rfl|rfl;rw[if_pos (by omega)];rw[if_neg (by omega),if_pos (by omega)];rw[if_neg (by omega),if_neg (by omega),if_pos (by omega)]),.d1⟩
       ·rw[if_neg (by omega),if_neg (by omega),if_neg (by omega)]
        refine ze<|ae<|ak Z Z<|ad Z<|z6<|ym (γ:=Bool) [3,4,8,9,35] (fun u=>[(54,.bool u)]) (fun u=>[(i4,.cells 36 [.int .i64 0,.int .i64 0]),(i,HL)]) (fun u=>u=decide (x.op=5∨x.op=6)) ?_ (fun _ _ h=>h) ?_
        ·refine zz Z (fun c4=>?_) (fun c4=>?_)
         ·refine zi ?_
          exact ⟨_,oV,aT,aJ,by simp_all⟩
         ·refine bD<|ak Z Z<|ad Z<|z6 ?_
          exact ⟨_,oV,aT,aJ,by simp_all⟩
        ·rintro u hu
         subst hu
         refine zp Z (fun c5=>?_) (fun c5=>?_)
         ·have hl1:rs.length=2:=by rw[hl];rcases c5 with c|c<;>rw[c]<;>rfl
          obtain ⟨ha,na⟩:=hokr.at (i:=0) (by omega)
          obtain ⟨hb,nb⟩:=hokr.at (i:=1) (by omega)
          refine ae<|aj jo Z Zi Z Z<|aw Zm Z<|ab jg jf Z Z<|ab jg jf Z Z<|zg (vC x.op ha hb) Z<|zf jf Z Z Z Z Z Z .head Z<|z6<|zh<|yc Z ⟨_,.head⟩ jg jf Z ?_
          exact ⟨Gm (by rcases c5 with c|c;rw[if_pos c,c,Gn ha hb na nb];rw[if_neg (by omega),if_pos c,c,Gp na nb]),.d1⟩
         ·rw[if_neg (by omega),if_neg (by omega)]
          refine ze<|ae<|ak Z Z<|ad Z<|z6<|ym (γ:=Bool) [3,4,8,9,35] (fun u=>[(62,.bool u)]) (fun u=>[(i4,.cells 36 [.int .i64 0,.int .i64 0]),(i,HL)]) (fun u=>u=decide (x.op=7∨x.op=8∨x.op=9)) ?_ (fun _ _ h=>h) ?_
          ·refine zz Z (fun c5=>?_) (fun c5=>?_)
           ·refine zi ?_
            exact ⟨_,oV,aT,aJ,by simp_all⟩
           ·refine ae<|ak Z Z<|ad Z<|z6<|zz Z (fun c6=>?_) (fun c6=>?_)
            ·refine zi ?_
             exact ⟨_,oV,aT,aJ,by simp_all⟩
            ·refine bD<|ak Z Z<|ad Z<|z6 ?_
             exact ⟨_,oV,aT,aJ,by simp_all⟩
          ·rintro u hu
           subst hu
           refine zp Z (fun c7=>?_) (fun c7=>?_)
           ·have hl1:rs.length=2:=by rw[hl];rcases c7 with c|c|c<;>rw[c]<;>rfl
            obtain ⟨ha,na⟩:=hokr.at (i:=0) (by omega)
            obtain ⟨hb,nb⟩:=hokr.at (i:=1) (by omega)
            refine ae<|aj jo Z Zi Z Z<|aw Zm Z<|ab jg jf Z Z<|ab jg jf Z Z<|zg (Gi x.op (ra rs 0) (ra rs 1)) Z<|zf jf Z Z Z Z Z Z .head Z<|z6<|zh<|yc Z ⟨_,.head⟩ jg jf Z ?_
            exact ⟨Gm (by rcases c7 with c|c|c;rw[if_pos c,c,Fu na nb];rw[if_neg (by omega),if_pos c,c,Fv na nb];rw[if_neg (by omega),if_neg (by omega),if_pos c,c,Fw na nb]),.d1⟩
           ·rw[if_neg (by omega),if_neg (by omega),if_neg (by omega)]
            refine ae<|ak Z Z<|ad Z<|z6<|zp Z (fun c10=>?_) (fun c10=>?_)
            ·have hl1:rs.length=1:=by rw[hl,c10];rfl
             obtain ⟨ha,na⟩:=hokr.at (i:=0) (by omega)
             obtain ⟨hb1,hb2⟩:=hbl (.inl c10) 0 (by omega)
             refine ae<|aj ji Z jp Z Z<|aw ju Z<|z7 (Gv.sub Z Z (by unfold pq;omega))<|aj ji Z jp Z Z<|aw ju Z<|z7 (Gv.sub Z Z (by unfold pq;omega))<|z7 (zt (cps:=[(0,[_]),(1,[_])]) (rs:=[_,_]) iI Z Z Z)<|zf jf Z Z Z Z Z Z .head Z<|z6<|zh<|yc Z ⟨_,.head⟩ jg jf Z ?_
             exact ⟨by rw[if_pos c10,←DM na hb1 hb2];rfl,.d1⟩
            ·rw[if_neg c10]
             refine ae<|ak Z Z<|ad Z<|z6<|zp Z (fun c11=>?_) (fun c11=>?_)
             ·have hl1:rs.length=2:=by rw[hl,c11];rfl
              obtain ⟨ha,na⟩:=hokr.at (i:=0) (by omega)
              obtain ⟨hb,nb⟩:=hokr.at (i:=1) (by omega)
              obtain ⟨hb1,hb2⟩:=hbl (.inr c11) 0 (by omega)
              obtain ⟨hb3,hb4⟩:=hbl (.inr c11) 1 (by omega)
              refine ae<|aj ji Z jp Z Z<|aw ju Z<|aj ji Z jp Z Z<|aw ju Z<|z7 (Gv.minI Z Z)<|aj ji Z jp Z Z<|aw ju Z<|aj ji Z jp Z Z<|aw ju Z<|z7 (Gv.minI Z Z)<|z7 (zt (cps:=[(0,[_]),(1,[_])]) (rs:=[_,_]) iI Z Z Z)<|zf jf Z Z Z Z Z Z .head Z<|z6<|zh<|yc Z ⟨_,.head⟩ jg jf Z ?_
              exact ⟨by rw[if_pos c11,←DN na nb hb1 hb2 hb3 hb4];rfl,.d1⟩
             ·rw[if_neg c11]
              refine ae<|ak Z Z<|ad Z<|z6<|zp Z (fun c15=>?_) (fun c15=>?_)
              ·refine ze<|zw (fun j=>Nat.beq j 3) (by kernel_rfl) Z (zn (.rest _))<|ao 0 Z (yl jg jf Z Z)<|aL 1 Z<|zg (wW _) Z<|z6<|aL 2 Z<|zg (lm (ra rs 0) (dE 2)) Z<|z6<|yu<|yz (i:=3) Z (by kernel_rfl) (by kernel_rfl)<|zf jf Z Z Z Z Z Z .head Z<|z6<|yx (by kernel_rfl)<|zh<|yc Z ⟨_,.head⟩ jg jf Z ?_
               exact ⟨by rw[if_pos c15];rfl,.d1⟩
              ·rw[if_neg c15]
               refine ae<|ak Z Z<|ad Z<|z6<|zp Z (fun c16=>?_) (fun c16=>?_)
               ·refine ae<|zg (EZ _) Z<|zf jf Z Z Z Z Z Z .head Z<|z6<|zh<|yc Z ⟨_,.head⟩ jg jf Z ?_
                exact ⟨Gm (by rw[if_pos c16]),.d1⟩
               ·rw[if_neg c16]
                refine ae<|ak Z Z<|ad Z<|z6<|zp Z (fun c25=>?_) (fun c25=>?_)
                ·have hl1:rs.length=2:=by rw[hl,c25];rfl
                 obtain ⟨ha,na⟩:=hokr.at (i:=0) (by omega)
                 obtain ⟨hb,nb⟩:=hokr.at (i:=1) (by omega)
                 refine ae<|aj jo Z jp Z Z<|aw ju Z<|ab jg jf Z Z<|ab jg jf Z Z<|zg (HC x.num hb) Z<|zf jf Z Z Z Z Z Z .head Z<|z6<|zh<|yc Z ⟨_,.head⟩ jg jf Z ?_
                 exact ⟨Gm (by rw[if_pos c25,wu ha na nb]),.d1⟩
                ·rw[if_neg c25]
                 refine ae<|ak Z Z<|ad Z<|z6<|zp Z (fun c26=>?_) (fun c26=>?_)
                 ·have hl1:rs.length=2:=by rw[hl,c26];rfl
                  obtain ⟨ha,na⟩:=hokr.at (i:=0) (by omega)
                  obtain ⟨hb,nb⟩:=hokr.at (i:=1) (by omega)
                  refine ze<|zw (fun j=>Nat.beq j 5) (by kernel_rfl) Z (zn (.rest _))<|ao 0 Z (yl jg jf Z Z)<|ao 1 Z (zt (cps:=[(0,[_]),(1,[_])]) (rs:=[_,_]) iI Z Z Z)<|ao 3 Z (yl jg jf Z Z)<|aL 2 Z<|zg (lm (ra rs 0) (0,dz)) Z<|z6<|aL 4 Z<|zg (HC 0 hb) Z<|z6<|yu<|yz (i:=5) Z (by kernel_rfl) (by kernel_rfl)<|zf jf Z Z Z Z Z Z .head Z<|z6<|yx (by kernel_rfl)<|zh<|yc Z ⟨_,.head⟩ jg jf Z ?_
                  exact ⟨Gm (by rw[if_pos c26,Ep (dF ha ⟨by decide,by decide⟩) (yH _ _) nb]),.d1⟩
                 ·refine zi<|ae<|zg (Cs) Z<|zf jf Z Z Z Z Z Z .head Z<|z6<|zh<|yc Z ⟨_,.head⟩ jg jf Z ?_
                  exact ⟨Gm (by rw[if_neg c26]),.d1⟩
end
section
open Go.Proofs.Tryz
open Go.Proofs Go.Lib Go.Shelf Go.RowKit
variable {E:World}
set_option maxRecDepth 20000
theorem mq {α:Type} {p:α→Bool} {x:α}:∀{xs:List α} (j:Nat),xs.find? p=some x→∃k:Nat,bF p xs j=((j+k:Nat):Int)∧xs[k]?=some x
 |[],j,h=>by simp at h
 |y::xs,j,h=>by
  by_cases c:p y=true
  ·rw[List.find?_cons_of_pos c] at h
   exact ⟨0,by rw[bF,if_pos c];rfl,by simpa using h⟩
  ·rw[List.find?_cons_of_neg (by simpa using c)] at h
   obtain ⟨k,h1,h2⟩:=mq (j+1) h
   exact ⟨k+1,by rw[bF,if_neg c,h1];congr 1;omega,by simpa using h2⟩
theorem vF (v:Int) (p:dY):aF prog E 116 ([.agg (eY p)]++[.pf [.int .i64 v]]) (.bool (decide (p.dst=v))):=by
 refine zk func116 Z (by decide) Z<|ae<|zy (cs:=_) Z Z Z<|ad Z<|z6<|ae<|aj Za Z jm Z Z<|aw jq Z<|aw jq Z<|ak Z Z<|ad Z<|z6<|zh<|zm (x:=.bool _) Z ?_
 rfl
structure jI (f:ac):Prop where
 small:small f
 shaped:cf f
 once:lY f
 bool:∀b∈f.blocks,∀x∈b.insts,x.op=10∨x.op=11→∀v∈x.args,sG f v=1
theorem vG {op:Int} (h:op=2∨op=3∨op=4):eX op=true:=by rcases h with rfl|rfl|rfl<;>decide
theorem vH (f:ac) (hF:jI f) (l:List aA) (chk:List Bool) (hck:chk.length=f.vars.length) (Lv:AV) {i:Nat} {HL:bm} (hof:∀{a:Int},cA f a=true→aU prog E 140 [f8 f chk Lv,.int .i64 a] [(i,HL)] (iB i HL (.agg (bk (j4 f l a)))))
  (ho:∀u:Int,0≤u→bb (lv l u)) (v:Nat) (hv:v<f.vars.length) (hm:0≤(aZ f v).1) :
  aU prog E 91 [f8 f chk Lv,.int .i64 v] [(i,HL)] (iB i HL (.agg (bk (iX f (gb chk) l v)))):=by
 have hS:=hF.shaped
 have hf:=hF.small
 have hn:=hf.2.2.1
 have hone:=(hF.once v hv).1
 obtain ⟨bi,b,hget,hcase⟩:=iY hm
 have hbi:bi<f.blocks.length:=(List.getElem?_eq_some_iff.1 hget).1
 have hmem:=qt hget
 obtain ⟨hb0,hb1,hb2,hb3,hb4⟩:=hf.2.2.2.2 b hmem
 obtain ⟨hPh,hIn,hTm⟩:=hS.2.2.2.2.2 b hmem
 have hmk0:=gg (f:=f) hv
 refine aU.same<|zk func91 Z (by decide) Z<|ae<|zy (cs:=[_]) Z Z Z<|zo (cs:=[.int .i64 0,.int .i64 0]) jk Z Z<|fun i4=>z6 ?_
 rcases hcase with ⟨p0,hp0,hd0,hmk⟩|⟨k,x,hxk,hxd,hmk⟩
 ·have hrule:=nR (chk:=gb chk) (l:=l) hone hget hp0 hd0 hmk
  rw[hrule]
  rw[hmk] at hmk0
  obtain ⟨k,hk1,hk2⟩:=mq 0 (sK hone hget hp0 hd0)
  rw[Nat.zero_add] at hk1
  obtain ⟨hpd,hpl,hpn,hpa,hpf⟩:=hPh p0 hp0
  have hpb:=(hb3 p0 hp0).1
  have hix:=iA (E:=E) b.phis (by omega) (fun p _=>vF (v:Int) p)
  rw[hk1] at hix
  refine ze<|zw (fun j=>false) (by kernel_rfl) Z (zn (.rest _))<|ao 0 Z (j8 Z)<|ao 1 Z (yr Z)<|ao 2 Z (eh Z7 Z Zu Z Z)<|ao 3 Z (lA Ya Z)<|ao 4 Z (gy jq Z)<|ao 5 Z (db v Z6 Zl Z Z Z hmk0)<|ao 6 Z (yl isAgg74 Zl Z Z)<|aL 7 Z<|zo (cs:=[.int .i64 0,.int .i64 0]) zeroValue74 Z Z<|fun i5=>z6<|aL 8 Z<|zf Zl Z Z Z Z Z Z .head Z<|z6<|bO<|yh (yk (t:=5) Z .head)<|ze<|zw (fun j=>false) (by kernel_rfl) Z (zn (.rest _))<|ao 0 Z (j8 Z)<|ao 1 Z (yr Z)<|ao 2 Z (eh Z7 Z js Z Z)<|ao 3 Z (eh jt Z Zj Z Z)<|ao 4 Z (lA Zn Z)<|ao 5 Z (eh Ze Z jm Z Z)<|ao 6 Z (gy jq Z)<|ao 7 Z (db bi jw Z2 Z Z Z hget)<|ao 8 Z (yl Y6 Z2 Z Z)<|aL 9 Z<|zo (cs:=[.str ⟨#[]⟩,.raw (.slice none 0 0),.raw (.slice none 0 0),.int .i64 0,.int .i64 0,.int .i64 0,.int .i64 0]) Zf Z Z<|fun i6=>z6<|aL 10 Z<|zf Z2 Z Z Z Z Z Z .head Z<|z6<|bO<|yh (yk (t:=6) Z .head)<|ze<|ae<|aj Ze Z jm Z Z ?_
  refine aw jq Z<|z7 (qa Z Z)<|z6<|yn Z Z<|zi<|ae<|aj jy Z Yc Z Z<|bd isAgg49 Z<|z7 (Gv.func Z Z)<|zg (hix) Z<|aq Z<|z6<|ae<|z7 (j8 Z)<|aj jy Z Yc Z Z<|bd isAgg49 Z<|aa Z<|z7 (db k Zc Zg Z Z Z hk2)<|ab isAgg63 Zg Z Z<|zq Z (zn (.r (.l (.rest _)))) (Ak f l hof p0 hpa hpb) ?_
  rintro r45 O45 ⟨rfl,rfl⟩
  refine zf jf Z Z Z Z Z Z .t1 Z<|z6<|yh (zb (zd .t1))<|zh<|yc Z ⟨_,.head⟩ jg jf Z ?_
  exact ⟨rfl,.d1⟩
 ·have hI:=gl (hIn x (qt hxk))
  have hrule:=lH (chk:=gb chk) (l:=l) hget hxk hmk
  rw[hrule,k9]
  rw[hmk] at hmk0
  refine ze<|zw (fun j=>false) (by kernel_rfl) Z (zn (.rest _))<|ao 0 Z (j8 Z)<|ao 1 Z (yr Z)<|ao 2 Z (eh Z7 Z Zu Z Z)<|ao 3 Z (lA Ya Z)<|ao 4 Z (gy jq Z)<|ao 5 Z (db v Z6 Zl Z Z Z hmk0)<|ao 6 Z (yl isAgg74 Zl Z Z)<|aL 7 Z<|zo (cs:=[.int .i64 0,.int .i64 0]) zeroValue74 Z Z<|fun i5=>z6<|aL 8 Z<|zf Zl Z Z Z Z Z Z .head Z<|z6<|bO<|yh (yk (t:=5) Z .head)<|ze<|zw (fun j=>false) (by kernel_rfl) Z (zn (.rest _))<|ao 0 Z (j8 Z)<|ao 1 Z (yr Z)<|ao 2 Z (eh Z7 Z js Z Z)<|ao 3 Z (eh jt Z Zj Z Z)<|ao 4 Z (lA Zn Z)<|ao 5 Z (eh Ze Z jm Z Z)<|ao 6 Z (gy jq Z)<|ao 7 Z (db bi jw Z2 Z Z Z hget)<|ao 8 Z (yl Y6 Z2 Z Z)<|aL 9 Z<|zo (cs:=[.str ⟨#[]⟩,.raw (.slice none 0 0),.raw (.slice none 0 0),.int .i64 0,.int .i64 0,.int .i64 0,.int .i64 0]) Zf Z Z<|fun i6=>z6<|aL 10 Z<|zf Z2 Z Z Z Z Z Z .head Z<|z6<|bO<|yh (yk (t:=6) Z .head)<|ze<|ae<|aj Ze Z jm Z Z ?_
  refine aw jq Z<|z7 (qa Z Z)<|z6<|yq Z (decide_eq_true (by show (0:Int)≤(k:Int);omega))<|ae<|z7 (j8 Z)<|aj jy Z Y2 Z Z<|bd Y9 Z<|aj Ze Z jm Z Z<|aw jq Z<|z7 (db k Z5 Z8 Z Z Z hxk)<|ab Y8 Z8 Z Z<|zq Z (zn (.r (.l (.rest _)))) (vE f l chk Lv hof ho x hI (hF.bool b hmem x (qt hxk)) (fun _=>by rw[hxd,hck];exact hv) (fun _=>by rw[hxd];omega)) ?_
  rintro r34 O34 ⟨rfl,rfl⟩
  refine zf jf Z Z Z Z Z Z .t1 Z<|z6<|yh (zb (zd .t1))<|zh<|yc Z ⟨_,.head⟩ jg jf Z ?_
  exact ⟨rfl,.d1⟩
end
section
open Go.Proofs.Tryz
open Go.Proofs Go.Lib Go.Shelf Go.RowKit
set_option maxRecDepth 20000
variable {E:World}
theorem An {a b:Bool} (h:(a&&b)=true):a=true∧b=true:=by simpa using h
end
end Go.Proofs.YthphijnnbfjikaaGreatDoor
