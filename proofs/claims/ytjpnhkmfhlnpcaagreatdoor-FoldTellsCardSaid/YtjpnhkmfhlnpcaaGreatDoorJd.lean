/- Go's library on slices of numbers: reversed, sorted, repeated. No conditions but bounds. -/
import Derived.Test.YtjpnhkmfhlnpcaaGreatDoorJc
import Derived.Sort.Grow
import Derived.Laws.CopyRow
import Derived.Shelf.Small.Bits
import Derived.Shelf.Small.Wraps
import Derived.Shelf.Strconv.Itoa0
import Derived.Shelf.Strconv.Itoa1
import Derived.Shelf.LaysM
import Derived.Shelf.Strconv.Itoa2
import Derived.Shelf.Strconv.Itoa3
import Derived.Shelf.Sort.Plain
import Derived.Shelf.Unicode.Props
import Derived.Shelf.Unicode.PropsLaid
import Derived.Shelf.Bits.Mul64
import Derived.Shelf.Unicode.Is16White
import Derived.Shelf.Unicode.IsSpaceAny
import Derived.Shelf.Unicode.Is16WhiteD
import Derived.Shelf.Unicode.IsSpaceAnyD
import Derived.Shelf.Unicode.Is16Any
import Derived.Shelf.Unicode.Is32Any
import Derived.Shelf.Unicode.ExclAny
import Derived.Shelf.Unicode.PredsAny
import Derived.Shelf.Unicode.PredsPay
import Derived.Shelf.Slices.Turned
import Derived.Shelf.Slices.Reverse
import Derived.Shelf.Slices.Equal
import Derived.Ground.Names2Prog
import Derived.Shelf.Slices.Clone
import Derived.Shelf.Slices.SearchI
import Derived.Shelf.Slices.Cells
import Derived.Shelf.Slices.In.SortNone
import Derived.Shelf.Slices.Empties2
import Derived.Ground.SlgnProg
import Derived.Shelf.SlicesE.Reverse
import Derived.Shelf.SlicesE.Clone
import Derived.Test.YtjpnhkmfhlnpcaaGreatDoorChecked
set_option linter.unusedVariables false
set_option linter.unusedSimpArgs false
set_option linter.unusedSectionVars false
namespace Go.Proofs.YtjpnhkmfhlnpcaaGreatDoor
section
open Go.Proofs.Tryz
section
variable {E:World} {P:Program} {ops:Array Oper} {K:aK→OL→Prop} {env:aK} {O O' O'':OL} {rest:List Oper} {n:Nat}
variable {d ty:Nat} {pos:String} {af:Array Edge} {x y z:Operand} {t u e:TypeId}
theorem ao.cutTo {i k m j:Nat} {a:Int} {T:TypeId} {cs:List AV} (ht:P.underlying t=some (.slice e)) (hs:∀w,(sizeOf e).run P w=.ok k w) (hx:aW env x=.own i m) (hy:aW env y=.int .i64 a) (hi:a=(j:Int)) (hO:fe O i (.grow k T cs) (.grow k T (cs.take (j*k))) O')
  (hk:0<k) (hj:j*k≤cs.length)
  (kk:ao P E ops K rest (bl env d (.own i j)) O'):ao P E ops K (Oper.mk (some d) (.slice t x none (some y) none) ty pos af none::rest) env O:=fun I F ρ w h1 h2=>by
 obtain ⟨htop,L,hL,hS⟩:=h2
 have h3:=h1.ev x
 rw[hx] at h3
 obtain ⟨b,c,e1,e2⟩:=h3
 have h4:=gW h1 hy
 subst hi
 obtain ⟨A,B,hp,⟨b',c',n',vs,e3,hvs,hvc,h5,h6,h7⟩,hback⟩:=hO.rep hL
 simp only at e3
 rw[e1] at e3
 simp only[Option.some.injEq,Prod.mk.injEq] at e3
 obtain ⟨rfl,rfl⟩:=e3
 have hlen:vs.length=cs.length:=hvs.length
 have hjn:j≤n':=by
  have:j*k≤n'*k:=by omega
  exact Nat.le_of_mul_le_mul_right this hk
 have hjc:j≤c:=by omega
 have hval:(execOp (Go.Proofs.YtjpnhkmfhlnpcaaGreatDoor.ev ρ) (Oper.mk (some d) (.slice t x none (some y) none) ty pos af none)).run P w=.ok (.value (.slice (adr b) j c)) w:=by
  have:(if c=0 then adr b else (adr b).map (·.add (0*k)))=adr b:=by
   split
   ·rfl
   ·cases b<;>simp[adr,Addr.add]
  simp[execOp,Instr.sliceAt,Instr.slice,Instr.sliceBounds,Instr.sliceBound,asIntOf,Sem.run_bind,run_underlying ht,hs,e2,h4,hjc]
  simpa using this
 obtain ⟨L',h8,h9⟩:=hback (G.le.refl I) (A':=A) ⟨b,c,j,vs.take (j*k),e1,hvs.take _,fun u hu=>hvc u (List.mem_of_mem_take hu),by rw[qc];omega,by omega,by
  rcases h7 with h7|⟨b2,junk,e4,e5,e6⟩
  ·exact .inl ⟨h7.1,h7.2.1,h7.2.2⟩
  ·exact .inr ⟨b2,vs.drop (j*k)++junk,e4,by rw[←q4,List.take_append_drop];exact e5,by rw[←q4,List.take_append_drop];exact e6⟩⟩
 exact bq.val hval (kk I F _ w (h1.upd d ⟨b,c,e1,rfl⟩) ⟨htop,L',h8,hS.perm ((h9.trans hp.symm).append_right F)⟩)
theorem ao.cutLast {i k m j:Nat} {a:Int} {T:TypeId} {A row:List AV} (ht:P.underlying t=some (.slice e)) (hs:∀w,(sizeOf e).run P w=.ok k w) (hx:aW env x=.own i m) (hy:aW env y=.int .i64 a) (hi:a=(j:Int)) (hO:fe O i (.grow k T (A++row)) (.grow k T A) O')
  (hk:0<k) (hA:A.length=j*k)
  (kk:ao P E ops K rest (bl env d (.own i j)) O'):ao P E ops K (Oper.mk (some d) (.slice t x none (some y) none) ty pos af none::rest) env O:=
 ao.cutTo ht hs hx hy hi (hO.cast (by rw[←hA,List.take_left])) hk (by rw[q8];omega) kk
end
end
section
open Go.Proofs.Tryz
open Go.Proofs
variable {E:World}
set_option maxRecDepth 20000
theorem kL {p:Int→Bool} {fn:FuncId} {c:List AV} (xs:List Int) (hl:xs.length≤281474976710656) (hp:∀x∈xs,aT prog E fn ([.int .i64 x]++c) (.bool (p x))) :
  aT prog E 132 [.fro 1 (xs.map bh),.fn fn [] c] (.int .i64 (cA p xs 0)):=by
 refine zo func132 Z (by decide) Z<|ai<|aw Z<|z7<|zb<|ai<|aX Z<|ac j4 Z<|aa Z<|z7<|zh<|y7 (γ:=Nat) [0,1,7] (fun k=>[(8,.int .i64 k)]) (fun k=>[]) (fun k=>k≤xs.length∧(xs.take k).all (fun x=>!p x)) (fun k=>xs.length - k) 0 aV aU (⟨q5 _,Z⟩) ?_
 rintro k ⟨hk,hall⟩
 refine ai<|ay Z Z<|z7<|zb<|zt Z (fun ck=>?_) (fun ck=>?_)
 ·have hk2:k<xs.length:=by omega
  refine zf<|zb<|zh<|ai<|aa Z<|aw Z<|z7<|ai<|za (yx (v:=.fn _ _ _) Z)<|aX Z<|aa Z<|za (yk j4 j9 Z Z Z (q2 (by omega)))<|aF jf Z<|ao.callVP Z (hp _ (q6 hk2)) Z<|z7<|zu Z (fun cp=>?_) (fun cp=>?_)
  ·refine ai<|aa Z<|aw Z<|z7<|zg<|zi (x:=.int _ _) Z ?_
   rw[bN p xs k hk hall,List.drop_eq_getElem_cons hk2,cA,if_pos cp]
  ·refine zf<|bg<|aB Z Z<|aa Z<|z7 ?_
   exact ⟨k+1,oE,aV,aU,⟨hk2,by rw[q3 hk2,List.all_append,hall];simp[cp]⟩,by omega⟩
 ·have hkn:k=xs.length:=by omega
  refine zy<|ai<|aw Z<|z7<|zg<|zi (x:=.int _ _) Z ?_
  rw[bN p xs k hk hall,hkn,List.drop_length,cA]
theorem ig {p:Int→Bool} {fn:FuncId} {c:List AV} (xs:List Int) (hl:xs.length≤281474976710656) (hp:∀x∈xs,aT prog E fn ([.int .i64 x]++c) (.bool (p x))) :
  aT prog E 100 [.fro 1 (xs.map bh),.fn fn [] c] (.bool (xs.any p)):=by
 refine zo func100 Z (by decide) Z<|ai<|ad Z<|z7<|ai<|aX Z<|za (yx (v:=.fn _ _ _) Z)<|ze (kL xs hl hp) Z<|za (Gv.geq Z Z)<|ad Z<|z7<|zg<|zi (x:=.bool _) Z ?_
 rw[eC]
def aY (f:ae) (v:Int):Int:=((f.vars[v.toNat]?).map (·.ty)).getD 0
theorem oR {f:ae} {v:Int} (h:bf f v=true):∃x,f.vars[v.toNat]?=some x∧v=(v.toNat:Int)∧aY f v=x.ty:=by
 unfold bf at h
 simp only[qg,qh] at h
 have hl:v.toNat<f.vars.length:=by omega
 refine ⟨f.vars[v.toNat],q2 hl,by omega,?_⟩
 unfold aY;rw[q2 hl];rfl
theorem dC (f:ae) (v:Int) (hv:bf f v=true):aT prog E 113 [.agg (bC f),.int .i64 v] (.int .i64 (aY f v)):=by
 obtain ⟨x,hx,hv2,hk⟩:=oR hv
 rw[hk]
 refine zo func113 Z (by decide) Z<|ai<|y9 (cs:=_) Z Z Z<|aw Z<|z7<|ai<|ap j6 Z Za Z Z<|aP Zi Z<|aa Z<|za (dG v.toNat jk Zc Z Z hv2 hx)<|ap Z3 Z sizeOf64 Z Z<|aF isAgg64 Z<|aw Z<|z7<|zg<|zi (x:=.int _ _) Z ?_
 rfl
theorem xp (op:Int):aT prog E 114 [.int .i64 op] (.bool (decide (op=1))):=by
 refine zo func114 Z (by decide) Z<|ai<|ad Z<|z7<|ai<|aa Z<|aq Z Z<|ad Z<|z7<|zg<|zi (x:=.bool _) Z ?_
 simp_all
theorem xq:∀{l:List Int} (h:0<l.length),l.headD 0=l[0]
 |[],h=>absurd h (Nat.lt_irrefl 0)
 |_::_,_=>rfl
def fw (f:ae) (x:bB):Bool:=if x.op=1 then decide (aY f x.dst=aY f (x.args.headD 0)) else decide (x.args.map (aY f)=bd x.op)&&(!cK x.op||decide (aY f x.dst=gl x.op))
theorem fp {f:ae} {xs ts:List Int} {k:Nat} (h1:k<xs.length) (h2:k<ts.length) (h:(xs.take k).map (aY f)=ts.take k) (hk:aY f xs[k]=ts[k]):(xs.take (k+1)).map (aY f)=ts.take (k+1):=by
 rw[q3 h1,q3 h2,List.map_append,h,List.map_cons,List.map_nil,hk]
theorem xr {f:ae} {xs ts:List Int} {k:Nat} (h1:k<xs.length) (h2:k<ts.length) (hk:¬aY f xs[k]=ts[k]):¬xs.map (aY f)=ts:=by
 intro e
 apply hk
 subst e
 rw[List.getElem_map]
theorem qt (f:ae) (x:bB) (ha:x.args.all (bf f)=true) (hl:x.args.length=(bd x.op).length) (hd:cK x.op=true→bf f x.dst=true) :
  aT prog E 85 [.agg (bC f),.agg (aZ x)] (.bool (fw f x)):=by
 have hlen:(bd x.op).length≤3:=by
  rcases lA x.op with h|h
  ·unfold bd;rw[h];decide
  ·have:∀r∈em,r.2.1.data.toList.length≤3:=by decide
   have:=this _ h
   unfold bd;simpa using this
 refine zo func85 Z (by decide) Z<|ai<|y9 (cs:=_) Z Z Z<|y9 (cs:=_) Z Z Z<|ad Z<|z7<|zb<|ai<|ap jd Z Zd Z Z<|aF Zj Z<|ze (xp _) Z<|z7<|zt Z (fun c1=>?_) (fun c1=>?_)
 ·have e1:x.op=1:=by simpa using c1
  have hlz:0<x.args.length:=by rw[hl,e1];decide
  have hv0:bf f x.args[0]=true:=List.all_eq_true.1 ha _ (q6 hlz)
  have hvd:bf f x.dst=true:=hd (by rw[e1];decide)
  refine zb<|ya (fun j=>false) (by kernel_rfl) Z (yh (.rest _))<|aN 0 Z (yo jh j8 Z Z)<|aN 1 Z (f9 jd Z j9 Z Z)<|aN 2 Z (mK jf Z)<|aN 4 Z (yo jh j8 Z Z)<|aN 5 Z (f9 jd Z je Z Z)<|aN 6 Z (lx jm Z)<|aN 7 Z (dG 0 j4 j9 Z Z Z (q2 hlz))<|aN 8 Z (mK jf Z)<|cP 3 Z<|ze (dC _ _ (by assumption)) Z<|z7<|cP 9 Z<|ze (dC _ _ (by assumption)) Z<|z7<|aN 10 Z (Gv.eqlI Z Z)<|aN 11 Z (CX Z)<|kV<|zg<|zi (x:=.bool _) Z ?_
  exact jb (by unfold fw;rw[if_pos e1,xq hlz])
 ·have e1:¬x.op=1:=by simpa using c1
  refine zf<|zb<|ai<|ap jd Z Zd Z Z<|aF Zj Z<|ze (lC _) Z<|ac underlying182 Z<|aa Z<|z7<|zh<|y7 (γ:=Nat) [2,3,25,26] (fun k=>[(27,.int .i64 k)]) (fun k=>[]) (fun k=>k≤(bd x.op).length∧(x.args.take k).map (aY f)=(bd x.op).take k) (fun k=>(bd x.op).length - k) 0 aV aU (⟨q5 _,Z⟩) ?_
  rintro k ⟨hk,hall⟩
  refine ai<|ay Z Z<|z7<|zb<|zt Z (fun ck=>?_) (fun ck=>?_)
  ·have hk2:k<(bd x.op).length:=by simp at ck;omega
   have hk3:k<x.args.length:=by omega
   have hvk:bf f x.args[k]=true:=List.all_eq_true.1 ha _ (q6 hk3)
   refine zf<|zb<|zh<|ai<|aa Z<|za (dG k underlying182 sizeOf64 Z Z Z (q2 hk2))<|aF isAgg64 Z<|aw Z<|aw Z<|z7<|zb<|ya (fun j=>false) (by kernel_rfl) Z (yh (.rest _))<|aN 0 Z (yo jh j8 Z Z)<|aN 1 Z (f9 jd Z je Z Z)<|aN 2 Z (lx jm Z)<|aN 3 Z (kq Z)<|aN 4 Z (dG k j4 j9 Z Z Z (q2 hk3))<|aN 5 Z (mK jf Z)<|aN 7 Z (kq Z)<|cP 6 Z<|ze (dC _ _ (by assumption)) Z<|z7<|aN 8 Z (Gv.neqI Z Z)<|kV<|zu Z (fun cn=>?_) (fun cn=>?_)
   ·refine ai<|ad Z<|z7<|zg<|zi (x:=.bool _) Z ?_
    exact jb (by unfold fw;rw[if_neg e1,qf (xr hk3 hk2 (by simpa using cn))];rfl)
   ·refine zf<|bg<|aB Z Z<|aa Z<|z7 ?_
    exact ⟨k+1,fv,aV,aU,⟨hk2,fp hk3 hk2 hall (by simpa using cn)⟩,by omega⟩
  ·have hkn:k=(bd x.op).length:=by simp at ck;omega
   subst hkn
   rw[q7,←hl,q7] at hall
   refine zy<|ai<|ap jd Z Zd Z Z<|aF Zj Z<|ze (lD _) Z<|za (DW Z)<|za (xi Z Z)<|za (w9 Z Z)<|aw Z<|ad Z<|z7<|ai<|aj Z<|aH Z<|aj Z<|zk (s:=50) Z (fun c1=>?_) (fun c1=>?_)
   ·refine z6 Z Z c1<|z6 Z Z c1<|z6 Z Z c1<|z6 Z Z c1<|z6 Z Z c1<|z6 Z Z c1<|ak Z c1 Z<|ad Z<|z7<|zg<|zi (x:=.bool _) Z ?_
    exact jb (by unfold fw;rw[if_neg e1,qe hall];simp_all)
   ·refine z8 Z Z c1<|ab jh j8 Z Z<|z8 Z Z c1<|ap jd Z j9 Z Z<|z8 Z Z c1<|aF jf Z<|z8 Z Z c1<|ze (dC f x.dst (hd (by simp_all))) Z<|z8 Z Z c1<|aa Z<|z8 Z Z c1<|aq Z Z<|al Z c1 Z<|ad Z<|z7<|zg<|zi (x:=.bool _) Z ?_
    exact jb (by unfold fw;rw[if_neg e1,qe hall];simp_all)
def kM (f:ae) (p:bM):Bool:=!(p.args.any fun v=>!decide (aY f v=aY f p.dst))
theorem qu (f:ae) (p:bM) (v:Int) (hv:bf f v=true) (hd:bf f p.dst=true):aT prog E 112 ([.int .i64 v]++[.pf (bC f),.pf (aL p)]) (.bool (!decide (aY f v=aY f p.dst))):=by
 refine zo func112 Z (by decide) Z<|ai<|ad Z<|z7<|zb<|ya (fun j=>false) (by kernel_rfl) Z (yh (.rest _))<|aN 0 Z (yo jh j8 Z Z)<|aN 1 Z (kq Z)<|aN 3 Z (yo jh j8 Z Z)<|aN 4 Z (f9 jc Z j9 Z Z)<|aN 5 Z (mK jf Z)<|cP 2 Z<|ze (dC _ _ (by assumption)) Z<|z7<|cP 6 Z<|ze (dC _ _ (by assumption)) Z<|z7<|aN 7 Z (Gv.neqI Z Z)<|aN 8 Z (CX Z)<|kV<|zg<|zi (x:=.bool _) Z ?_
 simp_all
theorem vR (f:ae) (p:bM) (hp:rQ p) (ha:p.args.all (bf f)=true) (hd:bf f p.dst=true):aT prog E 84 [.agg (bC f),.agg (aL p)] (.bool (kM f p)):=by
 have hl1:=hp.1.lt
 refine zo func84 Z (by decide) Z<|ai<|y9 (cs:=_) Z Z Z<|y9 (cs:=_) Z Z Z<|ad Z<|z7<|ai<|ap jc Z je Z Z<|aP jm Z<|za (Gv.func Z Z)<|ze (ig p.args (by omega) (fun v hv=>qu f p v (List.all_eq_true.1 ha v hv) hd)) Z<|aH Z<|ad Z<|z7<|zg<|zi (x:=.bool _) Z ?_
 rfl
def bQ (f:ae) (t:b9):Bool:=if t.kind=0 then !decide (t.to0=0) else if t.kind=1 then decide (aY f t.var=1)&&!decide (t.to0=0)&&!decide (t.to1=0) else decide (aY f t.var=0)
theorem qv (f:ae) (t:b9) (h:¬t.kind=0→bf f t.var=true):aT prog E 86 [.agg (bC f),.agg (kX t)] (.bool (bQ f t)):=by
 refine zo func86 Z (by decide) Z<|ai<|y9 (cs:=_) Z Z Z<|y9 (cs:=_) Z Z Z<|ad Z<|z7<|zb<|ai<|ap j7 Z Z2 Z Z<|aF Z6 Z<|z7<|zh<|ai<|aq Z Z<|ad Z<|z7<|zu Z (fun c2=>?_) (fun c2=>?_)
 ·refine ai<|ap j7 Z jr Z Z<|za (yl (j:=0) jg j9 Z Z Z (by decide) Z)<|aF jf Z<|aG Z Z<|ad Z<|z7<|zg<|zi (x:=.bool _) Z ?_
  exact jb (by unfold bQ;simp_all)
 ·refine ai<|aq Z Z<|ad Z<|z7<|zu Z (fun c3=>?_) (fun c3=>?_)
  ·refine ai<|ab jh j8 Z Z<|ap j7 Z j9 Z Z<|aF jf Z<|ze (dC f t.var (h (by simp_all))) Z<|aq Z Z<|aj Z<|zk (s:=20) Z (fun c4=>?_) (fun c4=>?_)
   ·refine z8 Z Z c4<|ap j7 Z jr Z Z<|z8 Z Z c4<|za (yl (j:=0) jg j9 Z Z Z (by decide) Z)<|z8 Z Z c4<|aF jf Z<|z8 Z Z c4<|aG Z Z<|ak Z c4 Z<|aj Z<|zk (s:=26) Z (fun c5=>?_) (fun c5=>?_)
    ·refine z8 Z Z c5<|ap j7 Z jr Z Z<|z8 Z Z c5<|za (yl (j:=1) jg j9 Z Z Z (by decide) Z)<|z8 Z Z c5<|aF jf Z<|z8 Z Z c5<|aG Z Z<|ak Z c5 Z<|ad Z<|z7<|zg<|zi (x:=.bool _) Z ?_
     exact jb (by unfold bQ;simp_all)
    ·refine z6 Z Z c5<|z6 Z Z c5<|z6 Z Z c5<|z6 Z Z c5<|al Z c5 Z<|ad Z<|z7<|zg<|zi (x:=.bool _) Z ?_
     exact jb (by unfold bQ;simp_all)
   ·refine z6 Z Z c4<|z6 Z Z c4<|z6 Z Z c4<|z6 Z Z c4<|al Z c4 Z<|aj Z<|z6 Z Z Z<|z6 Z Z Z<|z6 Z Z Z<|z6 Z Z Z<|al Z Z Z<|ad Z<|z7<|zg<|zi (x:=.bool _) Z ?_
    exact jb (by unfold bQ;simp_all)
  ·refine zf<|ai<|ab jh j8 Z Z<|ap j7 Z j9 Z Z<|aF jf Z<|ze (dC f t.var (h (by simp_all))) Z<|aq Z Z<|ad Z<|z7<|zg<|zi (x:=.bool _) Z ?_
   exact jb (by unfold bQ;simp_all)
end
section
open Go.Proofs.Tryz
open Go.Proofs
theorem eL:di prog 23 3 1 1 [.int .i64 0]:=⟨_,j4,j9,Zp,by decide,by decide,by kernel_rfl⟩
theorem C6:di prog 23 3 2 1 [.int .i64 0,.int .i64 0]:=⟨_,j4,j9,Zp,by decide,by decide,by kernel_rfl⟩
variable {E:World}
set_option maxRecDepth 20000
theorem C7 {t:b9} (h:t.kind=0):aO t=[t.to0]:=by unfold aO;rw[if_pos h]
theorem C8 {t:b9} (h:t.kind=1) (e:t.to0=t.to1):aO t=[t.to0]:=by unfold aO;rw[if_neg (by omega),if_pos h,if_pos e]
theorem C9 {t:b9} (h:t.kind=1) (e:¬t.to0=t.to1):aO t=[t.to0,t.to1]:=by unfold aO;rw[if_neg (by omega),if_pos h,if_neg e]
theorem Da {t:b9} (h0:¬t.kind=0) (h:¬t.kind=1):aO t=[]:=by unfold aO;rw[if_neg h0,if_neg h]
theorem jV (t:b9):aT prog E 43 [.agg (kX t)] (.fro 1 ((aO t).map bh)):=by
 refine zo func43 Z (by decide) Z<|ai<|y9 (cs:=_) Z Z Z<|za (nc Z)<|z7<|zb<|zh<|zb<|ai<|ap j7 Z Z2 Z Z<|aF Z6 Z<|aq Z Z<|ad Z<|z7<|zt Z (fun c0=>?_) (fun c0=>?_)
 ·refine zf<|yi Z (by simpa using c0)<|ai<|ap j7 Z jr Z Z<|za (yl (j:=0) jg j9 Z Z Z (by decide) Z)<|aF jf Z<|y8 (rows:=[[_]]) eL Z Z Z Z Z<|za (w8 Z)<|z7<|zg<|zi (x:=.fro _ _) Z ?_
  rw[C7 c0];rfl
 ·refine bg<|ap j7 Z Z2 Z Z<|aF Z6 Z<|aq Z Z<|aj Z<|zk (s:=10) Z (fun c1=>?_) (fun c1=>?_)
  ·refine z8 Z Z c1<|ap j7 Z jr Z Z<|z8 Z Z c1<|za (yl (j:=0) jg j9 Z Z Z (by decide) Z)<|z8 Z Z c1<|aF jf Z<|z8 Z Z c1<|ap j7 Z jr Z Z<|z8 Z Z c1<|za (yl (j:=1) jg j9 Z Z Z (by decide) Z)<|z8 Z Z c1<|aF jf Z<|z8 Z Z c1<|aq Z Z<|ak Z c1 Z<|ad Z<|z7<|zu Z (fun c2=>?_) (fun c2=>?_)
   ·refine ai<|ap j7 Z jr Z Z<|za (yl (j:=0) jg j9 Z Z Z (by decide) Z)<|aF jf Z<|y8 (rows:=[[_]]) eL Z Z Z Z Z<|za (w8 Z)<|z7<|zg<|zi (x:=.fro _ _) Z ?_
    rw[C8 (by simpa using c1) (by simpa using c2)];rfl
   ·refine ai<|ap j7 Z Z2 Z Z<|aF Z6 Z<|aq Z Z<|ad Z<|z7<|yi Z (by simpa using c1)<|ai<|ap j7 Z jr Z Z<|za (yl (j:=0) jg j9 Z Z Z (by decide) Z)<|aF jf Z<|ap j7 Z jr Z Z<|za (yl (j:=1) jg j9 Z Z Z (by decide) Z)<|aF jf Z<|y8 (rows:=[[_],[_]]) C6 Z Z Z Z Z<|za (w8 Z)<|z7<|zg<|zi (x:=.fro _ _) Z ?_
    rw[C9 (by simpa using c1) (by simpa using c2)];rfl
  ·refine z6 Z Z c1<|z6 Z Z c1<|z6 Z Z c1<|z6 Z Z c1<|z6 Z Z c1<|z6 Z Z c1<|z6 Z Z c1<|al Z c1 Z<|ad Z<|z7<|yd Z Z<|ai<|ap j7 Z Z2 Z Z<|aF Z6 Z<|aq Z Z<|ad Z<|z7<|yd Z (by simpa using c1)<|zf<|ai<|za (nc Z)<|z7<|zg ?_
   repeat (first|refine ft ?_|refine d8 ?_)
   refine bc.fin (bc.slot (t:=2) Z (CY 1))<|zi (x:=.fro _ _) Z ?_
   rw[Da (by simpa using c0) (by simpa using c1)];rfl
def iW (rows:List (List Int)) (c x:Int):List (List Int):=rows.set c.toNat ((rows[c.toNat]?).getD []++[x])
def dL (rows:List (List Int)) (cs:List Int) (x:Int):List (List Int):=cs.foldl (fun r c=>iW r c x) rows
theorem lO (cs:List Int) (x:Int):∀rows,(dL rows cs x).length=rows.length:=by
 induction cs with
 |nil=>intro rows;rfl
 |cons c cs ih=>intro rows;show (dL (iW rows c x) cs x).length=_;rw[ih];unfold iW;simp
theorem oS (rows:List (List Int)) (cs:List Int) (c x:Int):dL rows (cs++[c]) x=iW (dL rows cs x) c x:=by unfold dL;rw[List.foldl_append];rfl
theorem vS {rows:List (List Int)} {c x:Int} (h0:0≤c) (b:Nat):(iW rows c x)[b]?=(rows[b]?).map (·++if c=(b:Int) then[x] else[]):=by
 unfold iW
 rw[List.getElem?_set]
 by_cases e:c.toNat=b
 ·have:c=(b:Int):=by omega
  rw[if_pos e,if_pos this,e]
  by_cases hb:b<rows.length
  ·rw[if_pos hb,q2 hb];rfl
  ·rw[if_neg hb,List.getElem?_eq_none (by omega)];rfl
 ·have:¬c=(b:Int):=by omega
  rw[if_neg e,if_neg this];simp
theorem ij (x:Int) (b:Nat):∀(cs:List Int) (rows:List (List Int)),(∀c∈cs,0≤c)→(dL rows cs x)[b]?=(rows[b]?).map (·++(cs.filter fun c=>decide (c=(b:Int))).map fun _=>x)
 |[],rows,_=>by simp[dL]
 |c::cs,rows,h=>by
  show (dL (iW rows c x) cs x)[b]?=_
  rw[ij x b cs _ (fun c hc=>h c (List.mem_cons_of_mem _ hc)),vS (h c (List.mem_cons_self ..))]
  cases rows[b]? with
  |none=>rfl
  |some r=>
   by_cases e:c=(b:Int)
   ·simp[e]
   ·simp[e]
def cL (f:ae) (k:Nat):List (List Int):=(List.range f.blocks.length).map fun (b:Nat)=>bn (au f) k (b:Int)
theorem dU (f:ae) (k:Nat):(cL f k).length=f.blocks.length:=by unfold cL;simp
theorem oT (f:ae):List.replicate f.blocks.length []=cL f 0:=by
 apply List.ext_getElem
 ·rw[dU];simp
 ·intro i h1 h2
  unfold cL bn cV
  simp
theorem gp (E:Int→List Int) (k:Nat) (b:Int):bn E (k+1) b=bn E k b++((E k).filter fun c=>decide (c=b)).map fun _=>(k:Int):=by
 unfold bn;rw[oG,List.flatMap_append];simp
theorem oU {f:ae} {k:Nat} (h0:∀c∈au f k,0≤c):dL (cL f k) (au f k) k=cL f (k+1):=by
 apply List.ext_getElem?
 intro b
 rw[ij _ _ _ _ h0]
 by_cases hb:b<f.blocks.length
 ·unfold cL
  rw[qa,qa,List.getElem?_range hb]
  simp only[Option.map_some]
  rw[gp]
 ·rw[List.getElem?_eq_none (by rw[dU];omega),List.getElem?_eq_none (by rw[dU];omega)];rfl
theorem xt {rows:List (List Int)} {c x:Int} (h:c.toNat<rows.length):rows.set c.toNat (rows[c.toNat]++[x])=iW rows c x:=by
 unfold iW;rw[q2 h];rfl
theorem im (f:ae) (b:Int):∀k,(bn (au f) k b).length≤2*k
 |0=>by simp[bn,cV]
 |k+1=>by
  have h1:=im f b k
  have h2:=lF f k
  have h3:=List.length_filter_le (fun c=>decide (c=b)) (au f k)
  rw[gp,q8,q9]
  omega
theorem AK {f:ae} {k b:Nat} {cs:List Int} {x:Int} (h0:∀c∈cs,0≤c) (hb:b<(dL (cL f k) cs x).length):(dL (cL f k) cs x)[b].length≤2*k+cs.length:=by
 have hb2:b<f.blocks.length:=by rwa [lO,dU] at hb
 have h:=ij x b cs (cL f k) h0
 have hr:(cL f k)[b]?=some (bn (au f) k (b:Int)):=by unfold cL;rw[qa,List.getElem?_range hb2];rfl
 rw[q2 hb,hr] at h
 have h:(dL (cL f k) cs x)[b]=bn (au f) k (b:Int)++(cs.filter fun c=>decide (c=(b:Int))).map fun _=>x:=by simpa using h
 have h2:=im f b k
 have h3:=List.length_filter_le (fun c=>decide (c=(b:Int))) cs
 rw[h,q8,q9]
 omega
theorem ir (f:ae) (hE:bk f) (hn:f.blocks.length≤100000):aT prog E 41 [.agg (bC f)] (AJ eI (cL f f.blocks.length)):=by
 refine zo func41 Z (by decide) Z<|ai<|y9 (cs:=_) Z Z Z<|za (nc Z)<|z7<|ai<|ap j6 Z ji Z Z<|aP js Z<|ac ja Z<|ao.makeNest (m:=f.blocks.length) underlying89 type23 Z Z Z Z Z (by simp) (by simp) (by show (24:Int)*_≤_;omega) (by omega) eI 3<|fun b11=>za (Gv.assign (v:=vP _ _) Z)<|z7<|zb<|ai<|ap j6 Z ji Z Z<|aP js Z<|ac ja Z<|aa Z<|z7<|zh<|y7 (γ:=Nat) [3,13,14] (fun k=>[(15,.int .i64 k)]) (fun k=>[(0,lN eI 23 3 b11 (cL f k))]) (fun k=>k≤f.blocks.length) (fun k=>f.blocks.length - k) 0 aV ⟨_,(.refl _),by rw[oT]⟩ (q5 _) ?_
 rintro k hk
 refine ai<|ay Z Z<|z7<|zb<|zt Z (fun ck=>?_) (fun ck=>?_)
 ·have hk2:k<f.blocks.length:=by simp at ck;omega
  have hEk:au f k=aO f.blocks[k].term:=lE hk2
  have hlen:=jS f.blocks[k].term
  have hrng:=hE.rng _ (q6 hk2)
  refine zf<|zb<|zh<|ai<|aa Z<|za (dG k ja jj Z Z Z (q2 hk2))<|ab Z7 jj Z Z<|zp (cs:=[.str ⟨#[]⟩,.raw (.slice none 0 0),.raw (.slice none 0 0),.int .i64 0,.int .i64 0,.int .i64 0,.int .i64 0]) ju Z Z<|fun i5=>aw Z<|zm jj Z Z Z Z Z Z .head Z<|z7<|ai<|za (zd j5 Z jn (by decide) Z Z)<|za (Gv.loadAC (l:=[_,_,_,_]) Zo jn Z ⟨_,.head⟩ Z Z)<|ze (jV _) Z<|ac j4 Z<|aa Z<|z7<|zh<|y7 (γ:=Nat) [3,4,13,14,15,22,23] (fun j=>[(24,.int .i64 j)]) (fun j=>[(0,lN eI 23 3 b11 (dL (cL f k) ((aO f.blocks[k].term).take j) k))]) (fun j=>j≤(aO f.blocks[k].term).length) (fun j=>(aO f.blocks[k].term).length - j) 0 aV ⟨_,(.drop (.refl _)),Z⟩ (q5 _) ?_
  rintro j hj
  refine ai<|ay Z Z<|z7<|zb<|zt Z (fun cj=>?_) (fun cj=>?_)
  ·have hj2:j<(aO f.blocks[k].term).length:=by simp at cj;omega
   obtain ⟨c,hc⟩:∃c,(aO f.blocks[k].term)[j]=c:=⟨_,rfl⟩
   have hr:=hrng c (hc▸q6 hj2)
   obtain ⟨rows,hrows⟩:∃rows,dL (cL f k) ((aO f.blocks[k].term).take j) k=rows:=⟨_,rfl⟩
   have hrl:rows.length=f.blocks.length:=by rw[←hrows,lO,dU]
   have hcn:c.toNat<rows.length:=by omega
   have hrow:rows[c.toNat].length≤200002:=by
    have:=AK (f:=f) (k:=k) (b:=c.toNat) (cs:=(aO f.blocks[k].term).take j) (x:=k) (fun c hc=>(hrng c (List.mem_of_mem_take hc)).1) (by rw[hrows];exact hcn)
    simp only[hrows,qc] at this
    omega
   rw[hrows]
   refine zf<|zb<|zh<|ai<|za (dG j j4 j9 Z Z Z (by rw[q2 hj2,hc])) ?_
   refine aF jf Z<|aw Z<|z7<|bg<|za (yx (v:=vP _ _) Z)<|aa Z<|za (yx (v:=vP _ _) Z)<|aa Z<|za (Gv.idxN (j:=c.toNat) underlying89 je Z Z (by omega) (by omega))<|ao.nestTake (j:=c.toNat) (r:=rows[c.toNat]) jm Z (q2 hcn) (fun _=>.head)<|fun i33=>aa Z<|y8 (rows:=[[_]]) eL Z Z Z Z Z<|zr (k:=1) j4 Z4 Z Z Z Z Z (fun _=>.head) (by rw[eI.av_len];rfl) (by decide) Z (by show (_+1)*8≤_;omega) (by show _+1≤_;omega)<|fun i36=>za (Gv.idxN (j:=c.toNat) underlying89 je Z Z (by omega) (by omega))<|ao.nestPut (j:=c.toNat) (r:=rows[c.toNat]++[(k:Int)]) je Z Z (by omega) .head .head Z (eI.av_push _ _) (by simp)<|z7<|bg<|aB Z Z<|aa Z<|z7 ?_
   exact ⟨j+1,gY,aV,⟨_,(.refl _),by rw[q3 hj2,oS,hrows,hc,xt hcn]⟩,hj2,by omega⟩
  ·have hjn:j=(aO f.blocks[k].term).length:=by simp at cj;omega
   refine zy<|bg<|aB Z Z<|aa Z<|z7 ?_
   exact ⟨k+1,oE,aV,⟨_,(.refl _),by rw[hjn,q7,←hEk,oU (fun c hc=>(hrng c (hEk▸hc)).1)]⟩,hk2,by omega⟩
 ·have hkn:k=f.blocks.length:=by simp at ck;omega
  subst hkn
  refine zz (bc.nestKnow (s:=3) Z .head (dU f _))<|zy<|ai<|aX Z<|za (w8 Z)<|z7<|zg<|zi (x:=.fro _ _) Z ?_
  rfl
end
section
open Go.Proofs.Tryz
open Go.Sort (Holds putRow putCells onCells)
theorem oV {zs ys:List Int} {junk:List Value} (hl:ys.length=zs.length):putCells (Value.int .i64) 0 ys.toArray (zs.map (Value.int .i64)++junk).toArray=(ys.map (Value.int .i64)++junk).toArray:=by
 unfold putCells
 apply Array.ext_getElem?
 intro k
 simp only[Array.getElem?_mapIdx,List.getElem?_toArray,q5,true_and,Nat.zero_add,Nat.sub_zero,List.size_toArray]
 by_cases hk:k<ys.length
 ·rw[List.getElem?_append_left (by rw[q9];omega),List.getElem?_append_left (by rw[q9];omega),qa,qa,q2 hk,q2 (by omega:k<zs.length)]
  simp[hk]
 ·rw[List.getElem?_append_right (by rw[q9];omega),List.getElem?_append_right (by rw[q9];omega),q9,q9,hl]
  rw[hl] at hk
  simp only[hk,if_false]
  cases junk[k - zs.length]?<;>rfl
theorem SL.turned {I:aI} {O:List (Nat × Obj)} {E w:World} {b n:Nat} {zs ys:List Int} {junk:List Value} {T:TypeId} {os:Array Obj} (hl:ys.length=zs.length) (h:SL I ((b,.cells (zs.map (Value.int .i64)++junk).toArray T (0,0))::O) E w) :
  SL I ((b,.cells (ys.map (Value.int .i64)++junk).toArray T (0,0))::O) E (Go.Sort.grow (putRow (Value.int .i64) (Go.Sort.ahead w n) b 0 ys.toArray) os):=by
 have hb:=h.own _ (.head _)
 simp only at hb
 have hlt:=bU hb
 have h1:SL I ((b,.cells (ys.map (Value.int .i64)++junk).toArray T (0,0))::O) E (putRow (Value.int .i64) (Go.Sort.ahead w n) b 0 ys.toArray):=by
  refine h.turn Z Z Z ?_ fun k hk=>?_
  ·show (w.heap.modify b (onCells (putCells (Value.int .i64) 0 ys.toArray)))[b]?=_
   rw[Array.getElem?_modify,if_pos rfl,hb]
   simp only[Option.map_some,onCells,oV hl]
  ·show (w.heap.modify b (onCells (putCells (Value.int .i64) 0 ys.toArray)))[k]?=_
   rw[Array.getElem?_modify,if_neg (fun e=>hk e.symm)]
 exact h1.more rfl rfl rfl fun k hk=>Go.Sort.heap_grow_old _ _ hk
theorem bV.turned {E:World} {P:Program} {f:FuncId} {fn:Func} {c:Code} {g:List Int→List Int} {B:Nat} (hf:P.funcs[f]?=some fn) (hb:fn.body=some c) (hn:fn.name≠"runtime.NumGoroutine") (hg:∀l,(g l).length=l.length)
  (hC:∀(blk cap:Nat) (zs:List Int) (w:World),Holds (Value.int .i64) w blk 0 zs.toArray→blk<w.heap.size→zs.length<B →
   Calls P f #[.slice (some ⟨blk,0,none⟩) zs.length cap] w fun e w'=>e=.returned (.tuple #[])∧∃n os,w'=Go.Sort.grow (putRow (Value.int .i64) (Go.Sort.ahead w n) blk 0 (g zs).toArray) os)
  (hN:∀(cap:Nat) (w:World),Calls P f #[.slice none 0 cap] w fun e w'=>e=.returned (.tuple #[])∧w'=w)
  {l:List Int} {i n:Nat} {T:TypeId} (hl:l.length=n) (hB:n<B):bV P E f [.own i n] [(i,.grow 1 T (cI l))] fun r O=>r=.tup []∧O=[(i,.grow 1 T (cI (g l)))]:=fun I F w vs h1 h2=>by
 obtain ⟨v,us,rfl,⟨b,c,e1,rfl⟩,h3⟩:=h1
 have h3:us=[]:=h3
 subst h3
 obtain ⟨ht,L,⟨A,B',e2,⟨b',c',n',ws,e3,h4,h5,h6⟩,h7⟩,hS⟩:=h2
 have h7:B'=[]:=h7
 subst h7
 rw[List.append_nil] at e2
 subst e2
 simp only at e3
 rw[e1] at e3
 simp only[Option.some.injEq,Prod.mk.injEq] at e3
 obtain ⟨rfl,rfl⟩:=e3
 have h4:=CH h4
 subst h4
 refine Fn.ofCalls hf hb hn ?_
 obtain ⟨g1,g2,g3⟩:=h6
 rw[q9,Nat.mul_one] at g1
 have hnn:n'=n:=by omega
 subst hnn
 rcases g3 with ⟨ea,rfl,rfl⟩|⟨b2,junk,ea,rfl,hj⟩
 ·have h0:n'=0:=by omega
  subst h0
  have hl0:l=[]:=List.eq_nil_of_length_eq_zero hl
  subst hl0
  have hg0:g []=[]:=List.eq_nil_of_length_eq_zero (hg [])
  rw[ea]
  refine (hN 0 w).mono fun e w' ⟨he,hw⟩=>⟨_,he,I,.tup [],_,.refl _,⟨[],Z,Z⟩,?_,Z,Z⟩
  subst hw
  rw[hg0]
  exact ⟨ht,[],⟨[],[],rfl,⟨b,0,0,[],e1,rfl,by simp,by rw[ea];exact ej.nil 1 T⟩,rfl⟩,hS⟩
 ·rw[ea]
  have hS2:SL I.k ((b2,.cells (l.map (Value.int .i64)++junk).toArray T (0,0))::F) E w:=hS
  have hH:Holds (Value.int .i64) w b2 0 l.toArray:=fun j hjl=>by
   have hj2:j<l.length:=by simpa using hjl
   have hbk:=hS2.own _ (.head _)
   simp only at hbk
   refine ⟨?_,?_⟩
   ·rw[hS2.cell_own,Nat.zero_add,List.getElem?_toArray,List.getElem?_append_left (by rw[q9];exact hj2),qa,q2 hj2]
    simp[hj2]
   ·simp[World.frozen?,hbk]
  have:=hC b2 c l w hH (bU (hS2.own _ (.head _))) (by omega)
  rw[hl] at this
  refine this.mono fun e w' ⟨he,k,os,hw⟩=>⟨_,he,I,.tup [],_,.refl _,⟨[],Z,Z⟩,?_,Z,Z⟩
  subst hw
  refine ⟨ht,[(b2,.cells ((g l).map (Value.int .i64)++junk).toArray T (0,0))],⟨_,[],by simp,⟨b,c,n',(g l).map (Value.int .i64),e1,vO I (g l),fun u hu=>by obtain ⟨x,_,rfl⟩:=List.mem_map.1 hu;rfl,by rw[q9,hg,hl,Nat.mul_one],g2,.inr ⟨b2,junk,ea,rfl,by rw[q8,q9,hg] ;rw[q8,q9] at hj;exact hj⟩⟩,rfl⟩,?_⟩
  exact SL.turned (hg l) hS2
end
section
open Go.Proofs.Tryz
variable {α:Type}
section
variable {E:World} {P:Program} {ops:Array Oper} {K:aK→OL→Prop} {env:aK} {O O' O'':OL} {rest:List Oper} {n:Nat}
variable {d ty:Nat} {pos:String} {af:Array Edge} {x y z:Operand} {t u e T:TypeId}
end
end
section
open Go.Proofs.Tryz
open Go.Proofs
theorem CK:gj prog 162 #[(0,1),(1,1)] [.int .i64 0,.int .i64 0]:=⟨_,_,Zl,zeroValue162,fun w=>by kernel_rfl,rfl⟩
theorem rS:di prog 163 162 1 2 [.int .i64 0,.int .i64 0]:=⟨_,Zh,sizeOf162,zeroValue162,by decide,by decide,by kernel_rfl⟩
variable {E:World}
set_option maxRecDepth 20000
def DR (r:List (Int × Nat)):List AV:=(r.reverse.map fun q=>[AV.int .i64 q.1,AV.int .i64 (q.2:Int)]).flatten
theorem gq (b:Int) (k:Nat) (r:List (Int × Nat)):DR ((b,k)::r)=DR r++[AV.int .i64 b,AV.int .i64 (k:Int)]:=by unfold DR;simp
theorem nP (r:List (Int × Nat)):(DR r).length=r.length*2:=by
 induction r with
 |nil=>rfl
 |cons q r ih=>obtain ⟨b,k⟩:=q;rw[gq,q8,ih];simp only[List.length_cons,List.length_nil];omega
theorem xu {f:ae} {n k:Nat} (hE:EOk (au f) n):(dg (au f) n k).2.1.length+(dg (au f) n k).2.2.length≤n:=by
 have h:=dq hE k
 have h2:=jO _ (cV n) h.nodup fun x hx=>fH.2 (h.rng x hx)
 rw[dS,q8,q9] at h2
 exact h2
theorem qw (f:ae) (hE:bk f) (hn:f.blocks.length≤100000) (hrev:∀(l:List Int) (i:Nat) (T:TypeId),l.length≤200000→bV prog E 89 [.own i l.length] [(i,.grow 1 T (cI l))] fun r O=>r=.tup []∧O=[(i,.grow 1 T (cI l.reverse))]) :
  aT prog E 67 [.agg (bC f)] (.fro 1 ((bP (au f) f.blocks.length).map bh)):=by
 have hG:=hE.grph
 have hpos:=hG.npos
 refine zo func67 Z (by decide) Z<|ai<|y9 (cs:=_) Z Z Z<|za (nc Z)<|z7<|ai<|ap j6 Z ji Z Z<|aP js Z<|ac ja Z<|ao.makeB (m:=f.blocks.length) jx type4 Z Z Z Z Z (by simp) (by simp) (by show (1:Int)*_≤_;omega) (by omega)<|fun i12=>za (mQ Z)<|z7<|ai<|za (iL Z)<|za (Gv.idxI (j:=0) jx Z9 Z Z Z ⟨_,.head⟩ (by first|rfl|(simp[cC,dp];done)|(simp[cC,dp];omega)) hG.npos)<|ao.storeB (j:=0) Z9 Z Z .head (by first|omega|(simp;omega))<|z7<|ai<|za (nc Z)<|z7<|ai<|za (zw (cps:=[(0,[_]),(1,[_])]) (rs:=[_,_]) CK Z Z Z)<|ao.buildSliceO (cps:=[(0,[_,_])]) (rs:=[_,_]) rS Z Z Z Z Z<|fun i16=>za (mQ Z)<|z7<|iT (t:=4) (k:=1) (T:=3) Z<|fun i4=>zz (zn (zq .t1))<|zb<|zh<|y7 (γ:=Nat × Nat × Nat) [1,3] (fun g=>[(4,.own g.2.1 (dg (au f) f.blocks.length g.1).2.1.length),(5,.own g.2.2 (dg (au f) f.blocks.length g.1).2.2.length)]) (fun g=>[(g.2.2,.grow 2 162 (DR (dg (au f) f.blocks.length g.1).2.2)),(g.2.1,.grow 1 3 (cI (dg (au f) f.blocks.length g.1).2.1)),(i12,.grow 1 4 (cB (dg (au f) f.blocks.length g.1).1))]) (fun g=>g.1≤4*f.blocks.length∧(dg (au f) f.blocks.length g.1).1.length=f.blocks.length) (fun g=>iO (dg (au f) f.blocks.length g.1)) (0,i4,i16) fF aU (⟨q5 _,by simp[dg,ls]⟩) ?_
 rintro ⟨k,io,il⟩ ⟨hk,hsl⟩
 try dsimp only at *
 have hI:=dq hG.toEOk k
 have hlen:=xu (k:=k) hG.toEOk
 have hlt:=lu hG.toEOk k
 have hstep:dg (au f) f.blocks.length (k+1)=m4 (au f) (dg (au f) f.blocks.length k):=rfl
 rcases hx:dg (au f) f.blocks.length k with ⟨seen,out,st⟩
 rw[hx] at hI hlen hlt hstep hsl
 dsimp only at hlen hlt hsl
 cases st with
 |nil=>
 ·refine zb<|ai<|za (iL Z)<|za (Gv.lenO Zh Z)<|za (yy Z Z)<|z7<|yd Z (by simp) ?_
  have hfin:=vD (E:=au f) (n:=f.blocks.length) (k:=k) (by rw[hx]) hk
  refine zy<|ai<|za (iL Z)<|ao.callA Z (yh (.r (.l (.r (.rest _))))) (hrev out io 3 (by omega)) ?_
  rintro r82 O82 ⟨rfl,rfl⟩
  refine z7<|zz (bc.knowI (t:=4) Z .head (by simp))<|ai<|aX Z<|za (w8 Z)<|z7<|zg<|zi (x:=.fro _ _) Z ?_
  unfold bP;rw[hfin,hx];rfl
  |cons q r=>
 ·obtain ⟨b,j⟩:=q
  have hbr:=hI.rng b (by simp)
  have hbl:b.toNat<f.blocks.length:=by omega
  have hEb:au f b=aO f.blocks[b.toNat].term:=hZ hbr.1 hbl
  have hjl:=(hI.part (b,j) (by simp)).1
  dsimp only at hjl
  have hmn:iO (dg (au f) f.blocks.length (k+1))<iO (dg (au f) f.blocks.length k):=by rw[hstep,hx];exact mM.less hG.toEOk hI (by simp)
  have hk2:k+1≤4*f.blocks.length:=by simp at hlt;omega
  have hsn:(dg (au f) f.blocks.length (k+1)).1.length=f.blocks.length:=(dq hG.toEOk (k+1)).len
  rw[g6] at hstep
  rw[hx] at hmn
  rw[gq]
  simp only[List.length_cons] at hlen ⊢
  refine zb<|ai<|za (iL Z)<|za (Gv.lenO Zh Z)<|za (yy Z Z)<|z7<|yi Z (by simp)<|zf<|zh<|ai<|za (iL Z)<|za (iL Z)<|za (Gv.lenO Zh Z)<|za (Gv.sub Z Z (by unfold nK;show _∧((r.length+1:Nat):Int) - 1≤_;omega))<|za (Gv.idxOL (j:=r.length) Zh sizeOf162 Z Z (by show ((r.length+1:Nat):Int) - 1=_;omega) ⟨_,.head⟩ (by simp) (by show r.length<r.length+1;omega) (show r.length*2=(DR r).length by rw[nP]))<|za (Fk Z)<|z7<|zb<|ya (fun j=>false) (by kernel_rfl) Z (yh (.r (.rest _)))<|aN 0 Z (f9 j6 Z ji Z Z)<|aN 1 Z (lx js Z)<|aN 2 Z (An Z)<|aN 3 Z (yw Z)<|aN 4 Z (zd Zl Z j9 (by decide) Z Z)<|aN 5 Z (Gv.loadL (c:=.int _ _) (j:=0) jf Z Z ⟨_,.head⟩ Z)<|aN 6 Z (dG b.toNat ja jj Z Z (by omega) (q2 hbl))<|aN 7 Z (f9 j5 Z jn Z Z)<|aN 8 Z (yo Zo jn Z Z)<|cP 9 Z<|ze (jV _) Z<|z7<|aN 10 Z (w8 Z)<|kV<|zb<|ai<|za (An Z)<|za (yw Z)<|za (zd Zl Z j9 (by decide) Z Z)<|za (Gv.loadL (c:=.int _ _) (j:=1) jf Z Z ⟨_,.head⟩ Z)<|aX Z<|ac j4 Z ?_
  refine aq Z Z<|z7<|zu Z (fun ce=>?_) (fun ce=>?_)
  ·have hje:j=(au f b).length:=by rw[hEb];have h0:(j:Int)=((aO f.blocks[b.toNat].term).length:Int):=(by simpa using ce);omega
   rw[if_pos hje] at hstep
   refine ai<|za (iL Z)<|za (An Z)<|za (yw Z)<|za (zd Zl Z j9 (by decide) Z Z)<|za (Gv.loadL (c:=.int _ _) (j:=0) jf Z Z ⟨_,.head⟩ Z)<|y8 (rows:=[[_]]) eL Z Z Z Z Z<|zr (k:=1) j4 Z4 Z Z Z Z Z (fun _=>.t1) (by rw[cC];omega) (by decide) Z (by show (out.length+1)*8≤_;omega) (by show out.length+1≤_;omega)<|fun i48=>za (mQ Z)<|z7<|ai<|za (iL Z)<|za (iL Z)<|za (Gv.lenO Zh Z)<|za (Gv.sub Z Z (by unfold nK;show _∧((r.length+1:Nat):Int) - 1≤_;omega))<|ao.cutLast (j:=r.length) Zh sizeOf162 Z Z (by show ((r.length+1:Nat):Int) - 1=_;omega) .head (by decide) (by rw[nP])<|za (mQ Z)<|z7<|zy ?_
   exact ⟨(k+1,i48,il),fF,⟨(by rw[hstep,q8];rfl),(by rw[hstep];rfl),trivial⟩,⟨_,(.refl _),by rw[hstep];dsimp only;rw[←lM];rfl⟩,⟨hk2,hsn⟩,by exact hmn⟩
  ·have hje:¬j=(au f b).length:=by rw[hEb];have h0:¬(j:Int)=((aO f.blocks[b.toNat].term).length:Int):=(by simpa using ce);omega
   have hj2:j<(aO f.blocks[b.toNat].term).length:=by rw[←hEb];omega
   rw[if_neg hje] at hstep
   obtain ⟨c,hc⟩:∃c,ge (au f b) j=c:=⟨_,rfl⟩
   have hcj:(aO f.blocks[b.toNat].term)[j]?=some c:=by rw[←hEb];unfold ge at hc;rw[←hc,hEb,q2 hj2];rfl
   have hcr:=hG.rng b hbr.1 hbr.2 c (by rw[hEb];exact qb hcj)
   rw[hc] at hstep
   have hgs:seen[c.toNat]?=some (gb seen c):=by unfold gb;rw[q2 (by omega)];rfl
   have hl2:=hG.len b
   rw[hEb] at hl2
   refine zf<|ai<|aX Z<|za (An Z)<|za (yw Z)<|za (zd Zl Z j9 (by decide) Z Z)<|za (Gv.loadL (c:=.int _ _) (j:=1) jf Z Z ⟨_,.head⟩ Z)<|za (dG j j4 j9 Z Z Z hcj)<|aF jf Z<|aw Z<|z7<|ai<|za (An Z)<|za (yw Z)<|za (zd Zl Z j9 (by decide) Z Z)<|za (Gv.loadL (c:=.int _ _) (j:=1) jf Z Z ⟨_,.head⟩ Z)<|aB Z Z<|za (yw Z)<|za (zd Zl Z j9 (by decide) Z Z)<|ao.storeL (j:=1) (l:=[_]) (new:=[_,_]) j9 Z Z Z Z Z Z Z .head Z Z Z<|z7<|ai<|za (iL Z)<|aa Z<|za (Gv.idxI (j:=c.toNat) jx Z9 Z Z (by omega) ⟨_,.t2⟩ (by first|rfl|(simp[cC,dp];done)|(simp[cC,dp];omega)) (by omega))<|za (Gv.loadB (j:=c.toNat) isAgg4 Z ⟨_,.t2⟩ hgs)<|aH Z<|z7<|zu Z (fun cs=>?_) (fun cs=>?_)
   ·rw[if_neg (by simpa using cs)] at hstep
    refine ai<|za (iL Z)<|aa Z<|za (Gv.idxI (j:=c.toNat) jx Z9 Z Z (by omega) ⟨_,.t2⟩ (by first|rfl|(simp[cC,dp];done)|(simp[cC,dp];omega)) (by omega))<|ao.storeB (j:=c.toNat) Z9 Z Z .t2 (by first|omega|(simp;omega))<|z7<|bg<|za (iL Z)<|aa Z<|za (zw (cps:=[(0,[_]),(1,[_])]) (rs:=[_,_]) CK Z Z Z)<|y8 (rows:=[[_,_]]) rS Z Z Z Z Z<|zr (k:=2) Zh type162 Z Z Z Z Z (fun _=>.head) (by rw[q8,nP];show r.length*2+2=(r.length+1)*2;omega) (by decide) Z (by show (r.length+1+1)*16≤_;omega) (by show r.length+1+1≤_;omega)<|fun i80=>za (mQ Z)<|z7 ?_
    exact ⟨(k+1,io,i80),fF,⟨(by rw[hstep];rfl),(by rw[hstep];rfl),trivial⟩,⟨_,(.refl _),by rw[hstep,gq,gq];rfl⟩,⟨hk2,hsn⟩,by exact hmn⟩
   ·rw[if_pos (by simpa using cs)] at hstep
    refine zf ?_
    exact ⟨(k+1,io,il),fF,⟨(by rw[hstep];rfl),(by rw[hstep];rfl),trivial⟩,⟨_,(.refl _),by rw[hstep,gq];rfl⟩,⟨hk2,hsn⟩,by exact hmn⟩
end
section
open Go.Proofs.Tryz
section
variable {E:World} {P:Program} {n:Nat} {l:List Oper} {W:Nat→Bool} {Q:aK→OL→Prop} {fuel:Nat} {listed:Array Bool} {env:aK} {O Os Om:OL}
end
end
section
open Go.Proofs.Tryz
section
variable {E:World} {P:Program} {ops:Array Oper} {K:aK→OL→Prop} {env:aK} {O O' O'':OL} {rest:List Oper}
variable {d ty:Nat} {pos:String} {af:Array Edge} {x y z:Operand} {t u e T:TypeId}
end
end
end Go.Proofs.YtjpnhkmfhlnpcaaGreatDoor
namespace Go.Proofs
open Go.Shelf
def Tryz.laysM284_ren:Go.Shelf.Ren:=⟨fun|284=>270|129=>127|317=>276|318=>277|n=>n,fun|53=>130|3=>3|212=>368|0=>0|4=>4|46=>160|5=>5|9=>9|n=>n,fun|17=>2|n=>n⟩
theorem Tryz.laysM284:Go.Proofs.LaysM.n284 prog Tryz.laysM284_ren:={
 mixed:=by kernel_rfl
 f129:=func127.trans (congrArg some (by kernel_rfl))
 f284:=func270.trans (congrArg some (by kernel_rfl))
 f317:=func276.trans (congrArg some (by kernel_rfl))
 f318:=func277.trans (congrArg some (by kernel_rfl))
 t0:=underlying0
 a0:=isAgg0
 z0:=sizeOf0
 v0:=zeroValue0
 t3:=underlying3
 a3:=isAgg3
 z3:=sizeOf3
 v3:=zeroValue3
 t4:=underlying4
 a4:=isAgg4
 z4:=sizeOf4
 v4:=zeroValue4
 t5:=underlying5
 a5:=isAgg5
 z5:=sizeOf5
 v5:=zeroValue5
 t9:=underlying9
 a9:=isAgg9
 z9:=sizeOf9
 v9:=zeroValue9
 t46:=underlying160
 a46:=isAgg160
 z46:=sizeOf160
 v46:=zeroValue160
 t53:=underlying130
 a53:=isAgg130
 z53:=sizeOf130
 v53:=zeroValue130
 t212:=underlying368
 a212:=isAgg368
 z212:=sizeOf368
 v212:=zeroValue368
 g17:=by kernel_rfl
 i0:=by kernel_rfl
 i3:=by kernel_rfl
 i4:=by kernel_rfl
 i5:=by kernel_rfl
 i9:=by kernel_rfl
 i46:=by kernel_rfl
 i53:=by kernel_rfl
 i212:=by kernel_rfl
 m17:=by kernel_rfl }
def Tryz.lays189_ren:Go.Shelf.Ren:=⟨fun|189=>65|125=>88|257=>87|128=>126|129=>127|294=>117|295=>118|296=>119|297=>120|298=>121|299=>122|216=>123|300=>124|301=>125|328=>154|329=>155|330=>156|331=>157|332=>158|215=>159|343=>181|n=>n,fun|28=>23|3=>3|46=>160|0=>0|51=>195|53=>130|4=>4|183=>188|182=>187|131=>192|5=>5|9=>9|218=>223|222=>227|228=>261|229=>127|n=>n,fun|n=>n⟩
theorem Tryz.lays189:Go.Proofs.Lays.n189 prog Tryz.lays189_ren:={
 mixed:=by kernel_rfl
 f125:=func88.trans (congrArg some (by kernel_rfl))
 f128:=func126.trans (congrArg some (by kernel_rfl))
 f129:=func127.trans (congrArg some (by kernel_rfl))
 f189:=func65.trans (congrArg some (by kernel_rfl))
 f215:=func159.trans (congrArg some (by kernel_rfl))
 f216:=func123.trans (congrArg some (by kernel_rfl))
 f257:=func87.trans (congrArg some (by kernel_rfl))
 f294:=func117.trans (congrArg some (by kernel_rfl))
 f295:=func118.trans (congrArg some (by kernel_rfl))
 f296:=func119.trans (congrArg some (by kernel_rfl))
 f297:=func120.trans (congrArg some (by kernel_rfl))
 f298:=func121.trans (congrArg some (by kernel_rfl))
 f299:=func122.trans (congrArg some (by kernel_rfl))
 f300:=func124.trans (congrArg some (by kernel_rfl))
 f301:=func125.trans (congrArg some (by kernel_rfl))
 f328:=func154.trans (congrArg some (by kernel_rfl))
 f329:=func155.trans (congrArg some (by kernel_rfl))
 f330:=func156.trans (congrArg some (by kernel_rfl))
 f331:=func157.trans (congrArg some (by kernel_rfl))
 f332:=func158.trans (congrArg some (by kernel_rfl))
 f343:=func181.trans (congrArg some (by kernel_rfl))
 t0:=underlying0
 a0:=isAgg0
 z0:=sizeOf0
 v0:=zeroValue0
 t3:=underlying3
 a3:=isAgg3
 z3:=sizeOf3
 v3:=zeroValue3
 t4:=underlying4
 a4:=isAgg4
 z4:=sizeOf4
 v4:=zeroValue4
 t5:=underlying5
 a5:=isAgg5
 z5:=sizeOf5
 v5:=zeroValue5
 t9:=underlying9
 a9:=isAgg9
 z9:=sizeOf9
 v9:=zeroValue9
 t28:=underlying23
 a28:=isAgg23
 z28:=sizeOf23
 v28:=zeroValue23
 t46:=underlying160
 a46:=isAgg160
 z46:=sizeOf160
 v46:=zeroValue160
 t51:=underlying195
 a51:=isAgg195
 z51:=sizeOf195
 v51:=zeroValue195
 t53:=underlying130
 a53:=isAgg130
 z53:=sizeOf130
 v53:=zeroValue130
 t131:=underlying192
 a131:=isAgg192
 z131:=sizeOf192
 v131:=zeroValue192
 t182:=underlying187
 a182:=isAgg187
 z182:=sizeOf187
 v182:=zeroValue187
 t183:=underlying188
 a183:=isAgg188
 z183:=sizeOf188
 v183:=zeroValue188
 t218:=underlying223
 a218:=isAgg223
 z218:=sizeOf223
 v218:=zeroValue223
 t222:=underlying227
 a222:=isAgg227
 z222:=sizeOf227
 v222:=zeroValue227
 t228:=underlying261
 a228:=isAgg261
 z228:=sizeOf261
 v228:=zeroValue261
 t229:=underlying127
 a229:=isAgg127
 z229:=sizeOf127
 v229:=zeroValue127 }
open Go.Sort Go.RowKit in
theorem Tryz.slices_Sort_int (blk off cap:Nat) (zs:List Int) (w:World) (hH:Holds (Value.int .i64) w blk off zs.toArray) (hblk:blk<w.heap.size) (hsz:zs.length<4611686018427387904) :
  Calls prog 65 #[.slice (some ⟨blk,off,none⟩) zs.length cap] w fun e w'=>
   e=.returned (.tuple #[])∧∃n os,w'=grow (putRow (Value.int .i64) (Sort.ahead w n) blk off (zs.mergeSort fun x y=>decide (x≤y)).toArray) os:=Any.slices_Sort_int Tryz.lays189 blk off cap zs w hH hblk hsz
def Tryz.lays200_ren:Go.Shelf.Ren:=⟨fun|200=>91|261=>128|311=>160|312=>161|n=>n,fun|21=>21|4=>4|51=>195|5=>5|119=>197|0=>0|141=>199|196=>232|193=>229|3=>3|198=>234|49=>39|194=>230|201=>237|226=>263|46=>160|227=>264|n=>n,fun|7=>0|8=>1|n=>n⟩
theorem Tryz.lays200:Go.Proofs.Lays.n200 prog Tryz.lays200_ren:={
 mixed:=by kernel_rfl
 f200:=func91.trans (congrArg some (by kernel_rfl))
 f261:=func128.trans (congrArg some (by kernel_rfl))
 f311:=func160.trans (congrArg some (by kernel_rfl))
 f312:=func161.trans (congrArg some (by kernel_rfl))
 t0:=underlying0
 a0:=isAgg0
 z0:=sizeOf0
 v0:=zeroValue0
 t3:=underlying3
 a3:=isAgg3
 z3:=sizeOf3
 v3:=zeroValue3
 t4:=underlying4
 a4:=isAgg4
 z4:=sizeOf4
 v4:=zeroValue4
 t5:=underlying5
 a5:=isAgg5
 z5:=sizeOf5
 v5:=zeroValue5
 t21:=underlying21
 a21:=isAgg21
 z21:=sizeOf21
 v21:=zeroValue21
 t46:=underlying160
 a46:=isAgg160
 z46:=sizeOf160
 v46:=zeroValue160
 t49:=underlying39
 a49:=isAgg39
 z49:=sizeOf39
 v49:=zeroValue39
 t51:=underlying195
 a51:=isAgg195
 z51:=sizeOf195
 v51:=zeroValue195
 t119:=underlying197
 a119:=isAgg197
 z119:=sizeOf197
 t141:=underlying199
 a141:=isAgg199
 z141:=sizeOf199
 v141:=zeroValue199
 t193:=underlying229
 a193:=isAgg229
 z193:=sizeOf229
 v193:=zeroValue229
 t194:=underlying230
 a194:=isAgg230
 z194:=sizeOf230
 v194:=zeroValue230
 t196:=underlying232
 a196:=isAgg232
 z196:=sizeOf232
 v196:=zeroValue232
 t198:=underlying234
 a198:=isAgg234
 z198:=sizeOf234
 v198:=zeroValue234
 t201:=underlying237
 a201:=isAgg237
 z201:=sizeOf237
 v201:=zeroValue237
 t226:=underlying263
 a226:=isAgg263
 z226:=sizeOf263
 v226:=zeroValue263
 t227:=underlying264
 a227:=isAgg264
 z227:=sizeOf264
 v227:=zeroValue264
 g7:=by kernel_rfl
 g8:=by kernel_rfl }
open Go.RowKit Go.Lib in
theorem Tryz.unicode_IsLetter_all (r:Int) (w:World) (hlo:-2147483648≤r) (hhi:r≤2147483647) (htab:Lib.TabIs prog w "unicode.properties" .u8 Lib.propertiesTab) (hV:RVar 1 letterT w) :
  Calls prog 91 #[.int .i32 r] w fun e w'=>e=.returned (.bool (isLetterU r))∧Below w.heap.size w w':=Any.unicode_IsLetter_all Tryz.lays200 (by kernel_rfl) r w hlo hhi htab hV
def Tryz.lays107_ren:Go.Shelf.Ren:=⟨fun|107=>68|108=>90|n=>n,fun|28=>23|3=>3|4=>4|0=>0|n=>n,fun|n=>n⟩
def Tryz.lays112_ren:Go.Shelf.Ren:=⟨fun|112=>89|n=>n,fun|28=>23|3=>3|4=>4|0=>0|n=>n,fun|n=>n⟩
theorem Tryz.lays112:Go.Proofs.Lays.n112 prog Tryz.lays112_ren:={
 mixed:=by kernel_rfl
 f112:=func89.trans (congrArg some (by kernel_rfl))
 t0:=underlying0
 a0:=isAgg0
 z0:=sizeOf0
 v0:=zeroValue0
 t3:=underlying3
 a3:=isAgg3
 z3:=sizeOf3
 v3:=zeroValue3
 t4:=underlying4
 a4:=isAgg4
 z4:=sizeOf4
 v4:=zeroValue4
 t28:=underlying23
 a28:=isAgg23
 z28:=sizeOf23
 v28:=zeroValue23 }
open Go.RowKit Go.Lib Go.Sort in
theorem Tryz.slices_Reverse_int (blk off cap:Nat) (zs:List Int) (w:World) (hH:Holds (Value.int .i64) w blk off zs.toArray) (hsz:zs.length≤9223372036854775807) :
  Calls prog 89 #[.slice (some ⟨blk,off,none⟩) zs.length cap] w fun e w'=>e=.returned (.tuple #[])∧∃n,w'=putRow (Value.int .i64) (Sort.ahead w n) blk off zs.reverse.toArray:=Any.slices_Reverse_int Tryz.lays112 blk off cap zs w hH hsz
open Go.RowKit Go.Lib Go.Sort in
theorem Tryz.slices_Reverse_int_empty (a:Option Addr) (cap:Nat) (w:World) :
  Calls prog 89 #[.slice a 0 cap] w fun e w'=>e=.returned (.tuple #[])∧w'=w:=Any.slices_Reverse_int_empty Tryz.lays112 a cap w
open Go.RowKit Go.Sort in
theorem Tryz.slices_Sort_int_none (p:Option Addr) (cap:Nat) (w:World) :
  Calls prog 65 #[.slice p 0 cap] w fun e w'=>e=.returned (.tuple #[])∧w'=w:=Any.slices_Sort_int_none Tryz.lays189 p cap w
end Go.Proofs
namespace Go.Proofs.YtjpnhkmfhlnpcaaGreatDoor
section
open Go.Proofs.Tryz
open Go.Proofs
variable {E:World}
set_option maxRecDepth 20000
theorem oW (l:List Int) (i:Nat) (T:TypeId) (hl:l.length≤200000):bV prog E 89 [.own i l.length] [(i,.grow 1 T (cI l))] fun r O=>r=.tup []∧O=[(i,.grow 1 T (cI l.reverse))]:=
 bV.turned (g:=List.reverse) (B:=200001) func89 rfl (by decide) (fun l=>List.length_reverse) (fun blk cap zs w hH _ hz=>(Tryz.slices_Reverse_int blk 0 cap zs w hH (by omega)).mono fun e w' ⟨h1,n,h2⟩=>⟨h1,n,#[],by rw[h2,Go.Sort.grow_empty]⟩)
  (fun cap w=>Tryz.slices_Reverse_int_empty none cap w) rfl (by omega)
theorem xv (l:List Int) (i:Nat) (T:TypeId) (hl:l.length≤200000):bV prog E 65 [.own i l.length] [(i,.grow 1 T (cI l))] fun r O=>r=.tup []∧O=[(i,.grow 1 T (cI (kw l)))]:=
 bV.turned (g:=kw) (B:=200001) func65 rfl (by decide) (fun l=>(eJ l).length_eq) (fun blk cap zs w hH hb hz=>Tryz.slices_Sort_int blk 0 cap zs w hH hb (by omega))
  (fun cap w=>Tryz.slices_Sort_int_none none cap w) rfl (by omega)
end
end Go.Proofs.YtjpnhkmfhlnpcaaGreatDoor
