/- The document's ranges. Of int64s. -/
import Derived.Test.YtbbonnfjealmpaaGreatDoorZXa
import Derived.Laws.BytesArg
import Derived.ProofKit
import Derived.OpenShut
import Derived.Deep.Matrix
import Derived.Lib.LaidU8
import Derived.Lib.LaidTab
import Derived.MapKept
import Derived.WideMake
import Derived.Laws.Cover4
import Derived.WideLaws
import Derived.Lib.AppendZeros
import Derived.Lib.Builder
import Derived.Lib.AppendStr
import Derived.Lib.UnsafeStr
import Derived.Laws.Externs
set_option linter.unusedVariables false
set_option linter.unusedSimpArgs false
set_option linter.unusedSectionVars false
namespace Go.Proofs.YtbbonnfjealmpaaGreatDoor
section
open Go.Proofs.Tryz
open Go.Proofs
theorem Kd:dp prog 222 46 1 1 [.int .i64 0]:=⟨_,underlying222,X5,zeroValue46,by decide,by decide,by kernel_rfl⟩
variable {E:World}
set_option maxRecDepth 20000
structure lg where
 name:ByteArray
 ty:Int
deriving DecidableEq
structure dh where
 dst:Int
 args:List Int
 w:List Int
deriving DecidableEq
structure aB where
 op:Int
 dst:Int
 args:List Int
 num:Int
deriving DecidableEq
structure fJ where
 kind:Int
 var:Int
 to0:Int
 to1:Int
deriving DecidableEq
structure aF where
 name:ByteArray
 p:List dh
 s:List aB
 t:fJ
deriving DecidableEq
structure ab where
 v:List lg
 z:List Int
 q:List aF
deriving DecidableEq
def b7 (x:Int):List AV:=[.i x]
def bO (v:lg):List AV:=[.str v.name,.i v.ty]
def dQ (p:dh):List AV:=[.i p.dst,.fro 1 (p.args.map b7),.fro 1 (p.w.map b7)]
def bu (x:aB):List AV:=[.i x.op,.i x.dst,.fro 1 (x.args.map b7),.i x.num]
def sy (t:fJ):List AV:=[.i t.kind,.i t.var,.i t.to0,.i t.to1]
def bK (b:aF):List AV:=[.str b.name,.fro 3 (b.p.map dQ),.fro 4 (b.s.map bu),.i b.t.kind,.i b.t.var,.i b.t.to0,.i b.t.to1]
def bH (f:ab):List AV:=[.fro 2 (f.v.map bO),.fro 1 (f.z.map b7),.fro 7 (f.q.map bK)]
theorem sY (op:Int):aS prog E 160 [.i op] (.fro 1 ((aW op).map b7)):=by
 obtain ⟨hasc,_⟩:=sW op;have hl:(aW op).length=(cF op).2.1.size:=by unfold aW;rw[w2];exact Array.length_toList
 have hlen:(aW op).length≤3:=by
  rcases oZ op with h|h
  ·unfold aW;rw[h];decide
  have:∀r∈iJ,r.2.1.data.toList.length≤3:=by decide
  have:=this _ h;unfold aW;simpa using this
 refine zm func160 U (by decide) U<|Z<|X (kT U)<|Y<|Z<|X (kT U)<|Y<|gN (t:=3) (k:=1) (T:=46) U<|fun i3=>za<|Z<|C U<|zb (xu _) U<|X (Gv.field1 (v:=.str _) underlying254 U Ym U U)<|ax.rangeT Zy U<|fun i9=>Y<|zd<|zu (γ:=Nat × Nat) [9] (fun g=>[(3,.j g.2 g.1)]) (fun g=>[(i9,.iter (cF op).2.1 g.1),(g.2,.u 1 46 (((aW op).take g.1).map b7).flatten)]) (fun g=>g.1≤(aW op).length) (fun g=>(aW op).length - g.1) (0,i3) aN aJ (qw _) ?_;rintro ⟨p,i⟩ hp;try dsimp only at *
 try simp only at hp
 by_cases hlt:p<(aW op).length
 ·have hb:p<(cF op).2.1.data.toList.length:=by rw[hl] at hlt;exact hlt
  have hg:(cF op).2.1.data[p]?=some (cF op).2.1.data.toList[p]:=by rw[Array.getElem_toList];exact Array.getElem?_eq_getElem hb
  refine Z<|ax.nextA U hg (hasc _ (qx hb)) .head<|X (Cm U U)<|Y<|za<|ym U U ?_;have ht:(aW op).take (p+1)=(aW op).take p++[fc ((cF op).2.1.data.toList[p]).toNat]:=by
   rw[qu hlt];have:(aW op)[p]=fc ((cF op).2.1.data.toList[p]).toNat:=List.getElem_map _;rw[this]
  refine zc<|zd<|Z<|X (nU U U)<|ap U<|Y<|bZ<|bX U<|C U<|zb (sV _) U<|zw (rows:=[[_]]) Kd U U U U U<|yb (k:=1) underlying222 type46 U U U U U (fun _=>.t1) (by rw[er (k:=1) (fun _=>rfl),w9,Nat.min_eq_left hp]) (by decide) U (by show (_+_)*8≤_;simp<;>omega) (by simp<;>omega)<|fun i17=>X (eO U)<|Y ?_;exact ⟨(p+1,i17),aN,aN,⟨_,(.refl _),by rw[←ft ht];rfl⟩,hlt,by simp only;omega⟩
 refine Z<|ax.nextTover U .head (by rw[←hl];exact hlt)<|X (Cm U U)<|Y<|za<|yl U U ?_;have hkn:p=(aW op).length:=by omega
 subst hkn;rw[qy];refine zt<|Z<|bX U<|X (eO U)<|Y<|zf ?_
 repeat (first|refine ad ?_|refine aa ?_)
 refine yv (aR.know (t:=2) (rows:=(aW op).map b7) U .t1 (by first|(intro r hr;obtain ⟨x,_,rfl⟩:=List.mem_map.1 hr;rfl)|simp[b7,bO,dQ,bu,bK]) (by decide) (by simp))<|yz (x:=.fro _ _) U ?_
 rfl
theorem sZ (op:Int):aS prog E 161 [.i op] (.tup [.i (dq op),.bool (bF op)]):=by
 obtain ⟨_,hasc⟩:=sW op;refine zm func161 U (by decide) U<|Z<|ap U<|ah U<|Y<|za<|Z<|C U<|zb (xu _) U<|X (Gv.field1 (v:=.str _) underlying254 U Ym U U)<|ax.rangeT Zy U<|fun i9=>Y<|zd<|zu (γ:=Unit) [9] (fun g=>[]) (fun g=>[(i9,.iter (cF op).2.2 0)]) (fun g=>True) (fun g=>0) () trivial aJ (trivial) ?_;rintro _ _
 by_cases hlt:∃c0 tl,(cF op).2.2.data.toList=c0::tl
 ·obtain ⟨c0,tl,hk⟩:=hlt;have hg:(cF op).2.2.data[0]?=some c0:=by rw[←Array.getElem?_toList,hk];rfl
  refine Z<|ax.nextA U hg (hasc _ (by rw[hk];exact .head _)) .head<|X (Cm U U)<|Y<|za<|ym U U<|zc<|zd<|Z<|X (nU U U)<|ap U<|Y<|Z<|C U<|zb (sV _) U<|ap U<|ah U<|Y<|zf<|ql (x:=.int _ _) (y:=.bool _) U U ?_;unfold dq bF;rw[hk];rfl
 have hk:(cF op).2.2.data.toList=[]:=by
  cases h:(cF op).2.2.data.toList with
  |nil=>rfl
  |cons x l=>exact absurd ⟨x,l,h⟩ hlt
 refine Z<|ax.nextTover U .head (by show ¬0<(cF op).2.2.data.size;rw[←Array.length_toList,hk];decide)<|X (Cm U U)<|Y<|za<|yl U U<|zt<|Z<|ap U<|ah U<|Y<|zf<|ql (x:=.int _ _) (y:=.bool _) U U ?_;unfold dq bF;rw[hk];rfl
def bn (f:ab) (v:Int):Bool:=decide (0≤v)&&decide (v<f.v.length)
def eQ (f:ab) (b:Int):Bool:=decide (0≤b)&&decide (b<f.q.length)
theorem mP (f:ab) (v:Int):aS prog E 191 [.agg (bH f),.i v] (.bool (bn f v)):=by
 refine zm func191 U (by decide) U<|Z<|zx (cs:=_) U U U<|ah U<|Y<|Z<|C U<|X (q7 U U)<|aw U<|zo (s:=7) U (fun c1=>?_) (fun c1=>?_)
 ·refine M U U c1<|C U<|M U U c1<|ao jf U Zs U U<|M U U c1<|aK Y4 U<|M U U c1<|am Z7 U<|M U U c1<|aq U U<|aA U c1 U<|ah U<|Y<|zf ?_
  repeat (first|refine ad ?_|refine aa ?_)
  refine bt U ?_
  simp_all[bn]<;>omega
 refine H U U c1<|H U U c1<|H U U c1<|H U U c1<|H U U c1<|ay U c1 U<|ah U<|Y<|zf ?_
 repeat (first|refine ad ?_|refine aa ?_)
 refine bt U ?_
 simp_all[bn]<;>omega
theorem sC (f:ab) (v:Int):aS prog E 194 [.agg (bH f),.i v] (.bool (eQ f v)):=by
 refine zm func194 U (by decide) U<|Z<|zx (cs:=_) U U U<|ah U<|Y<|Z<|C U<|X (q7 U U)<|aw U<|zo (s:=7) U (fun c2=>?_) (fun c2=>?_)
 ·refine M U U c2<|C U<|M U U c2<|ao jf U Zd U U<|M U U c2<|aK Zf U<|M U U c2<|am jr U<|M U U c2<|aq U U<|aA U c2 U<|ah U<|Y<|zf ?_
  repeat (first|refine ad ?_|refine aa ?_)
  refine bt U ?_
  simp_all[eQ]<;>omega
 refine H U U c2<|H U U c2<|H U U c2<|H U U c2<|H U U c2<|ay U c2 U<|ah U<|Y<|zf ?_
 repeat (first|refine ad ?_|refine aa ?_)
 refine bt U ?_
 simp_all[eQ]<;>omega
def di {α:Type} (p:α→Bool):List α→Nat→Int
 |[],_=>-1
 |x::xs,k=>if p x then k else di p xs (k+1)
theorem gE {α:Type} (p:α→Bool):∀(xs:List α) (k:Nat),decide (0≤di p xs k)=xs.any p
 |[],k=>rfl
 |x::xs,k=>by
  unfold di;rw[List.any_cons];split
  ·rename_i h;rw[h];simp
  rename_i h;simp[h,gE p xs (k+1)]
theorem cH {α:Type} (p:α→Bool):∀(xs:List α) (k:Nat),k≤xs.length→(xs.take k).all (fun x=>!p x)=true→di p xs 0=di p (xs.drop k) k
 |_,0,_,_=>rfl
 |xs,k+1,h,hall=>by
  rw[qu (by omega),List.all_append] at hall;simp only[wc,List.all_cons,List.all_nil,Bool.and_true] at hall;rw[cH p xs k (by omega) hall.1,List.drop_eq_getElem_cons (by omega)];rw[di];rw[if_neg (by simpa using hall.2)]
theorem rZ {p:Int→Bool} {fn:FuncId} {c:List AV} (xs:List Int) (hl:xs.length≤281474976710656) (hp:∀x,aS prog E fn ([.i x]++c) (.bool (p x))) :
  aS prog E 182 [.fro 1 (xs.map b7),.fn fn [] c] (.i (di p xs 0)):=by
 refine zm func182 U (by decide) U<|Z<|ap U<|Y<|za<|Z<|bj U<|am j7 U<|C U<|Y<|zd<|zu (γ:=Nat) [0,1,7] (fun k=>[(8,.i k)]) (fun k=>[]) (fun k=>k≤xs.length∧(xs.take k).all (fun x=>!p x)) (fun k=>xs.length - k) 0 aN aJ (⟨qw _,U⟩) ?_;rintro k ⟨hk,hall⟩;refine Z<|aq U U<|Y<|za<|zh U (fun ck=>?_) (fun ck=>?_)
 ·have hk2:k<xs.length:=by omega
  refine zc<|za<|zd<|Z<|C U<|ap U<|Y<|Z<|X (yn (v:=.fn _ _ _) U)<|bj U<|C U<|X (qf j7 j9 U U U (qt (by omega)))<|aD jg U<|ax.callVP U (hp _) U<|Y<|zq U (fun cp=>?_) (fun cp=>?_)
  ·refine Z<|C U<|ap U<|Y<|zf ?_
   repeat (first|refine ad ?_|refine aa ?_)
   refine gu U ?_;rw[cH p xs k hk hall,List.drop_eq_getElem_cons hk2,di,if_pos cp]
  refine zc<|bQ U U ?_;exact ⟨k+1,eX,aN,aJ,⟨hk2,by rw[qu hk2,List.all_append,hall];simp[cp]⟩,by omega⟩
 have hkn:k=xs.length:=by omega
 refine zt<|Z<|ap U<|Y<|zf ?_
 repeat (first|refine ad ?_|refine aa ?_)
 refine gu U ?_;rw[cH p xs k hk hall,hkn,List.drop_length,di]
theorem jY {p:Int→Bool} {fn:FuncId} {c:List AV} (xs:List Int) (hl:xs.length≤281474976710656) (hp:∀x,aS prog E fn ([.i x]++c) (.bool (p x))) :
  aS prog E 140 [.fro 1 (xs.map b7),.fn fn [] c] (.bool (xs.any p)):=by
 refine zm func140 U (by decide) U<|Z<|ah U<|Y<|Z<|bj U<|X (yn (v:=.fn _ _ _) U)<|zb (rZ xs hl hp) U<|X (q7 U U)<|ah U<|Y<|zf ?_
 repeat (first|refine ad ?_|refine aa ?_)
 refine bt U ?_;rw[gE]
theorem Cu (f:ab) (v:Int):aS prog E 216 ([.i v]++[.pf (bH f)]) (.bool (!bn f v)):=by
 refine zm func216 U (by decide) U<|Z<|ah U<|Y<|Z<|ae Z2 jk U U<|C U<|zb (mP _ _) U<|aL U<|ah U<|Y<|zf ?_
 repeat (first|refine ad ?_|refine aa ?_)
 refine bt U ?_
 rfl
theorem wj (f:ab) (l:List Int) (hl:l.length≤281474976710656):aS prog E 192 [.agg (bH f),.fro 1 (l.map b7)] (.bool (l.all (bn f))):=by
 refine zm func192 U (by decide) U<|Z<|zx (cs:=_) U U U<|ah U<|Y<|Z<|bj U<|X (Gv.func U U)<|zb (jY l hl (Cu f)) U<|aL U<|ah U<|Y<|zf ?_
 repeat (first|refine ad ?_|refine aa ?_)
 refine bt U ?_;rw[List.any_eq_not_all_not];simp
end
section
open Go.Proofs.Tryz
open Go.Proofs
variable {E:World}
set_option maxRecDepth 20000
def s7 {α:Type} (l:List α):Prop:=l.length≤140737488355328
def DT (p:dh):Prop:=s7 p.args∧s7 p.w
def N0 (b:aF):Prop:=s7 b.p∧s7 b.s∧(∀p∈b.p,DT p)∧(∀x∈b.s,s7 x.args)
def xx (f:ab):Prop:=s7 f.v∧s7 f.z∧s7 f.q∧∀b∈f.q,N0 b
theorem s7.lt {α:Type} {l:List α} (h:s7 l):l.length≤140737488355328:=h
theorem jb {x y:Bool} (h:x=y):AV.bool x=AV.bool y:=congrArg AV.bool h
theorem Mn (k:Nat):∀I v,bW I .n v→bW I (.fro k []) v:=fun _ _ h=>⟨none,0,0,h,rfl,Nat.le_refl _,fun _=>rfl,trivial⟩
theorem Mo (a b c d:Int) (w:World) (m:Nat):(Op.equalIn (m+2) 54 (.agg [.int .i64 a,.int .i64 b].toArray) (.agg [.int .i64 c,.int .i64 d].toArray)).run prog w=.ok (decide (a=c∧b=d)) w:=by
 rw[Op.equalIn];simp only[Sem.run_bind,run_underlying Z8,Result.andThen_ok];simp only[Std.Legacy.Range.forIn_eq_forIn_range',Std.Legacy.Range.size,Nat.sub_zero,Nat.add_sub_cancel,Nat.div_one,List.range'_succ,List.range'_zero,List.forIn_cons,List.forIn_nil];simp[part,jg,j9,run_equalIn_int,X0]
 by_cases h1:a=c<;>by_cases h2:b=d<;>simp[h1,h2]
theorem rv (xs ys:List Int) (hl:s7 xs):aS prog E 78 [.fro 1 (xs.map b7),.fro 1 (ys.map b7)] (.bool (decide (xs=ys))):=by
 have hl:=hl.lt;refine zm func78 U (by decide) U<|Z<|ah U<|Y<|za<|Z<|bj U<|am j7 U<|bj U<|am j7 U<|aT U U<|Y<|zq U (fun c0=>?_) (fun c0=>?_)
 ·have h:¬xs=ys:=fun e=>by subst e;simp at c0
  refine Z<|ah U<|Y<|zf ?_
  repeat (first|refine ad ?_|refine aa ?_)
  refine bt U ?_;rw[wb h]
 have hl2:xs.length=ys.length:=by simp at c0;omega
 refine zc<|za<|Z<|bj U<|am j7 U<|C U<|Y<|zd<|zu (γ:=Nat) [0,1,12] (fun k=>[(13,.i k)]) (fun k=>[]) (fun k=>k≤xs.length∧xs.take k=ys.take k) (fun k=>xs.length - k) 0 aN aJ (⟨qw _,U⟩) ?_;rintro k ⟨hk,he⟩;refine Z<|aq U U<|Y<|za<|zh U (fun ck=>?_) (fun ck=>?_)
 ·have hk2:k<xs.length:=by omega
  have hk3:k<ys.length:=by omega
  refine zc<|za<|zd<|Z<|C U<|ap U<|Y<|za<|zn (fun j=>false) (by kernel_rfl) U (zk (.rest _))<|D 0 U (zJ U)<|D 1 U (dC U)<|D 2 U (qf j7 j9 U U U (qt (by omega)))<|D 3 U (d9 jg U)<|D 4 U (zJ U)<|D 5 U (dC U)<|D 6 U (qf j7 j9 U U U (qt (by omega)))<|D 7 U (d9 jg U)<|D 8 U (Gv.neqI U U)<|dS<|zq U (fun cd=>?_) (fun cd=>?_)
  ·refine Z<|ah U<|Y<|zf ?_
   repeat (first|refine ad ?_|refine aa ?_)
   refine bt U ?_;rw[wb (NY hk2 hk3 (by simpa using cd))]
  refine zc<|bQ U U ?_;exact ⟨k+1,eX,aN,aJ,⟨hk2,E3 hk2 hk3 he (by simpa using cd)⟩,by omega⟩
 refine zt<|Z<|ah U<|Y<|zf ?_
 repeat (first|refine ad ?_|refine aa ?_)
 refine bt U ?_;rw[wa (E4 hl2 (by omega) he)]
end
section
open Go.Proofs.Tryz
section
variable {E:World} {P:Program} {env:aU} {O:OL} {d ty:Nat} {pos:String} {af:Array Edge} {x y:Operand} {t u e:TypeId}
theorem Gv.rem {k:IntKind} {a b:Int} (hx:bd env x=.int k a) (hy:bd env y=.int k b) (hb:b≠0):Gv P env O (Oper.mk (some d) (.binOp .rem t x y u) ty pos af none) (.int k (a.tmod b)):=Gv.ofEv fun I ρ h=>⟨_,rfl,fun w=>by
 rw[cR (gV h hx) (gV h hy) (by decide) (by decide)];simp[binOp,Op.intDiv,hb]⟩
theorem Gv.quo {k:IntKind} {a b:Int} (hx:bd env x=.int k a) (hy:bd env y=.int k b) (hb:b≠0):Gv P env O (Oper.mk (some d) (.binOp .quo t x y u) ty pos af none) (.int k (k.wrap (a.tdiv b))):=Gv.ofEv fun I ρ h=>⟨_,rfl,fun w=>by
 rw[cR (gV h hx) (gV h hy) (by decide) (by decide)];simp[binOp,Op.intDiv,hb]⟩
theorem Gv.neg {k:IntKind} {a:Int} (hx:bd env x=.int k a):Gv P env O (Oper.mk (some d) (.unOp .neg t x) ty pos af none) (.int k (k.wrap (0 - a))):=Gv.ofEv fun I ρ h=>⟨_,rfl,fun w=>by
 simp[execOp,gV h hx,Op.unary,Op.intArith]⟩
theorem Gv.conv {k k':IntKind} {a:Int} {ds:TypeDesc} {src dst:TypeId} (hs:P.underlying src=some ds) (hd:P.underlying dst=some (.int k')) (hx:bd env x=.int k a):Gv P env O (Oper.mk (some d) (.convert src dst x) ty pos af none) (.int k' (k'.wrap a)):=Gv.ofEv fun I ρ h=>⟨_,rfl,fun w=>by
 simp only[execOp,gV h hx];cases ds<;>simp[convert,run_underlying hs,run_underlying hd,Conv.intToInt]⟩
def Mp (n:Int):List AV:=[.int .u8 n]
theorem Gv.convBytes {ns:List Int} {src dst e:TypeId} (hs:P.underlying src=some (.slice e)) (he:P.underlying e=some (.int .u8)) (hd:P.underlying dst=some .string) (hx:bd env x=.fro 1 (ns.map Mp)) :
  Gv P env O (Oper.mk (some d) (.convert src dst x) ty pos af none) (.str (strOfNums ns)):=fun I L E ρ h1 _=>by
 have h2:=h1.ev x;rw[hx] at h2;obtain ⟨a,n,c,e1,hn,hnc,hnil,hr⟩:=h2;rw[w2] at hn;refine ⟨_,U,fun w J L' hl hS _=>?_⟩;simp only[execOp,e1];cases a with
 |none=>
  have hc:=hnil rfl;have:ns=[]:=w6 (by omega);subst this;have:=run_convert_bytes_nil (P:=P) w src e hs he n c dst hd;rw[Sem.run_bind,this];rfl
 |some p=>
  cases ns with
  |nil=>
   simp at hn;subst hn;have h:=run_convert_bytes_string (P:=P) w src dst e (some p) 0 c hs he hd;have h2:=run_bytesToString (P:=P) w p 0 c [] (by simp[loadCells,loadCellsFrom]);rw[Sem.run_bind,h,h2];rfl
  |cons m ms=>
   obtain ⟨b,off,_,ep,_⟩:=hr.get (j:=0) (r:=Mp m) rfl;cases ep;have:=run_convert_bytes_arg (P:=P) w src e hs he b off n c (m::ms) hn.symm (fun i hi=>by
    obtain ⟨b',off',l,ep,hk,hl2,hat⟩:=hr.get (j:=i) (r:=Mp ((m::ms).getD i 0)) (by
     rw[w3,qt (by omega)];simp[List.getD_eq_getElem?_getD,qt (show i<(m::ms).length by omega)])
    cases ep;obtain ⟨v,us,rfl,hv,_⟩:=hl2;have hv:v=.int .u8 ((m::ms).getD i 0):=hv;subst hv;have:=hS.at_ (((hat 0 _ rfl).mono hl).at_ _)
    simpa using this) dst hd
   rw[Sem.run_bind,this];rfl
end
section
variable {E:World} {P:Program} {n:Nat} {l:List Oper} {W:Nat→Bool} {Q:aU→OL→Prop} {fuel:Nat} {listed:Array Bool} {env:aU} {O Os Om:OL}
theorem bJ.two {i j:Nat} {o o':Oper} (hi:l[i]?=some o) (hj:l[j]?=some o') (hr:Region.ready .any l.toArray listed=[i,j])
  (h:ax P E l.toArray (fun env' Om'=>bJ P E l W Q fuel (listed.setIfInBounds i true) env' Os Om') [o] env Om)
  (h':ax P E l.toArray (fun env' Om'=>bJ P E l W Q fuel (listed.setIfInBounds j true) env' Os Om') [o'] env Om):bJ P E l W Q (fuel+1) listed env Os Om:=fun I F ρ w Ls h1 hLs h2=>by
 have key:∀k ok,ax P E l.toArray (fun env' Om'=>bJ P E l W Q fuel (listed.setIfInBounds k true) env' Os Om') [ok] env Om →
   bL P l.toArray (fun ρ' w'=>(eY I.k [] E w'∧(gg W (listed.setIfInBounds k true)∨eY I.k Ls E w'))∧dn P l.toArray (eY I.k [] E) (eY I.k Ls E) W (dB I F E Q) fuel (listed.setIfInBounds k true) ρ' w') [ok] ρ w:=fun k ok h=>
  bL.mono (fun ρ' w' ⟨J,env',Om',a,b,c,d⟩=>by
   have hst:eY I.k Ls E w':=by
    obtain ⟨J',L',h3,h4,h5⟩:=c.here;exact ⟨J',L',a.k.trans h3,h4,h5⟩
   refine ⟨⟨hst.less,.inr hst⟩,dn.mono ?_ ?_ (fun _ _=>dB.up a) _ _ _ _ (d J F ρ' w' Ls b (hLs.mono a) c)⟩
   ·rintro w ⟨J',L',h3,h4⟩;exact ⟨J',L',a.k.trans h3,h4⟩
   rintro w ⟨J',L',h3,h4⟩;exact ⟨J',L',a.k.trans h3,h4⟩) _ _ _ (h I (Ls++F) ρ w h1 h2)
 refine ⟨fun h0=>(by rw[hr] at h0;cases h0),fun k hk o2 ho2=>?_⟩;rw[hr] at hk;simp only[List.mem_cons,List.not_mem_nil,or_false] at hk;rw[List.getElem?_toArray] at ho2;rcases hk with rfl|rfl
 ·rw[hi] at ho2;cases ho2;exact key _ _ h
 rw[hj] at ho2;cases ho2;exact key _ _ h'
end
section
variable {E:World} {P:Program} {n:Nat} {l:List Oper} {W:Nat→Bool} {Q:aU→OL→Prop} {fuel:Nat} {listed:Array Bool} {env:aU} {O Os Om:OL}
theorem bJ.three {i j m:Nat} {o o' o'':Oper} (hi:l[i]?=some o) (hj:l[j]?=some o') (hm:l[m]?=some o'') (hr:Region.ready .any l.toArray listed=[i,j,m])
  (h:ax P E l.toArray (fun env' Om'=>bJ P E l W Q fuel (listed.setIfInBounds i true) env' Os Om') [o] env Om)
  (h':ax P E l.toArray (fun env' Om'=>bJ P E l W Q fuel (listed.setIfInBounds j true) env' Os Om') [o'] env Om)
  (h'':ax P E l.toArray (fun env' Om'=>bJ P E l W Q fuel (listed.setIfInBounds m true) env' Os Om') [o''] env Om):bJ P E l W Q (fuel+1) listed env Os Om:=fun I F ρ w Ls h1 hLs h2=>by
 have key:∀k ok,ax P E l.toArray (fun env' Om'=>bJ P E l W Q fuel (listed.setIfInBounds k true) env' Os Om') [ok] env Om →
   bL P l.toArray (fun ρ' w'=>(eY I.k [] E w'∧(gg W (listed.setIfInBounds k true)∨eY I.k Ls E w'))∧dn P l.toArray (eY I.k [] E) (eY I.k Ls E) W (dB I F E Q) fuel (listed.setIfInBounds k true) ρ' w') [ok] ρ w:=fun k ok h=>
  bL.mono (fun ρ' w' ⟨J,env',Om',a,b,c,d⟩=>by
   have hst:eY I.k Ls E w':=by
    obtain ⟨J',L',h3,h4,h5⟩:=c.here;exact ⟨J',L',a.k.trans h3,h4,h5⟩
   refine ⟨⟨hst.less,.inr hst⟩,dn.mono ?_ ?_ (fun _ _=>dB.up a) _ _ _ _ (d J F ρ' w' Ls b (hLs.mono a) c)⟩
   ·rintro w ⟨J',L',h3,h4⟩;exact ⟨J',L',a.k.trans h3,h4⟩
   rintro w ⟨J',L',h3,h4⟩;exact ⟨J',L',a.k.trans h3,h4⟩) _ _ _ (h I (Ls++F) ρ w h1 h2)
 refine ⟨fun h0=>(by rw[hr] at h0;cases h0),fun k hk o2 ho2=>?_⟩;rw[hr] at hk;simp only[List.mem_cons,List.not_mem_nil,or_false] at hk;rw[List.getElem?_toArray] at ho2;rcases hk with rfl|rfl|rfl
 ·rw[hi] at ho2;cases ho2;exact key _ _ h
 ·rw[hj] at ho2;cases ho2;exact key _ _ h'
 rw[hm] at ho2;cases ho2;exact key _ _ h''
end
theorem aX.know {E:World} {P:Program} {f:FuncId} {as0:List AV} {O:OL} {R R':AV→OL→Prop} (h:aX P E f as0 O R) (hr:∀I F w v x O',R x O'→bW I x v→iT I O' F E w→∃J y O'',I.le J∧bW J y v∧iT J O'' F E w∧R' y O''):aX P E f as0 O R':=fun I F w vs h1 h2=>
 (h I F w vs h1 h2).mono fun v w' ⟨J,x,O',a,b,c,d⟩=>by
  obtain ⟨K,y,O'',e1,e2,e3,e4⟩:=hr J F w' v x O' d b c;exact ⟨K,y,O'',a.trans e1,e2,e3,e4⟩
theorem dI.perm {O O':OL} {i:Nat} {o:bC} (h:dI O i o O'):O.Perm ((i,o)::O'):=by
 induction h with
 |head=>exact .refl _
 |tail _ ih=>exact (ih.cons _).trans (.swap _ _ _)
section
variable {E:World} {P:Program} {f:FuncId} {as0:List AV} {O:OL}
theorem aX.exact {γ:Type} {x:γ→AV} {Mq0:γ→OL} {p:γ→Prop} (h:aX P E f as0 O (fun y O'=>∃g,y=x g∧Left O' (Mq0 g)∧p g)):aX P E f as0 O (fun y O'=>∃g,y=x g∧O'=Mq0 g∧p g):=
 h.know fun I F w v y O' ⟨g,e,hl,hp⟩ h1 h2=>⟨I,y,Mq0 g,.refl _,h1,hl.sla h2,g,e,rfl,hp⟩
end
end
section
open Go.Proofs.Tryz
open Go.ChangeShapes Go.WideShapes Go.ChangeAt Go.RowKit Go.Deep
def full (W:World):bT:=fun b=>W.heap[b]?
theorem Ke (W:World):SL (full W) [] W W:=⟨rfl,rfl,rfl,fun _ _ h=>h,by simp,by simp,by simp,fun _ _ h=>h,(fun _ _ h h2=>by rw[show W.heap[_]?=some _ from h] at h2;cases h2),by simp⟩
def I0 (W:World):G:=⟨full W,fun _=>none⟩
theorem s8 {W:World} {p:Addr} {v:Value} (h:W.cell? p=some v):p=⟨p.block,p.off,none⟩∧GR (full W) p.block p.off v:=by
 unfold World.cell? at h;split at h
 ·rename_i c t f hb;split at h
  ·cases h
  rename_i hs;have:p.spot=none:=by simpa using hs
  obtain ⟨b,o,s⟩:=p;simp only at this;subst this;exact ⟨rfl,⟨c,t,f,hb,h⟩⟩
 cases h
def jZ (P:Program) (W:World) (T:TypeId) {α:Type} (enc:α→List AV) (ok:α→Prop):Prop:=
 ∀{Hq0:Type} (e:TypeId × Value→Hq0) (held:Bool) (fuel:Nat) (cs:List Value) (x:DataW Hq0 × List MemPlace),DataW.trod e P W 0 (fun _=>true) held fuel T cs=some x→∃a,ok a∧RepL (I0 W) (enc a) cs
section
variable {P:Program} {W:World} {T e:TypeId}
theorem jZ.int {k:IntKind} (hu:P.underlying T=some (.int k)):jZ P W T (fun x:Int=>[.int k x]) (fun x=>(Lit.int k x).wf=true):=fun _ _ _ _ _ h=>by
 obtain ⟨n,rfl,_,hw⟩:=DataW.trod_int hu h;exact ⟨n,hw,_,_,rfl,rfl,rfl⟩
theorem jZ.bool (hu:P.underlying T=some .bool):jZ P W T (fun x:Bool=>[.bool x]) (fun _=>True):=fun _ _ _ _ _ h=>by
 obtain ⟨n,rfl,_⟩:=DataW.trod_bool hu h;exact ⟨n,trivial,_,_,rfl,rfl,rfl⟩
theorem jZ.str (hu:P.underlying T=some .string):jZ P W T (fun x:ByteArray=>[.str x]) (fun x=>x.size≤maxLen):=fun _ _ _ _ _ h=>by
 obtain ⟨n,rfl,_,hw⟩:=DataW.trod_string hu h;exact ⟨n,hw,_,_,rfl,rfl,rfl⟩
theorem jZ.slice {α:Type} {enc:α→List AV} {ok:α→Prop} {k:Nat} (ht:P.underlying T=some (.slice e)) (he:jZ P W e enc ok) (hk:P.cellsOf e=k) (hk0:0<k) :
  jZ P W T (fun xs:List α=>[.fro k (xs.map enc)]) (fun xs=>(∀x∈xs,ok x)∧xs.length≤maxLen):=fun en held fuel cs x h=>by
 rcases open_slice ht h with ⟨rfl,_⟩|⟨a,len,cap,m,n,Dq0,Pl,rfl,_,hl,hc,hm,_,hr⟩
 ·exact ⟨[],⟨by simp,qw _⟩,_,_,rfl,⟨none,0,0,rfl,rfl,Nat.le_refl _,fun _=>rfl,trivial⟩,rfl⟩
 simp only[if_true] at hm;have each:∀i,i<len→∃y:α,ok y∧∃vs:List Value,vs.length=k∧RepL (I0 W) (enc y) vs∧∀j (u:Value),vs[j]?=some u→W.cell? (a.add (i*k+j))=some u:=by
  intro i hi;obtain ⟨cs,h1,h2⟩:=hr i (by omega);rw[hk] at h1;obtain ⟨_,hcl,hat⟩:=World.cells?_some h1;obtain ⟨y,hy,hrep⟩:=he en held n cs _ h2;refine ⟨y,hy,cs,hcl,hrep,fun j u hu=>?_⟩;have hj:j<k:=by have:=(List.getElem?_eq_some_iff.1 hu).1;omega
  have:=hat j hj;rw[Go.Deep.add_add] at this;rw[this,hu]
 by_cases h0:len=0
 ·subst h0;exact ⟨[],⟨by simp,qw _⟩,_,_,rfl,⟨some a,0,cap,rfl,rfl,qw _,fun h=>by (cases h),trivial⟩,rfl⟩
 obtain ⟨y0,_⟩:=each 0 (by omega);have:Inhabited α:=⟨y0⟩;obtain ⟨Yq0,hY⟩:=choose_lt each;have ha:a=⟨a.block,a.off,none⟩:=by
  obtain ⟨_,vs,hvl,_,hat⟩:=hY 0 (by omega);have:=hat 0 _ (qt (show 0<vs.length by omega));rw[Nat.zero_mul] at this;exact (s8 (by simpa [Addr.add] using this)).1
 refine ⟨(List.range len).map Yq0,⟨?_,by simp;omega⟩,_,_,U,⟨some a,len,cap,U,by simp,hl,fun h=>by (cases h),RepR.intro fun j r hj=>?_⟩,U⟩
 ·intro x hx;obtain ⟨i,hi,rfl⟩:=List.mem_map.1 hx;exact (hY i (by simpa using hi)).1
 rw[w3,w3] at hj;have hjl:j<len:=by
  rcases Nat.lt_or_ge j len with h|h
  ·exact h
  rw[List.getElem?_eq_none (by simpa using h)] at hj;cases hj
 rw[List.getElem?_range hjl] at hj;simp only[Option.map_some,Option.some.injEq] at hj;subst hj;obtain ⟨_,vs,hvl,hrep,hat⟩:=hY j hjl;refine ⟨a.block,a.off,vs,by rw[←ha],hvl,hrep,fun i u hu=>?_⟩;have:=hat i u hu;rw[ha,ec] at this;have:=(s8 this).2;rw[Nat.zero_add,Nat.add_assoc];exact this
theorem RepL.fld {I:G} {cs:List Value} {e es:List AV} {o k:Nat} (h1:RepL I e ((cs.drop o).take k)) (h2:RepL I es (cs.drop (o+k))):RepL I (e++es) (cs.drop o):=by
 have:=h1.append h2
 rwa [←List.drop_drop,List.take_append_drop] at this
theorem RepL.fin {I:G} {cs:List Value} {o:Nat} (h:cs.length=o):RepL I [] (cs.drop o):=List.drop_eq_nil_of_le (by omega)
theorem jZ.at {α:Type} {enc:α→List AV} {ok:α→Prop} {f:Field} {Hq0:Type} {en:TypeId × Value→Hq0} {held:Bool} {n o k i:Nat} {cs:List Value} {xs:List (DataW Hq0 × List MemPlace)}
  (h1:DataW.trod en P W 0 (fun _=>true) held n f.type ((cs.drop f.offset).take (P.cellsOf f.type))=xs[i]?) (hd:jZ P W f.type enc ok) (h2:i<xs.length) (ho:f.offset=o) (hk:P.cellsOf f.type=k) :
  ∃a,ok a∧RepL (I0 W) (enc a) ((cs.drop o).take k):=by
 rw[qt h2,ho,hk] at h1;exact hd en held n _ _ h1
theorem jZ.pair {α:Type} {enc:α→List AV} {ok:α→Prop} {k:Nat} (ht:P.underlying T=some (.array 2 e)) (he:jZ P W e enc ok) (hk:P.cellsOf e=k) (hT:P.cellsOf T=k+k) :
  jZ P W T (fun x:α × α=>enc x.1++enc x.2) (fun x=>ok x.1∧ok x.2):=fun en held fuel cs x h=>by
 obtain ⟨xs,m,_,_,hl,hxl,hf⟩:=DataW.trod_array ht h;have h0:=hf 0 (by omega);have h1:=hf 1 (by omega);rw[qt (by omega),hk] at h0 h1;rw[Nat.zero_mul] at h0;rw[Nat.one_mul] at h1;obtain ⟨a,ha,ra⟩:=he en held m _ _ h0;obtain ⟨b,hb,rb⟩:=he en held m _ _ h1;refine ⟨(a,b),⟨ha,hb⟩,?_⟩;have hcl:cs.length=k+k:=by rw[hl,hT]
 have h2:(cs.drop k).take k=cs.drop k:=List.take_of_length_le (by rw[List.length_drop];omega);rw[h2] at rb;have:=ra.append rb;rw[List.drop_zero,List.take_append_drop] at this;exact this
end
theorem s9 {P:Program} {W:World} {name:String} {k:IntKind} {zs:List Int} {g:Nat} {t e:TypeId} {n:Nat}
  (hg:P.globalNamed name=some g) (hty:(P.globals[g]?).map (·.type)=some t) (ht:P.underlying t=some (.array n e)) (he:P.underlying e=some (.int k)) (hce:P.cellsOf e=1) (hct:P.cellsOf t=n)
  (h:Lib.VarReads P W name (Lib.tabData k zs)):Lib.TabIs P W name k zs:=by
 obtain ⟨g',t',cs,fuel,p,hg',ht',hvar,hd⟩:=h;obtain rfl:=Option.some.inj (hg.symm.trans hg');obtain rfl:=Option.some.inj (hty.symm.trans ht');unfold Lib.TabIs;rw[hvar,←Lib.cells_of_tab ht he hce hct hd]
theorem aS.call {P:Program} {W:World} {f:FuncId} {us:List AV} {vs:List Value} {r:AV} (h:aS P W f us r) (hr:RepL (I0 W) us vs) (hp:r.plain=true):Calls P f vs.toArray W fun e w'=>∃v,e=.returned v∧bW (I0 W) r v∧Below W.heap.size W w':=by
 have:=(h (I0 W) [] W vs hr ⟨⟨0,fun _ _=>rfl⟩,[],rfl,Ke W⟩).2;refine this.mono fun e w' ⟨v,he,J,x,O',hle,hx,hS,hxr⟩=>⟨v,he,?_,?_⟩
 ·subst hxr;exact AV.plain_rep hp hx
 obtain ⟨_,L,_,hSL⟩:=hS;exact hSL.belowE
end
section
open Go.Proofs.Tryz
section
variable {E:World} {P:Program} {n:Nat} {env:aU} {O O' O'':OL} {i k m:Nat} {T:TypeId} {rows rows':List (List AV)}
end
section
variable {E:World} {P:Program} {f:FuncId} {us bs:List AV} {r:AV}
end
section
variable {E:World} {P:Program} {n:Nat} {ops:Array Oper} {K:aU→OL→Prop} {env:aU} {O O':OL} {rest:List Oper}
variable {d ty:Nat} {pos:String} {af:Array Edge} {t e:TypeId} {x y:Operand} {L:List (Nat × Obj)}
end
section
variable {E:World} {P:Program} {n:Nat} {ops:Array Oper} {K:aU→OL→Prop} {env:aU} {O O':OL} {rest:List Oper}
variable {d ty:Nat} {pos:String} {af:Array Edge} {t e:TypeId} {x y:Operand}
theorem RepR.drop {I:G} {k n c j:Nat} {a:Option Addr} {rows:List (List AV)} (hn:n=rows.length) (hnc:n≤c) (hr:RepR I k a 0 rows):RepR I k (if c=j then a else a.map (·.add (j*k))) 0 (rows.drop j):=
 RepR.intro fun j' r hj=>by
  rw[List.getElem?_drop] at hj;have hlt:=(List.getElem?_eq_some_iff.1 hj).1;obtain ⟨b,off,vs,rfl,h4,h5,h6⟩:=hr.get hj;rw[if_neg (by omega)];refine ⟨b,off+j*k,vs,by simp[Addr.add],h4,h5,fun i u hu=>?_⟩;have:=h6 i u hu;rw[Nat.zero_add,Nat.add_mul] at this;rw[Nat.zero_add]
  rwa [←Nat.add_assoc] at this
theorem Gv.cutLo {k j:Nat} {a:Int} {rows:List (List AV)} (ht:P.underlying t=some (.slice e)) (hs:∀w,(sizeOf e).run P w=.ok k w) (hx:bd env x=.fro k rows) (hy:bd env y=.i a) (hi:a=(j:Int)) (hj:j≤rows.length) :
  Gv P env O (Oper.mk (some d) (.slice t x (some y) none none) ty pos af none) (.fro k (rows.drop j)):=Gv.ofEv fun I ρ h=>by
 have h2:=h.ev x;rw[hx] at h2;obtain ⟨p,n,c,ex,hn,hnc,hnil,hr⟩:=h2;have h3:=gV h hy;subst hi;refine ⟨.slice (if c=j then p else p.map (·.add (j*k))) (n - j) (c - j),⟨_,_,_,U,by rw[List.length_drop,hn],by omega,fun hp=>?_,hr.drop hn hnc⟩,fun w=>?_⟩
 ·split at hp
  ·omega
  cases p with
  |none=>have:=hnil rfl;omega
  |some q=>cases hp
 have hjn:j≤n:=by omega
 simp[execOp,Instr.sliceAt,Instr.slice,Instr.sliceBounds,Instr.sliceBound,asIntOf,Sem.run_bind,run_underlying ht,hs,ex,h3,hjn]
theorem Gv.cutLoM {α:Type} {enc:α→List AV} {xs:List α} {k j:Nat} {a:Int} (ht:P.underlying t=some (.slice e)) (hs:∀w,(sizeOf e).run P w=.ok k w) (hx:bd env x=.fro k (xs.map enc)) (hy:bd env y=.i a) (hi:a=(j:Int)) (hj:j≤xs.length) :
  Gv P env O (Oper.mk (some d) (.slice t x (some y) none none) ty pos af none) (.fro k ((xs.drop j).map enc)):=by
 have:=Gv.cutLo (d:=d) (ty:=ty) (pos:=pos) (af:=af) (O:=O) ht hs hx hy hi (by rwa [w2])
 rwa [←List.map_drop] at this
end
def mC (s:ByteArray):List (ByteArray × Int)→Option Int
 |[]=>none
 |(k,v)::es=>if s=k then some v else mC s es
def r9 (s:ByteArray) (v:Int):List (ByteArray × Int)→List (ByteArray × Int)
 |[]=>[(s,v)]
 |(k,u)::es=>if s=k then (k,v)::es else (k,u)::r9 s v es
def rx (p:ByteArray × Int):Value × Value:=(.string p.1,.int .i64 p.2)
def Pc (b:Nat) (es:List (ByteArray × Int)) (L:List (Nat × Obj)):Prop:=∃(arr:Array MapEntry) (clock:Nat),L=[(b,.map arr clock)]∧arr.toList.map (fun e=>(e.key,e.val))=es.map rx
def E8 (b:Nat) (es:List (ByteArray × Int)):bC:=.heap (Pc b es)
def lh (b:Nat):AV:=.raw (.map (some b))
theorem lL {s:ByteArray}:∀{l:List MapEntry} {es:List (ByteArray × Int)} {i:Nat},l.map (fun e=>(e.key,e.val))=es.map rx→mC s es=none→Instr.findNow .string (.string s) l i=some none
 |[],[],_,_,_=>rfl
 |[],_::_,_,h,_=>by cases h
 |_::_,[],_,h,_=>by cases h
 |e::l,(k,v)::es,i,h,hg=>by
  simp only[List.map_cons,List.cons.injEq,rx,Prod.mk.injEq] at h;obtain ⟨⟨h1,_⟩,h2⟩:=h;simp only[mC] at hg;split at hg
  ·cases hg
  rename_i hne;unfold Instr.findNow;rw[h1];have:(s == k)=false:=Bool.eq_false_iff.2 fun h=>hne ((MapKept.bytes_beq s k).1 h);simp only[Instr.sameNow,this];exact lL h2 hg
theorem lM {s:ByteArray} {u:Int}:∀{l:List MapEntry} {es:List (ByteArray × Int)} {i:Nat},l.map (fun e=>(e.key,e.val))=es.map rx→mC s es=some u →
  ∃j,Instr.findNow .string (.string s) l i=some (some (i+j,.int .i64 u))∧(∃e,l[j]?=some e∧e.key=.string s)∧∀v,es.set j (s,v)=r9 s v es
 |[],[],_,_,hg=>by cases hg
 |[],_::_,_,h,_=>by cases h
 |_::_,[],_,h,_=>by cases h
 |e::l,(k,v)::es,i,h,hg=>by
  simp only[List.map_cons,List.cons.injEq,rx,Prod.mk.injEq] at h;obtain ⟨⟨h1,h3⟩,h2⟩:=h;simp only[mC] at hg;unfold Instr.findNow;rw[h1];split at hg
  ·rename_i heq;subst heq;cases hg;refine ⟨0,?_,⟨e,U,h1⟩,fun v=>?_⟩
   ·have hss:(s == s)=true:=(MapKept.bytes_beq s s).2 rfl;simp only[Instr.sameNow,hss];rw[h3];rfl
   simp[r9]
  rename_i hne;have hb:(s == k)=false:=Bool.eq_false_iff.2 fun h=>hne ((MapKept.bytes_beq s k).1 h);obtain ⟨j,g1,g2,g3⟩:=lM (i:=i+1) h2 hg;refine ⟨j+1,?_,by simpa using g2,fun v=>?_⟩
  ·simp only[Instr.sameNow,hb,g1]
   congr 3;omega
  simp[r9,hne,g3]
section
variable {E:World} {P:Program} {n:Nat} {ops:Array Oper} {K:aU→OL→Prop} {env:aU} {O O':OL} {rest:List Oper}
variable {d ty:Nat} {pos:String} {af:Array Edge} {t e kt:TypeId} {x y z:Operand} {b i:Nat} {es:List (ByteArray × Int)}
theorem ax.makeMap (k:∀b,ax P E ops K rest (bB env d (lh b)) ((0,E8 b [])::O)):ax P E ops K (Oper.mk (some d) (.makeMap t none) ty pos af none::rest) env O:=fun I F ρ w h1 ⟨ht,L,hL,hS⟩=>by
 refine bL.step U ?_;unfold mJ;have:(execOp (Go.Proofs.YtbbonnfjealmpaaGreatDoor.ev ρ) (Oper.mk (some d) (.makeMap t none) ty pos af none)).run P w=.ok (.value (.map (some w.heap.size))) (w.alloc (.map #[] 0)):=by
  simp only[execOp,Option.map_none];rw[Sem.run_bind,run_makeMap_plain];rfl
 rw[this];exact k w.heap.size I F _ _ (h1.upd d rfl) ⟨ht,(w.heap.size,.map #[] 0)::L,⟨[_],L,rfl,⟨#[],0,rfl,rfl⟩,hL⟩,hS.alloc _⟩
theorem Mq {I:G} {L:List (Nat × Obj)} (hO:sT O i (E8 b es)) (hL:cO I O L):∃(arr:Array MapEntry) (clock:Nat),(b,Obj.map arr clock)∈L∧arr.toList.map (fun e=>(e.key,e.val))=es.map rx:=by
 obtain ⟨O',hO⟩:=hO;obtain ⟨A,B,hp,⟨arr,clock,rfl,h2⟩,_⟩:=hO.rep hL;exact ⟨arr,clock,hp.mem_iff.2 (by simp),h2⟩
theorem ax.mapSet {s:ByteArray} {v:Int} (ht:P.underlying t=some (.map kt e)) (hk:P.underlying kt=some .string) (hx:bd env x=lh b) (hy:bd env y=.str s) (hz:bd env z=.int .i64 v) (hO:gc O i (E8 b es) (E8 b (r9 s v es)) O')
  (k:ax P E ops K rest env O'):ax P E ops K (Oper.mk none (.mapUpdate t x y z) ty pos af none::rest) env O:=fun I F ρ w h1 ⟨htop,L,hL,hS⟩=>by
 have hx:=iZ h1 hx;have hy:=GZ h1 hy;have hz:=gV h1 hz;obtain ⟨A,B,hp,⟨arr,clock,rfl,he⟩,hback⟩:=hO.rep hL;have hS2:SL I.k ((b,.map arr clock)::(B++F)) E w:=hS.perm ((hp.append_right F).symm);have hb:=hS2.j _ (.head _);simp only at hb;have hc:(Instr.checkKey false 10000 kt (.string s)).run P w=.ok () w:=MapKept.run_checkKey (k:=.string s) hk (by simp[MapKept.IsKey]) false 9999;have fin:∀(arr':Array MapEntry) (clock':Nat),arr'.toList.map (fun e=>(e.key,e.val))=(r9 s v es).map rx →
   (execOp (Go.Proofs.YtbbonnfjealmpaaGreatDoor.ev ρ) (Oper.mk none (.mapUpdate t x y z) ty pos af none)).run P w=.ok .skip { w with heap:=w.heap.setIfInBounds b (.map arr' clock') }→bL P ops (dB I F E K) (Oper.mk none (.mapUpdate t x y z) ty pos af none::rest) ρ w:=fun arr' clock' he' hrun=>by
  refine bL.step U ?_;unfold mJ;rw[hrun];obtain ⟨L',h7,h8⟩:=hback (G.le.refl I) (A':=[(b,.map arr' clock')]) ⟨arr',clock',rfl,he'⟩;have hh:=MapKept.heap_set (o':=.map arr' clock') hb;have hS3:SL I.k ((b,.map arr' clock')::(B++F)) E { w with heap:=w.heap.setIfInBounds b (.map arr' clock') }:=hS2.turn rfl rfl rfl hh.1 hh.2;exact k I F ρ _ h1 ⟨htop,L',h7,hS3.perm (h8.append_right F)⟩
 cases hg:mC s es with
 |none=>
  have hf:=lL (i:=0) he hg;refine fin (arr.push { key:=.string s,val:=.int .i64 v,born:=clock }) (clock+1) ?_ ?_
  ·have hset:∀es:List (ByteArray × Int),mC s es=none→r9 s v es=es++[(s,v)]:=fun es=>by
    induction es with
    |nil=>intro _;rfl
    |cons x es ih=>
     obtain ⟨k,u⟩:=x;intro hg;simp only[mC] at hg;split at hg
     ·cases hg
     rename_i hne;simp[r9,hne,ih hg]
   rw[hset es hg];simp[he,rx]
  simp[execOp,hx,hy,hz,Instr.mapUpdate,run_underlying ht,MapKept.run_getObj_map hb,hc,MapKept.run_findKey hk hf,MapKept.run_setObj_map _ hb,Result.andThen]
 |some u=>
  obtain ⟨j,hf,⟨e0,hj,hkey⟩,hset⟩:=lM (i:=0) he hg;rw[Nat.zero_add] at hf;have hj':arr[j]?=some e0:=by rw[←Array.getElem?_toList];exact hj
  refine fin (arr.modify j fun e=>{ e with key:=.string s,val:=.int .i64 v }) clock ?_ ?_
  ·rw[←hset v,List.map_set];have hjl:j<arr.toList.length:=(List.getElem?_eq_some_iff.1 hj).1;have:(arr.modify j fun e=>{ e with key:=.string s,val:=.int .i64 v }).toList=arr.toList.set j { e0 with key:=.string s,val:=.int .i64 v }:=by
    apply List.ext_getElem?;intro q;rw[Array.getElem?_toList,Array.getElem?_modify]
    by_cases hq:j=q
    ·subst hq;rw[if_pos rfl,hj',List.getElem?_set_self hjl];rfl
    rw[if_neg hq,List.getElem?_set_ne hq,Array.getElem?_toList]
   rw[this,List.map_set,he];rfl
  have hkeep:(Instr.keyThatStays (.string s) (.string s)).run P w=.ok (.string s) w:=by
   have hss:(s == s)=true:=(MapKept.bytes_beq s s).2 rfl;simp[Instr.keyThatStays,Instr.sameBits,hss]
  simp[execOp,hx,hy,hz,Instr.mapUpdate,run_underlying ht,MapKept.run_getObj_map hb,hc,MapKept.run_findKey hk hf,MapKept.run_setObj_map _ hb,Result.andThen,hj',hkey,hkeep]
end
section
variable {E:World} {P:Program} {n:Nat} {ops:Array Oper} {K:aU→OL→Prop} {env:aU} {O O':OL} {rest:List Oper} {R:AV→OL→Prop}
variable {d ty:Nat} {pos:String} {af:Array Edge} {t e:TypeId} {x y:Operand}
end
section
variable {E:World} {P:Program} {env:aU} {O:OL} {d ty:Nat} {pos:String} {af:Array Edge} {x:Operand} {t u:TypeId}
end
section
variable {E:World} {P:Program} {ops:Array Oper} {K:aU→OL→Prop} {env:aU} {O O' O'':OL} {rest:List Oper} {n:Nat}
variable {d ty:Nat} {pos:String} {af:Array Edge} {x y z:Operand} {t u e:TypeId}
theorem E9 {A row:List AV} {j:Nat} {c:AV} (h:row[j]?=some c):(A++row).drop (A.length+j)=c::row.drop (j+1):=by
 obtain ⟨hj,rfl⟩:=List.getElem?_eq_some_iff.1 h;rw[List.drop_append,List.drop_eq_nil_of_le (by omega),Nat.add_sub_cancel_left,List.nil_append];exact List.drop_eq_getElem_cons hj
theorem Gv.loadL {i off j k:Nat} {T:TypeId} {c:AV} {A row:List AV} (ha:∀w,(isAgg t).run P w=.ok false w) (hx:bd env x=.po i off) (hoff:off=A.length+j) (hO:sT O i (.u k T (A++row))) (hv:row[j]?=some c) :
  Gv P env O (Oper.mk (some d) (.load t x) ty pos af none) c:=qq ha hx hO (by subst hoff;exact E9 hv)
theorem ax.storeL {i off j m k:Nat} {T:TypeId} {v:AV} {A row l new:List AV} (hs:∀w,(sizeOf t).run P w=.ok m w) (hx:bd env x=.po i off) (hoff:off=A.length+j) (hy:bd env y=v) (hv:v.sto=true) (hl:v.cs=l) (hl1:l.all AV.cell=true) (hn:l.length=m)
  (hO:gc O i (.u k T (A++row)) (.u k T (A++new)) O') (hb:Nat.ble (j+m) row.length=true) (hm:Nat.ble 1 m=true) (hnew:row.take j++l++row.drop (j+m)=new) (kk:ax P E ops K rest env O'):ax P E ops K (Oper.mk none (.store t x y) ty pos af none::rest) env O:=
 ax.storeG hs hx hy hv hl hl1 hn hO (by have:=Nat.le_of_ble_eq_true hb;rw[qz];omega) (Nat.le_of_ble_eq_true hm) (by
  have:=Nat.le_of_ble_eq_true hb;subst hoff hnew;rw[List.take_append,List.take_of_length_le (by omega:A.length≤A.length+j),Nat.add_sub_cancel_left,List.drop_append,List.drop_eq_nil_of_le (by omega:A.length≤A.length+j+m),Nat.add_assoc,Nat.add_sub_cancel_left];simp) kk
theorem Gv.idxOL {i n k j r:Nat} {a:Int} {T:TypeId} {cs:List AV} (ht:P.underlying t=some (.slice e)) (hs:∀w,(sizeOf e).run P w=.ok k w) (hx:bd env x=.j i n) (hy:bd env y=.i a) (hi:a=(j:Int)) (hO:sT O i (.u k T cs)) (hne:cs≠[]) (hj:j<n) (hr:j*k=r) :
  Gv P env O (Oper.mk (some d) (.indexAddr t x y) ty pos af none) (.po i r):=hr▸Gv.idxO ht hs hx hy hi hO hne hj
theorem aR.eq (h:O=O'):aR E env O env O':=fun I F ρ w h1 h2=>⟨I,.refl _,h1,h▸h2⟩
end
section
variable {P:Program} {E:World} {l:List Oper} {W:Nat→Bool} {fuel:Nat} {listed:Array Bool} {d ty:Nat} {op:Op} {pos:String} {af:Array Edge}
end
theorem aR.knowP {E:World} {env:aU} {O O':OL} {t i:Nat} {T:TypeId} {cs:List AV} (hv:env t=.po i 0) (hO:dI O i (.cells T cs) O'):aR E env O (bB env t (.pf cs)) O':=fun I F ρ w h1 ⟨ht,L,hL,hS⟩=>by
 obtain ⟨A,B,hp,⟨b,c,vs,e1,hvs,hvc,rfl⟩,hB⟩:=hO.rep hL;simp only at e1;have hS2:SL I.k ((b,.cells vs.toArray T (0,0))::(B++F)) E w:=hS.perm ((hp.append_right F).symm);obtain ⟨hl,hS3⟩:=SL.freeze hS2
 let J:G:=⟨I.k.put b (.cells vs.toArray T (0,0)),I.h⟩
 have hle:I.le J:=⟨hl,fun _ _ h=>h⟩;refine ⟨J,hle,fun s=>?_,ht,B,hB.mono hle,hS3⟩;unfold bB;cases hb:Nat.beq s t with
 |false=>exact bW.mono hle _ _ (h1 s)
 |true=>
  have:s=t:=Nat.eq_of_beq_eq_true hb;subst this;have h2:=h1 s;rw[hv] at h2;obtain ⟨b2,c2,e2,e3⟩:=h2;rw[e1] at e2;simp only[Option.some.injEq,Prod.mk.injEq] at e2;obtain ⟨rfl,rfl⟩:=e2;exact ⟨b,0,vs,e3,RepL.mono hle _ _ hvs,fun j u hj=>⟨_,_,_,bT.put_same _ _ _,by rw[Nat.zero_add,List.getElem?_toArray];exact hj⟩⟩
section
variable {E:World} {P:Program} {ops:Array Oper} {K:aU→OL→Prop} {env:aU} {O O':OL} {rest:List Oper}
variable {d ty:Nat} {pos:String} {af:Array Edge} {x y z:Operand} {t u e:TypeId}
end
section
variable {P:Program} {env:aU} {O:OL}
variable {d ty:Nat} {pos:String} {af:Array Edge} {x y:Operand}
theorem Gv.maxI {ts:Array TypeId} {k:IntKind} {a b:Int} (hx:bd env x=.int k a) (hy:bd env y=.int k b):Gv P env O (Oper.mk (some d) (.call { callee:=.builtin .max,args:=#[x,y],argTypes:=ts }) ty pos af none) (.int k (if b>a then b else a)):=Gv.ofEv fun I ρ h=>⟨_,rfl,fun w=>by
 simp[execOp,resolve,gV h hx,gV h hy,invoke,builtin,Builtin.max_,Builtin.max2,Result.andThen]⟩
theorem Gv.minI {ts:Array TypeId} {k:IntKind} {a b:Int} (hx:bd env x=.int k a) (hy:bd env y=.int k b):Gv P env O (Oper.mk (some d) (.call { callee:=.builtin .min,args:=#[x,y],argTypes:=ts }) ty pos af none) (.int k (if b<a then b else a)):=Gv.ofEv fun I ρ h=>⟨_,rfl,fun w=>by
 simp[execOp,resolve,gV h hx,gV h hy,invoke,builtin,Builtin.min_,Builtin.min2,Result.andThen]⟩
end
end
section
open Go.Proofs.Tryz
open Go.Lib
section
variable {P:Program} {ops:Array Oper} {K:ei→World→Prop} {ρ:ei} {w:World} {rest:List Oper}
variable {d ty:Nat} {pos:String} {af:Array Edge} {x y z:Operand} {t u e:TypeId}
variable {I:bT} {O A:List (Nat × Obj)} {E:World}
end
section
variable {E:World} {P:Program} {ops:Array Oper} {K:aU→OL→Prop} {env:aU} {O O':OL} {rest:List Oper}
variable {d ty:Nat} {pos:String} {af:Array Edge} {x y z:Operand} {t u e:TypeId}
end
section
variable {E:World} {P:Program} {env:aU} {O:OL} {d ty:Nat} {pos:String} {af:Array Edge} {t e kt:TypeId} {x y:Operand} {b i:Nat} {es:List (ByteArray × Int)}
theorem Gv.lookup1S {s:ByteArray} (ht:P.underlying t=some (.map kt e)) (hk:P.underlying kt=some .string) (hz:∀w,(zeroValue e).run P w=.ok (.int .i64 0) w) (hx:bd env x=lh b) (hy:bd env y=.str s) (hO:sT O i (E8 b es)) :
  Gv P env O (Oper.mk (some d) (.lookup t x y false) ty pos af none) (.i ((mC s es).getD 0)):=fun I L E ρ h1 hL=>by
 obtain ⟨arr,clock,hm,he⟩:=Mq hO hL;have hx:=iZ h1 hx;have hy:=GZ h1 hy;refine ⟨.int .i64 ((mC s es).getD 0),U,fun w J L' hl hS hin=>?_⟩;have hb:=hS.j _ (hin _ hm);simp only at hb;have hc:(Instr.checkKey arr.isEmpty 10000 kt (.string s)).run P w=.ok () w:=MapKept.run_checkKey (k:=.string s) hk (by simp[MapKept.IsKey]) _ 9999;cases hg:mC s es with
 |none=>
  have hf:=lL (i:=0) he hg;simp[execOp,Instr.lookup,run_underlying ht,hx,hy,MapKept.run_getObj_map hb,hc,MapKept.run_findKey hk hf,hz,Result.andThen]
 |some u=>
  obtain ⟨j,hf,_⟩:=lM (i:=0) he hg;simp[execOp,Instr.lookup,run_underlying ht,hx,hy,MapKept.run_getObj_map hb,hc,MapKept.run_findKey hk hf,Result.andThen]
end
theorem zK (s v:ByteArray) (n:Int):∀es:List (ByteArray × Int),mC s (r9 v n es)=if s=v then some n else mC s es
 |[]=>by simp only[r9,mC]
 |(k,u)::es=>by
  simp only[r9];split
  ·rename_i h;subst h;simp only[mC];split<;>rfl
  rename_i h;simp only[mC,zK s v n es];split
  ·rename_i h2;subst h2;rw[if_neg (fun e=>h e.symm)]
  rfl
end
section
open Go.Proofs.Tryz
def cI (l:List Int):List AV:=l.map (AV.int .i64)
def cB (l:List Bool):List AV:=l.map AV.bool
theorem aH (l:List Int):(cI l).length=l.length:=by simp[cI]
theorem aP (l:List Bool):(cB l).length=l.length:=by simp[cB]
theorem lN (l:List Int):(l.map fun x=>[AV.i x]).flatten=cI l:=by
 induction l with
 |nil=>rfl
 |cons x l ih=>simp only[List.map_cons,List.flatten_cons,ih];rfl
theorem DU (l:List Bool):(l.map fun x=>[AV.bool x]).flatten=cB l:=by
 induction l with
 |nil=>rfl
 |cons x l ih=>simp only[List.map_cons,List.flatten_cons,ih];rfl
theorem cG (l:List Int):(cI l).all AV.cell=true:=by
 unfold cI;rw[List.all_map];exact List.all_eq_true.2 fun _ _=>rfl
theorem fd (l:List Bool):(cB l).all AV.cell=true:=by
 unfold cB;rw[List.all_map];exact List.all_eq_true.2 fun _ _=>rfl
theorem lO (l m:List Int):cI l++cI m=cI (l++m):=by simp[cI]
theorem Mr (l:List Int) (j:Nat) (v:Int):(cI l).set j (.int .i64 v)=cI (l.set j v):=by unfold cI;rw[List.map_set]
theorem Ms (l:List Bool) (j:Nat) (v:Bool):(cB l).set j (.bool v)=cB (l.set j v):=by unfold cB;rw[List.map_set]
theorem Kf {l:List Int} {j:Nat} {v:Int} (h:l[j]?=some v):(cI l).drop j=.i v::(cI l).drop (j+1):=by
 obtain ⟨hj,e⟩:=List.getElem?_eq_some_iff.1 h;rw[List.drop_eq_getElem_cons (by rw[aH];exact hj)];unfold cI;rw[List.getElem_map,e]
theorem Kg {l:List Bool} {j:Nat} {v:Bool} (h:l[j]?=some v):(cB l).drop j=.bool v::(cB l).drop (j+1):=by
 obtain ⟨hj,e⟩:=List.getElem?_eq_some_iff.1 h;rw[List.drop_eq_getElem_cons (by rw[aP];exact hj)];unfold cB;rw[List.getElem_map,e]
theorem Mt (n:Nat) (v:Int):List.replicate n (AV.i v)=cI (List.replicate n v):=by simp[cI]
theorem Mu (n:Nat) (v:Bool):List.replicate n (AV.bool v)=cB (List.replicate n v):=by simp[cB]
theorem Fa (I:G) (l:List Int):RepL I (cI l) (l.map (Value.int .i64)):=by
 unfold cI;induction l with
 |nil=>rfl
 |cons x l ih=>exact ⟨_,_,rfl,rfl,ih⟩
theorem LS {I:G}:∀{l:List Int} {vs:List Value},RepL I (cI l) vs→vs=l.map (Value.int .i64)
 |[],_,h=>h
 |x::l,_,⟨v,us,e,h1,h2⟩=>by
  have h1:v=.int .i64 x:=h1;rw[e,h1,LS h2];rfl
section
variable {E:World} {P:Program} {ops:Array Oper} {K:aU→OL→Prop} {env:aU} {O O' O'':OL} {rest:List Oper} {n:Nat}
variable {d ty:Nat} {pos:String} {af:Array Edge} {x y z:Operand} {t u e:TypeId}
theorem Gv.idxI {i n j:Nat} {a:Int} {T:TypeId} {cs:List AV} (ht:P.underlying t=some (.slice e)) (hs:∀w,(sizeOf e).run P w=.ok 1 w) (hx:bd env x=.j i n) (hy:bd env y=.i a) (hi:a=(j:Int)) (hO:sT O i (.u 1 T cs)) (hn:cs.length=n) (hj:j<n) :
  Gv P env O (Oper.mk (some d) (.indexAddr t x y) ty pos af none) (.po i j):=
 Gv.idxOL ht hs hx hy hi hO (fun e=>by rw[e] at hn;simp at hn;omega) hj (Nat.mul_one j)
theorem Gv.loadI {i j:Nat} {T:TypeId} {l:List Int} {v:Int} (ha:∀w,(isAgg t).run P w=.ok false w) (hx:bd env x=.po i j) (hO:sT O i (.u 1 T (cI l))) (hv:l[j]?=some v) :
  Gv P env O (Oper.mk (some d) (.load t x) ty pos af none) (.i v):=qq ha hx hO (Kf hv)
theorem Gv.loadB {i j:Nat} {T:TypeId} {l:List Bool} {v:Bool} (ha:∀w,(isAgg t).run P w=.ok false w) (hx:bd env x=.po i j) (hO:sT O i (.u 1 T (cB l))) (hv:l[j]?=some v) :
  Gv P env O (Oper.mk (some d) (.load t x) ty pos af none) (.bool v):=qq ha hx hO (Kg hv)
theorem gc.cast {i k:Nat} {T:TypeId} {o:bC} {cs ds:List AV} (h:gc O i o (.u k T cs) O') (e:cs=ds):gc O i o (.u k T ds) O':=e▸h
theorem ax.storeI {i j:Nat} {T:TypeId} {l:List Int} {v:Int} (hs:∀w,(sizeOf t).run P w=.ok 1 w) (hx:bd env x=.po i j) (hy:bd env y=.i v) (hO:gc O i (.u 1 T (cI l)) (.u 1 T (cI (l.set j v))) O') (hb:j<l.length)
  (kk:ax P E ops K rest env O'):ax P E ops K (Oper.mk none (.store t x y) ty pos af none::rest) env O:=
 ax.storeG1 (cs:=cI l) hs hx hy rfl rfl rfl (hO.cast (Mr l j v).symm) (by rw[aH];exact hb) kk
theorem ax.storeB {i j:Nat} {T:TypeId} {l:List Bool} {v:Bool} (hs:∀w,(sizeOf t).run P w=.ok 1 w) (hx:bd env x=.po i j) (hy:bd env y=.bool v) (hO:gc O i (.u 1 T (cB l)) (.u 1 T (cB (l.set j v))) O') (hb:j<l.length)
  (kk:ax P E ops K rest env O'):ax P E ops K (Oper.mk none (.store t x y) ty pos af none::rest) env O:=
 ax.storeG1 (cs:=cB l) hs hx hy rfl rfl rfl (hO.cast (Ms l j v).symm) (by rw[aP];exact hb) kk
theorem ax.makeI {i:TypeInfo} {zv:Value} {m:Nat} {k1 k2:IntKind} {l l':Int} (ht:P.underlying t=some (.slice e)) (hi:P.info? e=some i) (hz:i.zero=some zv) (hzc:zv.cells=#[.int .i64 0]) (hk:i.size=1) (hx:bd env x=.int k1 l) (hy:bd env y=.int k2 l')
  (hl:l=(m:Int)) (hl':l'=(m:Int)) (hb:(i.bytes:Int)*(m:Int)≤281474976710656) (hm:m≤281474976710656) (kk:∀j,ax P E ops K rest (bB env d (.j j m)) ((j,.u 1 e (cI (List.replicate m 0)))::O)) :
  ax P E ops K (Oper.mk (some d) (.makeSlice t x y) ty pos af none::rest) env O:=
 ax.make1 ht hi hz hzc hk hx hy hl hl' hb hm rfl fun j=>by rw[show lit (.int .i64 0)=AV.int .i64 0 from rfl,Mt];exact kk j
theorem ax.makeB {i:TypeInfo} {zv:Value} {m:Nat} {k1 k2:IntKind} {l l':Int} (ht:P.underlying t=some (.slice e)) (hi:P.info? e=some i) (hz:i.zero=some zv) (hzc:zv.cells=#[.bool false]) (hk:i.size=1) (hx:bd env x=.int k1 l) (hy:bd env y=.int k2 l')
  (hl:l=(m:Int)) (hl':l'=(m:Int)) (hb:(i.bytes:Int)*(m:Int)≤281474976710656) (hm:m≤281474976710656) (kk:∀j,ax P E ops K rest (bB env d (.j j m)) ((j,.u 1 e (cB (List.replicate m false)))::O)) :
  ax P E ops K (Oper.mk (some d) (.makeSlice t x y) ty pos af none::rest) env O:=
 ax.make1 ht hi hz hzc hk hx hy hl hl' hb hm rfl fun j=>by rw[show lit (.bool false)=AV.bool false from rfl,Mu];exact kk j
theorem aR.knowI {t i m:Nat} {T:TypeId} {l:List Int} (hv:env t=.j i m) (hO:dI O i (.u 1 T (cI l)) O') (hm:l.length=m):aR E env O (bB env t (.fro 1 (l.map fun x=>[.i x]))) O':=
 aR.know hv (by rw[lN];exact hO) (fun r hr=>by obtain ⟨_,_,rfl⟩:=List.mem_map.1 hr;rfl) (by decide) (by rw[w2];exact hm)
theorem aR.knowB {t i m:Nat} {T:TypeId} {l:List Bool} (hv:env t=.j i m) (hO:dI O i (.u 1 T (cB l)) O') (hm:l.length=m):aR E env O (bB env t (.fro 1 (l.map fun x=>[.bool x]))) O':=
 aR.know hv (by rw[DU];exact hO) (fun r hr=>by obtain ⟨_,_,rfl⟩:=List.mem_map.1 hr;rfl) (by decide) (by rw[w2];exact hm)
end
structure fu (α:Type) where
 k:Nat
 val:α→List Value
 pos:0<k
 len:∀x,(val x).length=k
 one:∀x,∀u∈val x,u.oneCell'=true
variable {α:Type}
def fu.vs (c:fu α) (l:List α):List Value:=l.flatMap c.val
def fu.row (c:fu α) (x:α):List AV:=(c.val x).map lit
def fu.av (c:fu α) (l:List α):List AV:=l.flatMap c.row
theorem fu.vs_len (c:fu α) (l:List α):(c.vs l).length=l.length*c.k:=by
 unfold fu.vs;induction l with
 |nil=>simp
 |cons x l ih=>rw[List.flatMap_cons,qz,ih,c.len,List.length_cons,Nat.add_mul];omega
theorem fu.av_eq (c:fu α) (l:List α):c.av l=(c.vs l).map lit:=by
 unfold fu.av fu.vs;induction l with
 |nil=>rfl
 |cons x l ih=>rw[List.flatMap_cons,List.flatMap_cons,w7,ih];rfl
theorem fu.av_len (c:fu α) (l:List α):(c.av l).length=l.length*c.k:=by rw[c.av_eq,w2,c.vs_len]
theorem fu.av_app (c:fu α) (l m:List α):c.av l++c.av m=c.av (l++m):=by unfold fu.av;rw[List.flatMap_append]
theorem fu.av_push (c:fu α) (l:List α) (x:α):c.av l++c.row x=c.av (l++[x]):=by rw[←c.av_app];unfold fu.av;simp
theorem fu.vs_one (c:fu α) (l:List α):∀u∈c.vs l,u.oneCell'=true:=by
 intro u hu;unfold fu.vs at hu;obtain ⟨x,_,hx⟩:=List.mem_flatMap.1 hu;exact c.one x u hx
theorem fu.av_un (c:fu α) {I:G} {l:List α} {vs:List Value} (h:RepL I (c.av l) vs):vs=c.vs l:=by rw[c.av_eq] at h;exact nw h
def eI:fu Int:=⟨1,fun x=>[.int .i64 x],by decide,fun _=>rfl,fun x u hu=>by simp at hu;subst hu;rfl⟩
def eP:fu (Int × Int):=⟨2,fun p=>[.int .i64 p.1,.int .i64 p.2],by decide,fun _=>rfl,fun x u hu=>by simp at hu;rcases hu with rfl|rfl<;>rfl⟩
theorem G5 (l:List Int):eI.av l=cI l:=by
 unfold fu.av cI;induction l with
 |nil=>rfl
 |cons x l ih=>rw[List.flatMap_cons,ih];rfl
inductive gh (c:fu α) (e:TypeId):List (List α)→List Value→List (Nat × Obj)→Prop
 |nil:gh c e [] [] []
 |cons {r rs a n cap hs A B}:fI c.k e a n cap (c.vs r) A→gh c e rs hs B→gh c e (r::rs) (.slice a n cap::hs) (A++B)
theorem gh.len {c:fu α} {e:TypeId} {rows:List (List α)} {hs:List Value} {L:List (Nat × Obj)} (h:gh c e rows hs L):hs.length=rows.length:=by
 induction h with
 |nil=>rfl
 |cons _ _ ih=>simp[ih]
def LT (c:fu α) (e:TypeId) (rows:List (List α)) (j:Nat) (hs:List Value) (B:List (Nat × Obj)):Prop:=
 ∀r' a' n' c' A',fI c.k e a' n' c' (c.vs r') A'→∃L',gh c e (rows.set j r') (hs.set j (.slice a' n' c')) L'∧L'.Perm (A'++B)
theorem gh.get {c:fu α} {e:TypeId} {rows:List (List α)} {hs:List Value} {L:List (Nat × Obj)} (h:gh c e rows hs L):∀{j:Nat} {r:List α},rows[j]?=some r →
  ∃a n cap A B,hs[j]?=some (.slice a n cap)∧fI c.k e a n cap (c.vs r) A∧L.Perm (A++B)∧LT c e rows j hs B:=by
 induction h with
 |nil=>intro j r hj;simp at hj
 |@cons r0 rs a n cap hs A B h1 h2 ih=>
  intro j r hj;cases j with
  |zero=>
   simp at hj;subst hj;exact ⟨a,n,cap,A,B,rfl,h1,.refl _,fun r' a' n' c' A' h=>⟨A'++B,.cons h h2,.refl _⟩⟩
  |succ j=>
   obtain ⟨a1,n1,c1,A1,B1,g1,g2,g3,g4⟩:=ih (j:=j) (r:=r) (by simpa using hj);refine ⟨a1,n1,c1,A1,A++B1,by simpa using g1,g2,?_,fun r' a' n' c' A' h=>?_⟩
   ·refine (g3.append_left A).trans ?_;rw[←qv,←qv];exact List.perm_append_comm.append_right B1
   obtain ⟨L',k1,k2⟩:=g4 r' a' n' c' A' h;refine ⟨A++L',by simpa using gh.cons h1 k1,?_⟩;refine (k2.append_left A).trans ?_;rw[←qv,←qv];exact List.perm_append_comm.append_right B1
theorem gh.rep (c:fu α) (e:TypeId):∀m:Nat,gh c e (List.replicate m []) (List.replicate m (.slice none 0 0)) []
 |0=>.nil
 |m+1=>by
  have:=gh.cons (c:=c) (r:=[]) (fI.nil c.k e) (gh.rep c e m)
  simpa [List.replicate_succ] using this
def dN (c:fu α) (T e:TypeId) (b:Nat) (rows:List (List α)):bC:=.heap fun L=>∃hs B,L=(b,.cells hs.toArray T (0,0))::B∧gh c e rows hs B
def DV (c:fu α) (T e:TypeId) (b:Nat) (rows:List (List α)) (j n i:Nat):bC:=.heapG (fun I L=>∃hs B hd,L=(b,.cells hs.toArray T (0,0))::B∧I.h i=some hd∧hs[j]?=some (.slice (adr hd.1) n hd.2)∧hs.length=rows.length∧LT c e rows j hs B)
 (fun I J L h hp=>by obtain ⟨hs,B,hd,h1,h2,h3⟩:=hp;exact ⟨hs,B,hd,h1,h.h _ _ h2,h3⟩)
def fe (b n:Nat):AV:=.raw (.slice (some ⟨b,0,none⟩) n n)
def Kh (b j:Nat):AV:=.raw (.pointer (some ⟨b,j,none⟩))
theorem fI.adr {k:Nat} {e:TypeId} {a:Option Addr} {n c:Nat} {cs:List Value} {A:List (Nat × Obj)} (h:fI k e a n c cs A):∃b,a=Go.Proofs.YtbbonnfjealmpaaGreatDoor.adr b:=by
 rcases h.2.2 with ⟨e,_⟩|⟨b,junk,e,_⟩
 ·exact ⟨none,e⟩
 exact ⟨some b,e⟩
section
variable {E:World} {P:Program} {ops:Array Oper} {K:aU→OL→Prop} {env:aU} {O O' O'':OL} {rest:List Oper} {n:Nat}
variable {d ty:Nat} {pos:String} {af:Array Edge} {x y z:Operand} {t u e T:TypeId}
theorem ax.makeNest {i:TypeInfo} {zv:Value} {m:Nat} {k1 k2:IntKind} {l l':Int} (ht:P.underlying t=some (.slice T)) (hi:P.info? T=some i) (hz:i.zero=some zv) (hzc:zv.cells=#[.slice none 0 0]) (hk:i.size=1) (hx:bd env x=.int k1 l) (hy:bd env y=.int k2 l')
  (hl:l=(m:Int)) (hl':l'=(m:Int)) (hb:(i.bytes:Int)*(m:Int)≤281474976710656) (hm:m≤281474976710656) (c:fu α) (e:TypeId) (kk:∀b,ax P E ops K rest (bB env d (fe b m)) ((0,dN c T e b (List.replicate m []))::O)) :
  ax P E ops K (Oper.mk (some d) (.makeSlice t x y) ty pos af none::rest) env O:=fun I F ρ w h1 h2=>by
 obtain ⟨htop,L,hL,hS⟩:=h2;refine bL.make1 ht hi hz hzc hk (gV h1 hx) (gV h1 hy) hl hl' hb hm hS fun b w' hS'=>?_;exact kk b I F _ _ (h1.upd d rfl) ⟨htop,_,⟨[(b,.cells (List.replicate m (.slice none 0 0)).toArray T (0,0))],L,rfl,⟨List.replicate m (.slice none 0 0),[],rfl,gh.rep c e m⟩,hL⟩,by simpa using hS'⟩
theorem Gv.idxN {b m j:Nat} {a:Int} (ht:P.underlying t=some (.slice T)) (hs:∀w,(sizeOf T).run P w=.ok 1 w) (hx:bd env x=fe b m) (hy:bd env y=.i a) (hi:a=(j:Int)) (hj:j<m) :
  Gv P env O (Oper.mk (some d) (.indexAddr t x y) ty pos af none) (Kh b j):=Gv.ofEv fun I ρ h=>by
 have h1:=iZ h hx;have h2:=gV h hy;subst hi;have hlt:((j:Int)<(m:Int)):=by omega
 refine ⟨_,U,fun w=>?_⟩;simp[execOp,h1,h2,Instr.indexAt,Sem.run_bind,run_underlying ht,hs,hlt,ec,asIntOf];intro h;omega
theorem Gv.lenN {b m:Nat} (ht:P.underlying t=some (.slice T)) (hx:bd env x=fe b m):Gv P env O (Oper.mk (some d) (.call { callee:=.builtin .len,args:=#[x],argTypes:=#[t] }) ty pos af none) (.i m):=Gv.ofEv fun I ρ h=>by
 have h1:=iZ h hx;exact ⟨_,rfl,fun w=>by simp[execOp,resolve,h1,invoke,builtin,Builtin.len_,run_underlying ht,goInt]⟩
theorem ax.nestTake {c:fu α} {b j m:Nat} {rows:List (List α)} {r:List α} {f:Nat→OL} (ha:∀w,(isAgg t).run P w=.ok false w) (hx:bd env x=Kh b j) (hr:rows[j]?=some r)
  (hO:∀i,gc O m (dN c T e b rows) (DV c T e b rows j r.length i) (f i)) (kk:∀i,ax P E ops K rest (bB env d (.j i r.length)) ((i,.u c.k e (c.av r))::f i)) :
  ax P E ops K (Oper.mk (some d) (.load t x) ty pos af none::rest) env O:=fun I F ρ w h1 h2=>by
 obtain ⟨i,hi⟩:=h2.name;obtain ⟨htop,L,hL,hS⟩:=h2;have hx:=iZ h1 hx;obtain ⟨A,B,hp,⟨hs,B0,rfl,hN⟩,hback⟩:=(hO i).rep hL;obtain ⟨a,n,cap,A1,B1,g1,g2,g3,g4⟩:=hN.get hr;obtain ⟨b1,rfl⟩:=g2.adr;have hn:n=r.length:=by have:=g2.1;rw[c.vs_len] at this;exact (Nat.eq_of_mul_eq_mul_right c.pos this).symm
 subst hn;obtain ⟨J,e1,hle,e2,htop'⟩:=hi (b1,cap);have hS2:SL I.k ((b,.cells hs.toArray T (0,0))::(B0++(B++F))) E w:=hS.perm (by
  have:=hp.append_right F
  simpa using this.symm)
 obtain ⟨L',h5,h6⟩:=hback hle (A':=(b,.cells hs.toArray T (0,0))::B1) ⟨hs,B1,(b1,cap),rfl,e2,g1,hN.len,g4⟩;refine bL.load1 (I:=I.k) (O:=(b,.cells hs.toArray T (0,0))::(B0++(B++F))) ha hS2 hx (.inr ⟨_,_,_,.head _,by rw[List.getElem?_toArray];exact g1⟩) ?_;refine bL.mono (fun _ _=>dB.up hle) _ _ _ (kk i J F _ _ ((h1.mono hle).upd d ⟨b1,cap,e2,U⟩) ⟨htop',A1++L',⟨A1,L',U,⟨b1,cap,_,c.vs r,e2,by rw[c.av_eq];exact fj J _,c.vs_one r,g2⟩,h5⟩,?_⟩);rw[e1];refine hS2.perm<|List.Perm.trans ?_ (List.Perm.cons _ ((g3.append_right (B++F)).symm));have h7:(A1++L'++F).Perm (A1++((b,Obj.cells hs.toArray T (0,0))::(B1++B))++F):=(h6.append_left A1).append_right F;refine h7.trans ?_;simp only[qv,List.cons_append];exact List.perm_middle
theorem ax.nestPut {c:fu α} {b j m i i0 n0 n1 k:Nat} {rows:List (List α)} {r:List α} {cs:List AV} (hs1:∀w,(sizeOf t).run P w=.ok 1 w) (hx:bd env x=Kh b j) (hy:bd env y=.j i n1) (hj:j<rows.length)
  (hP0:dI O i (.u k e cs) O') (hO:gc O' m (DV c T e b rows j n0 i0) (dN c T e b (rows.set j r)) O'') (hk:k=c.k) (hcs:cs=c.av r) (hn1:r.length=n1) (kk:ax P E ops K rest env O'') :
  ax P E ops K (Oper.mk none (.store t x y) ty pos af none::rest) env O:=fun I F ρ w h1 h2=>by
 obtain ⟨htop,L,hL,hS⟩:=h2;have hP:dI O i (.u c.k e (c.av r)) O':=by subst hk hcs;exact hP0
 have hx:=iZ h1 hx;have h3:=h1.ev y;rw[hy] at h3;obtain ⟨b1,c1,e1,ey⟩:=h3;obtain ⟨A,B,hp,⟨b1',c1',n',vs,e2,hvs,hvc,hown⟩,hB⟩:=hP.rep hL;simp only at e2;rw[e1] at e2;simp only[Option.some.injEq,Prod.mk.injEq] at e2;obtain ⟨rfl,rfl⟩:=e2;have hv:=c.av_un hvs;subst hv;have hnn:n'=n1:=by have:=hown.1;rw[c.vs_len,hn1] at this;exact (Nat.eq_of_mul_eq_mul_right c.pos this).symm
 subst hnn;obtain ⟨A2,B2,hp2,⟨hs,B0,hd,rfl,_,hsj,hsl,hole⟩,hback⟩:=hO.rep hB;obtain ⟨L',k1,k2⟩:=hole r _ _ _ A hown;have hS2:SL I.k ([(b,.cells hs.toArray T (0,0))]++(A++(B0++(B2++F)))) E w:=hS.perm (by
  refine List.Perm.trans ?_ ((hp.append_right F).symm);refine List.Perm.trans ?_ (((hp2.append_left A).append_right F).symm);simp only[qv,List.cons_append,List.nil_append];exact (List.perm_middle).symm)
 refine bL.store1 (cs:=hs) (off:=j) hs1 hx ey U (by rw[hsl];exact hj) hS2 fun w' hS'=>?_;obtain ⟨L2,h7,h8⟩:=hback (G.le.refl I) (A':=(b,.cells (hs.set j (.slice (adr b1) n' c1)).toArray T (0,0))::L') ⟨_,L',rfl,k1⟩;refine kk I F _ _ h1 ⟨htop,L2,h7,hS'.perm ?_⟩;refine (h8.append_right F).trans ?_;simp only[List.cons_append,List.nil_append,qv];refine List.Perm.cons _ ?_;have:=k2.append_right (B2++F)
 simpa [qv] using this
theorem aR.nestBack {c:fu α} {b j m i:Nat} {rows:List (List α)} {r:List α} (hP:dI O i (.u c.k e (c.av r)) O') (hO:gc O' m (DV c T e b rows j r.length i) (dN c T e b (rows.set j r)) O''):aR E env O env O'':=fun I F ρ w h1 h2=>by
 obtain ⟨htop,L,hL,hS⟩:=h2;obtain ⟨A,B,hp,⟨b1,c1,n',vs,e2,hvs,hvc,hown⟩,hB⟩:=hP.rep hL;have hv:=c.av_un hvs;subst hv;have hnn:n'=r.length:=by have:=hown.1;rw[c.vs_len] at this;exact (Nat.eq_of_mul_eq_mul_right c.pos this).symm
 subst hnn;obtain ⟨A2,B2,hp2,⟨hs,B0,hd,rfl,e3,hsj,hsl,hole⟩,hback⟩:=hO.rep hB;simp only at e2;rw[e2] at e3;simp only[Option.some.injEq] at e3;subst e3;obtain ⟨L',k1,k2⟩:=hole r _ _ _ A hown;have hsame:hs.set j (.slice (adr b1) r.length c1)=hs:=by
  obtain ⟨h9,h10⟩:=List.getElem?_eq_some_iff.1 hsj;refine List.ext_getElem? fun k=>?_
  by_cases ek:k=j
  ·subst ek;rw[List.getElem?_set_self h9,hsj]
  rw[List.getElem?_set_ne (fun e=>ek e.symm)]
 rw[hsame] at k1;obtain ⟨L2,h7,h8⟩:=hback (G.le.refl I) (A':=(b,.cells hs.toArray T (0,0))::L') ⟨_,L',rfl,k1⟩;refine ⟨I,.refl _,h1,htop,L2,h7,hS.perm ?_⟩;refine (h8.append_right F).trans<|List.Perm.trans ?_ ((hp.append_right F).symm);refine List.Perm.trans ?_ (((hp2.append_left A).append_right F).symm);simp only[qv,List.cons_append,List.nil_append];refine List.Perm.trans ?_ (List.perm_middle).symm;refine List.Perm.cons _ ?_;have:=k2.append_right (B2++F)
 simpa [qv] using this
theorem SL.freezeAllN:∀{A:List (Nat × Obj)} {I:bT} {F:List (Nat × Obj)} {E w:World},SL I (A++F) E w→∃J,I.le J∧SL J F E w∧∀x∈A,J x.1=some x.2
 |[],I,F,E,w,h=>⟨I,.refl _,h,fun _ h=>by cases h⟩
 |(b,o)::A,I,F,E,w,h=>by
  obtain ⟨h1,h2⟩:=SL.freeze (show SL I ((b,o)::(A++F)) E w from h);obtain ⟨J,h3,h4,h5⟩:=SL.freezeAllN h2;refine ⟨J,h1.trans h3,h4,fun x hx=>?_⟩;rcases List.mem_cons.1 hx with rfl|hx
  ·exact h3 _ _ (bT.put_same _ _ _)
  exact h5 x hx
theorem fI.fro {c:fu α} {I:G} {e:TypeId} {a:Option Addr} {n cap:Nat} {r:List α} {A:List (Nat × Obj)} (h:fI c.k e a n cap (c.vs r) A) (hI:∀x∈A,I.k x.1=some x.2):bW I (.fro c.k (r.map c.row)) (.slice a n cap):=by
 obtain ⟨h1,h2,h3⟩:=h;have hn:n=r.length:=by rw[c.vs_len] at h1;exact (Nat.eq_of_mul_eq_mul_right c.pos h1).symm
 subst hn;rcases h3 with ⟨rfl,rfl,_⟩|⟨b,junk,rfl,rfl,hj⟩
 ·have h0:r=[]:=w6 (by omega);subst h0;exact ⟨none,0,0,rfl,rfl,Nat.le_refl _,fun _=>rfl,trivial⟩
 have hb:=hI _ (.head _);simp only at hb;have hflat:(r.map c.row).flatten=(c.vs r).map lit:=by rw[←c.av_eq];unfold fu.av;rw[List.flatMap]
 refine ⟨_,_,_,U,by simp,h2,fun e=>(by cases e),RepR.of_flat hb (r.map c.row) (c.vs r) 0 (fun x hx=>by obtain ⟨y,_,rfl⟩:=List.mem_map.1 hx;unfold fu.row;rw[w2,c.len]) (by rw[hflat];exact fj I _) fun i u hu=>?_⟩;rw[Nat.zero_mul,Nat.zero_add,List.getElem?_toArray,List.getElem?_append_left (List.getElem?_eq_some_iff.1 hu).1];exact hu
theorem gh.fro {c:fu α} {I:G} {e:TypeId} {rows:List (List α)} {hs:List Value} {B:List (Nat × Obj)} (h:gh c e rows hs B) (hI:∀x∈B,I.k x.1=some x.2):RepL I (rows.map fun r=>.fro c.k (r.map c.row)) hs:=by
 induction h with
 |nil=>rfl
 |cons h1 _ ih=>exact ⟨_,_,rfl,h1.fro fun x hx=>hI x (List.mem_append_left _ hx),ih fun x hx=>hI x (List.mem_append_right _ hx)⟩
def sd (c:fu α) (rows:List (List α)):AV:=.fro 1 (rows.map fun r=>[.fro c.k (r.map c.row)])
theorem wk {c:fu α} {I:G} {F:List (Nat × Obj)} {E w:World} {b m:Nat} {rows:List (List α)} (hO:dI O m (dN c T e b rows) O') (h:iT I O F E w):∃J B,I.le J∧cO I O' B∧(∃top,∀i,top≤i→J.h i=none)∧SL J.k (B++F) E w∧bW J (sd c rows) (.slice (some ⟨b,0,none⟩) rows.length rows.length):=by
 obtain ⟨htop,L,hL,hS⟩:=h;obtain ⟨A,B,hp,⟨hs,B0,rfl,hN⟩,hB⟩:=hO.rep hL;have hS2:SL I.k (((b,.cells hs.toArray T (0,0))::B0)++(B++F)) E w:=hS.perm (by rw[←qv];exact (hp.append_right F).symm);obtain ⟨J,h1,h2,h3⟩:=SL.freezeAllN hS2;have hle:I.le ⟨J,I.h⟩:=⟨h1,fun _ _ h=>h⟩;refine ⟨⟨J,I.h⟩,B,hle,hB,htop,h2,?_⟩;have hb:=h3 _ (.head _);simp only at hb;have hrep:=hN.fro (I:=⟨J,I.h⟩) fun x hx=>h3 x (.tail _ hx);refine ⟨_,_,_,U,by simp,Nat.le_refl _,fun e=>(by cases e),RepR.intro fun j row hj=>?_⟩;rw[w3] at hj;obtain ⟨r,hr,rfl⟩:=Option.map_eq_some_iff.1 hj;obtain ⟨v,hv1,hv2⟩:=hrep.get (j:=j) (x:=.fro c.k (r.map c.row)) (by rw[w3,hr];rfl);refine ⟨b,0,[v],U,U,RepL.one hv2,fun i u hu=>?_⟩;cases i with
 |zero=>
  simp at hu;subst hu;exact ⟨_,_,_,hb,by rw[List.getElem?_toArray,show 0+(0+j)*1+0=j by omega];exact hv1⟩
 |succ i=>simp at hu
theorem aR.nestKnow {c:fu α} {s b m n:Nat} {rows:List (List α)} (hv:env s=fe b n) (hO:dI O m (dN c T e b rows) O') (hn:rows.length=n):aR E env O (bB env s (sd c rows)) O':=fun I F ρ w h1 h2=>by
 obtain ⟨J,B,hle,hB,htop,hS,hrep⟩:=wk hO h2;refine ⟨J,hle,fun q=>?_,htop,B,hB.mono hle,hS⟩;unfold bB;cases hb:Nat.beq q s with
 |false=>exact bW.mono hle _ _ (h1 q)
 |true=>
  have:q=s:=Nat.eq_of_beq_eq_true hb;subst this;have h4:=h1 q;rw[hv] at h4;have h4:ρ q=.slice (some ⟨b,0,none⟩) n n:=h4;rw[h4,←hn];exact hrep
theorem aR.nestKnowC {c:fu α} {off b m n i:Nat} {T':TypeId} {cs:List AV} {rows:List (List α)} (hO:dI O m (dN c T e b rows) O') (hP:gc O' i (.cells T' cs) (.cells T' (cs.set off (sd c rows))) O'') (hc:cs[off]?=some (fe b n)) (hn:rows.length=n):aR E env O env O'':=fun I F ρ w h1 h2=>by
 obtain ⟨J,B,hle,hB,htop,hS,hrep⟩:=wk hO h2;obtain ⟨L',h5,h6⟩:=gc.same (F:=F) (E:=E) (w:=w) hle (.inr trivial) hP hc (fun v hv=>by
  have hv:v=.slice (some ⟨b,0,none⟩) n n:=hv;rw[hv,←hn];exact hrep) hB
 exact ⟨J,hle,h1.mono hle,htop,L',h5,hS.perm (h6.symm.append_right F)⟩
end
end
section
open Go.Proofs.Tryz
section
variable {E:World} {P:Program} {ops:Array Oper} {K:aU→OL→Prop} {env:aU} {O O' O'':OL} {rest:List Oper} {n:Nat}
variable {d ty:Nat} {pos:String} {af:Array Edge} {x y z:Operand} {t u e:TypeId}
theorem ax.cutTo {i k m j:Nat} {a:Int} {T:TypeId} {cs:List AV} (ht:P.underlying t=some (.slice e)) (hs:∀w,(sizeOf e).run P w=.ok k w) (hx:bd env x=.j i m) (hy:bd env y=.i a) (hi:a=(j:Int)) (hO:gc O i (.u k T cs) (.u k T (cs.take (j*k))) O')
  (hk:0<k) (hj:j*k≤cs.length)
  (kk:ax P E ops K rest (bB env d (.j i j)) O'):ax P E ops K (Oper.mk (some d) (.slice t x none (some y) none) ty pos af none::rest) env O:=fun I F ρ w h1 h2=>by
 obtain ⟨htop,L,hL,hS⟩:=h2;have h3:=h1.ev x;rw[hx] at h3;obtain ⟨b,c,e1,e2⟩:=h3;have h4:=gV h1 hy;subst hi;obtain ⟨A,B,hp,⟨b',c',n',vs,e3,hvs,hvc,h5,h6,h7⟩,hback⟩:=hO.rep hL;simp only at e3;rw[e1] at e3;simp only[Option.some.injEq,Prod.mk.injEq] at e3;obtain ⟨rfl,rfl⟩:=e3;have hlen:vs.length=cs.length:=hvs.length;have hjn:j≤n':=by
  have:j*k≤n'*k:=by omega
  exact Nat.le_of_mul_le_mul_right this hk
 have hjc:j≤c:=by omega
 have hval:(execOp (Go.Proofs.YtbbonnfjealmpaaGreatDoor.ev ρ) (Oper.mk (some d) (.slice t x none (some y) none) ty pos af none)).run P w=.ok (.value (.slice (adr b) j c)) w:=by
  have:(if c=0 then adr b else (adr b).map (·.add (0*k)))=adr b:=by
   split
   ·rfl
   cases b<;>simp[adr,Addr.add]
  simp[execOp,Instr.sliceAt,Instr.slice,Instr.sliceBounds,Instr.sliceBound,asIntOf,Sem.run_bind,run_underlying ht,hs,e2,h4,hjc]
  simpa using this
 obtain ⟨L',h8,h9⟩:=hback (G.le.refl I) (A':=A) ⟨b,c,j,vs.take (j*k),e1,hvs.take _,fun u hu=>hvc u (List.mem_of_mem_take hu),by rw[w9];omega,by omega,by
  rcases h7 with h7|⟨b2,junk,e4,e5,e6⟩
  ·exact .inl ⟨h7.1,h7.2.1,h7.2.2⟩
  exact .inr ⟨b2,vs.drop (j*k)++junk,e4,by rw[←qv,List.take_append_drop];exact e5,by rw[←qv,List.take_append_drop];exact e6⟩⟩
 exact bL.val hval (kk I F _ w (h1.upd d ⟨b,c,e1,rfl⟩) ⟨htop,L',h8,hS.perm ((h9.trans hp.symm).append_right F)⟩)
theorem ax.cutLast {i k m j:Nat} {a:Int} {T:TypeId} {A row:List AV} (ht:P.underlying t=some (.slice e)) (hs:∀w,(sizeOf e).run P w=.ok k w) (hx:bd env x=.j i m) (hy:bd env y=.i a) (hi:a=(j:Int)) (hO:gc O i (.u k T (A++row)) (.u k T A) O')
  (hk:0<k) (hA:A.length=j*k)
  (kk:ax P E ops K rest (bB env d (.j i j)) O'):ax P E ops K (Oper.mk (some d) (.slice t x none (some y) none) ty pos af none::rest) env O:=
 ax.cutTo ht hs hx hy hi (hO.cast (by rw[←hA,List.take_left])) hk (by rw[qz];omega) kk
end
end
section
open Go.Proofs.Tryz
open Go.Proofs
variable {E:World}
set_option maxRecDepth 20000
theorem se {p:Int→Bool} {fn:FuncId} {c:List AV} (xs:List Int) (hl:xs.length≤281474976710656) (hp:∀x∈xs,aS prog E fn ([.i x]++c) (.bool (p x))) :
  aS prog E 182 [.fro 1 (xs.map b7),.fn fn [] c] (.i (di p xs 0)):=by
 refine zm func182 U (by decide) U<|Z<|ap U<|Y<|za<|Z<|bj U<|am j7 U<|C U<|Y<|zd<|zu (γ:=Nat) [0,1,7] (fun k=>[(8,.i k)]) (fun k=>[]) (fun k=>k≤xs.length∧(xs.take k).all (fun x=>!p x)) (fun k=>xs.length - k) 0 aN aJ (⟨qw _,U⟩) ?_;rintro k ⟨hk,hall⟩;refine Z<|aq U U<|Y<|za<|zh U (fun ck=>?_) (fun ck=>?_)
 ·have hk2:k<xs.length:=by omega
  refine zc<|za<|zd<|Z<|C U<|ap U<|Y<|Z<|X (yn (v:=.fn _ _ _) U)<|bj U<|C U<|X (qf j7 j9 U U U (qt (by omega)))<|aD jg U<|ax.callVP U (hp _ (qx hk2)) U<|Y<|zq U (fun cp=>?_) (fun cp=>?_)
  ·refine Z<|C U<|ap U<|Y<|zf ?_
   repeat (first|refine ad ?_|refine aa ?_)
   refine gu U ?_;rw[cH p xs k hk hall,List.drop_eq_getElem_cons hk2,di,if_pos cp]
  refine zc<|bQ U U ?_;exact ⟨k+1,eX,aN,aJ,⟨hk2,by rw[qu hk2,List.all_append,hall];simp[cp]⟩,by omega⟩
 have hkn:k=xs.length:=by omega
 refine zt<|Z<|ap U<|Y<|zf ?_
 repeat (first|refine ad ?_|refine aa ?_)
 refine gu U ?_;rw[cH p xs k hk hall,hkn,List.drop_length,di]
theorem oh {p:Int→Bool} {fn:FuncId} {c:List AV} (xs:List Int) (hl:xs.length≤281474976710656) (hp:∀x∈xs,aS prog E fn ([.i x]++c) (.bool (p x))) :
  aS prog E 140 [.fro 1 (xs.map b7),.fn fn [] c] (.bool (xs.any p)):=by
 refine zm func140 U (by decide) U<|Z<|ah U<|Y<|Z<|bj U<|X (yn (v:=.fn _ _ _) U)<|zb (se xs hl hp) U<|X (q7 U U)<|ah U<|Y<|zf ?_
 repeat (first|refine ad ?_|refine aa ?_)
 refine bt U ?_;rw[gE]
def aM (f:ab) (v:Int):Int:=((f.v[v.toNat]?).map (·.ty)).getD 0
theorem zL {f:ab} {v:Int} (h:bn f v=true):∃x,f.v[v.toNat]?=some x∧v=(v.toNat:Int)∧aM f v=x.ty:=by
 unfold bn at h;simp only[wc,wi] at h;have hl:v.toNat<f.v.length:=by omega
 refine ⟨f.v[v.toNat],qt hl,by omega,?_⟩;unfold aM;rw[qt hl];rfl
theorem gF (f:ab) (v:Int) (hv:bn f v=true):aS prog E 158 [.agg (bH f),.i v] (.i (aM f v)):=by
 obtain ⟨x,hx,hv2,hk⟩:=zL hv;rw[hk];refine zm func158 U (by decide) U<|Z<|zx (cs:=_) U U U<|ap U<|Y<|Z<|ao jf U Zs U U<|aK Y4 U<|C U<|X (bD v.toNat Z7 Yc U U hv2 hx)<|ao Zr U X5 U U<|aD Xh U<|ap U<|Y<|zf ?_
 repeat (first|refine ad ?_|refine aa ?_)
 refine gu U ?_
 rfl
theorem G6 (op:Int):aS prog E 159 [.i op] (.bool (decide (op=1))):=by
 refine zm func159 U (by decide) U<|Z<|ah U<|Y<|Z<|C U<|au U U<|ah U<|Y<|zf ?_
 repeat (first|refine ad ?_|refine aa ?_)
 refine bt U ?_
 simp_all
theorem G7:∀{l:List Int} (h:0<l.length),l.headD 0=l[0]
 |[],h=>absurd h (Nat.lt_irrefl 0)
 |_::_,_=>rfl
def fl (f:ab) (x:aB):Bool:=if x.op=1 then decide (aM f x.dst=aM f (x.args.headD 0)) else decide (x.args.map (aM f)=aW x.op)&&(!bF x.op||decide (aM f x.dst=dq x.op))
theorem kU {f:ab} {xs ts:List Int} {k:Nat} (h1:k<xs.length) (h2:k<ts.length) (h:(xs.take k).map (aM f)=ts.take k) (hk:aM f xs[k]=ts[k]):(xs.take (k+1)).map (aM f)=ts.take (k+1):=by
 rw[qu h1,qu h2,w7,h,List.map_cons,List.map_nil,hk]
theorem G8 {f:ab} {xs ts:List Int} {k:Nat} (h1:k<xs.length) (h2:k<ts.length) (hk:¬aM f xs[k]=ts[k]):¬xs.map (aM f)=ts:=by
 intro e;apply hk;subst e;rw[List.getElem_map]
theorem Cv (f:ab) (x:aB) (ha:x.args.all (bn f)=true) (hl:x.args.length=(aW x.op).length) (hd:bF x.op=true→bn f x.dst=true) :
  aS prog E 110 [.agg (bH f),.agg (bu x)] (.bool (fl f x)):=by
 have hlen:(aW x.op).length≤3:=by
  rcases oZ x.op with h|h
  ·unfold aW;rw[h];decide
  have:∀r∈iJ,r.2.1.data.toList.length≤3:=by decide
  have:=this _ h;unfold aW;simpa using this
 refine zm func110 U (by decide) U<|Z<|zx (cs:=_) U U U<|zx (cs:=_) U U U<|ah U<|Y<|za<|Z<|ao jd U Zu U U<|aD Y2 U<|zb (G6 _) U<|Y<|zh U (fun c1=>?_) (fun c1=>?_)
 ·have e1:x.op=1:=by simpa using c1
  have hlz:0<x.args.length:=by rw[hl,e1];decide
  have hv0:bn f x.args[0]=true:=List.all_eq_true.1 ha _ (qx hlz);have hvd:bn f x.dst=true:=hd (by rw[e1];decide);refine za<|zn (fun j=>false) (by kernel_rfl) U (zk (.rest _))<|D 0 U (yj Z2 jk U U)<|D 1 U (dk jd U j9 U U)<|D 2 U (d9 jg U)<|D 4 U (yj Z2 jk U U)<|D 5 U (dk jd U jh U U)<|D 6 U (gJ jy U)<|D 7 U (bD 0 j7 j9 U U U (qt hlz))<|D 8 U (d9 jg U)<|bp 3 U<|zb (gF _ _ (by assumption)) U<|Y<|bp 9 U<|zb (gF _ _ (by assumption)) U<|Y<|D 10 U (Gv.eqlI U U)<|D 11 U (sx U)<|dS<|zf ?_
  repeat (first|refine ad ?_|refine aa ?_)
  refine bt U ?_;exact jb (by unfold fl;rw[if_pos e1,G7 hlz])
 have e1:¬x.op=1:=by simpa using c1
 refine zc<|za<|Z<|ao jd U Zu U U<|aD Y2 U<|zb (sY _) U<|am underlying222 U<|C U<|Y<|zd<|zu (γ:=Nat) [2,3,25,26] (fun k=>[(27,.i k)]) (fun k=>[]) (fun k=>k≤(aW x.op).length∧(x.args.take k).map (aM f)=(aW x.op).take k) (fun k=>(aW x.op).length - k) 0 aN aJ (⟨qw _,U⟩) ?_;rintro k ⟨hk,hall⟩;refine Z<|aq U U<|Y<|za<|zh U (fun ck=>?_) (fun ck=>?_)
 ·have hk2:k<(aW x.op).length:=by simp at ck;omega
  have hk3:k<x.args.length:=by omega
  have hvk:bn f x.args[k]=true:=List.all_eq_true.1 ha _ (qx hk3);refine zc<|za<|zd<|Z<|C U<|X (bD k underlying222 X5 U U U (qt hk2))<|aD Xh U<|ap U<|ap U<|Y<|za<|zn (fun j=>false) (by kernel_rfl) U (zk (.rest _))<|D 0 U (yj Z2 jk U U)<|D 1 U (dk jd U jh U U)<|D 2 U (gJ jy U)<|D 3 U (dC U)<|D 4 U (bD k j7 j9 U U U (qt hk3))<|D 5 U (d9 jg U)<|D 7 U (dC U)<|bp 6 U<|zb (gF _ _ (by assumption)) U<|Y<|D 8 U (Gv.neqI U U)<|dS<|zq U (fun cn=>?_) (fun cn=>?_)
  ·refine Z<|ah U<|Y<|zf ?_
   repeat (first|refine ad ?_|refine aa ?_)
   refine bt U ?_;exact jb (by unfold fl;rw[if_neg e1,wb (G8 hk3 hk2 (by simpa using cn))];rfl)
  refine zc<|bQ U U ?_;exact ⟨k+1,f7,aN,aJ,⟨hk2,kU hk3 hk2 hall (by simpa using cn)⟩,by omega⟩
 have hkn:k=(aW x.op).length:=by simp at ck;omega
 subst hkn;rw[qy,←hl,qy] at hall;refine zt<|Z<|ao jd U Zu U U<|aD Y2 U<|zb (sZ _) U<|X (v8 U)<|X (nU U U)<|X (Cm U U)<|ap U<|ah U<|Y<|Z<|aw U<|aL U<|aw U<|zo (s:=50) U (fun c1=>?_) (fun c1=>?_)
 ·refine H U U c1<|H U U c1<|H U U c1<|H U U c1<|H U U c1<|H U U c1<|aA U c1 U<|ah U<|Y<|zf ?_
  repeat (first|refine ad ?_|refine aa ?_)
  refine bt U ?_;exact jb (by unfold fl;rw[if_neg e1,wa hall];simp_all)
 refine M U U c1<|ae Z2 jk U U<|M U U c1<|ao jd U j9 U U<|M U U c1<|aD jg U<|M U U c1<|zb (gF f x.dst (hd (by simp_all))) U<|M U U c1<|C U<|M U U c1<|au U U<|ay U c1 U<|ah U<|Y<|zf ?_
 repeat (first|refine ad ?_|refine aa ?_)
 refine bt U ?_;exact jb (by unfold fl;rw[if_neg e1,wa hall];simp_all)
def o5 (f:ab) (p:dh):Bool:=!(p.args.any fun v=>!decide (aM f v=aM f p.dst))
theorem Cw (f:ab) (p:dh) (v:Int) (hv:bn f v=true) (hd:bn f p.dst=true):aS prog E 157 ([.i v]++[.pf (bH f),.pf (dQ p)]) (.bool (!decide (aM f v=aM f p.dst))):=by
 refine zm func157 U (by decide) U<|Z<|ah U<|Y<|za<|zn (fun j=>false) (by kernel_rfl) U (zk (.rest _))<|D 0 U (yj Z2 jk U U)<|D 1 U (dC U)<|D 3 U (yj Z2 jk U U)<|D 4 U (dk Z3 U j9 U U)<|D 5 U (d9 jg U)<|bp 2 U<|zb (gF _ _ (by assumption)) U<|Y<|bp 6 U<|zb (gF _ _ (by assumption)) U<|Y<|D 7 U (Gv.neqI U U)<|D 8 U (sx U)<|dS<|zf ?_
 repeat (first|refine ad ?_|refine aa ?_)
 refine bt U ?_
 simp_all
theorem Fb (f:ab) (p:dh) (hp:DT p) (ha:p.args.all (bn f)=true) (hd:bn f p.dst=true):aS prog E 109 [.agg (bH f),.agg (dQ p)] (.bool (o5 f p)):=by
 have hl1:=hp.1.lt;refine zm func109 U (by decide) U<|Z<|zx (cs:=_) U U U<|zx (cs:=_) U U U<|ah U<|Y<|Z<|ao Z3 U jh U U<|aK jy U<|X (Gv.func U U)<|zb (oh p.args (by omega) (fun v hv=>Cw f p v (List.all_eq_true.1 ha v hv) hd)) U<|aL U<|ah U<|Y<|zf ?_
 repeat (first|refine ad ?_|refine aa ?_)
 refine bt U ?_
 rfl
def eK (f:ab) (t:fJ):Bool:=if t.kind=0 then !decide (t.to0=0) else if t.kind=1 then decide (aM f t.var=1)&&!decide (t.to0=0)&&!decide (t.to1=0) else decide (aM f t.var=0)
theorem Cx (f:ab) (t:fJ) (h:¬t.kind=0→bn f t.var=true):aS prog E 111 [.agg (bH f),.agg (sy t)] (.bool (eK f t)):=by
 refine zm func111 U (by decide) U<|Z<|zx (cs:=_) U U U<|zx (cs:=_) U U U<|ah U<|Y<|za<|Z<|ao jj U Y5 U U<|aD Yk U<|Y<|zd<|Z<|au U U<|ah U<|Y<|zq U (fun c2=>?_) (fun c2=>?_)
 ·refine Z<|ao jj U Zi U U<|X (yt (j:=0) Z8 j9 U U U (by decide) U)<|aD jg U<|aT U U<|ah U<|Y<|zf ?_
  repeat (first|refine ad ?_|refine aa ?_)
  refine bt U ?_;exact jb (by unfold eK;simp_all)
 refine Z<|au U U<|ah U<|Y<|zq U (fun c3=>?_) (fun c3=>?_)
 ·refine Z<|ae Z2 jk U U<|ao jj U j9 U U<|aD jg U<|zb (gF f t.var (h (by simp_all))) U<|au U U<|aw U<|zo (s:=20) U (fun c4=>?_) (fun c4=>?_)
  ·refine M U U c4<|ao jj U Zi U U<|M U U c4<|X (yt (j:=0) Z8 j9 U U U (by decide) U)<|M U U c4<|aD jg U<|M U U c4<|aT U U<|aA U c4 U<|aw U<|zo (s:=26) U (fun c5=>?_) (fun c5=>?_)
   ·refine M U U c5<|ao jj U Zi U U<|M U U c5<|X (yt (j:=1) Z8 j9 U U U (by decide) U)<|M U U c5<|aD jg U<|M U U c5<|aT U U<|aA U c5 U<|ah U<|Y<|zf ?_
    repeat (first|refine ad ?_|refine aa ?_)
    refine bt U ?_;exact jb (by unfold eK;simp_all)
   refine H U U c5<|H U U c5<|H U U c5<|H U U c5<|ay U c5 U<|ah U<|Y<|zf ?_
   repeat (first|refine ad ?_|refine aa ?_)
   refine bt U ?_;exact jb (by unfold eK;simp_all)
  refine H U U c4<|H U U c4<|H U U c4<|H U U c4<|ay U c4 U<|aw U<|H U U U<|H U U U<|H U U U<|H U U U<|ay U U U<|ah U<|Y<|zf ?_
  repeat (first|refine ad ?_|refine aa ?_)
  refine bt U ?_;exact jb (by unfold eK;simp_all)
 refine zc<|Z<|ae Z2 jk U U<|ao jj U j9 U U<|aD jg U<|zb (gF f t.var (h (by simp_all))) U<|au U U<|ah U<|Y<|zf ?_
 repeat (first|refine ad ?_|refine aa ?_)
 refine bt U ?_;exact jb (by unfold eK;simp_all)
end
section
open Go.Proofs.Tryz
abbrev aO:=Int × Int
def gf:Int:=-9223372036854775808
def gW:Int:=9223372036854775807
def aY (x:Int):Prop:=-9223372036854775808≤x∧x≤9223372036854775807
instance (x:Int):Decidable (aY x):=by unfold aY;infer_instance
def bw (r:aO):Prop:=aY r.1∧aY r.2
def fD:aO:=(1,0)
def et (lo hi:Int):aO:=if hi<lo then fD else (lo,hi)
def dM (a b:Int):Int:=if b<a then b else a
def dx (a b:Int):Int:=if a<b then b else a
def bU (a b:aO):aO:=if a.2<a.1 then et b.1 b.2 else if b.2<b.1 then a else (dM a.1 b.1,dx a.2 b.2)
def bR (a b:aO):aO:=et (dx a.1 b.1) (dM a.2 b.2)
def fK (t:Int):aO:=if t=0 then (gf,gW) else if t=1 then (0,1) else if t=2 then (0,64) else fD
theorem zM {lo hi:Int} (h1:aY lo) (h2:aY hi):bw (et lo hi):=by
 unfold et;split
 ·exact ⟨by decide,by decide⟩
 exact ⟨h1,h2⟩
theorem xy {a b:Int} (h1:aY a) (h2:aY b):aY (dM a b):=by unfold dM;split<;>assumption
theorem xz {a b:Int} (h1:aY a) (h2:aY b):aY (dx a b):=by unfold dx;split<;>assumption
theorem o6 {a b:aO} (h1:bw a) (h2:bw b):bw (bU a b):=by
 unfold bU;split
 ·exact zM h2.1 h2.2
 split
 ·exact h1
 exact ⟨xy h1.1 h2.1,xz h1.2 h2.2⟩
theorem fL {a b:aO} (h1:bw a) (h2:bw b):bw (bR a b):=zM (xz h1.1 h2.1) (xy h1.2 h2.2)
theorem o7 (t:Int):bw (fK t):=by
 unfold fK;split
 ·exact ⟨by decide,by decide⟩
 split
 ·exact ⟨by decide,by decide⟩
 split
 ·exact ⟨by decide,by decide⟩
 exact ⟨by decide,by decide⟩
def iH (k:Nat) (x y:Int):Int:=if k=0 then x+y else if k=1 then x - y else x*y
def dF (k:Nat) (x y:Int):Prop:=aY (iH k x y)
instance (k:Nat) (x y:Int):Decidable (dF k x y):=by unfold dF;infer_instance
def nV (k:Nat) (x y:Int):Int:=if (if k=2 then decide (x<0) != decide (y<0) else decide (x<0)) then gf else gW
def iV (k:Nat) (x y:Int):Int:=if dF k x y then iH k x y else nV k x y
theorem G9 (k:Nat) (x y:Int):aY (nV k x y):=by
 unfold nV
 generalize (if k=2 then decide (x<0) != decide (y<0) else decide (x<0))=b
 cases b<;>decide
theorem DW (k:Nat) (x y:Int):aY (iV k x y):=by
 unfold iV;split
 ·assumption
 exact G9 k x y
def sf (n:Int):aO:=(n,n)
def LU (k:Nat) (a b:aO):aO:=bU (bU (bU (bU fD (sf (iV k a.1 b.1))) (sf (iV k a.1 b.2))) (sf (iV k a.2 b.1))) (sf (iV k a.2 b.2))
def kE (k:Nat) (a b:aO):Prop:=dF k a.1 b.1∧dF k a.1 b.2∧dF k a.2 b.1∧dF k a.2 b.2
instance (k:Nat) (a b:aO):Decidable (kE k a b):=by unfold kE;infer_instance
def fm (a b:Int):aO:=if b<a then (b,a) else (a,b)
def fM (a b:aO):aO:=(if b.1<a.1 then b.1 else a.1,if a.2<b.2 then b.2 else a.2)
def kF (k:Nat) (a b:aO):aO:=fM (fm (iV k a.1 b.1) (iV k a.1 b.2)) (fm (iV k a.2 b.1) (iV k a.2 b.2))
theorem Cy (p:Int):bU fD (sf p)=(p,p):=by
 unfold bU sf fD et;rw[if_pos (by decide)];rw[if_neg (by dsimp only;omega)]
theorem ic {lo hi:Int} (h:lo≤hi) (q:Int):bU (lo,hi) (sf q)=(dM lo q,dx hi q)∧dM lo q≤dx hi q:=by
 unfold bU sf;rw[if_neg (by dsimp only;omega),if_neg (by dsimp only;omega)];refine ⟨U,?_⟩;unfold dM dx;split<;>split<;>omega
theorem Ha (p q r s:Int):bU (bU (bU (bU fD (sf p)) (sf q)) (sf r)) (sf s)=fM (fm p q) (fm r s):=by
 obtain ⟨e2,h2⟩:=ic (Int.le_refl p) q;obtain ⟨e3,h3⟩:=ic h2 r;obtain ⟨e4,_⟩:=ic h3 s;rw[Cy,e2,e3,e4];unfold fm fM dM dx;rw[Prod.ext_iff]
 by_cases c1:q<p<;>by_cases c2:s<r<;>simp only[c1,c2,if_true,if_false]<;>constructor<;>(repeat' split)<;>omega
theorem Ki (k:Nat) (a b:aO):LU k a b=kF k a b:=Ha _ _ _ _
def Hb (a b:aO):aO:=
 let a1:=if a.2<a.1 then b else a
 let b1:=if b.2<b.1 then a1 else b
 let lo:=if b1.1<a1.1 then b1.1 else a1.1
 let hi:=if a1.2<b1.2 then b1.2 else a1.2
 if hi<lo then fD else (lo,hi)
theorem zN (a b:aO):Hb a b=bU a b:=by
 obtain ⟨a1,a2⟩:=a;obtain ⟨b1,b2⟩:=b;unfold Hb bU et dM dx fD;simp only[Prod.ext_iff]
 repeat' split
 all_goals (constructor<;>dsimp only at *<;>omega)
theorem Kj {x y:Nat} (hy:0<y) (l:Nat):x≤l / y↔x*y≤l:=Nat.le_div_iff_mul_le hy
theorem vv (a b:Int) (l:Nat):a.natAbs≤l / b.natAbs↔(b=0∧a=0)∨(b≠0∧(a*b).natAbs≤l):=by
 by_cases hb:b=0
 ·subst hb;simp
 rw[Kj (by omega),Int.natAbs_mul];simp[hb]
theorem zO {a b:Int} (ha:a≠0) (hb:b≠0):(0<a*b↔((a<0)↔(b<0)))∧a*b≠0:=by
 refine ⟨?_,Int.mul_ne_zero ha hb⟩;rcases Int.lt_or_gt_of_ne ha with h1|h1<;>rcases Int.lt_or_gt_of_ne hb with h2|h2
 ·have:=Int.mul_pos_of_neg_of_neg h1 h2;simp[this,h1,h2]
 ·have:=Int.mul_neg_of_neg_of_pos h1 h2
  constructor
  ·intro h;omega
  intro h;have:=h.1 h1;omega
 ·have:=Int.mul_neg_of_pos_of_neg h1 h2
  constructor
  ·intro h;omega
  intro h;have:=h.2 h2;omega
 have:=Int.mul_pos h1 h2
 constructor
 ·intro _;constructor<;>intro h<;>omega
 intro _;exact this
theorem Mv (a b:Int) (ha:a≠0) (hb:b≠0):(a.natAbs≤(if decide (a<0)=decide (b<0) then 9223372036854775807 else 9223372036854775808) / b.natAbs)↔dF 2 a b:=by
 have hs:=zO ha hb;rw[vv];unfold dF aY;have e:iH 2 a b=a*b:=rfl;rw[e];simp only[hb,false_and,false_or,ne_eq,not_false_eq_true,true_and]
 by_cases h:decide (a<0)=decide (b<0)
 ·rw[if_pos h];have:(a<0)↔(b<0):=by simpa using h
  have h1:=hs.1.2 this;omega
 rw[if_neg h];have:¬((a<0)↔(b<0)):=by simpa using h
 have h1:¬0<a*b:=fun h2=>this (hs.1.1 h2);omega
def cJ (r s:aO):Prop:=r.2<r.1∨(s.1≤r.1∧r.2≤s.2)
def dD (x:Int) (r:aO):Prop:=r.1≤x∧x≤r.2
theorem cJ.refl (r:aO):cJ r r:=.inr ⟨Int.le_refl _,Int.le_refl _⟩
theorem cJ.trans {r s t:aO} (h:cJ r s) (k:cJ s t):cJ r t:=by
 rcases h with h|h
 ·exact .inl h
 rcases k with k|k
 ·exact .inl (by omega)
 exact .inr (by omega)
def o8 (x:Int):Int:=if x<gf then gf else if gW<x then gW else x
theorem nx {x y:Int} (h:x≤y):o8 x≤o8 y:=by unfold o8 gf gW;(repeat' split)<;>omega
theorem j5 {k:Nat} {x y:Int} (h2:k≤2) (hx:aY x) (hy:aY y):iV k x y=o8 (iH k x y):=by
 unfold iV
 by_cases h:dF k x y
 ·rw[if_pos h];unfold dF aY at h;unfold o8 gf gW;rw[if_neg (by omega),if_neg (by omega)]
 rw[if_neg h];unfold nV;unfold dF at h;unfold aY at hx hy h
 by_cases hk:k=2
 ·subst hk;have e:iH 2 x y=x*y:=rfl;rw[e] at h ⊢;simp only[if_true];have hx0:x≠0:=fun e=>by subst e;simp at h
  have hy0:y≠0:=fun e=>by subst e;simp at h
  have hs:=zO hx0 hy0
  by_cases c:(x<0)↔(y<0)
  ·have h1:=hs.1.2 c;have:(decide (x<0) != decide (y<0))=false:=by simp[c]
   rw[this];unfold o8 gf gW;rw[if_neg (by simp),if_neg (by omega),if_pos (by omega)]
  have h1:¬0<x*y:=fun h2=>c (hs.1.1 h2);have:(decide (x<0) != decide (y<0))=true:=by
   by_cases c1:x<0<;>by_cases c2:y<0<;>simp_all
  rw[this];unfold o8 gf gW;rw[if_pos rfl,if_pos (by omega)]
 rw[if_neg hk];unfold iH at h ⊢;unfold o8 gf gW
 by_cases h0:k=0
 ·rw[if_pos h0] at h ⊢
  by_cases c:x<0
  ·simp only[wa c,if_true];rw[if_pos (by omega)]
  simp only[wb c];rw[if_neg (by simp),if_neg (by omega),if_pos (by omega)]
 have h1:k=1:=by omega
 rw[if_neg h0,if_pos h1] at h ⊢
 by_cases c:x<0
 ·simp only[wa c,if_true];rw[if_pos (by omega)]
 simp only[wb c];rw[if_neg (by simp),if_neg (by omega),if_pos (by omega)]
def Cn (x a b:Int):Prop:=(a≤x∧x≤b)∨(b≤x∧x≤a)
theorem Cz {x a b:Int} (h:Cn x a b):Cn (o8 x) (o8 a) (o8 b):=by
 rcases h with ⟨h1,h2⟩|⟨h1,h2⟩
 ·exact .inl ⟨nx h1,nx h2⟩
 exact .inr ⟨nx h1,nx h2⟩
theorem LV {k:Nat} {x a b y:Int} (h1:a≤x) (h2:x≤b):Cn (iH k x y) (iH k a y) (iH k b y):=by
 unfold iH Cn;split
 ·omega
 split
 ·omega
 rcases Int.le_total 0 y with hy|hy
 ·exact .inl ⟨Int.mul_le_mul_of_nonneg_right h1 hy,Int.mul_le_mul_of_nonneg_right h2 hy⟩
 exact .inr ⟨Int.mul_le_mul_of_nonpos_right h2 hy,Int.mul_le_mul_of_nonpos_right h1 hy⟩
theorem DX {k:Nat} {x a b y:Int} (h1:a≤y) (h2:y≤b):Cn (iH k x y) (iH k x a) (iH k x b):=by
 unfold iH Cn;split
 ·omega
 split
 ·omega
 rcases Int.le_total 0 x with hx|hx
 ·exact .inl ⟨Int.mul_le_mul_of_nonneg_left h1 hx,Int.mul_le_mul_of_nonneg_left h2 hx⟩
 exact .inr ⟨Int.mul_le_mul_of_nonpos_left hx h2,Int.mul_le_mul_of_nonpos_left hx h1⟩
theorem DY {p q r s x u v:Int} (hu:Cn u p q) (hv:Cn v r s) (hx:Cn x u v):dD x (fM (fm p q) (fm r s)):=by
 unfold dD fM fm Cn at *
 by_cases c1:q<p<;>by_cases c2:s<r<;>simp only[c1,c2,if_true,if_false]<;>(repeat' split)<;>omega
theorem DZ {k:Nat} {a b:aO} {x y:Int} (hk:k≤2) (ha:bw a) (hb:bw b) (hx:dD x a) (hy:dD y b):dD (o8 (iH k x y)) (kF k a b):=by
 unfold kF;rw[j5 hk ha.1 hb.1,j5 hk ha.1 hb.2,j5 hk ha.2 hb.1,j5 hk ha.2 hb.2];exact DY (Cz (DX hy.1 hy.2)) (Cz (DX hy.1 hy.2)) (Cz (LV hx.1 hx.2))
theorem lP {p q r s lo hi:Int} (h1:lo≤p∧p≤hi) (h2:lo≤q∧q≤hi) (h3:lo≤r∧r≤hi) (h4:lo≤s∧s≤hi):lo≤(fM (fm p q) (fm r s)).1∧(fM (fm p q) (fm r s)).2≤hi:=by
 unfold fM fm
 by_cases c1:q<p<;>by_cases c2:s<r<;>simp only[c1,c2,if_true,if_false]<;>(repeat' split)<;>omega
theorem Fc {k:Nat} {a b a' b':aO} (hk:k≤2) (ha:bw a) (hb:bw b) (ha':bw a') (hb':bw b') (na:a.1≤a.2) (nb:b.1≤b.2) (sa:a'.1≤a.1∧a.2≤a'.2) (sb:b'.1≤b.1∧b.2≤b'.2):cJ (kF k a b) (kF k a' b'):=by
 right
 have h:∀x y,aY x→aY y→dD x a→dD y b→(kF k a' b').1≤iV k x y∧iV k x y≤(kF k a' b').2:=fun x y hx hy h1 h2=>by
  rw[j5 hk hx hy];exact DZ hk ha' hb' ⟨by have:=h1.1;omega,by have:=h1.2;omega⟩ ⟨by have:=h2.1;omega,by have:=h2.2;omega⟩
 have l1:dD a.1 a:=⟨Int.le_refl _,na⟩;have l2:dD a.2 a:=⟨na,Int.le_refl _⟩;have r1:dD b.1 b:=⟨Int.le_refl _,nb⟩;have r2:dD b.2 b:=⟨nb,Int.le_refl _⟩;exact lP (h _ _ ha.1 hb.1 l1 r1) (h _ _ ha.1 hb.2 l1 r2) (h _ _ ha.2 hb.1 l2 r1) (h _ _ ha.2 hb.2 l2 r2)
theorem ta {k:Nat} {a b a' b':aO} (na:a.1≤a.2) (nb:b.1≤b.2) (sa:a'.1≤a.1∧a.2≤a'.2) (sb:b'.1≤b.1∧b.2≤b'.2) (h:kE k a' b'):kE k a b:=by
 obtain ⟨h1,h2,h3,h4⟩:=h;have key:∀x y,a'.1≤x→x≤a'.2→b'.1≤y→y≤b'.2→dF k x y:=fun x y g1 g2 g3 g4=>by
  have e1:=DX (k:=k) (x:=a'.1) g3 g4;have e2:=DX (k:=k) (x:=a'.2) g3 g4;have e3:=LV (k:=k) (y:=y) g1 g2;unfold dF aY at *;unfold Cn at e1 e2 e3;omega
 exact ⟨key _ _ (by omega) (by omega) (by omega) (by omega),key _ _ (by omega) (by omega) (by omega) (by omega),key _ _ (by omega) (by omega) (by omega) (by omega),key _ _ (by omega) (by omega) (by omega) (by omega)⟩
theorem jP {x y c:Int} (hx:0≤x) (hc:0<c) (h:c≤y):0≤x.tdiv y∧x.tdiv y≤x.tdiv c:=by
 obtain ⟨n,rfl⟩:=Int.eq_ofNat_of_zero_le hx;obtain ⟨m,rfl⟩:=Int.eq_ofNat_of_zero_le (by omega:0≤y);obtain ⟨k,rfl⟩:=Int.eq_ofNat_of_zero_le (by omega:0≤c);have e1:((n:Int).tdiv (m:Int))=((n / m:Nat):Int):=rfl;have e2:((n:Int).tdiv (k:Int))=((n / k:Nat):Int):=rfl;rw[e1,e2];have:=Nat.div_le_div_left (a:=n) (by omega:k≤m) (by omega:0<k);exact ⟨Int.natCast_nonneg _,Int.ofNat_le.2 this⟩
theorem Mw {x a b y:Int} (hy:y≠0) (h1:a≤x) (h2:x≤b):Cn (x.tdiv y) (a.tdiv y) (b.tdiv y):=by
 rcases Int.lt_or_gt_of_ne hy with h|h
 ·right
  have e:∀z:Int,z.tdiv y=-(z.tdiv (-y)):=fun z=>by rw[Int.tdiv_neg];omega
  rw[e x,e a,e b];have g1:=Int.tdiv_le_tdiv (c:=-y) (by omega) h1;have g2:=Int.tdiv_le_tdiv (c:=-y) (by omega) h2;omega
 exact .inl ⟨Int.tdiv_le_tdiv h h1,Int.tdiv_le_tdiv h h2⟩
theorem zP {x y c d:Int} (hc:0<c) (h1:c≤y) (h2:y≤d):Cn (x.tdiv y) (x.tdiv c) (x.tdiv d):=by
 rcases Int.le_total 0 x with hx|hx
 ·right
  exact ⟨(jP hx (by omega) h2).2,(jP hx hc h1).2⟩
 left
 have e:∀z:Int,x.tdiv z=-((-x).tdiv z):=fun z=>by rw[Int.neg_tdiv];omega
 rw[e y,e c,e d];have g1:=(jP (x:=-x) (by omega) (by omega) h2).2;have g2:=(jP (x:=-x) (by omega) hc h1).2;omega
theorem Hc {x y c d:Int} (hd:d<0) (h1:c≤y) (h2:y≤d):Cn (x.tdiv y) (x.tdiv c) (x.tdiv d):=by
 have e:∀z:Int,x.tdiv z=-(x.tdiv (-z)):=fun z=>by rw[Int.tdiv_neg];omega
 rw[e y,e c,e d];have:=zP (x:=x) (y:=-y) (c:=-d) (d:=-c) (by omega) (by omega) (by omega);unfold Cn at *;omega
def mD (a b:aO):aO:=fM (fm (a.1.tdiv b.1) (a.1.tdiv b.2)) (fm (a.2.tdiv b.1) (a.2.tdiv b.2))
theorem xA {a b:aO} {x y:Int} (hb:0<b.1∨b.2<0) (hx:dD x a) (hy:dD y b):dD (x.tdiv y) (mD a b):=by
 have hy0:y≠0:=by
  unfold dD at hy;rcases hb with h|h<;>omega
 have key:∀x:Int,Cn (x.tdiv y) (x.tdiv b.1) (x.tdiv b.2):=fun x=>by
  rcases hb with h|h
  ·exact zP h hy.1 hy.2
  exact Hc h hy.1 hy.2
 exact DY (key a.1) (key a.2) (Mw hy0 hx.1 hx.2)
theorem ny {a b:aO} {lo hi:Int} (h:∀x y,dD x a→dD y b→lo≤x.tdiv y∧x.tdiv y≤hi) (na:a.1≤a.2) (nb:b.1≤b.2):lo≤(mD a b).1∧(mD a b).2≤hi:=by
 have l1:dD a.1 a:=⟨Int.le_refl _,na⟩;have l2:dD a.2 a:=⟨na,Int.le_refl _⟩;have r1:dD b.1 b:=⟨Int.le_refl _,nb⟩;have r2:dD b.2 b:=⟨nb,Int.le_refl _⟩;exact lP (h _ _ l1 r1) (h _ _ l1 r2) (h _ _ l2 r1) (h _ _ l2 r2)
def fN (a b:aO):aO:=
 if a.1=gf∧b.1≤-1∧-1≤b.2 then (gf,gW) else
 if b.1=0∧b.2=0 then fD else
 if 0≤b.1 then mD a (if b.1=0 then 1 else b.1,b.2) else
 if b.2≤0 then mD a (b.1,if b.2=0 then -1 else b.2) else fM (mD a (b.1,-1)) (mD a (1,b.2))
theorem Hd {a b:aO} {x y:Int} (hx:dD x a) (hy:dD y b) (h0:y≠0) (hno:¬(a.1=gf∧b.1≤-1∧-1≤b.2)):dD (x.tdiv y) (fN a b):=by
 unfold fN;unfold dD at hy;rw[if_neg hno,if_neg (by omega)]
 by_cases h1:0≤b.1
 ·rw[if_pos h1];exact xA (.inl (by dsimp only;split<;>omega)) hx ⟨by dsimp only;split<;>omega,by dsimp only;omega⟩
 rw[if_neg h1]
 by_cases h2:b.2≤0
 ·rw[if_pos h2];exact xA (.inr (by dsimp only;split<;>omega)) hx ⟨by dsimp only;omega,by dsimp only;split<;>omega⟩
 rw[if_neg h2];rcases Int.lt_or_gt_of_ne h0 with h|h
 ·have:=xA (a:=a) (b:=(b.1,-1)) (x:=x) (y:=y) (.inr (by dsimp only;omega)) hx ⟨by dsimp only;omega,by dsimp only;omega⟩;unfold dD fM at *
  (repeat' split)<;>omega
 have:=xA (a:=a) (b:=(1,b.2)) (x:=x) (y:=y) (.inl (by dsimp only;omega)) hx ⟨by dsimp only;omega,by dsimp only;omega⟩;unfold dD fM at *
 (repeat' split)<;>omega
theorem qA {a b:aO} {lo hi:Int} (h:∀x y,dD x a→dD y b→y≠0→lo≤x.tdiv y∧x.tdiv y≤hi) (na:a.1≤a.2) (nb:b.1≤b.2) (hno:¬(a.1=gf∧b.1≤-1∧-1≤b.2)):(fN a b).2<(fN a b).1∨(lo≤(fN a b).1∧(fN a b).2≤hi):=by
 unfold fN;rw[if_neg hno]
 by_cases hz:b.1=0∧b.2=0
 ·rw[if_pos hz];left;decide
 rw[if_neg hz]
 right
 by_cases h1:0≤b.1
 ·rw[if_pos h1];refine ny (fun x y hx hy=>?_) na (by dsimp only;split<;>omega);unfold dD at hy;dsimp only at hy;exact h x y hx ⟨by split at hy<;>omega,hy.2⟩ (by split at hy<;>omega)
 rw[if_neg h1]
 by_cases h2:b.2≤0
 ·rw[if_pos h2];refine ny (fun x y hx hy=>?_) na (by dsimp only;split<;>omega);unfold dD at hy;dsimp only at hy;exact h x y hx ⟨hy.1,by split at hy<;>omega⟩ (by split at hy<;>omega)
 rw[if_neg h2];have g1:=ny (a:=a) (b:=(b.1,-1)) (lo:=lo) (hi:=hi) (fun x y hx hy=>by
  unfold dD at hy;dsimp only at hy;exact h x y hx ⟨hy.1,by omega⟩ (by omega)) na (by dsimp only;omega)
 have g2:=ny (a:=a) (b:=(1,b.2)) (lo:=lo) (hi:=hi) (fun x y hx hy=>by
  unfold dD at hy;dsimp only at hy;exact h x y hx ⟨by omega,hy.2⟩ (by omega)) na (by dsimp only;omega)
 unfold fM
 constructor<;>split<;>omega
theorem CA {a b:aO} {x y:Int} (ha:bw a) (hb:bw b) (hx:dD x a) (hy:dD y b) (hno:¬(a.1=gf∧b.1≤-1∧-1≤b.2)) (h0:y≠0):aY (x.tdiv y):=by
 have h1:=Int.natAbs_tdiv_le_natAbs x y;unfold bw aY at *;unfold dD at *;unfold gf at hno
 by_cases hm:x=-9223372036854775808
 ·have hy1:y≠-1:=by
   intro e;apply hno;omega
  subst hm;rcases Int.lt_or_gt_of_ne h0 with h|h
  ·have:=(jP (x:=9223372036854775808) (y:=-y) (c:=2) (by omega) (by omega) (by omega));have e:(-9223372036854775808:Int).tdiv y=(9223372036854775808:Int).tdiv (-y):=by
    rw[Int.tdiv_neg,←Int.neg_tdiv]
   rw[e];have e2:(9223372036854775808:Int).tdiv 2=4611686018427387904:=by decide
   rw[e2] at this;omega
  have:=(jP (x:=9223372036854775808) (y:=y) (c:=1) (by omega) (by omega) (by omega)).1;have e:(-9223372036854775808:Int).tdiv y=-((9223372036854775808:Int).tdiv y):=by rw[←Int.neg_tdiv]
  omega
 omega
theorem He {a b a' b':aO} (ha:bw a) (hb:bw b) (na:a.1≤a.2) (nb:b.1≤b.2) (sa:a'.1≤a.1∧a.2≤a'.2) (sb:b'.1≤b.1∧b.2≤b'.2) (ha':gf≤a'.1):cJ (fN a b) (fN a' b'):=by
 by_cases hno':a'.1=gf∧b'.1≤-1∧-1≤b'.2
 ·have e:fN a' b'=(gf,gW):=by unfold fN;rw[if_pos hno']
  rw[e]
  by_cases hno:a.1=gf∧b.1≤-1∧-1≤b.2
  ·have e:fN a b=(gf,gW):=by unfold fN;rw[if_pos hno]
   rw[e];exact cJ.refl _
  exact qA (fun x y hx hy h0=>CA ha hb hx hy hno h0) na nb hno
 have hno:¬(a.1=gf∧b.1≤-1∧-1≤b.2):=fun h=>hno' (by unfold gf at *;omega);exact qA (fun x y hx hy h0=>Hd (a:=a') (b:=b') ⟨by have:=hx.1;omega,by have:=hx.2;omega⟩ ⟨by have:=hy.1;omega,by have:=hy.2;omega⟩ h0 hno') na nb hno
def Fd (b:aO):Int:=dx (if b.1<0 then -b.1 else b.1) (if b.2<0 then -b.2 else b.2) - 1
def tb (a b:aO):aO:=if b.1=0∧b.2=0 then fD else (if a.1<0 then dx (-(Fd b)) a.1 else 0,if 0<a.2 then dM (Fd b) a.2 else 0)
theorem Hf {a b a' b':aO} (na:a.1≤a.2) (nb:b.1≤b.2) (sa:a'.1≤a.1∧a.2≤a'.2) (sb:b'.1≤b.1∧b.2≤b'.2):cJ (tb a b) (tb a' b'):=by
 unfold tb
 by_cases h:b.1=0∧b.2=0
 ·rw[if_pos h];left;decide
 rw[if_neg h]
 by_cases h':b'.1=0∧b'.2=0
 ·exfalso;apply h;omega
 rw[if_neg h']
 right
 have hk:Fd b≤Fd b':=by unfold Fd dx;(repeat' split)<;>omega
 have h0:0≤Fd b:=by unfold Fd dx;(repeat' split)<;>omega
 constructor
 ·dsimp only;unfold dx;(repeat' split)<;>omega
 dsimp only;unfold dM;(repeat' split)<;>omega
def ol (no yes:Bool):aO:=(if no then 0 else 1,if yes then 1 else 0)
theorem mQ {n y n' y':Bool} (h1:n=true→n'=true) (h2:y=true→y'=true):cJ (ol n y) (ol n' y'):=by
 right
 cases n<;>cases y<;>cases n'<;>cases y'<;>simp_all[ol]
def NL (a b:aO):aO:=ol (!(decide (a.1=a.2)&&decide (a=b))) (!decide ((bR a b).2<(bR a b).1))
def N1 (a b:aO):aO:=ol (decide (b.1≤a.2)) (decide (a.1<b.2))
def N2 (a b:aO):aO:=ol (decide (b.1<a.2)) (decide (a.1≤b.2))
def Fe (a:aO):aO:=ol (decide (a.2=1)) (decide (a.1=0))
def Ff (a b:aO):aO:=ol (decide (a.1=0)||decide (b.1=0)) (decide (a.2=1)&&decide (b.2=1))
theorem xB {a b:aO}:(bR a b).2<(bR a b).1↔dM a.2 b.2<dx a.1 b.1:=by
 unfold bR et;split
 ·rename_i h;exact ⟨fun _=>h,fun _=>by decide⟩
 exact Iff.rfl
theorem Kk {a b a' b':aO} (na:a.1≤a.2) (nb:b.1≤b.2) (sa:a'.1≤a.1∧a.2≤a'.2) (sb:b'.1≤b.1∧b.2≤b'.2):cJ (NL a b) (NL a' b'):=by
 refine mQ (fun h=>?_) (fun h=>?_)
 ·simp only[Bool.not_eq_true',Bool.and_eq_false_iff,decide_eq_false_iff_not,Prod.ext_iff] at h ⊢;omega
 simp only[Bool.not_eq_true',decide_eq_false_iff_not,xB] at h ⊢;unfold dM dx at *
 (repeat' split at h)<;>(repeat' split)<;>omega
theorem Kl {a b a' b':aO} (na:a.1≤a.2) (nb:b.1≤b.2) (sa:a'.1≤a.1∧a.2≤a'.2) (sb:b'.1≤b.1∧b.2≤b'.2):cJ (N1 a b) (N1 a' b'):=
 mQ (fun h=>by simp only[wi] at *;omega) (fun h=>by simp only[wi] at *;omega)
theorem Km {a b a' b':aO} (na:a.1≤a.2) (nb:b.1≤b.2) (sa:a'.1≤a.1∧a.2≤a'.2) (sb:b'.1≤b.1∧b.2≤b'.2):cJ (N2 a b) (N2 a' b'):=
 mQ (fun h=>by simp only[wi] at *;omega) (fun h=>by simp only[wi] at *;omega)
theorem Hg {a a':aO} (na:a.1≤a.2) (sa:a'.1≤a.1∧a.2≤a'.2) (h0:0≤a'.1) (h1:a'.2≤1):cJ (Fe a) (Fe a'):=
 mQ (fun h=>by simp only[wi] at *;omega) (fun h=>by simp only[wi] at *;omega)
theorem Hh {a b a' b':aO} (na:a.1≤a.2) (nb:b.1≤b.2) (sa:a'.1≤a.1∧a.2≤a'.2) (sb:b'.1≤b.1∧b.2≤b'.2) (h0:0≤a'.1) (h1:a'.2≤1) (g0:0≤b'.1) (g1:b'.2≤1):cJ (Ff a b) (Ff a' b'):=
 mQ (fun h=>by simp only[Bool.or_eq_true,wi] at *;omega) (fun h=>by simp only[wc,wi] at *;omega)
theorem gG {a b a' b':aO} (sa:cJ a a') (sb:cJ b b'):cJ (bR a b) (bR a' b'):=by
 unfold cJ at *
 by_cases h:(bR a b).2<(bR a b).1
 ·exact .inl h
 right
 rw[xB] at h;have hn':¬dM a'.2 b'.2<dx a'.1 b'.1:=by unfold dM dx at *;(repeat' split at h)<;>(repeat' split)<;>omega
 unfold bR et;rw[if_neg h,if_neg hn'];dsimp only;unfold dM dx at *
 constructor<;>(repeat' split)<;>(repeat' split at h)<;>omega
def qB (num:Int) (a b:aO):aO:=
 if num=0 then (if b.2=gf then fD else bR a (gf,b.2 - 1)) else
 if num=1 then bR a (gf,b.2) else
 if num=2 then bR a b else
 if num=3 then bR a (b.1,gW) else
 if num=4 then (if b.1=gW then fD else bR a (b.1+1,gW)) else a
theorem zQ {num:Int} {a b a' b':aO} (hb:bw b) (hb':bw b') (nb:b.1≤b.2) (sa:cJ a a') (sb:b'.1≤b.1∧b.2≤b'.2):cJ (qB num a b) (qB num a' b'):=by
 have hb1:=hb.1;have hb2:=hb.2;have hb3:=hb'.1;have hb4:=hb'.2;unfold aY at hb1 hb2 hb3 hb4;unfold qB
 by_cases h0:num=0
 ·rw[if_pos h0,if_pos h0]
  by_cases c:b.2=gf
  ·rw[if_pos c];left;decide
  rw[if_neg c,if_neg (by unfold gf at *;omega)];exact gG sa (.inr ⟨Int.le_refl _,by dsimp only;omega⟩)
 rw[if_neg h0,if_neg h0]
 by_cases h1:num=1
 ·rw[if_pos h1,if_pos h1];exact gG sa (.inr ⟨Int.le_refl _,by dsimp only;omega⟩)
 rw[if_neg h1,if_neg h1]
 by_cases h2:num=2
 ·rw[if_pos h2,if_pos h2];exact gG sa (.inr sb)
 rw[if_neg h2,if_neg h2]
 by_cases h3:num=3
 ·rw[if_pos h3,if_pos h3];exact gG sa (.inr ⟨by dsimp only;omega,Int.le_refl _⟩)
 rw[if_neg h3,if_neg h3]
 by_cases h4:num=4
 ·rw[if_pos h4,if_pos h4]
  by_cases c:b.1=gW
  ·rw[if_pos c];left;decide
  rw[if_neg c,if_neg (by unfold gW at *;omega)];exact gG sa (.inr ⟨by dsimp only;omega,Int.le_refl _⟩)
 rw[if_neg h4,if_neg h4];exact sa
theorem Fg {a b a' b':aO} (sa:cJ a a') (sb:cJ b b'):cJ (bU a b) (bU a' b'):=by
 rw[←zN,←zN];unfold cJ Hb fD at *;dsimp only
 by_cases c1:a.2<a.1<;>by_cases c2:b.2<b.1<;>by_cases c3:a'.2<a'.1<;>by_cases c4:b'.2<b'.1<;>simp only[c1,c2,c3,c4,if_true,if_false]<;>(repeat' split)<;>dsimp only<;>omega
def lQ:aO:=(gf,gW)
def o9 (k:Nat) (a b:aO) (chk:Bool):aO:=if chk=true∨kE k a b then kF k a b else lQ
def ra (rs:List aO) (i:Nat):aO:=(rs[i]?).getD (0,0)
def nW (op num:Int) (rs:List aO) (chk:Bool):aO:=
 if op=0 then sf num else if op=1∨op=12 then ra rs 0 else
 if op=2 then o9 0 (ra rs 0) (ra rs 1) chk else if op=3 then o9 1 (ra rs 0) (ra rs 1) chk else if op=4 then o9 2 (ra rs 0) (ra rs 1) chk else
 if op=5 then fN (ra rs 0) (ra rs 1) else if op=6 then tb (ra rs 0) (ra rs 1) else
 if op=7 then NL (ra rs 0) (ra rs 1) else if op=8 then N1 (ra rs 0) (ra rs 1) else if op=9 then N2 (ra rs 0) (ra rs 1) else
 if op=10 then Fe (ra rs 0) else if op=11 then Ff (ra rs 0) (ra rs 1) else
 if op=15 then bR (ra rs 0) (0,64) else if op=16 then sf 0 else
 if op=25 then qB num (ra rs 0) (ra rs 1) else if op=26 then qB 0 (bR (ra rs 0) (0,gW)) (ra rs 1) else lQ
structure tc (a a':aO):Prop where
 ok:bw a
 ok':bw a'
 ne:a.1≤a.2
 sub:a'.1≤a.1∧a.2≤a'.2
theorem tc.rsub {a a':aO} (h:tc a a'):cJ a a':=.inr h.sub
theorem tc.zero:tc (0,0) (0,0):=⟨⟨by decide,by decide⟩,⟨by decide,by decide⟩,by decide,by decide,by decide⟩
theorem td {k:Nat} {a b a' b':aO} {chk:Bool} (hk:k≤2) (ha:tc a a') (hb:tc b b'):cJ (o9 k a b chk) (o9 k a' b' chk):=by
 unfold o9
 by_cases h':chk=true∨kE k a' b'
 ·have h:chk=true∨kE k a b:=h'.imp id fun h=>ta ha.ne hb.ne ha.sub hb.sub h;rw[if_pos h',if_pos h];exact Fc hk ha.ok hb.ok ha.ok' hb.ok' ha.ne hb.ne ha.sub hb.sub
 rw[if_neg h']
 right
 by_cases h:chk=true∨kE k a b
 ·rw[if_pos h];have g:∀x y,aY (iV k x y):=fun x y=>DW k x y;exact lP (g _ _) (g _ _) (g _ _) (g _ _)
 rw[if_neg h];exact ⟨Int.le_refl _,Int.le_refl _⟩
theorem Fh {op num:Int} {rs rs':List aO} {chk:Bool} (h0:tc (ra rs 0) (ra rs' 0)) (h1:tc (ra rs 1) (ra rs' 1))
  (hb:op=10∨op=11→0≤(ra rs' 0).1∧(ra rs' 0).2≤1) (hb1:op=11→0≤(ra rs' 1).1∧(ra rs' 1).2≤1):cJ (nW op num rs chk) (nW op num rs' chk):=by
 unfold nW
 by_cases c0:op=0
 ·rw[if_pos c0,if_pos c0];exact cJ.refl _
 rw[if_neg c0,if_neg c0]
 by_cases c1:op=1∨op=12
 ·rw[if_pos c1,if_pos c1];exact h0.rsub
 rw[if_neg c1,if_neg c1]
 by_cases c2:op=2
 ·rw[if_pos c2,if_pos c2];exact td (by omega) h0 h1
 rw[if_neg c2,if_neg c2]
 by_cases c3:op=3
 ·rw[if_pos c3,if_pos c3];exact td (by omega) h0 h1
 rw[if_neg c3,if_neg c3]
 by_cases c4:op=4
 ·rw[if_pos c4,if_pos c4];exact td (by omega) h0 h1
 rw[if_neg c4,if_neg c4]
 by_cases c5:op=5
 ·rw[if_pos c5,if_pos c5];exact He h0.ok h1.ok h0.ne h1.ne h0.sub h1.sub h0.ok'.1.1
 rw[if_neg c5,if_neg c5]
 by_cases c6:op=6
 ·rw[if_pos c6,if_pos c6];exact Hf h0.ne h1.ne h0.sub h1.sub
 rw[if_neg c6,if_neg c6]
 by_cases c7:op=7
 ·rw[if_pos c7,if_pos c7];exact Kk h0.ne h1.ne h0.sub h1.sub
 rw[if_neg c7,if_neg c7]
 by_cases c8:op=8
 ·rw[if_pos c8,if_pos c8];exact Kl h0.ne h1.ne h0.sub h1.sub
 rw[if_neg c8,if_neg c8]
 by_cases c9:op=9
 ·rw[if_pos c9,if_pos c9];exact Km h0.ne h1.ne h0.sub h1.sub
 rw[if_neg c9,if_neg c9]
 by_cases c10:op=10
 ·rw[if_pos c10,if_pos c10];exact Hg h0.ne h0.sub (hb (.inl c10)).1 (hb (.inl c10)).2
 rw[if_neg c10,if_neg c10]
 by_cases c11:op=11
 ·rw[if_pos c11,if_pos c11];exact Hh h0.ne h1.ne h0.sub h1.sub (hb (.inr c11)).1 (hb (.inr c11)).2 (hb1 c11).1 (hb1 c11).2
 rw[if_neg c11,if_neg c11]
 by_cases c15:op=15
 ·rw[if_pos c15,if_pos c15];exact gG h0.rsub (cJ.refl _)
 rw[if_neg c15,if_neg c15]
 by_cases c16:op=16
 ·rw[if_pos c16,if_pos c16];exact cJ.refl _
 rw[if_neg c16,if_neg c16]
 by_cases c25:op=25
 ·rw[if_pos c25,if_pos c25];exact zQ h1.ok h1.ok' h1.ne h0.rsub h1.sub
 rw[if_neg c25,if_neg c25]
 by_cases c26:op=26
 ·rw[if_pos c26,if_pos c26];exact zQ h1.ok h1.ok' h1.ne (gG h0.rsub (cJ.refl _)) h1.sub
 rw[if_neg c26,if_neg c26];exact cJ.refl _
def om (h:aO × Bool) (n:Int) (fits:Bool) (e:Int):aO × Bool:=(bU h.1 (sf (if fits then n else e)),h.2||!fits)
def h4 (h:aO × Bool) (a b:aO) (n:Int→Int→Int) (fit:Int→Int→Bool) (e:Int→Int→Int):aO × Bool:=
 om (om (om (om h (n a.1 b.1) (fit a.1 b.1) (e a.1 b.1)) (n a.1 b.2) (fit a.1 b.2) (e a.1 b.2)) (n a.2 b.1) (fit a.2 b.1) (e a.2 b.1)) (n a.2 b.2) (fit a.2 b.2) (e a.2 b.2)
instance (k:Nat) (x y:Int):Decidable (dF k x y):=by unfold dF aY;infer_instance
instance (k:Nat) (a b:aO):Decidable (kE k a b):=by unfold kE;infer_instance
def tf (k:Nat) (a b:aO):aO × Bool:=h4 (fD,false) a b (iH k) (fun x y=>decide (dF k x y)) (nV k)
theorem Hi (k:Nat) (a b:aO):tf k a b=(kF k a b,!decide (kE k a b)):=by
 rw[←Ki];unfold tf h4 om LU kE iV;simp only[Bool.false_or,wi];refine Prod.ext U ?_;dsimp only
 by_cases h1:dF k a.1 b.1<;>by_cases h2:dF k a.1 b.2<;>by_cases h3:dF k a.2 b.1<;>by_cases h4:dF k a.2 b.2<;>simp[h1,h2,h3,h4]
def qC (k:Nat) (a b:aO) (chk:Bool):aO:=if chk then (tf k a b).1 else if (tf k a b).2 then lQ else (tf k a b).1
theorem D0 (k:Nat) (a b:aO) (chk:Bool):qC k a b chk=o9 k a b chk:=by
 unfold qC o9;rw[Hi];cases chk
 ·by_cases h:kE k a b<;>simp[h]
 simp
def gK (x y:Int):Bool:=decide (x≠gf)||decide (y≠-1)
def pa (a p:aO) (h:aO × Bool):aO × Bool:=if p.2<p.1 then h else h4 h a p Int.tdiv gK (fun _ _=>gW)
def wl (a b:aO):aO:=
 let h:=pa a (bR b (1,gW)) (pa a (bR b (gf,-1)) (fD,false))
 if h.2 then lQ else h.1
theorem CB {lo hi:Int} (h:lo≤hi) (p q r s:Int):bU (bU (bU (bU (lo,hi) (sf p)) (sf q)) (sf r)) (sf s)=fM (lo,hi) (fM (fm p q) (fm r s)):=by
 obtain ⟨e1,g1⟩:=ic h p;obtain ⟨e2,g2⟩:=ic g1 q;obtain ⟨e3,g3⟩:=ic g2 r;obtain ⟨e4,_⟩:=ic g3 s;rw[e1,e2,e3,e4];unfold fM fm dM dx;refine Prod.ext ?_ ?_<;>dsimp only<;>(repeat' split)<;>(try dsimp only)<;>(repeat' split)<;>omega
theorem CC {h:aO × Bool} {a p:aO} (hf:gK a.1 p.1=true∧gK a.1 p.2=true∧gK a.2 p.1=true∧gK a.2 p.2=true) :
  h4 h a p Int.tdiv gK (fun _ _=>gW)=(bU (bU (bU (bU h.1 (sf (a.1.tdiv p.1))) (sf (a.1.tdiv p.2))) (sf (a.2.tdiv p.1))) (sf (a.2.tdiv p.2)),h.2):=by
 unfold h4 om;simp[hf.1,hf.2.1,hf.2.2.1,hf.2.2.2]
theorem Hj {h:aO × Bool} {a p:aO} (n:Int→Int→Int) (fit:Int→Int→Bool) (e:Int→Int→Int) :
  (h4 h a p n fit e).2=(h.2||!(fit a.1 p.1&&fit a.1 p.2&&fit a.2 p.1&&fit a.2 p.2)):=by
 unfold h4 om;cases fit a.1 p.1<;>cases fit a.1 p.2<;>cases fit a.2 p.1<;>cases fit a.2 p.2<;>simp
theorem Kn (a p:aO):(mD a p).1≤(mD a p).2:=by
 unfold mD fM fm
 (repeat' split)<;>(try dsimp only at *)<;>omega
theorem Hk {a b:aO} (ha:bw a) (hb:bw b) (na:a.1≤a.2) (nb:b.1≤b.2):wl a b=fN a b:=by
 obtain ⟨a1,a2⟩:=a;obtain ⟨b1,b2⟩:=b;have ha1:=ha.1;have ha2:=ha.2;have hb1:=hb.1;have hb2:=hb.2;unfold aY at ha1 ha2 hb1 hb2;dsimp only at ha1 ha2 hb1 hb2 na nb;have hM:gW=9223372036854775807:=rfl;have hm:gf=-9223372036854775808:=rfl;have hneg:bR (b1,b2) (gf,-1)=if b1<0 then (b1,if -1<b2 then -1 else b2) else fD:=by
  unfold bR et dM dx;dsimp only;rw[hm]
  (repeat' split)<;>first|rfl|omega|(refine Prod.ext ?_ ?_<;>dsimp only<;>omega)
 have hpos:bR (b1,b2) (1,gW)=if 0<b2 then (if b1<1 then 1 else b1,b2) else fD:=by
  unfold bR et dM dx;dsimp only;rw[hM]
  (repeat' split)<;>first|rfl|omega|(refine Prod.ext ?_ ?_<;>dsimp only<;>omega)
 have hno:(fD).2<(fD).1:=by decide
 unfold wl;rw[hneg,hpos];have fitPos:∀x y:Int,0<y→gK x y=true:=fun x y h=>by unfold gK;simp;right;omega
 have hposF:0<b2→(gK a1 (if b1<1 then 1 else b1)=true∧gK a1 b2=true∧gK a2 (if b1<1 then 1 else b1)=true∧gK a2 b2=true):=fun h=>
  ⟨fitPos _ _ (by split<;>omega),fitPos _ _ h,fitPos _ _ (by split<;>omega),fitPos _ _ h⟩
 by_cases cN:b1<0
 ·rw[if_pos cN];have hnp:¬((b1,if -1<b2 then -1 else b2):aO).2<((b1,if -1<b2 then -1 else b2):aO).1:=by dsimp only;split<;>omega
  rw[pa.eq_1 _ (b1,_),if_neg hnp]
  by_cases cW:a1=gf∧-1≤b2
  ·
   have hw:(h4 (fD,false) (a1,a2) (b1,if -1<b2 then -1 else b2) Int.tdiv gK (fun _ _=>gW)).2=true:=by
    rw[Hj];have:gK a1 (if -1<b2 then -1 else b2)=false:=by unfold gK;simp;exact ⟨cW.1,by omega⟩
    dsimp only;rw[this];simp
   have hw2:(pa (a1,a2) (if 0<b2 then (if b1<1 then 1 else b1,b2) else fD) (h4 (fD,false) (a1,a2) (b1,if -1<b2 then -1 else b2) Int.tdiv gK (fun _ _=>gW))).2=true:=by
    generalize (if 0<b2 then (if b1<1 then 1 else b1,b2) else fD:aO)=q
    generalize h4 (fD,false) (a1,a2) (b1,if -1<b2 then -1 else b2) Int.tdiv gK (fun _ _=>gW)=h at hw ⊢
    unfold pa
    by_cases c:q.2<q.1
    ·rw[if_pos c];exact hw
    rw[if_neg c,Hj,hw];rfl
   dsimp only;rw[if_pos hw2];unfold fN;rw[if_pos ⟨cW.1,by dsimp only;omega,cW.2⟩];rfl
  have hF:gK a1 b1=true∧gK a1 (if -1<b2 then -1 else b2)=true∧gK a2 b1=true∧gK a2 (if -1<b2 then -1 else b2)=true:=by
   unfold gK;simp only[ne_eq,Bool.or_eq_true,wi];refine ⟨?_,?_,?_,?_⟩<;>(try split)<;>omega
  have e1:=CC (h:=(fD,false)) (a:=(a1,a2)) (p:=(b1,if -1<b2 then -1 else b2)) hF;dsimp only at e1;rw[e1,Ha]
  by_cases cP:0<b2
  ·rw[if_pos cP];have hpp:¬((if b1<1 then 1 else b1,b2):aO).2<((if b1<1 then 1 else b1,b2):aO).1:=by dsimp only;split<;>omega
   unfold pa;rw[if_neg hpp];have e2:=CC (h:=(fM (fm (a1.tdiv b1) (a1.tdiv (if -1<b2 then -1 else b2))) (fm (a2.tdiv b1) (a2.tdiv (if -1<b2 then -1 else b2))),false)) (a:=(a1,a2)) (p:=(if b1<1 then 1 else b1,b2)) (hposF cP);dsimp only at e2;rw[e2];have ho:=Kn (a1,a2) (b1,if -1<b2 then -1 else b2);unfold mD at ho;dsimp only at ho ⊢;rw[if_neg (by simp)];refine (CB ho _ _ _ _).trans ?_;have hx:(if -1<b2 then -1 else b2)=-1:=if_pos (by omega);have hy:(if b1<1 then 1 else b1)=1:=if_pos (by omega);have hd:fN (a1,a2) (b1,b2)=fM (mD (a1,a2) (b1,-1)) (mD (a1,a2) (1,b2)):=by
    unfold fN;dsimp only;rw[if_neg (by omega),if_neg (by omega),if_neg (by omega),if_neg (by omega)]
   rw[hx,hy,hd]
   rfl
  rw[if_neg cP];unfold pa;rw[if_pos hno];dsimp only;rw[if_neg (by simp)];have hx:(if -1<b2 then -1 else b2)=if b2=0 then -1 else b2:=by (repeat' split)<;>omega
  have hd:fN (a1,a2) (b1,b2)=mD (a1,a2) (b1,if b2=0 then -1 else b2):=by
   unfold fN;dsimp only;rw[if_neg (by omega),if_neg (by omega),if_neg (by omega),if_pos (by omega)]
  rw[hx,hd];rfl
 rw[if_neg cN];rw[pa.eq_1 _ fD,if_pos hno]
 by_cases cP:0<b2
 ·rw[if_pos cP];have hpp:¬((if b1<1 then 1 else b1,b2):aO).2<((if b1<1 then 1 else b1,b2):aO).1:=by dsimp only;split<;>omega
  unfold pa;rw[if_neg hpp];have e2:=CC (h:=(fD,false)) (a:=(a1,a2)) (p:=(if b1<1 then 1 else b1,b2)) (hposF cP);dsimp only at e2 ⊢;rw[e2,Ha,if_neg (by simp)];have hy:(if b1<1 then 1 else b1)=if b1=0 then 1 else b1:=by (repeat' split)<;>omega
  have hd:fN (a1,a2) (b1,b2)=mD (a1,a2) (if b1=0 then 1 else b1,b2):=by
   unfold fN;dsimp only;rw[if_neg (by omega),if_neg (by omega),if_pos (by omega)]
  rw[hy,hd];rfl
 rw[if_neg cP];unfold pa;rw[if_pos hno];have hd:fN (a1,a2) (b1,b2)=fD:=by
  unfold fN;dsimp only;rw[if_neg (by omega),if_pos (by omega)]
 rw[hd];rfl
def ry (a b:aO):aO:=
 if b=(0,0) then fD else
  let k:=if 0<b.2 then dx (if b.1<0 then -(b.1+1) else 0) (b.2 - 1) else (if b.1<0 then -(b.1+1) else 0)
  (if a.1<0 then dx a.1 (-k) else 0,if 0<a.2 then dM a.2 k else 0)
theorem Hl {a b:aO} (nb:b.1≤b.2):ry a b=tb a b:=by
 obtain ⟨b1,b2⟩:=b;unfold ry tb;dsimp only at *
 by_cases h:b1=0∧b2=0
 ·rw[if_pos h,if_pos (by rw[h.1,h.2])]
 rw[if_neg h,if_neg (by intro e;cases e;exact h ⟨rfl,rfl⟩)];have:(if 0<b2 then dx (if b1<0 then -(b1+1) else 0) (b2 - 1) else (if b1<0 then -(b1+1) else 0))=Fd (b1,b2):=by
  unfold Fd dx;dsimp only;(repeat' split)<;>omega
 rw[this];refine Prod.ext ?_ ?_
 ·dsimp only;unfold dx;(repeat' split)<;>omega
 dsimp only;unfold dM;(repeat' split)<;>omega
def Fi (always never:Bool):aO:=if always then (1,1) else if never then (0,0) else (0,1)
theorem xC {al ne no ye:Bool} (h1:no=!al) (h2:ye=!ne) (h:¬(al=true∧ne=true)):Fi al ne=ol no ye:=by
 subst h1 h2;cases al<;>cases ne<;>simp_all[Fi,ol]
def lR (op:Int) (a b:aO):aO:=
 if a.2<a.1∨b.2<b.1 then fD else
 if op=7 then Fi (decide (a.1=a.2)&&decide (a=b)) (decide ((bR a b).2<(bR a b).1)) else
 if op=8 then Fi (decide (a.2<b.1)) (decide (b.2≤a.1)) else
 if op=9 then Fi (decide (a.2≤b.1)) (decide (b.2<a.1)) else (0,1)
theorem Mx {a b:aO} (na:a.1≤a.2) (nb:b.1≤b.2):lR 7 a b=NL a b:=by
 unfold lR;rw[if_neg (by omega),if_pos rfl];refine xC U U ?_;rintro ⟨h1,h2⟩;simp only[wc,wi,xB] at h1 h2;obtain ⟨h1,rfl⟩:=h1;unfold dM dx at h2
 (repeat' split at h2)<;>omega
theorem My {a b:aO} (na:a.1≤a.2) (nb:b.1≤b.2):lR 8 a b=N1 a b:=by
 unfold lR;rw[if_neg (by omega),if_neg (by decide),if_pos rfl];refine xC (by rw[←decide_not];exact decide_eq_decide.2 (by omega)) (by rw[←decide_not];exact decide_eq_decide.2 (by omega)) ?_;simp only[wi];omega
theorem Mz {a b:aO} (na:a.1≤a.2) (nb:b.1≤b.2):lR 9 a b=N2 a b:=by
 unfold lR;rw[if_neg (by omega),if_neg (by decide),if_neg (by decide),if_pos rfl];refine xC (by rw[←decide_not];exact decide_eq_decide.2 (by omega)) (by rw[←decide_not];exact decide_eq_decide.2 (by omega)) ?_;simp only[wi];omega
theorem Ko {a:aO} (na:a.1≤a.2) (h0:0≤a.1) (h1:a.2≤1):((1 - a.2,1 - a.1):aO)=Fe a:=by
 unfold Fe ol;refine Prod.ext ?_ ?_<;>simp only[wi]<;>split<;>omega
theorem Kp {a b:aO} (na:a.1≤a.2) (nb:b.1≤b.2) (h0:0≤a.1) (h1:a.2≤1) (g0:0≤b.1) (g1:b.2≤1):((dM a.1 b.1,dM a.2 b.2):aO)=Ff a b:=by
 unfold Ff ol dM;refine Prod.ext ?_ ?_<;>simp only[Bool.or_eq_true,wc,wi]<;>(repeat' split)<;>omega
def CD (num:Int) (a b:aO):aO:=
 if a.2<a.1∨b.2<b.1 then fD else
 if num=0 then (if b.2=gf then fD else et a.1 (dM a.2 (b.2 - 1))) else
 if num=1 then et a.1 (dM a.2 b.2) else
 if num=2 then bR a b else
 if num=3 then et (dx a.1 b.1) a.2 else
 if num=4 then (if b.1=gW then fD else et (dx a.1 (b.1+1)) a.2) else a
theorem D1 {num:Int} {a b:aO} (ha:bw a) (na:a.1≤a.2) (nb:b.1≤b.2):CD num a b=qB num a b:=by
 have h1:=ha.1;have h2:=ha.2;unfold aY at h1 h2;have e1:dx a.1 gf=a.1:=by unfold dx gf;split<;>omega
 have e2:dM a.2 gW=a.2:=by unfold dM gW;split<;>omega
 unfold CD qB bR;rw[if_neg (by omega)];dsimp only;rw[e1,e2]
end
section
open Go.Proofs.Tryz
open Go.Proofs
theorem gj {z:Int} (h:aY z):IntKind.i64.wrap z=z:=by
 unfold aY at h;unfold IntKind.wrap;simp[IntKind.bits,IntKind.signed];omega
def eT (a:aO) (i:Nat):Int:=if i=0 then a.1 else a.2
theorem CE {a:aO} (h:bw a) (i:Nat):aY (eT a i):=by unfold eT;split;exact h.1;exact h.2
theorem sD {a:aO} {i:Nat} (h:i<2):([AV.i a.1,AV.i a.2]:List AV)[i]?=some (.i (eT a i)):=by
 rcases (by omega:i=0∨i=1) with rfl|rfl<;>rfl
def NM (n:Int→Int→Int) (fit:Int→Int→Bool) (e:Int→Int→Int) (h0:aO × Bool) (a b:aO):Nat→aO × Bool
 |0=>h0
 |m+1=>om (NM n fit e h0 a b m) (n (eT a (m / 2)) (eT b (m % 2))) (fit (eT a (m / 2)) (eT b (m % 2))) (e (eT a (m / 2)) (eT b (m % 2)))
theorem zR {n:Int→Int→Int} {fit:Int→Int→Bool} {e:Int→Int→Int} {h0:aO × Bool} {a b:aO} (i:Nat) {j:Nat} (hj:j<2) :
  NM n fit e h0 a b (2*i+(j+1))=om (NM n fit e h0 a b (2*i+j)) (n (eT a i) (eT b j)) (fit (eT a i) (eT b j)) (e (eT a i) (eT b j)):=by
 rw[←Nat.add_assoc,NM,show (2*i+j) / 2=i by omega,show (2*i+j) % 2=j by omega]
theorem mR {h:aO × Bool} {n n':Int} {fits:Bool} {e e':Int} (h1:fits=true→n=n') (h2:e=e'):om h n fits e=om h n' fits e':=by
 cases fits
 ·unfold om;simp[h2]
 rw[h1 rfl,h2]
theorem Kq {x y:Int}:decide (dF 0 x y)=true→IntKind.i64.wrap (x+y)=iH 0 x y:=fun h=>gj (wg h)
theorem Kr {x y:Int}:decide (dF 1 x y)=true→IntKind.i64.wrap (x - y)=iH 1 x y:=fun h=>gj (wg h)
theorem Hm {x y:Int}:decide (dF 2 x y)=true→IntKind.i64.wrap (x*y)=iH 2 x y:=fun h=>gj (wg h)
theorem Pd {x y:Int} (hx:aY x) (hy:aY y):(!(decide (x<0) == decide (y<0))||(decide (IntKind.i64.wrap (x+y)<0) == decide (x<0)))=decide (dF 0 x y):=by
 have hw:IntKind.i64.wrap (x+y)=(if x+y < -9223372036854775808 then x+y+18446744073709551616 else if 9223372036854775807<x+y then x+y - 18446744073709551616 else x+y):=by
  unfold aY at hx hy;unfold IntKind.wrap;simp[IntKind.bits,IntKind.signed];(repeat' split)<;>omega
 rw[hw,w4,wi];show _↔aY (x+y);unfold aY at *;simp only[Bool.or_eq_true,Bool.not_eq_true',beq_eq_false_iff_ne,beq_iff_eq,decide_eq_decide,ne_eq]
 (repeat' split)<;>omega
theorem Pe {x y:Int} (hx:aY x) (hy:aY y):((decide (x<0) == decide (y<0))||(decide (IntKind.i64.wrap (x - y)<0) == decide (x<0)))=decide (dF 1 x y):=by
 have hw:IntKind.i64.wrap (x - y)=(if x - y < -9223372036854775808 then x - y+18446744073709551616 else if 9223372036854775807<x - y then x - y - 18446744073709551616 else x - y):=by
  unfold aY at hx hy;unfold IntKind.wrap;simp[IntKind.bits,IntKind.signed];(repeat' split)<;>omega
 rw[hw,w4,wi];show _↔aY (x - y);unfold aY at *;simp only[Bool.or_eq_true,beq_iff_eq,decide_eq_decide]
 (repeat' split)<;>omega
theorem mS {x:Int} (h:aY x):(if x<0 then IntKind.u64.wrap (0 - IntKind.u64.wrap x) else IntKind.u64.wrap x)=((x.natAbs:Nat):Int):=by
 unfold aY at h;unfold IntKind.wrap;simp[IntKind.bits,IntKind.signed];split<;>omega
theorem Hn {x:Int} (h:aY x):x.natAbs<18446744073709551616:=by unfold aY at h;omega
theorem Pf {x y:Int}:(decide (((x.natAbs*y.natAbs / 18446744073709551616:Nat):Int)=0)&&decide (((x.natAbs*y.natAbs % 18446744073709551616:Nat):Int)≤(if (!(decide (x<0) == decide (y<0)))=true then 9223372036854775808 else 9223372036854775807)))=decide (dF 2 x y):=by
 have hm:=Int.natAbs_mul x y;rw[w4,wi (p:=dF 2 x y)];show _↔aY (x*y);unfold aY;rw[←hm];have hs:(x<0↔y<0)→0≤x*y:=fun h=>by
  by_cases hx:x<0
  ·exact Int.le_of_lt (Int.mul_pos_of_neg_of_neg hx (h.1 hx))
  exact Int.mul_nonneg (by omega) (by have:=mt h.2 hx;omega)
 have hd:¬(x<0↔y<0)→x*y≤0:=fun h=>by
  by_cases hx:x<0
  ·have hy:¬y<0:=fun hy=>h ⟨fun _=>hy,fun _=>hx⟩;exact Int.mul_nonpos_of_nonpos_of_nonneg (by omega) (by omega)
  have hy:y<0:=Classical.byContradiction fun hy=>h ⟨fun h=>absurd h hx,fun h=>absurd h hy⟩;exact Int.mul_nonpos_of_nonneg_of_nonpos (by omega) (by omega)
 generalize x*y=z at *
 simp only[wc,wi,Bool.not_eq_true',beq_eq_false_iff_ne,decide_eq_decide,ne_eq]
 by_cases c:(x<0↔y<0)
 ·have:=hs c;rw[if_neg (by simp[c])];omega
 have:=hd c;rw[if_pos c];omega
theorem MA (x y:Int):(if decide (x<0)=true then gf else gW)=nV 0 x y:=rfl
theorem MB (x y:Int):(if decide (x<0)=true then gf else gW)=nV 1 x y:=rfl
theorem MC (x y:Int):(if (!(decide (x<0) == decide (y<0)))=true then gf else gW)=nV 2 x y:=rfl
theorem D2 {x y:Int} (hx:aY x) (hy:y≠0) (h:gK x y=true):IntKind.i64.wrap (x.tdiv y)=x.tdiv y:=by
 refine gj ?_;have h1:(x.tdiv y).natAbs=x.natAbs / y.natAbs:=Int.natAbs_tdiv x y;have h2:x.natAbs / y.natAbs≤x.natAbs:=Nat.div_le_self _ _;unfold aY at *
 by_cases e:x=-9223372036854775808
 ·subst e;have hy1:y≠-1:=by unfold gK gf at h;simpa using h
  by_cases h3:y=1
  ·subst h3;rw[Int.tdiv_one];omega
  have h4:2≤y.natAbs:=by omega
  have h5:(-9223372036854775808:Int).natAbs / y.natAbs≤(-9223372036854775808:Int).natAbs / 2:=Nat.div_le_div_left h4 (by omega);have h6:(-9223372036854775808:Int).natAbs / 2=4611686018427387904:=by decide
  omega
 omega
def rz (b:aO) (q:Nat):aO:=if q=0 then bR b (gf,-1) else bR b (1,gW)
def vw (a b:aO):Nat→aO × Bool
 |0=>(fD,false)
 |q+1=>pa a (rz b q) (vw a b q)
theorem Ho (a b:aO):wl a b=if (vw a b 2).2 then lQ else (vw a b 2).1:=rfl
theorem Ks {b:aO} {q j:Nat} (h:¬(rz b q).2<(rz b q).1):eT (rz b q) j≠0:=by
 unfold rz at *;unfold eT;split at h
 ·rename_i hq;rw[if_pos hq];unfold bR et dM dx fD at *;dsimp only at *
  (repeat' split at h)<;>(repeat' split)<;>(try dsimp only at *)<;>omega
 rename_i hq;rw[if_neg hq];unfold bR et dM dx fD at *;dsimp only at *
 (repeat' split at h)<;>(repeat' split)<;>(try dsimp only at *)<;>omega
def bM (r:aO):List AV:=[.i r.1,.i r.2]
def xD (h:aO × Bool):List AV:=[.i h.1.1,.i h.1.2,.bool h.2]
theorem Kt {r:aO} {x y:Int} (h1:x=r.1) (h2:y=r.2):AV.agg [.i x,.i y]=AV.agg (bM r):=by subst h1 h2;rfl
theorem Hp {b:aO} {q:Nat} (h:q<2):((bM (bR b (gf,-1))++bM (bR b (1,gW))).drop (q*2)).take 2=bM (rz b q):=by
 rcases (by omega:q=0∨q=1) with rfl|rfl<;>rfl
theorem pb:eS prog 63 #[(0,1),(1,1)] [.i 0,.i 0]:=⟨_,_,jx,Za,fun w=>by kernel_rfl,rfl⟩
variable {E:World}
set_option maxRecDepth 20000
theorem pd (a b c d:Int) (w:World):(Op.equalIn 10000 63 (.agg [.int .i64 a,.int .i64 b].toArray) (.agg [.int .i64 c,.int .i64 d].toArray)).run prog w=.ok (decide (a=c∧b=d)) w:=by
 have hS:prog.underlying 63=some (.struct (prog.fieldsOf 63)):=by kernel_rfl
 have hp:prog.stoodInHeld 63=false:=by kernel_rfl
 rw[show (10000:Nat)=9999+1 from rfl,run_equalIn_agg w 9999 _ _ _ hS hp];simp only[Program.fieldsOf,jx];simp[Op.eqFields,part,Zb,run_equalIn_int,Zz]
 by_cases h1:a=c<;>by_cases h2:b=d<;>simp[h1,h2]
theorem jA:aS prog E 41 [] (.agg (bM fD)):=by
 refine zm func41 U (by decide) U<|Z<|zp (cs:=[.i 0,.i 0]) Za U U<|fun i0=>Y<|Z<|X (y5 (cps:=[(0,[_]),(1,[_])]) (rs:=[_,_]) pb U U U)<|zi j8 U U U U U U .head U<|Y<|zf<|yi U ⟨_,.head⟩ jw j8 U ?_
 rfl
theorem LW (n:Int):aS prog E 70 [.i n] (.agg (bM (sf n))):=by
 refine zm func70 U (by decide) U<|Z<|zp (cs:=[.i 0,.i 0]) Za U U<|fun i2=>Y<|Z<|C U<|C U<|X (y5 (cps:=[(0,[_]),(1,[_])]) (rs:=[_,_]) pb U U U)<|zi j8 U U U U U U .head U<|Y<|zf<|yi U ⟨_,.head⟩ jw j8 U ?_
 rfl
theorem Hq:aS prog E 112 [] (.agg (bM lQ)):=by
 refine zm func112 U (by decide) U<|Z<|zp (cs:=[.i 0,.i 0]) Za U U<|fun i0=>Y<|Z<|X (y5 (cps:=[(0,[_]),(1,[_])]) (rs:=[_,_]) pb U U U)<|zi j8 U U U U U U .head U<|Y<|zf<|yi U ⟨_,.head⟩ jw j8 U ?_
 rfl
theorem D3 (t:Int):aS prog E 69 [.i t] (.agg (bM (fK t))):=by
 refine zm func69 U (by decide) U<|Z<|zp (cs:=[.i 0,.i 0]) Za U U<|fun i2=>Y<|za<|Z<|C U<|Y<|zd<|Z<|au U U<|ah U<|Y<|zq U (fun c1=>?_) (fun c1=>?_)
 ·refine Z<|zb (Hq) U<|zi j8 U U U U U U .head U<|Y<|zf<|yi U ⟨_,.head⟩ jw j8 U ?_;exact Kt (by simp_all[fK,lQ]) (by simp_all[fK,lQ])
 refine Z<|au U U<|ah U<|Y<|zq U (fun c2=>?_) (fun c2=>?_)
 ·refine Z<|X (y5 (cps:=[(0,[_]),(1,[_])]) (rs:=[_,_]) pb U U U)<|zi j8 U U U U U U .head U<|Y<|zf<|yi U ⟨_,.head⟩ jw j8 U ?_;exact Kt (by simp_all[fK,lQ]) (by simp_all[fK,lQ])
 refine Z<|au U U<|ah U<|Y<|zq U (fun c3=>?_) (fun c3=>?_)
 ·refine Z<|X (y5 (cps:=[(0,[_]),(1,[_])]) (rs:=[_,_]) pb U U U)<|zi j8 U U U U U U .head U<|Y<|zf<|yi U ⟨_,.head⟩ jw j8 U ?_;exact Kt (by simp_all[fK,lQ]) (by simp_all[fK,lQ])
 refine zc<|Z<|zb (jA) U<|zi j8 U U U U U U .head U<|Y<|zf<|yi U ⟨_,.head⟩ jw j8 U ?_;exact Kt (by simp_all[fK,lQ]) (by simp_all[fK,lQ])
theorem wm (lo hi:Int):aS prog E 188 [.i lo,.i hi] (.agg (bM (et lo hi))):=by
 refine zm func188 U (by decide) U<|Z<|zp (cs:=[.i 0,.i 0]) Za U U<|fun i4=>Y<|za<|Z<|C U<|C U<|bg U U<|Y<|zh U (fun c=>?_) (fun c=>?_)
 ·refine Z<|zb (jA) U<|zi j8 U U U U U U .head U<|Y<|zf<|yi U ⟨_,.head⟩ jw j8 U ?_;rw[et,if_pos c];try rfl
 refine zc<|Z<|C U<|C U<|X (y5 (cps:=[(0,[_]),(1,[_])]) (rs:=[_,_]) pb U U U)<|zi j8 U U U U U U .head U<|Y<|zf<|yi U ⟨_,.head⟩ jw j8 U ?_;rw[et,if_neg c];try rfl
theorem pe (a b:aO):aS prog E 146 [.agg (bM a),.agg (bM b)] (.agg (bM (bR a b))):=by
 refine zm func146 U (by decide) U<|Z<|zx (cs:=_) U U U<|zx (cs:=_) U U U<|zp (cs:=[.i 0,.i 0]) Za U U<|fun i4=>Y<|Z<|ao jx U Z0 U U<|aD Zb U<|ao jx U Z0 U U<|aD Zb U<|X (Gv.maxI U U)<|ao jx U Z0 U U<|aD Zb U<|ao jx U Z0 U U<|aD Zb U<|X (Gv.minI U U)<|zb (wm _ _) U<|zi j8 U U U U U U .head U<|Y<|zf<|yi U ⟨_,.head⟩ jw j8 U ?_
 rfl
theorem ff (r:aO):aS prog E 71 [.agg (bM r)] (.bool (decide (r.2<r.1))):=by
 refine zm func71 U (by decide) U<|Z<|zx (cs:=_) U U U<|ah U<|Y<|Z<|ao jx U Z0 U U<|aD Zb U<|ao jx U Z0 U U<|aD Zb U<|bg U U<|ah U<|Y<|zf ?_
 repeat (first|refine ad ?_|refine aa ?_)
 refine bt U ?_
 rfl
theorem D4 (a b:aO):aS prog E 148 [.agg (bM a),.agg (bM b)] (.agg (bM (bU a b))):=by
 refine zm func148 U (by decide) U<|Z<|zx (cs:=_) U U U<|zx (cs:=_) U U U<|zp (cs:=[.i 0,.i 0]) Za U U<|fun i4=>Y<|za<|zd<|Z<|ae jw j8 U U<|zb (ff _) U<|ah U<|Y<|zh U (fun c1=>?_) (fun c1=>?_)
 ·refine Z<|ao jx U Z0 U U<|aD Zb U<|ao jx U Z0 U U<|aD Zb U<|zb (wm _ _) U<|zi j8 U U U U U U .head U<|Y<|zf<|yi U ⟨_,.head⟩ jw j8 U ?_;rw[bU,if_pos c1];try rfl
 refine Z<|ae jw j8 U U<|zb (ff _) U<|ah U<|Y<|zh U (fun c2=>?_) (fun c2=>?_)
 ·refine Z<|ae jw j8 U U<|zi j8 U U U U U U .head U<|Y<|zf<|yi U ⟨_,.head⟩ jw j8 U ?_;rw[bU,if_neg c1,if_pos c2];try rfl
 refine zc<|Z<|ao jx U Z0 U U<|aD Zb U<|ao jx U Z0 U U<|aD Zb U<|X (Gv.minI U U)<|ao jx U Z0 U U<|aD Zb U<|ao jx U Z0 U U<|aD Zb U<|X (Gv.maxI U U)<|X (y5 (cps:=[(0,[_]),(1,[_])]) (rs:=[_,_]) pb U U U)<|zi j8 U U U U U U .head U<|Y<|zf<|yi U ⟨_,.head⟩ jw j8 U ?_;rw[bU,if_neg c1,if_neg c2];try rfl
theorem Hr (b:Bool):aS prog E 211 [.bool b] (.i (if b=true then gf else gW)):=by
 refine zm func211 U (by decide) U<|Z<|ap U<|Y<|za<|Z<|aw U<|Y<|zq U (fun c7=>?_) (fun c7=>?_)
 ·refine Z<|ap U<|Y<|zf ?_
  repeat (first|refine ad ?_|refine aa ?_)
  refine gu U ?_
  simp_all[gf,gW]
 refine zc<|Z<|ap U<|Y<|zf ?_
 repeat (first|refine ad ?_|refine aa ?_)
 refine gu U ?_
 simp_all[gf,gW]
theorem LX (op:Int):aS prog E 184 [.i op] (.bool (decide (op=2)||(decide (op=3)||decide (op=4)))):=by
 refine zm func184 U (by decide) U<|Z<|ah U<|Y<|Z<|C U<|au U U<|aw U<|zo (s:=5) U (fun c8=>?_) (fun c8=>?_)
 ·refine H U U c8<|H U U c8<|aA U c8 U<|aw U<|H U U U<|H U U U<|aA U U U<|ah U<|Y<|zf ?_
  repeat (first|refine ad ?_|refine aa ?_)
  refine bt U ?_;exact jb (by simp_all)
 refine M U U c8<|C U<|M U U c8<|au U U<|ay U c8 U<|aw U<|zo (s:=9) U (fun c9=>?_) (fun c9=>?_)
 ·refine H U U c9<|H U U c9<|aA U c9 U<|ah U<|Y<|zf ?_
  repeat (first|refine ad ?_|refine aa ?_)
  refine bt U ?_;exact jb (by simp_all)
 refine M U U c9<|C U<|M U U c9<|au U U<|ay U c9 U<|ah U<|Y<|zf ?_
 repeat (first|refine ad ?_|refine aa ?_)
 refine bt U ?_;exact jb (by simp_all)
theorem Pg {x y:Int} (hx:aY x) (hy:aY y):aS prog E 209 [.i x,.i y] (.tup [.i (IntKind.i64.wrap (x+y)),.bool (decide (dF 0 x y))]):=by
 rw[←Pd hx hy];refine zm func209 U (by decide) U<|Z<|ap U<|ah U<|Y<|Z<|C U<|C U<|X (Gv.addW U U)<|ap U<|Y<|Z<|C U<|C U<|aq U U<|C U<|aq U U<|X (Gv.neqB Yp U U)<|aw U<|zo (s:=16) U (fun c10=>?_) (fun c10=>?_)
 ·refine H U U c10<|H U U c10<|H U U c10<|H U U c10<|H U U c10<|aA U c10 U<|ap U<|ah U<|Y<|zf<|ql (x:=.int _ _) (y:=.bool _) U U ?_
  simp_all
 refine M U U c10<|C U<|M U U c10<|aq U U<|M U U c10<|C U<|M U U c10<|aq U U<|M U U c10<|X (Gv.eqlB Yp U U)<|ay U c10 U<|ap U<|ah U<|Y<|zf<|ql (x:=.int _ _) (y:=.bool _) U U ?_
 simp_all
theorem Ph {x y:Int} (hx:aY x) (hy:aY y):aS prog E 212 [.i x,.i y] (.tup [.i (IntKind.i64.wrap (x - y)),.bool (decide (dF 1 x y))]):=by
 rw[←Pe hx hy];refine zm func212 U (by decide) U<|Z<|ap U<|ah U<|Y<|Z<|C U<|C U<|X (Gv.subW U U)<|ap U<|Y<|Z<|C U<|C U<|aq U U<|C U<|aq U U<|X (Gv.eqlB Yp U U)<|aw U<|zo (s:=16) U (fun c11=>?_) (fun c11=>?_)
 ·refine H U U c11<|H U U c11<|H U U c11<|H U U c11<|H U U c11<|aA U c11 U<|ap U<|ah U<|Y<|zf<|ql (x:=.int _ _) (y:=.bool _) U U ?_
  simp_all
 refine M U U c11<|C U<|M U U c11<|aq U U<|M U U c11<|C U<|M U U c11<|aq U U<|M U U c11<|X (Gv.eqlB Yp U U)<|ay U c11 U<|ap U<|ah U<|Y<|zf<|ql (x:=.int _ _) (y:=.bool _) U U ?_
 simp_all
theorem N3 {x:Int} (hx:aY x):aS prog E 231 [.i x] (.int .u64 (x.natAbs:Int)):=by
 rw[←mS hx];refine zm func231 U (by decide) U<|Z<|ap U<|Y<|za<|Z<|C U<|aq U U<|Y<|zh U (fun c=>?_) (fun c=>?_)
 ·refine Z<|C U<|X (Gv.conv Zz Zt U)<|X (Gv.neg U)<|ap U<|Y<|zf ?_
  repeat (first|refine ad ?_|refine aa ?_)
  refine gu U ?_;rw[if_pos c];try rfl
 refine zc<|Z<|C U<|X (Gv.conv Zz Zt U)<|ap U<|Y<|zf ?_
 repeat (first|refine ad ?_|refine aa ?_)
 refine gu U ?_;rw[if_neg c];try rfl
theorem Pi {x y:Int} (hy:y≠0):aS prog E 214 [.i x,.i y] (.tup [.i (IntKind.i64.wrap (x.tdiv y)),.bool true]):=by
 refine zm func214 U (by decide) U<|Z<|ap U<|ah U<|Y<|za<|Z<|C U<|au U U<|Y<|yl U (by simpa using hy)<|zc<|Z<|C U<|C U<|X (Gv.quo U U (by omega))<|ap U<|ah U<|Y<|zf<|ql (x:=.int _ _) (y:=.bool _) U U ?_
 rfl
end
section
open Go.Proofs.Tryz
open Go.Proofs
theorem lS (z:Int):IntKind.i64.wrap z=(z+9223372036854775808) % 18446744073709551616 - 9223372036854775808:=by
 unfold IntKind.wrap;simp[IntKind.bits,IntKind.signed];(try split)<;>omega
theorem tg (z:Int):IntKind.u64.wrap z=z % 18446744073709551616:=by
 unfold IntKind.wrap;simp[IntKind.bits,IntKind.signed]
theorem Fj (x y:Int):IntKind.i64.wrap (IntKind.u64.wrap (IntKind.u64.wrap x+IntKind.u64.wrap y))=IntKind.i64.wrap (x+y):=by
 simp only[lS,tg];omega
theorem Fk (x y:Int):IntKind.i64.wrap (IntKind.u64.wrap (IntKind.u64.wrap x - IntKind.u64.wrap y))=IntKind.i64.wrap (x - y):=by
 simp only[lS,tg];omega
theorem Fl (x y:Int):IntKind.i64.wrap (IntKind.u64.wrap (IntKind.u64.wrap x*IntKind.u64.wrap y))=IntKind.i64.wrap (x*y):=by
 simp only[lS,tg];rw[←Int.mul_emod];omega
theorem Fm (x:Int):IntKind.i64.wrap (IntKind.u64.wrap (0 - IntKind.u64.wrap x))=IntKind.i64.wrap (x.tdiv (-1)):=by
 rw[show x.tdiv (-1)=-x by rw[Int.tdiv_neg,Int.tdiv_one]];simp only[lS,tg];omega
theorem Pj {x y:Int} (hx:aY x) (hx0:x≠0) (hy0:y≠0):decide ((x.natAbs:Int)≤IntKind.u64.wrap ((if (decide (x<0) == decide (y<0))=true then 9223372036854775807 else 9223372036854775808:Int).tdiv (y.natAbs:Int)))=decide (dF 2 x y):=by
 rw[decide_eq_decide,←Mv x y hx0 hy0];obtain ⟨l,hl⟩:∃l:Nat,(if decide (x<0)=decide (y<0) then 9223372036854775807 else 9223372036854775808)=l:=⟨_,rfl⟩;have hl2:(if (decide (x<0) == decide (y<0))=true then 9223372036854775807 else 9223372036854775808:Int)=(l:Int):=by
  rw[←hl]
  by_cases h:decide (x<0)=decide (y<0)
  ·rw[if_pos h,if_pos (by simpa using h)];rfl
  rw[if_neg h,if_neg (by simpa using h)];rfl
 have hll:l≤9223372036854775808:=by rw[←hl];split<;>omega
 rw[hl,hl2,show ((l:Int)).tdiv (y.natAbs:Int)=((l / y.natAbs:Nat):Int) from rfl,tg];have h3:=Nat.div_le_self l y.natAbs
 generalize l / y.natAbs=q at h3 ⊢
 omega
end
section
open Go.Proofs.Tryz
open Go.Proofs
variable {E:World}
set_option maxRecDepth 20000
theorem CF {k:Nat} (hk:k≤2) {x y:Int} (hx:aY x) (hy:aY y):aS prog E 92 [.i k,.i x,.i y] (.bool (decide (dF k x y))):=by
 have hx1:=hx;have hy1:=hy;unfold aY at hx1 hy1;refine zm func92 U (by decide) U<|Z<|ah U<|Y<|za<|Z<|C U<|Y<|zd<|Z<|au U U<|ah U<|Y<|zh U (fun c0=>?_) (fun c0=>?_)
 ·have hk0:k=0:=by omega
  subst hk0;refine Z<|C U<|bg U U<|aw U<|zo (s:=16) U (fun c1=>?_) (fun c1=>?_)
  ·refine M U U c1<|C U<|M U U c1<|C U<|M U U c1<|X (Gv.sub U U (by unfold mB;simp at *;omega))<|M U U c1<|bg U U<|aA U c1 U<|aL U<|aw U<|zo (s:=23) U (fun c2=>?_) (fun c2=>?_)
   ·refine M U U c2<|C U<|M U U c2<|aq U U<|M U U c2<|aw U<|zo (s:=26) U (fun c3=>?_) (fun c3=>?_)
    ·refine M U U c3<|C U<|M U U c3<|C U<|M U U c3<|X (Gv.sub U U (by unfold mB;simp at *;omega))<|M U U c3<|aq U U<|M U U c2<|aA U c3 U<|M U U c2<|aL U<|aA U c2 U<|ah U<|Y<|zf ?_
     repeat (first|refine ad ?_|refine aa ?_)
     refine bt U ?_;exact jb (by rw[w4];unfold dF iH aY;simp at *<;>omega)
    refine H U U c3<|H U U c3<|H U U c3<|H U U c3<|M U U c2<|ay U c3 U<|M U U c2<|aL U<|aA U c2 U<|ah U<|Y<|zf ?_
    repeat (first|refine ad ?_|refine aa ?_)
    refine bt U ?_;exact jb (by rw[w4];unfold dF iH aY;simp at *<;>omega)
   refine H U U c2<|H U U c2<|H U U c2<|zg U U<|zg U U<|zg U U<|zg U U<|H U U c2<|H U U c2<|ay U c2 U<|ah U<|Y<|zf ?_
   repeat (first|refine ad ?_|refine aa ?_)
   refine bt U ?_;exact jb (by rw[w4];unfold dF iH aY;simp at *<;>omega)
  refine H U U c1<|H U U c1<|H U U c1<|H U U c1<|ay U c1 U<|aL U<|aw U<|M U U U<|C U<|M U U U<|aq U U<|M U U U<|aw U<|zo (s:=26) U (fun c4=>?_) (fun c4=>?_)
  ·refine M U U c4<|C U<|M U U c4<|C U<|M U U c4<|X (Gv.sub U U (by unfold mB;simp at *;omega))<|M U U c4<|aq U U<|M U U U<|aA U c4 U<|M U U U<|aL U<|aA U U U<|ah U<|Y<|zf ?_
   repeat (first|refine ad ?_|refine aa ?_)
   refine bt U ?_;exact jb (by rw[w4];unfold dF iH aY;simp at *<;>omega)
  refine H U U c4<|H U U c4<|H U U c4<|H U U c4<|M U U U<|ay U c4 U<|M U U U<|aL U<|aA U U U<|ah U<|Y<|zf ?_
  repeat (first|refine ad ?_|refine aa ?_)
  refine bt U ?_;exact jb (by rw[w4];unfold dF iH aY;simp at *<;>omega)
 refine Z<|au U U<|ah U<|Y<|zh U (fun c1=>?_) (fun c1=>?_)
 ·have hk1:k=1:=by omega
  subst hk1;refine Z<|C U<|aq U U<|aw U<|zo (s:=38) U (fun c5=>?_) (fun c5=>?_)
  ·refine M U U c5<|C U<|M U U c5<|C U<|M U U c5<|X (Gv.add U U (by unfold mB;simp at *;omega))<|M U U c5<|bg U U<|aA U c5 U<|aL U<|aw U<|zo (s:=45) U (fun c6=>?_) (fun c6=>?_)
   ·refine M U U c6<|C U<|M U U c6<|bg U U<|M U U c6<|aw U<|zo (s:=48) U (fun c7=>?_) (fun c7=>?_)
    ·refine M U U c7<|C U<|M U U c7<|C U<|M U U c7<|X (Gv.add U U (by unfold mB;simp at *;omega))<|M U U c7<|aq U U<|M U U c6<|aA U c7 U<|M U U c6<|aL U<|aA U c6 U<|ah U<|Y<|zf ?_
     repeat (first|refine ad ?_|refine aa ?_)
     refine bt U ?_;exact jb (by rw[w4];unfold dF iH aY;simp at *<;>omega)
    refine H U U c7<|H U U c7<|H U U c7<|H U U c7<|M U U c6<|ay U c7 U<|M U U c6<|aL U<|aA U c6 U<|ah U<|Y<|zf ?_
    repeat (first|refine ad ?_|refine aa ?_)
    refine bt U ?_;exact jb (by rw[w4];unfold dF iH aY;simp at *<;>omega)
   refine H U U c6<|H U U c6<|H U U c6<|zg U U<|zg U U<|zg U U<|zg U U<|H U U c6<|H U U c6<|ay U c6 U<|ah U<|Y<|zf ?_
   repeat (first|refine ad ?_|refine aa ?_)
   refine bt U ?_;exact jb (by rw[w4];unfold dF iH aY;simp at *<;>omega)
  refine H U U c5<|H U U c5<|H U U c5<|H U U c5<|ay U c5 U<|aL U<|aw U<|M U U U<|C U<|M U U U<|bg U U<|M U U U<|aw U<|zo (s:=48) U (fun c8=>?_) (fun c8=>?_)
  ·refine M U U c8<|C U<|M U U c8<|C U<|M U U c8<|X (Gv.add U U (by unfold mB;simp at *;omega))<|M U U c8<|aq U U<|M U U U<|aA U c8 U<|M U U U<|aL U<|aA U U U<|ah U<|Y<|zf ?_
   repeat (first|refine ad ?_|refine aa ?_)
   refine bt U ?_;exact jb (by rw[w4];unfold dF iH aY;simp at *<;>omega)
  refine H U U c8<|H U U c8<|H U U c8<|H U U c8<|M U U U<|ay U c8 U<|M U U U<|aL U<|aA U U U<|ah U<|Y<|zf ?_
  repeat (first|refine ad ?_|refine aa ?_)
  refine bt U ?_;exact jb (by rw[w4];unfold dF iH aY;simp at *<;>omega)
 have hk2:k=2:=by omega
 subst hk2;refine zc<|za<|za<|y3 (γ:=Bool) [1,2] (fun u=>[(61,.bool u)]) (fun u=>[]) (fun u=>u=decide (x=0∨y=0)) ?_ (fun _ _ h=>h) ?_
 ·refine bZ<|C U<|au U U<|aw U<|zo (s:=58) U (fun c9=>?_) (fun c9=>?_)
  ·refine H U U c9<|H U U c9<|aA U c9 U<|Y ?_;exact ⟨_,cV,aN,aJ,by simp_all⟩
  refine M U U c9<|C U<|M U U c9<|au U U<|ay U c9 U<|Y ?_;exact ⟨_,cV,aN,aJ,by simp_all⟩
 rintro u hu;subst hu;refine zh U (fun cz=>?_) (fun cz=>?_)
 ·refine Z<|ah U<|Y<|zf ?_
  repeat (first|refine ad ?_|refine aa ?_)
  refine bt U ?_;exact jb (by rw[wa];unfold dF;rw[show iH 2 x y=x*y from rfl];rcases cz with h|h<;>rw[h]<;>simp[aY])
 have hx0:x≠0:=fun e=>cz (.inl e);have hy0:y≠0:=fun e=>cz (.inr e);refine zc<|Z<|C U<|aq U U<|C U<|aq U U<|X (Gv.eqlB Yp U U)<|ah U<|Y<|Z<|C U<|X (Gv.conv Zz Zt U)<|C U<|X (Gv.conv Zz Zt U)<|ap U<|ap U<|Y<|za<|Z<|C U<|aq U U<|Y<|y3 (γ:=Int) [2,7,9] (fun u=>[(8,.int .u64 u)]) (fun u=>[]) (fun u=>u=(x.natAbs:Int)) ?_ (fun _ _ h=>h) ?_
 ·refine zh U (fun c=>?_) (fun c=>?_)
  ·refine bZ<|C U<|X (Gv.neg U)<|ap U<|Y ?_;exact ⟨_,eX,aN,aJ,by have:=mS hx;rwa [if_pos c] at this⟩
  refine zc ?_;exact ⟨_,eX,aN,aJ,by have:=mS hx;rwa [if_neg c] at this⟩
 rintro u hu;subst hu;refine za<|Z<|C U<|aq U U<|Y<|y3 (γ:=Int) [7,8] (fun u=>[(9,.int .u64 u)]) (fun u=>[]) (fun u=>u=(y.natAbs:Int)) ?_ (fun _ _ h=>h) ?_
 ·refine zh U (fun c=>?_) (fun c=>?_)
  ·refine bZ<|C U<|X (Gv.neg U)<|ap U<|Y ?_;exact ⟨_,cV,aN,aJ,by have:=mS hy;rwa [if_pos c] at this⟩
  refine zc ?_;exact ⟨_,cV,aN,aJ,by have:=mS hy;rwa [if_neg c] at this⟩
 rintro u hu;subst hu;refine Z<|ap U<|Y<|za<|Z<|aw U<|aL U<|Y<|y3 (γ:=Int) [8,9] (fun u=>[(10,.int .u64 u)]) (fun u=>[]) (fun u=>u=(if (decide (x<0) == decide (y<0))=true then 9223372036854775807 else 9223372036854775808)) ?_ (fun _ _ h=>h) ?_
 ·refine zq U (fun c=>?_) (fun c=>?_)
  ·refine bZ<|ap U<|Y ?_;exact ⟨_,cV,aN,aJ,by rw[if_neg (by simpa using c)]⟩
  refine zc ?_;exact ⟨_,cV,aN,aJ,by rw[if_pos (by simpa using c)]⟩
 rintro u hu;subst hu;refine Z<|C U<|C U<|C U<|X (Gv.quo U U (by omega))<|X (Gv.leq U U)<|ah U<|Y<|zf ?_
 repeat (first|refine ad ?_|refine aa ?_)
 refine bt U ?_;exact jb (Pj hx hx0 hy0)
theorem N4 {k:Nat} (hk:k≤2) {x y:Int}:aS prog E 96 [.i k,.i x,.i y] (.i (IntKind.i64.wrap (iH k x y))):=by
 refine zm func96 U (by decide) U<|Z<|ap U<|Y<|za<|Z<|C U<|Y<|zd<|Z<|au U U<|ah U<|Y<|zh U (fun c0=>?_) (fun c0=>?_)
 ·have hk0:k=0:=by omega
  subst hk0;refine Z<|C U<|X (Gv.conv Zz Zt U)<|C U<|X (Gv.conv Zz Zt U)<|X (Gv.addW U U)<|X (Gv.conv Zt Zz U)<|ap U<|Y<|zf ?_
  repeat (first|refine ad ?_|refine aa ?_)
  refine gu U ?_;exact congrArg (AV.int .i64) (Fj x y)
 refine Z<|au U U<|ah U<|Y<|zh U (fun c1=>?_) (fun c1=>?_)
 ·have hk1:k=1:=by omega
  subst hk1;refine Z<|C U<|X (Gv.conv Zz Zt U)<|C U<|X (Gv.conv Zz Zt U)<|X (Gv.subW U U)<|X (Gv.conv Zt Zz U)<|ap U<|Y<|zf ?_
  repeat (first|refine ad ?_|refine aa ?_)
  refine gu U ?_;exact congrArg (AV.int .i64) (Fk x y)
 have hk2:k=2:=by omega
 subst hk2;refine zc<|Z<|C U<|X (Gv.conv Zz Zt U)<|C U<|X (Gv.conv Zz Zt U)<|X (Gv.mulW U U)<|X (Gv.conv Zt Zz U)<|ap U<|Y<|zf ?_
 repeat (first|refine ad ?_|refine aa ?_)
 refine gu U ?_;exact congrArg (AV.int .i64) (Fl x y)
theorem N5 {x y:Int} (hy:y≠0):aS prog E 97 [.i x,.i y] (.tup [.i (IntKind.i64.wrap (x.tdiv y)),.i (if y=-1 then 0 else IntKind.i64.wrap (x - IntKind.i64.wrap (IntKind.i64.wrap (x.tdiv y)*y)))]):=by
 refine zm func97 U (by decide) U<|Z<|ap U<|ap U<|Y<|za<|Z<|C U<|au U U<|Y<|zh U (fun c=>?_) (fun c=>?_)
 ·refine Z<|C U<|X (Gv.conv Zz Zt U)<|X (Gv.neg U)<|X (Gv.conv Zt Zz U)<|ap U<|ap U<|Y<|zf<|ql (x:=.int _ _) (y:=.int _ _) U U ?_;rw[if_pos c,c,Fm];try rfl
 refine zc<|za<|zn (fun j=>false) (by kernel_rfl) U (zk (.rest _))<|D 0 U (dC U)<|D 1 U (dC U)<|D 2 U (Gv.quo U U (by omega))<|D 3 U (dC U)<|D 4 U (dC U)<|D 5 U (dC U)<|D 6 U (Gv.quo U U (by omega))<|D 7 U (dC U)<|D 8 U (Gv.mulW U U)<|D 9 U (Gv.subW U U)<|D 10 U (DS U)<|D 11 U (DS U)<|dS<|zf<|ql (x:=.int _ _) (y:=.int _ _) U U ?_;rw[if_neg c];try rfl
set_option linter.defProp false
def zz:=@aR.knowP
def y7:=@Gv.idxI
def yp:=@Gv.loadI
def yq:=@bJ.two
def yw:=@ax.storeI
def yx:=@dI.perm
def yy:=@ax.storeB
def qc:=@RepL.fld
def qd:=@ax.makeNest
def qg:=@ax.nestTake
def qj:=@jZ.at
def qk:=@ax.makeB
def qn:=@Gv.idxN
def qo:=@ax.nestPut
def qp:=@ax.makeI
end
end Go.Proofs.YtbbonnfjealmpaaGreatDoor
