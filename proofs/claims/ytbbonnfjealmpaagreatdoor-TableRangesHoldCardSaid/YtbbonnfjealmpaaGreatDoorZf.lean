/- The printer's lines of instructions and ends. No conditions but bounds. -/
import Derived.Test.YtbbonnfjealmpaaGreatDoorZd
import Derived.Test.YtbbonnfjealmpaaGreatDoorZe
import Derived.Test.YtbbonnfjealmpaaGreatDoorZc
import Derived.Sort.Grow
import Derived.Laws.CopyRow
import Derived.Shelf.Small.Bits
import Derived.Shelf.Small.Wraps
import Derived.Shelf.Strconv.Itoa0
import Derived.Shelf.Sort.Plain
import Derived.Shelf.Unicode.Props
import Derived.Shelf.LaysM
import Derived.Shelf.Unicode.PropsLaid
import Derived.Shelf.Bits.Mul64
import Derived.Shelf.Unicode.Is16White
import Derived.Shelf.Unicode.IsSpaceAny
import Derived.Shelf.Unicode.Is16WhiteD
import Derived.Shelf.Unicode.IsSpaceAnyD
import Derived.Shelf.Unicode.Is16Any
import Derived.Shelf.Unicode.Is32Any
import Derived.Shelf.Unicode.ExclAny
import Derived.Shelf.Unicode.PredsAny
import Derived.Shelf.Unicode.PredsPay
import Derived.Shelf.Slices.Turned
import Derived.Shelf.Slices.Reverse
import Derived.Shelf.Slices.Equal
import Derived.Ground.Names2Prog
import Derived.Shelf.Slices.Clone
import Derived.Shelf.Slices.SearchI
import Derived.Shelf.Slices.Cells
import Derived.Shelf.Slices.In.SortNone
import Derived.Shelf.Slices.Empties2
import Derived.Ground.SlgnProg
import Derived.Shelf.SlicesE.Reverse
import Derived.Shelf.SlicesE.Clone
import Derived.Test.YtbbonnfjealmpaaGreatDoorChecked
import Derived.Lib.ItoaLen
import Derived.Lib.Join
set_option linter.unusedVariables false
set_option linter.unusedSimpArgs false
set_option linter.unusedSectionVars false
namespace Go.Proofs.YtbbonnfjealmpaaGreatDoor
section
open Go.Proofs.Tryz
open Go.Proofs
theorem cA:dn prog 23 3 1 1 [.int .i64 0]:=⟨_,j7,j9,Xe,by decide,by decide,by kernel_rfl⟩
theorem vp:dn prog 23 3 2 1 [.int .i64 0,.int .i64 0]:=⟨_,j7,j9,Xe,by decide,by decide,by kernel_rfl⟩
variable {E:World}
set_option maxRecDepth 20000
theorem JP {t:fg} (h:t.kind=0):cK t=[t.to0]:=by unfold cK;rw[if_pos h]
theorem JQ {t:fg} (h:t.kind=1) (e:t.to0=t.to1):cK t=[t.to0]:=by unfold cK;rw[if_neg (by omega),if_pos h,if_pos e]
theorem JR {t:fg} (h:t.kind=1) (e:¬t.to0=t.to1):cK t=[t.to0,t.to1]:=by unfold cK;rw[if_neg (by omega),if_pos h,if_neg e]
theorem JS {t:fg} (h0:¬t.kind=0) (h:¬t.kind=1):cK t=[]:=by unfold cK;rw[if_neg h0,if_neg h]
theorem uv (t:fg):aP prog E 200 [.agg (p7 t)] (.fro 1 ((cK t).map bO)):=by
 refine zp func200 U (by decide) U<|ae<|y6 (cs:=_) U U U<|cE U<|z2<|zb<|zi<|zb<|ae<|ak jj U Y4 U U<|aA Yi U<|ao U U<|ad U<|z2<|zn U (fun c0=>?_) (fun c0=>?_)
 ·refine zf<|yr U (by simpa using c0)<|ae<|ak jj U Zg U U<|z8 (yx (j:=0) Z9 j9 U U U (by decide) U)<|aA jg U<|zx (rows:=[[_]]) cA U U U U U<|z8 (oA U)<|z2<|zg<|zm (x:=.fro _ _) U ?_
  rw[JP c0];rfl
 ·refine aW<|ak jj U Y4 U U<|aA Yi U<|ao U U<|aq U<|zt (s:=10) U (fun c1=>?_) (fun c1=>?_)
  ·refine z7 U U c1<|ak jj U Zg U U<|z7 U U c1<|z8 (yx (j:=0) Z9 j9 U U U (by decide) U)<|z7 U U c1<|aA jg U<|z7 U U c1<|ak jj U Zg U U<|z7 U U c1<|z8 (yx (j:=1) Z9 j9 U U U (by decide) U)<|z7 U U c1<|aA jg U<|z7 U U c1<|ao U U<|au U c1 U<|ad U<|z2<|zw U (fun c2=>?_) (fun c2=>?_)
   ·refine ae<|ak jj U Zg U U<|z8 (yx (j:=0) Z9 j9 U U U (by decide) U)<|aA jg U<|zx (rows:=[[_]]) cA U U U U U<|z8 (oA U)<|z2<|zg<|zm (x:=.fro _ _) U ?_
    rw[JQ (by simpa using c1) (by simpa using c2)];rfl
   ·refine ae<|ak jj U Y4 U U<|aA Yi U<|ao U U<|ad U<|z2<|yr U (by simpa using c1)<|ae<|ak jj U Zg U U<|z8 (yx (j:=0) Z9 j9 U U U (by decide) U)<|aA jg U<|ak jj U Zg U U<|z8 (yx (j:=1) Z9 j9 U U U (by decide) U)<|aA jg U<|zx (rows:=[[_],[_]]) vp U U U U U<|z8 (oA U)<|z2<|zg<|zm (x:=.fro _ _) U ?_
    rw[JR (by simpa using c1) (by simpa using c2)];rfl
  ·refine z6 U U c1<|z6 U U c1<|z6 U U c1<|z6 U U c1<|z6 U U c1<|z6 U U c1<|z6 U U c1<|aw U c1 U<|ad U<|z2<|yq U U<|ae<|ak jj U Y4 U U<|aA Yi U<|ao U U<|ad U<|z2<|yq U (by simpa using c1)<|zf<|ae<|cE U<|z2<|zg ?_
   repeat (first|refine ki ?_|refine gR ?_)
   refine yz (aR.slot (t:=2) U (Js 1))<|zm (x:=.fro _ _) U ?_
   rw[JS (by simpa using c0) (by simpa using c1)];rfl
def nS (rows:List (List Int)) (c x:Int):List (List Int):=rows.set c.toNat ((rows[c.toNat]?).getD []++[x])
def gg (rows:List (List Int)) (cs:List Int) (x:Int):List (List Int):=cs.foldl (fun r c=>nS r c x) rows
theorem rv (cs:List Int) (x:Int):∀rows,(gg rows cs x).length=rows.length:=by
 induction cs with
 |nil=>intro rows;rfl
 |cons c cs ih=>intro rows;show (gg (nS rows c x) cs x).length=_;rw[ih];unfold nS;simp
theorem xf (rows:List (List Int)) (cs:List Int) (c x:Int):gg rows (cs++[c]) x=nS (gg rows cs x) c x:=by unfold gg;rw[List.foldl_append];rfl
theorem C5 {rows:List (List Int)} {c x:Int} (h0:0≤c) (b:Nat):(nS rows c x)[b]?=(rows[b]?).map (·++if c=(b:Int) then[x] else[]):=by
 unfold nS
 rw[List.getElem?_set]
 by_cases e:c.toNat=b
 ·have:c=(b:Int):=by omega
  rw[if_pos e,if_pos this,e]
  by_cases hb:b<rows.length
  ·rw[if_pos hb,qx hb];rfl
  ·rw[if_neg hb,List.getElem?_eq_none (by omega)];rfl
 ·have:¬c=(b:Int):=by omega
  rw[if_neg e,if_neg this];simp
theorem m7 (x:Int) (b:Nat):∀(cs:List Int) (rows:List (List Int)),(∀c∈cs,0≤c)→(gg rows cs x)[b]?=(rows[b]?).map (·++(cs.filter fun c=>decide (c=(b:Int))).map fun _=>x)
 |[],rows,_=>by simp[gg]
 |c::cs,rows,h=>by
  show (gg (nS rows c x) cs x)[b]?=_
  rw[m7 x b cs _ (fun c hc=>h c (List.mem_cons_of_mem _ hc)),C5 (h c (List.mem_cons_self ..))]
  cases rows[b]? with
  |none=>rfl
  |some r=>
   by_cases e:c=(b:Int)
   ·simp[e]
   ·simp[e]
def du (f:ab) (k:Nat):List (List Int):=(List.range f.blocks.length).map fun (b:Nat)=>bj (ah f) k (b:Int)
theorem gE (f:ab) (k:Nat):(du f k).length=f.blocks.length:=by unfold du;simp
theorem xg (f:ab):List.replicate f.blocks.length []=du f 0:=by
 apply List.ext_getElem
 ·rw[gE];simp
 ·intro i h1 h2
  unfold du bj aY
  simp
theorem lT (E:Int→List Int) (k:Nat) (b:Int):bj E (k+1) b=bj E k b++((E k).filter fun c=>decide (c=b)).map fun _=>(k:Int):=by
 unfold bj;rw[pn,List.flatMap_append];simp
theorem xh {f:ab} {k:Nat} (h0:∀c∈ah f k,0≤c):gg (du f k) (ah f k) k=du f (k+1):=by
 apply List.ext_getElem?
 intro b
 rw[m7 _ _ _ _ h0]
 by_cases hb:b<f.blocks.length
 ·unfold du
  rw[w7,w7,List.getElem?_range hb]
  simp only[Option.map_some]
  rw[lT]
 ·rw[List.getElem?_eq_none (by rw[gE];omega),List.getElem?_eq_none (by rw[gE];omega)];rfl
theorem E5 {rows:List (List Int)} {c x:Int} (h:c.toNat<rows.length):rows.set c.toNat (rows[c.toNat]++[x])=nS rows c x:=by
 unfold nS;rw[qx h];rfl
theorem iX (f:ab) (b:Int):∀k,(bj (ah f) k b).length≤2*k
 |0=>by simp[bj,aY]
 |k+1=>by
  have h1:=iX f b k
  have h2:=ru f k
  have h3:=List.length_filter_le (fun c=>decide (c=b)) (ah f k)
  rw[lT,w5,w6]
  omega
theorem HQ {f:ab} {k b:Nat} {cs:List Int} {x:Int} (h0:∀c∈cs,0≤c) (hb:b<(gg (du f k) cs x).length):(gg (du f k) cs x)[b].length≤2*k+cs.length:=by
 have hb2:b<f.blocks.length:=by rwa [rv,gE] at hb
 have h:=m7 x b cs (du f k) h0
 have hr:(du f k)[b]?=some (bj (ah f) k (b:Int)):=by unfold du;rw[w7,List.getElem?_range hb2];rfl
 rw[qx hb,hr] at h
 have h:(gg (du f k) cs x)[b]=bj (ah f) k (b:Int)++(cs.filter fun c=>decide (c=(b:Int))).map fun _=>x:=by simpa using h
 have h2:=iX f b k
 have h3:=List.length_filter_le (fun c=>decide (c=(b:Int))) cs
 rw[h,w5,w6]
 omega
theorem rx (f:ab) (hE:cg f) (hn:f.blocks.length≤100000):aP prog E 163 [.agg (bw f)] (pM eI (du f f.blocks.length)):=by
 refine zp func163 U (by decide) U<|ae<|y6 (cs:=_) U U U<|cE U<|z2<|ae<|ak je U Zd U U<|aI Zf U<|aj ju U<|y9 (m:=f.blocks.length) jy Zo U U U U U (by simp) (by simp) (by show (24:Int)*_≤_;omega) (by omega) eI 3<|fun b11=>z8 (q8 (v:=eM _ _) U)<|z2<|zb<|ae<|ak je U Zd U U<|aI Zf U<|aj ju U<|aa U<|z2<|zi<|y5 (γ:=Nat) [3,13,14] (fun k=>[(15,.i k)]) (fun k=>[(0,dK eI 23 3 b11 (du f k))]) (fun k=>k≤f.blocks.length) (fun k=>f.blocks.length - k) 0 aL ⟨_,(.refl _),by rw[xg]⟩ (w2 _) ?_
 rintro k hk
 refine ae<|ap U U<|z2<|zb<|zn U (fun ck=>?_) (fun ck=>?_)
 ·have hk2:k<f.blocks.length:=by simp at ck;omega
  have hEk:ah f k=cK f.blocks[k].term:=m6 hk2
  have hlen:=uu f.blocks[k].term
  have hrng:=hE.rng _ (w3 hk2)
  refine zf<|zb<|zi<|ae<|aa U<|z8 (bB k ju Z2 U U U (qx hk2))<|ac Yc Z2 U U<|zu (cs:=[.e,.n,.n,.int .i64 0,.int .i64 0,.int .i64 0,.int .i64 0]) Zh U U<|fun i5=>am U<|zj Z2 U U U U U U .head U<|z2<|ae<|z8 (zh jr U Zp (by decide) U U)<|z8 (yo (l:=[_,_,_,_]) Xk Zp U ⟨_,.head⟩ U U)<|ze (uv _) U<|aj j7 U<|aa U<|z2<|zi<|y5 (γ:=Nat) [3,4,13,14,15,22,23] (fun j=>[(24,.i j)]) (fun j=>[(0,dK eI 23 3 b11 (gg (du f k) ((cK f.blocks[k].term).take j) k))]) (fun j=>j≤(cK f.blocks[k].term).length) (fun j=>(cK f.blocks[k].term).length - j) 0 aL ⟨_,(.drop (.refl _)),U⟩ (w2 _) ?_
  rintro j hj
  refine ae<|ap U U<|z2<|zb<|zn U (fun cj=>?_) (fun cj=>?_)
  ·have hj2:j<(cK f.blocks[k].term).length:=by simp at cj;omega
   obtain ⟨c,hc⟩:∃c,(cK f.blocks[k].term)[j]=c:=⟨_,rfl⟩
   have hr:=hrng c (hc▸w3 hj2)
   obtain ⟨rows,hrows⟩:∃rows,gg (du f k) ((cK f.blocks[k].term).take j) k=rows:=⟨_,rfl⟩
   have hrl:rows.length=f.blocks.length:=by rw[←hrows,rv,gE]
   have hcn:c.toNat<rows.length:=by omega
   have hrow:rows[c.toNat].length≤200002:=by
    have:=HQ (f:=f) (k:=k) (b:=c.toNat) (cs:=(cK f.blocks[k].term).take j) (x:=k) (fun c hc=>(hrng c (List.mem_of_mem_take hc)).1) (by rw[hrows];exact hcn)
    simp only[hrows,wd] at this
    omega
   rw[hrows]
   refine zf<|zb<|zi<|ae<|z8 (bB j j7 j9 U U U (by rw[qx hj2,hc])) ?_
   refine aA jg U<|am U<|z2<|aW<|z8 (yt (v:=eM _ _) U)<|aa U<|z8 (yt (v:=eM _ _) U)<|aa U<|z8 (qq (j:=c.toNat) jy jh U U (by omega) (by omega))<|qi (j:=c.toNat) (r:=rows[c.toNat]) jx U (qx hcn) (fun _=>.head)<|fun i33=>aa U<|zx (rows:=[[_]]) cA U U U U U<|yg (k:=1) j7 Y5 U U U U U (fun _=>.head) (by rw[eI.av_len];rfl) (by decide) U (by show (_+1)*8≤_;omega) (by show _+1≤_;omega)<|fun i36=>z8 (qq (j:=c.toNat) jy jh U U (by omega) (by omega))<|qr (j:=c.toNat) (r:=rows[c.toNat]++[(k:Int)]) jh U U (by omega) .head .head U (eI.av_push _ _) (by simp)<|z2<|aW<|aC U U<|aa U<|z2 ?_
   exact ⟨j+1,lg,aL,⟨_,(.refl _),by rw[qy hj2,xf,hrows,hc,E5 hcn]⟩,hj2,by omega⟩
  ·have hjn:j=(cK f.blocks[k].term).length:=by simp at cj;omega
   refine y4<|aW<|aC U U<|aa U<|z2 ?_
   exact ⟨k+1,bW,aL,⟨_,(.refl _),by rw[hjn,w4,←hEk,xh (fun c hc=>(hrng c (hEk▸hc)).1)]⟩,hk2,by omega⟩
 ·have hkn:k=f.blocks.length:=by simp at ck;omega
  subst hkn
  refine y7 (aR.nestKnow (s:=3) U .head (gE f _))<|y4<|ae<|bd U<|z8 (oA U)<|z2<|zg<|zm (x:=.fro _ _) U ?_
  rfl
end
section
open Go.Proofs.Tryz
open Go.Sort (Holds putRow putCells onCells)
theorem xi {zs ys:List Int} {junk:List Value} (hl:ys.length=zs.length):putCells (Value.int .i64) 0 ys.toArray (zs.map (Value.int .i64)++junk).toArray=(ys.map (Value.int .i64)++junk).toArray:=by
 unfold putCells
 apply Array.ext_getElem?
 intro k
 simp only[Array.getElem?_mapIdx,List.getElem?_toArray,w2,true_and,Nat.zero_add,Nat.sub_zero,List.size_toArray]
 by_cases hk:k<ys.length
 ·rw[List.getElem?_append_left (by rw[w6];omega),List.getElem?_append_left (by rw[w6];omega),w7,w7,qx hk,qx (by omega:k<zs.length)]
  simp[hk]
 ·rw[List.getElem?_append_right (by rw[w6];omega),List.getElem?_append_right (by rw[w6];omega),w6,w6,hl]
  rw[hl] at hk
  simp only[hk,if_false]
  cases junk[k - zs.length]?<;>rfl
theorem SL.turned {I:bK} {O:List (Nat × Obj)} {E w:World} {b n:Nat} {zs ys:List Int} {junk:List Value} {T:TypeId} {os:Array Obj} (hl:ys.length=zs.length) (h:SL I ((b,.cells (zs.map (Value.int .i64)++junk).toArray T (0,0))::O) E w) :
  SL I ((b,.cells (ys.map (Value.int .i64)++junk).toArray T (0,0))::O) E (Go.Sort.grow (putRow (Value.int .i64) (Go.Sort.ahead w n) b 0 ys.toArray) os):=by
 have hb:=h.own _ (.head _)
 simp only at hb
 have hlt:=d8 hb
 have h1:SL I ((b,.cells (ys.map (Value.int .i64)++junk).toArray T (0,0))::O) E (putRow (Value.int .i64) (Go.Sort.ahead w n) b 0 ys.toArray):=by
  refine h.turn U U U ?_ fun k hk=>?_
  ·show (w.heap.modify b (onCells (putCells (Value.int .i64) 0 ys.toArray)))[b]?=_
   rw[Array.getElem?_modify,if_pos rfl,hb]
   simp only[Option.map_some,onCells,xi hl]
  ·show (w.heap.modify b (onCells (putCells (Value.int .i64) 0 ys.toArray)))[k]?=_
   rw[Array.getElem?_modify,if_neg (fun e=>hk e.symm)]
 exact h1.more rfl rfl rfl fun k hk=>Go.Sort.heap_grow_old _ _ hk
theorem bn.turned {E:World} {P:Program} {f:FuncId} {fn:Func} {c:Code} {g:List Int→List Int} {B:Nat} (hf:P.funcs[f]?=some fn) (hb:fn.body=some c) (hn:fn.name≠"runtime.NumGoroutine") (hg:∀l,(g l).length=l.length)
  (hC:∀(blk cap:Nat) (zs:List Int) (w:World),Holds (Value.int .i64) w blk 0 zs.toArray→blk<w.heap.size→zs.length<B →
   Calls P f #[.slice (some ⟨blk,0,none⟩) zs.length cap] w fun e w'=>e=.returned (.tuple #[])∧∃n os,w'=Go.Sort.grow (putRow (Value.int .i64) (Go.Sort.ahead w n) blk 0 (g zs).toArray) os)
  (hN:∀(cap:Nat) (w:World),Calls P f #[.slice none 0 cap] w fun e w'=>e=.returned (.tuple #[])∧w'=w)
  {l:List Int} {i n:Nat} {T:TypeId} (hl:l.length=n) (hB:n<B):bn P E f [.own i n] [(i,.grow 1 T (cI l))] fun r O=>r=.tup []∧O=[(i,.grow 1 T (cI (g l)))]:=fun I F w vs h1 h2=>by
 obtain ⟨v,us,rfl,⟨b,c,e1,rfl⟩,h3⟩:=h1
 have h3:us=[]:=h3
 subst h3
 obtain ⟨ht,L,⟨A,B',e2,⟨b',c',n',ws,e3,h4,h5,h6⟩,h7⟩,hS⟩:=h2
 have h7:B'=[]:=h7
 subst h7
 rw[wc] at e2
 subst e2
 simp only at e3
 rw[e1] at e3
 simp only[Option.some.injEq,Prod.mk.injEq] at e3
 obtain ⟨rfl,rfl⟩:=e3
 have h4:=IX h4
 subst h4
 refine Fn.ofCalls hf hb hn ?_
 obtain ⟨g1,g2,g3⟩:=h6
 rw[w6,Nat.mul_one] at g1
 have hnn:n'=n:=by omega
 subst hnn
 rcases g3 with ⟨ea,rfl,rfl⟩|⟨b2,junk,ea,rfl,hj⟩
 ·have h0:n'=0:=by omega
  subst h0
  have hl0:l=[]:=wa hl
  subst hl0
  have hg0:g []=[]:=wa (hg [])
  rw[ea]
  refine (hN 0 w).mono fun e w' ⟨he,hw⟩=>⟨_,he,I,.tup [],_,.refl _,⟨[],U,U⟩,?_,U,U⟩
  subst hw
  rw[hg0]
  exact ⟨ht,[],⟨[],[],rfl,⟨b,0,0,[],e1,rfl,by simp,by rw[ea];exact fe.nil 1 T⟩,rfl⟩,hS⟩
 ·rw[ea]
  have hS2:SL I.k ((b2,.cells (l.map (Value.int .i64)++junk).toArray T (0,0))::F) E w:=hS
  have hH:Holds (Value.int .i64) w b2 0 l.toArray:=fun j hjl=>by
   have hj2:j<l.length:=by simpa using hjl
   have hbk:=hS2.own _ (.head _)
   simp only at hbk
   refine ⟨?_,?_⟩
   ·rw[hS2.cell_own,Nat.zero_add,List.getElem?_toArray,List.getElem?_append_left (by rw[w6];exact hj2),w7,qx hj2]
    simp[hj2]
   ·simp[World.frozen?,hbk]
  have:=hC b2 c l w hH (d8 (hS2.own _ (.head _))) (by omega)
  rw[hl] at this
  refine this.mono fun e w' ⟨he,k,os,hw⟩=>⟨_,he,I,.tup [],_,.refl _,⟨[],U,U⟩,?_,U,U⟩
  subst hw
  refine ⟨ht,[(b2,.cells ((g l).map (Value.int .i64)++junk).toArray T (0,0))],⟨_,[],by simp,⟨b,c,n',(g l).map (Value.int .i64),e1,CU I (g l),fun u hu=>by obtain ⟨x,_,rfl⟩:=List.mem_map.1 hu;rfl,by rw[w6,hg,hl,Nat.mul_one],g2,.inr ⟨b2,junk,ea,rfl,by rw[w5,w6,hg] ;rw[w5,w6] at hj;exact hj⟩⟩,rfl⟩,?_⟩
  exact SL.turned (hg l) hS2
end
section
open Go.Proofs.Tryz
variable {α:Type}
theorem fG.inv {c:fh α} {e:TypeId} {r:List α} {rs:List (List α)} {hs:List Value} {L:List (Nat × Obj)} (h:fG c e (r::rs) hs L) :
  ∃a n cap hs' A B,hs=.slice a n cap::hs'∧L=A++B∧fe c.k e a n cap (c.vs r) A∧fG c e rs hs' B:=by
 cases h with
 |cons h1 h2=>exact ⟨_,_,_,_,_,_,rfl,rfl,h1,h2⟩
def BX (c:fh α) (T e:TypeId) (b:Nat) (rows:List (List α)) (k:Nat):bC:=.heap fun L=>∃(hs:List Value) (B:List (Nat × Obj)),L=(b,.cells hs.toArray T (0,0))::B∧hs.length=rows.length∧fG c e (rows.drop k) (hs.drop k) B
section
variable {E:World} {P:Program} {ops:Array Oper} {K:aT→OL→Prop} {env:aT} {O O' O'':OL} {rest:List Oper} {n:Nat}
variable {d ty:Nat} {pos:String} {af:Array Edge} {x y z:Operand} {t u e T:TypeId}
theorem aR.nestTail {c:fh α} {b m:Nat} {rows:List (List α)} (hO:fF O m (dK c T e b rows) (BX c T e b rows 0) O'):aR E env O env O':=fun I F ρ w h1 h2=>by
 obtain ⟨htop,L,hL,hS⟩:=h2
 obtain ⟨A,B,hp,⟨hs,B0,rfl,hN⟩,hback⟩:=hO.rep hL
 obtain ⟨L',h5,h6⟩:=hback (qo I) (A':=(b,.cells hs.toArray T (0,0))::B0) ⟨hs,B0,rfl,hN.len,hN⟩
 exact ⟨I,.refl _,h1,htop,L',h5,hS.perm ((h6.trans hp.symm).append_right F)⟩
theorem ay.nestShift {c:fh α} {b k m:Nat} {rows:List (List α)} {r:List α} (ha:∀w,(isAgg t).run P w=.ok false w) (hx:bc env x=Hx b k) (hr:rows[k]?=some r)
  (hO:fF O m (BX c T e b rows k) (BX c T e b rows (k+1)) O') (kk:∀i,ay P E ops K rest (bz env d (.own i r.length)) ((i,.grow c.k e (c.av r))::O')) :
  ay P E ops K (Oper.mk (some d) (.load t x) ty pos af none::rest) env O:=fun I F ρ w h1 h2=>by
 obtain ⟨i,hi⟩:=h2.name
 obtain ⟨htop,L,hL,hS⟩:=h2
 have hx:=ik h1 hx
 obtain ⟨A,B,hp,⟨hs,B0,rfl,hl,hN⟩,hback⟩:=hO.rep hL
 obtain ⟨hlt,hrk⟩:=List.getElem?_eq_some_iff.1 hr
 rw[List.drop_eq_getElem_cons hlt,hrk] at hN
 obtain ⟨a,n,cap,hs',A1,B1,g0,rfl,g2,g3⟩:=hN.inv
 have hlt2:k<hs.length:=by omega
 have g0':=g0
 rw[List.drop_eq_getElem_cons hlt2] at g0'
 simp only[List.cons.injEq] at g0'
 obtain ⟨g1,rfl⟩:=g0'
 have g1:hs[k]?=some (.slice a n cap):=by rw[qx hlt2,g1]
 obtain ⟨b1,rfl⟩:=g2.adr
 have hn:n=r.length:=by have:=g2.1;rw[c.vs_len] at this;exact (Nat.eq_of_mul_eq_mul_right c.pos this).symm
 subst hn
 obtain ⟨J,e1,hle,e2,htop'⟩:=hi (b1,cap)
 have hS2:SL I.k ((b,.cells hs.toArray T (0,0))::(A1++B1++(B++F))) E w:=hS.perm (by
  have:=hp.append_right F
  simpa using this.symm)
 obtain ⟨L',h5,h6⟩:=hback hle (A':=(b,.cells hs.toArray T (0,0))::B1) ⟨hs,B1,rfl,hl,g3⟩
 refine bY.load1 (I:=I.k) (O:=(b,.cells hs.toArray T (0,0))::(A1++B1++(B++F))) ha hS2 hx (.inr ⟨_,_,_,.head _,by rw[List.getElem?_toArray];exact g1⟩) ?_
 refine qa (fun _ _=>qb hle) _ _ _ (kk i J F _ _ ((h1.mono hle).upd d ⟨b1,cap,e2,U⟩) ⟨htop',A1++L',⟨A1,L',U,⟨b1,cap,_,c.vs r,e2,by rw[c.av_eq];exact eQ J _,c.vs_one r,g2⟩,h5⟩,?_⟩)
 rw[e1]
 refine hS2.perm ?_
 have h7:(A1++L'++F).Perm (A1++((b,Obj.cells hs.toArray T (0,0))::(B1++B))++F):=(h6.append_left A1).append_right F
 refine h7.trans ?_
 simp only[qz,List.cons_append]
 exact List.perm_middle
end
end
section
open Go.Proofs.Tryz
open Go.Proofs
theorem I5:em prog 258 #[(0,1),(1,1)] [.int .i64 0,.int .i64 0]:=⟨_,_,X5,zeroValue258,fun w=>by kernel_rfl,rfl⟩
theorem BZ:dn prog 259 258 1 2 [.int .i64 0,.int .i64 0]:=⟨_,X2,sizeOf258,zeroValue258,by decide,by decide,by kernel_rfl⟩
variable {E:World}
set_option maxRecDepth 20000
def KG (r:List (Int × Nat)):List AV:=(r.reverse.map fun q=>[AV.int .i64 q.1,AV.int .i64 (q.2:Int)]).flatten
theorem lU (b:Int) (k:Nat) (r:List (Int × Nat)):KG ((b,k)::r)=KG r++[AV.int .i64 b,AV.int .i64 (k:Int)]:=by unfold KG;simp
theorem vq (r:List (Int × Nat)):(KG r).length=r.length*2:=by
 induction r with
 |nil=>rfl
 |cons q r ih=>obtain ⟨b,k⟩:=q;rw[lU,w5,ih];simp only[List.length_cons,List.length_nil];omega
theorem E6 {f:ab} {n k:Nat} (hE:EOk (ah f) n):(fw (ah f) n k).2.1.length+(fw (ah f) n k).2.2.length≤n:=by
 have h:=fH hE k
 have h2:=mw _ (aY n) h.nodup fun x hx=>dB.2 (h.rng x hx)
 rw[bR,w5,w6] at h2
 exact h2
theorem AA (f:ab) (hE:cg f) (hn:f.blocks.length≤100000) (hrev:∀(l:List Int) (i:Nat) (T:TypeId),l.length≤200000→bn prog E 201 [.own i l.length] [(i,.grow 1 T (cI l))] fun r O=>r=.tup []∧O=[(i,.grow 1 T (cI l.reverse))]) :
  aP prog E 162 [.agg (bw f)] (.fro 1 ((aH (ah f) f.blocks.length).map bO)):=by
 have hG:=hE.grph
 have hpos:=hG.npos
 refine zp func162 U (by decide) U<|ae<|y6 (cs:=_) U U U<|cE U<|z2<|ae<|ak je U Zd U U<|aI Zf U<|aj ju U<|qm (m:=f.blocks.length) jw Yq U U U U U (by simp) (by simp) (by show (1:Int)*_≤_;omega) (by omega)<|fun i12=>z8 (ei U)<|z2<|ae<|bL U<|z8 (yd (j:=0) jw Zb U U U ⟨_,.head⟩ (by first|rfl|(simp[aF,aM];done)|(simp[aF,aM];omega)) hG.npos)<|q6 (j:=0) Zb U U .head (by first|omega|(simp;omega))<|z2<|ae<|cE U<|z2<|ae<|z8 (zz (cps:=[(0,[_]),(1,[_])]) (rs:=[_,_]) I5 U U U)<|ay.buildSliceO (cps:=[(0,[_,_])]) (rs:=[_,_]) BZ U U U U U<|fun i16=>z8 (ei U)<|z2<|gc (t:=4) (k:=1) (T:=3) U<|fun i4=>y7 (za (zc .t1))<|zb<|zi<|y5 (γ:=Nat × Nat × Nat) [1,3] (fun g=>[(4,.own g.2.1 (fw (ah f) f.blocks.length g.1).2.1.length),(5,.own g.2.2 (fw (ah f) f.blocks.length g.1).2.2.length)]) (fun g=>[(g.2.2,.grow 2 258 (KG (fw (ah f) f.blocks.length g.1).2.2)),(g.2.1,.grow 1 3 (cI (fw (ah f) f.blocks.length g.1).2.1)),(i12,.grow 1 4 (cB (fw (ah f) f.blocks.length g.1).1))]) (fun g=>g.1≤4*f.blocks.length∧(fw (ah f) f.blocks.length g.1).1.length=f.blocks.length) (fun g=>nP (fw (ah f) f.blocks.length g.1)) (0,i4,i16) b7 aE (⟨w2 _,by simp[fw,ro]⟩) ?_
 rintro ⟨k,io,il⟩ ⟨hk,hsl⟩
 try dsimp only at *
 have hI:=fH hG.toEOk k
 have hlen:=E6 (k:=k) hG.toEOk
 have hlt:=rp hG.toEOk k
 have hstep:fw (ah f) f.blocks.length (k+1)=ut (ah f) (fw (ah f) f.blocks.length k):=rfl
 rcases hx:fw (ah f) f.blocks.length k with ⟨seen,out,st⟩
 rw[hx] at hI hlen hlt hstep hsl
 dsimp only at hlen hlt hsl
 cases st with
 |nil=>
 ·refine zb<|ae<|bL U<|z8 (qp X2 U)<|be U U<|z2<|yq U (by simp) ?_
  have hfin:=C3 (E:=ah f) (n:=f.blocks.length) (k:=k) (by rw[hx]) hk
  refine y4<|ae<|bL U<|y3 U (zo (.r (.l (.r (.rest _))))) (hrev out io 3 (by omega)) ?_
  rintro r82 O82 ⟨rfl,rfl⟩
  refine z2<|y7 (aR.knowI (t:=4) U .head (by simp))<|ae<|bd U<|z8 (oA U)<|z2<|zg<|zm (x:=.fro _ _) U ?_
  unfold aH;rw[hfin,hx];rfl
  |cons q r=>
 ·obtain ⟨b,j⟩:=q
  have hbr:=hI.rng b (by simp)
  have hbl:b.toNat<f.blocks.length:=by omega
  have hEb:ah f b=cK f.blocks[b.toNat].term:=kP hbr.1 hbl
  have hjl:=(hI.part (b,j) (by simp)).1
  dsimp only at hjl
  have hmn:nP (fw (ah f) f.blocks.length (k+1))<nP (fw (ah f) f.blocks.length k):=by rw[hstep,hx];exact tC.less hG.toEOk hI (by simp)
  have hk2:k+1≤4*f.blocks.length:=by simp at hlt;omega
  have hsn:(fw (ah f) f.blocks.length (k+1)).1.length=f.blocks.length:=(fH hG.toEOk (k+1)).len
  rw[m2] at hstep
  rw[hx] at hmn
  rw[lU]
  simp only[List.length_cons] at hlen ⊢
  refine zb<|ae<|bL U<|z8 (qp X2 U)<|be U U<|z2<|yr U (by simp)<|zf<|zi<|ae<|bL U<|bL U<|z8 (qp X2 U)<|z8 (Gv.sub U U (by unfold lz;show _∧((r.length+1:Nat):Int) - 1≤_;omega))<|z8 (Gv.idxOL (j:=r.length) X2 sizeOf258 U U (by show ((r.length+1:Nat):Int) - 1=_;omega) ⟨_,.head⟩ (by simp) (by show r.length<r.length+1;omega) (show r.length*2=(KG r).length by rw[vq]))<|z8 (gu U)<|z2<|zb<|zr (fun j=>false) (by kernel_rfl) U (zo (.r (.rest _)))<|ai 0 U (db je U Zd U U)<|ai 1 U (gd Zf U)<|ai 2 U (dR U)<|ai 3 U (zy U)<|ai 4 U (zh X5 U j9 (by decide) U U)<|ai 5 U (Gv.loadL (c:=.int _ _) (j:=0) jg U U ⟨_,.head⟩ U)<|ai 6 U (bB b.toNat ju Z2 U U (by omega) (qx hbl))<|ai 7 U (db jr U Zp U U)<|ai 8 U (yp Xk Zp U U)<|aN 9 U<|ze (uv _) U<|z2<|ai 10 U (oA U)<|bI<|zb<|ae<|bb U<|ax U<|z8 (zh X5 U j9 (by decide) U U)<|z8 (Gv.loadL (c:=.int _ _) (j:=1) jg U U ⟨_,.head⟩ U)<|bd U<|aj j7 U ?_
  refine ao U U<|z2<|zw U (fun ce=>?_) (fun ce=>?_)
  ·have hje:j=(ah f b).length:=by rw[hEb];have h0:(j:Int)=((cK f.blocks[b.toNat].term).length:Int):=(by simpa using ce);omega
   rw[if_pos hje] at hstep
   refine ae<|bL U<|bb U<|ax U<|z8 (zh X5 U j9 (by decide) U U)<|z8 (Gv.loadL (c:=.int _ _) (j:=0) jg U U ⟨_,.head⟩ U)<|zx (rows:=[[_]]) cA U U U U U<|yg (k:=1) j7 Y5 U U U U U (fun _=>.t1) (by rw[aF];omega) (by decide) U (by show (out.length+1)*8≤_;omega) (by show out.length+1≤_;omega)<|fun i48=>z8 (ei U)<|z2<|ae<|bL U<|bL U<|z8 (qp X2 U)<|z8 (Gv.sub U U (by unfold lz;show _∧((r.length+1:Nat):Int) - 1≤_;omega))<|ay.cutLast (j:=r.length) X2 sizeOf258 U U (by show ((r.length+1:Nat):Int) - 1=_;omega) .head (by decide) (by rw[vq])<|z8 (ei U)<|z2<|y4 ?_
   exact ⟨(k+1,i48,il),b7,⟨(by rw[hstep,w5];rfl),(by rw[hstep];rfl),trivial⟩,⟨_,(.refl _),by rw[hstep];dsimp only;rw[←kK];rfl⟩,⟨hk2,hsn⟩,by exact hmn⟩
  ·have hje:¬j=(ah f b).length:=by rw[hEb];have h0:¬(j:Int)=((cK f.blocks[b.toNat].term).length:Int):=(by simpa using ce);omega
   have hj2:j<(cK f.blocks[b.toNat].term).length:=by rw[←hEb];omega
   rw[if_neg hje] at hstep
   obtain ⟨c,hc⟩:∃c,ge (ah f b) j=c:=⟨_,rfl⟩
   have hcj:(cK f.blocks[b.toNat].term)[j]?=some c:=by rw[←hEb];unfold ge at hc;rw[←hc,hEb,qx hj2];rfl
   have hcr:=hG.rng b hbr.1 hbr.2 c (by rw[hEb];exact w9 hcj)
   rw[hc] at hstep
   have hgs:seen[c.toNat]?=some (gb seen c):=by unfold gb;rw[qx (by omega)];rfl
   have hl2:=hG.len b
   rw[hEb] at hl2
   refine zf<|ae<|bd U<|bb U<|ax U<|z8 (zh X5 U j9 (by decide) U U)<|z8 (Gv.loadL (c:=.int _ _) (j:=1) jg U U ⟨_,.head⟩ U)<|z8 (bB j j7 j9 U U U hcj)<|aA jg U<|am U<|z2<|ae<|bb U<|ax U<|z8 (zh X5 U j9 (by decide) U U)<|z8 (Gv.loadL (c:=.int _ _) (j:=1) jg U U ⟨_,.head⟩ U)<|aC U U<|ax U<|z8 (zh X5 U j9 (by decide) U U)<|ay.storeL (j:=1) (l:=[_]) (new:=[_,_]) j9 U U U U U U U .head U U U<|z2<|ae<|bL U<|aa U<|z8 (yd (j:=c.toNat) jw Zb U U (by omega) ⟨_,.t2⟩ (by first|rfl|(simp[aF,aM];done)|(simp[aF,aM];omega)) (by omega))<|z8 (Gv.loadB (j:=c.toNat) Yn U ⟨_,.t2⟩ hgs)<|aJ U<|z2<|zw U (fun cs=>?_) (fun cs=>?_)
   ·rw[if_neg (by simpa using cs)] at hstep
    refine ae<|bL U<|aa U<|z8 (yd (j:=c.toNat) jw Zb U U (by omega) ⟨_,.t2⟩ (by first|rfl|(simp[aF,aM];done)|(simp[aF,aM];omega)) (by omega))<|q6 (j:=c.toNat) Zb U U .t2 (by first|omega|(simp;omega))<|z2<|aW<|bL U<|aa U<|z8 (zz (cps:=[(0,[_]),(1,[_])]) (rs:=[_,_]) I5 U U U)<|zx (rows:=[[_,_]]) BZ U U U U U<|yg (k:=2) X2 type258 U U U U U (fun _=>.head) (by rw[w5,vq];show r.length*2+2=(r.length+1)*2;omega) (by decide) U (by show (r.length+1+1)*16≤_;omega) (by show r.length+1+1≤_;omega)<|fun i80=>z8 (ei U)<|z2 ?_
    exact ⟨(k+1,io,i80),b7,⟨(by rw[hstep];rfl),(by rw[hstep];rfl),trivial⟩,⟨_,(.refl _),by rw[hstep,lU,lU];rfl⟩,⟨hk2,hsn⟩,by exact hmn⟩
   ·rw[if_pos (by simpa using cs)] at hstep
    refine zf ?_
    exact ⟨(k+1,io,il),b7,⟨(by rw[hstep];rfl),(by rw[hstep];rfl),trivial⟩,⟨_,(.refl _),by rw[hstep,lU];rfl⟩,⟨hk2,hsn⟩,by exact hmn⟩
end
section
open Go.Proofs.Tryz
section
variable {E:World} {P:Program} {n:Nat} {l:List Oper} {W:Nat→Bool} {Q:aT→OL→Prop} {fuel:Nat} {listed:Array Bool} {env:aT} {O Os Om:OL}
theorem bT.many {is:List Nat} (hr:Region.ready .any l.toArray listed=is) (h0:is≠[])
  (h:∀k∈is,∃o,l[k]?=some o∧ay P E l.toArray (fun env' Om'=>bT P E l W Q fuel (listed.setIfInBounds k true) env' Os Om') [o] env Om):bT P E l W Q (fuel+1) listed env Os Om:=fun I F ρ w Ls h1 hLs h2=>by
 refine ⟨fun h0'=>absurd (hr.symm.trans h0') h0,fun k hk o2 ho2=>?_⟩
 rw[hr] at hk
 rw[List.getElem?_toArray] at ho2
 obtain ⟨o,e,h⟩:=h k hk
 rw[e] at ho2
 cases ho2
 exact qa (fun ρ' w' ⟨J,env',Om',a,b,c,d⟩=>by
   have hst:eD I.k Ls E w':=by
    obtain ⟨J',L',h3,h4,h5⟩:=c.here
    exact ⟨J',L',a.k.trans h3,h4,h5⟩
   refine ⟨⟨hst.less,.inr hst⟩,cV.mono ?_ ?_ (fun _ _=>qb a) _ _ _ _ (d J F ρ' w' Ls b (hLs.mono a) c)⟩
   ·rintro w ⟨J',L',h3,h4⟩;exact ⟨J',L',a.k.trans h3,h4⟩
   ·rintro w ⟨J',L',h3,h4⟩;exact ⟨J',L',a.k.trans h3,h4⟩) _ _ _ (h I (Ls++F) ρ w h1 h2)
theorem bT.four {i j m q:Nat} {o1 o2 o3 o4:Oper} (hi:l[i]?=some o1) (hj:l[j]?=some o2) (hm:l[m]?=some o3) (hq:l[q]?=some o4) (hr:Region.ready .any l.toArray listed=[i,j,m,q])
  (h1:ay P E l.toArray (fun env' Om'=>bT P E l W Q fuel (listed.setIfInBounds i true) env' Os Om') [o1] env Om)
  (h2:ay P E l.toArray (fun env' Om'=>bT P E l W Q fuel (listed.setIfInBounds j true) env' Os Om') [o2] env Om)
  (h3:ay P E l.toArray (fun env' Om'=>bT P E l W Q fuel (listed.setIfInBounds m true) env' Os Om') [o3] env Om)
  (h4:ay P E l.toArray (fun env' Om'=>bT P E l W Q fuel (listed.setIfInBounds q true) env' Os Om') [o4] env Om):bT P E l W Q (fuel+1) listed env Os Om:=
 bT.many hr (by simp) fun k hk=>by
  simp only[List.mem_cons,List.not_mem_nil,or_false] at hk
  rcases hk with rfl|rfl|rfl|rfl
  ·exact ⟨_,hi,h1⟩
  ·exact ⟨_,hj,h2⟩
  ·exact ⟨_,hm,h3⟩
  ·exact ⟨_,hq,h4⟩
end
end
section
open Go.Proofs.Tryz
def lk (l:List Int):List Int:=l.mergeSort fun x y=>decide (x≤y)
theorem fj (l:List Int):(lk l).Perm l:=List.mergeSort_perm l _
theorem vr (l:List Int):(lk l).Pairwise (·≤·):=by
 have:=List.pairwise_mergeSort (le:=fun x y:Int=>decide (x≤y)) (fun a b c h1 h2=>by simp at *;omega) (fun a b=>by simp;omega) l
 exact this.imp fun h=>by simpa using h
theorem E7 {l m:List Int} (hm:m.Pairwise (·<·)):lk l=m↔l.Perm m:=by
 constructor
 ·intro h;rw[←h];exact (fj l).symm
 ·intro h
  exact List.Perm.eq_of_pairwise (le:=fun a b:Int=>a≤b) (fun a b _ _ h1 h2=>Int.le_antisymm h1 h2) (vr l) (hm.imp fun h=>Int.le_of_lt h) ((fj l).trans h)
theorem ry {l m:List Int} (hn:l.Nodup) (hs:∀x∈l,x∈m) (hl:m.length≤l.length):l.Perm m:=by
 induction l generalizing m with
 |nil=>obtain rfl:m=[]:=wa (by simpa using hl);exact .refl _
 |cons x l ih=>
  rw[List.nodup_cons] at hn
  have hx:=hs x (.head _)
  have h1:l.Perm (m.erase x):=ih hn.2 (fun y hy=>(List.mem_erase_of_ne (fun e=>hn.1 (by rw[←e];exact hy))).2 (hs y (.tail _ hy))) (by
   rw[List.length_erase_of_mem hx];simp at hl;omega)
  exact (List.Perm.cons x h1).trans (List.perm_cons_erase hx).symm
def B3 (f:ab) (i:Nat) (l:List Int):Prop:=(bj (ah f) f.blocks.length i).length=l.length∧∀k (h:k<l.length),(i:Int)∈ah f l[k]∧l[k] ∉ l.take k
theorem rz {l:List Int}:l.Nodup↔∀k (h:k<l.length),l[k] ∉ l.take k:=by
 induction l with
 |nil=>simp
 |cons x l ih=>
  rw[List.nodup_cons,ih]
  constructor
  ·rintro ⟨h1,h2⟩ k hk
   cases k with
   |zero=>simp
   |succ k=>
    simp only[List.getElem_cons_succ,List.take_succ_cons,List.mem_cons,not_or]
    have hk':k<l.length:=by simpa using hk
    exact ⟨fun e=>h1 (by rw[←e];exact w3 hk'),h2 k hk'⟩
  ·intro h
   constructor
   ·intro hm
    obtain ⟨k,hk,e⟩:=List.mem_iff_getElem.1 hm
    have:=h (k+1) (by simpa using hk)
    simp[e] at this
   ·intro k hk
    have:=h (k+1) (by simpa using hk)
    simp only[List.getElem_cons_succ,List.take_succ_cons,List.mem_cons,not_or] at this
    exact this.2
theorem C6 {f:ab} (hE:cg f) {i:Nat} {l:List Int}:B3 f i l↔l.Perm (bj (ah f) f.blocks.length i):=by
 have hg:=hE.grph
 have hp:=nQ (iC f) f.blocks.length i
 unfold B3
 constructor
 ·rintro ⟨h1,h2⟩
  refine ry (rz.2 fun k hk=>(h2 k hk).2) (fun x hx=>?_) (by omega)
  obtain ⟨k,hk,rfl⟩:=List.mem_iff_getElem.1 hx
  exact (iV hg.toEOk hg.out).2 (h2 k hk).1
 ·intro h
  have hn:=h.nodup_iff.2 hp.1
  exact ⟨h.length_eq.symm,fun k hk=>⟨(iV hg.toEOk hg.out).1 (h.mem_iff.1 (w3 hk)),rz.1 hn k hk⟩⟩
theorem oH {f:ab} {i:Nat} {l:List Int}:lk l=bj (ah f) f.blocks.length i↔l.Perm (bj (ah f) f.blocks.length i):=E7 (nQ (iC f) f.blocks.length i).2
end
section
open Go.Proofs.Tryz
def C7 (b:Nat) (T:TypeId) (vs:List Value):bC:=.heap fun L=>L=[(b,.cells vs.toArray T (0,0))]
def HR (b off n c:Nat):AV:=.raw (.slice (some ⟨b,off,none⟩) n c)
section
variable {E:World} {P:Program} {ops:Array Oper} {K:aT→OL→Prop} {env:aT} {O O' O'':OL} {rest:List Oper}
variable {d ty:Nat} {pos:String} {af:Array Edge} {x y z:Operand} {t u e T:TypeId}
theorem ay.makeRow {i:TypeInfo} {zv z1:Value} {m:Nat} {k1 k2:IntKind} {l l':Int} (ht:P.underlying t=some (.slice e)) (hi:P.info? e=some i) (hz:i.zero=some zv) (hzc:zv.cells=#[z1]) (hk:i.size=1) (hx:bc env x=.int k1 l) (hy:bc env y=.int k2 l')
  (hl:l=(m:Int)) (hl':l'=(m:Int)) (hb:(i.bytes:Int)*(m:Int)≤281474976710656) (hm:m≤281474976710656) (kk:∀b,ay P E ops K rest (bz env d (HR b 0 m m)) ((0,C7 b e (List.replicate m z1))::O)) :
  ay P E ops K (Oper.mk (some d) (.makeSlice t x y) ty pos af none::rest) env O:=fun I F ρ w h1 h2=>by
 obtain ⟨htop,L,hL,hS⟩:=h2
 refine bY.make1 ht hi hz hzc hk (gr h1 hx) (gr h1 hy) hl hl' hb hm hS fun b w' hS'=>?_
 exact kk b I F _ _ (h1.upd d rfl) ⟨htop,_,⟨[(b,.cells (List.replicate m z1).toArray e (0,0))],L,rfl,rfl,hL⟩,by simpa using hS'⟩
theorem Gv.rowLo {b n c j:Nat} {a:Int} (ht:P.underlying t=some (.slice e)) (hs:∀w,(sizeOf e).run P w=.ok 1 w) (hx:bc env x=HR b 0 n c) (hy:bc env y=.int .i64 a) (hi:a=(j:Int)) (hj:j≤n) (hc:j<c) (hnc:n≤c) :
  Gv P env O (Oper.mk (some d) (.slice t x (some y) none none) ty pos af none) (HR b j (n - j) (c - j)):=Gv.ofEv fun I ρ h=>by
 have h1:=ik h hx
 have h2:=gr h hy
 subst hi
 refine ⟨_,U,fun w=>?_⟩
 have hcj:¬c=j:=by omega
 simp[execOp,Instr.sliceAt,Instr.slice,Instr.sliceBounds,Instr.sliceBound,asIntOf,Sem.run_bind,run_underlying ht,hs,h1,h2,hcj,hj,dP]
theorem Gv.rowHi {b n c j:Nat} {a:Int} (ht:P.underlying t=some (.slice e)) (hs:∀w,(sizeOf e).run P w=.ok 1 w) (hx:bc env x=HR b 0 n c) (hy:bc env y=.int .i64 a) (hi:a=(j:Int)) (hc:j≤c) :
  Gv P env O (Oper.mk (some d) (.slice t x none (some y) none) ty pos af none) (HR b 0 j c):=Gv.ofEv fun I ρ h=>by
 have h1:=ik h hx
 have h2:=gr h hy
 subst hi
 refine ⟨_,U,fun w=>?_⟩
 simp[execOp,Instr.sliceAt,Instr.slice,Instr.sliceBounds,Instr.sliceBound,asIntOf,Sem.run_bind,run_underlying ht,hs,h1,h2,hc,dP]
theorem Gv.lenRow {b off m c:Nat} (ht:P.underlying t=some (.slice T)) (hx:bc env x=HR b off m c):Gv P env O (Oper.mk (some d) (.call { callee:=.builtin .len,args:=#[x],argTypes:=#[t] }) ty pos af none) (.int .i64 m):=Gv.ofEv fun I ρ h=>by
 have h1:=ik h hx
 exact ⟨_,rfl,fun w=>by simp[execOp,resolve,h1,invoke,builtin,Builtin.len_,run_underlying ht,goInt]⟩
theorem ay.copyRow {b off dl dc sl q:Nat} {vs cs:List Value} {ty2:TypeId} (ht:P.underlying t=some (.slice e)) (hs:(P.info? e).map (·.size)=some 1) (hx:bc env x=HR b off dl dc)
  (hq:cs.length=q) (hmin:q=Nat.min sl dl) (hO:fF O 0 (C7 b T vs) (C7 b T (vs.take off++cs++vs.drop (off+q))) O') (hfit:off+q≤vs.length) (h1c:∀v∈cs,v.oneCell'=true)
  (hy:∀I F ρ w,eW I env ρ→iB I O F E w→∃a sc,ev ρ y=.slice (some a) sl sc∧∀j v,cs[j]?=some v→w.cell? (a.add j)=some v)
  (kk:ay P E ops K rest (bz env d (.int .i64 q)) O') :
  ay P E ops K (Oper.mk (some d) (.call { callee:=.builtin .copy,args:=#[x,y],argTypes:=#[t,ty2] }) ty pos af none::rest) env O:=fun I F ρ w h1 h2=>by
 obtain ⟨a,sc,ey,hsrc⟩:=hy I F ρ w h1 h2
 obtain ⟨htop,L,hL,hS⟩:=h2
 have ex:=ik h1 hx
 obtain ⟨A,B,hp,hA,hback⟩:=hO.rep hL
 have hA:A=[(b,.cells vs.toArray T (0,0))]:=hA
 subst hA
 have hS2:SL I.k ((b,.cells vs.toArray T (0,0))::(B++F)) E w:=hS.perm ((hp.append_right F).symm)
 have hrun:=run_copy_row (P:=P) w t ty2 ty e b off dl dc a sl sc vs.toArray T cs ht hs (hS2.own _ (.head _)) (by rw[hq,hmin]) hsrc (by simpa [hq] using hfit) h1c
 rw[hq] at hrun
 obtain ⟨L',h5,h6⟩:=hback (qo I) (A':=[(b,.cells (vs.take off++cs++vs.drop (off+q)).toArray T (0,0))]) rfl
 refine bY.step U ?_
 unfold lG
 have hex:(execOp (Go.Proofs.YtbbonnfjealmpaaGreatDoor.ev ρ) (Oper.mk (some d) (.call { callee:=.builtin .copy,args:=#[x,y],argTypes:=#[t,ty2] }) ty pos af none)).run P w=.ok (.value (goInt q)) (w.setRow b (vs.take off++cs++vs.drop (off+q)).toArray):=by
  simp only[execOp,resolve]
  simp at hrun
  simp[invoke,builtin,ex,ey,hrun]
 rw[hex]
 refine kk I F _ _ (h1.upd d U) ⟨htop,L',h5,?_⟩
 exact (hS2.turn1).perm (h6.append_right F)
theorem dV.rowOwn {t b m:Nat} {vs:List Value} {O1:OL} {c:Code} {Q:Exit→aT→OL→Prop} {n:Nat} (hv:env t=HR b 0 m m) (hO:dH O 0 (C7 b T vs) O1) (hm:vs.length=m) (hc:∀u∈vs,u.oneCell'=true)
  (h:∀i,dV P E n c Q (bz env t (.own i m)) ((i,.grow 1 T (vs.map lit))::O1)):dV P E n c Q env O:=fun I F ρ w h1 h2=>by
 obtain ⟨i,hi⟩:=h2.name
 obtain ⟨J,e1,hle,e2,htop⟩:=hi (some b,m)
 obtain ⟨_,L,hL,hS⟩:=h2
 obtain ⟨A,B,hp,hA,hB⟩:=hO.rep hL
 have hA:A=[(b,.cells vs.toArray T (0,0))]:=hA
 subst hA
 refine (h i J F ρ w (fun q=>?_) ⟨htop,_,⟨[(b,.cells vs.toArray T (0,0))],B,U,⟨some b,m,m,vs,e2,eQ J vs,hc,fe.made (by rw[hm,Nat.mul_one])⟩,hB.mono hle⟩,by rw[e1];exact hS.perm (hp.symm.append_right F)⟩).mono fun _ _ _=>mN.up hle
 unfold bz
 cases hb:Nat.beq q t with
 |false=>exact cC.mono hle _ _ (h1 q)
 |true=>
  have:q=t:=Nat.eq_of_beq_eq_true hb
  subst this
  have h4:=h1 q
  rw[hv] at h4
  exact ⟨some b,m,e2,h4⟩
end
end
end Go.Proofs.YtbbonnfjealmpaaGreatDoor
namespace Go.Proofs
open Go.Shelf
def Tryz.lays189_ren:Go.Shelf.Ren:=⟨fun|189=>167|125=>206|257=>205|128=>228|129=>229|294=>219|295=>220|296=>221|297=>222|298=>223|299=>224|216=>225|300=>226|301=>227|328=>235|329=>236|330=>237|331=>238|332=>239|215=>240|343=>244|n=>n,fun|28=>23|3=>3|46=>229|0=>0|51=>262|53=>208|4=>4|183=>282|182=>281|131=>286|5=>5|9=>9|218=>296|222=>300|228=>312|229=>89|n=>n,fun|n=>n⟩
theorem Tryz.lays189:Go.Proofs.Lays.n189 prog Tryz.lays189_ren:={
 mixed:=by kernel_rfl
 f125:=func206.trans (congrArg some (by kernel_rfl))
 f128:=func228.trans (congrArg some (by kernel_rfl))
 f129:=func229.trans (congrArg some (by kernel_rfl))
 f189:=func167.trans (congrArg some (by kernel_rfl))
 f215:=func240.trans (congrArg some (by kernel_rfl))
 f216:=func225.trans (congrArg some (by kernel_rfl))
 f257:=func205.trans (congrArg some (by kernel_rfl))
 f294:=func219.trans (congrArg some (by kernel_rfl))
 f295:=func220.trans (congrArg some (by kernel_rfl))
 f296:=func221.trans (congrArg some (by kernel_rfl))
 f297:=func222.trans (congrArg some (by kernel_rfl))
 f298:=func223.trans (congrArg some (by kernel_rfl))
 f299:=func224.trans (congrArg some (by kernel_rfl))
 f300:=func226.trans (congrArg some (by kernel_rfl))
 f301:=func227.trans (congrArg some (by kernel_rfl))
 f328:=func235.trans (congrArg some (by kernel_rfl))
 f329:=func236.trans (congrArg some (by kernel_rfl))
 f330:=func237.trans (congrArg some (by kernel_rfl))
 f331:=func238.trans (congrArg some (by kernel_rfl))
 f332:=func239.trans (congrArg some (by kernel_rfl))
 f343:=func244.trans (congrArg some (by kernel_rfl))
 t0:=underlying0
 a0:=isAgg0
 z0:=sizeOf0
 v0:=zeroValue0
 t3:=underlying3
 a3:=isAgg3
 z3:=sizeOf3
 v3:=zeroValue3
 t4:=underlying4
 a4:=isAgg4
 z4:=sizeOf4
 v4:=zeroValue4
 t5:=underlying5
 a5:=isAgg5
 z5:=sizeOf5
 v5:=zeroValue5
 t9:=underlying9
 a9:=isAgg9
 z9:=sizeOf9
 v9:=zeroValue9
 t28:=underlying23
 a28:=isAgg23
 z28:=sizeOf23
 v28:=zeroValue23
 t46:=underlying229
 a46:=isAgg229
 z46:=sizeOf229
 v46:=zeroValue229
 t51:=underlying262
 a51:=isAgg262
 z51:=sizeOf262
 v51:=zeroValue262
 t53:=underlying208
 a53:=isAgg208
 z53:=sizeOf208
 v53:=zeroValue208
 t131:=underlying286
 a131:=isAgg286
 z131:=sizeOf286
 v131:=zeroValue286
 t182:=underlying281
 a182:=isAgg281
 z182:=sizeOf281
 v182:=zeroValue281
 t183:=underlying282
 a183:=isAgg282
 z183:=sizeOf282
 v183:=zeroValue282
 t218:=underlying296
 a218:=isAgg296
 z218:=sizeOf296
 v218:=zeroValue296
 t222:=underlying300
 a222:=isAgg300
 z222:=sizeOf300
 v222:=zeroValue300
 t228:=underlying312
 a228:=isAgg312
 z228:=sizeOf312
 v228:=zeroValue312
 t229:=underlying89
 a229:=isAgg89
 z229:=sizeOf89
 v229:=zeroValue89 }
open Go.Sort Go.RowKit in
theorem Tryz.slices_Sort_int (blk off cap:Nat) (zs:List Int) (w:World) (hH:Holds (Value.int .i64) w blk off zs.toArray) (hblk:blk<w.heap.size) (hsz:zs.length<4611686018427387904) :
  Calls prog 167 #[.slice (some ⟨blk,off,none⟩) zs.length cap] w fun e w'=>
   e=.returned (.tuple #[])∧∃n os,w'=grow (putRow (Value.int .i64) (Sort.ahead w n) blk off (zs.mergeSort fun x y=>decide (x≤y)).toArray) os:=Any.slices_Sort_int Tryz.lays189 blk off cap zs w hH hblk hsz
def Tryz.lays200_ren:Go.Shelf.Ren:=⟨fun|200=>207|261=>230|311=>241|312=>242|n=>n,fun|21=>21|4=>4|51=>262|5=>5|119=>290|0=>0|141=>292|196=>305|193=>302|3=>3|198=>307|49=>31|194=>303|201=>310|226=>314|46=>229|227=>315|n=>n,fun|7=>0|8=>1|n=>n⟩
theorem Tryz.lays200:Go.Proofs.Lays.n200 prog Tryz.lays200_ren:={
 mixed:=by kernel_rfl
 f200:=func207.trans (congrArg some (by kernel_rfl))
 f261:=func230.trans (congrArg some (by kernel_rfl))
 f311:=func241.trans (congrArg some (by kernel_rfl))
 f312:=func242.trans (congrArg some (by kernel_rfl))
 t0:=underlying0
 a0:=isAgg0
 z0:=sizeOf0
 v0:=zeroValue0
 t3:=underlying3
 a3:=isAgg3
 z3:=sizeOf3
 v3:=zeroValue3
 t4:=underlying4
 a4:=isAgg4
 z4:=sizeOf4
 v4:=zeroValue4
 t5:=underlying5
 a5:=isAgg5
 z5:=sizeOf5
 v5:=zeroValue5
 t21:=underlying21
 a21:=isAgg21
 z21:=sizeOf21
 v21:=zeroValue21
 t46:=underlying229
 a46:=isAgg229
 z46:=sizeOf229
 v46:=zeroValue229
 t49:=underlying31
 a49:=isAgg31
 z49:=sizeOf31
 v49:=zeroValue31
 t51:=underlying262
 a51:=isAgg262
 z51:=sizeOf262
 v51:=zeroValue262
 t119:=underlying290
 a119:=isAgg290
 z119:=sizeOf290
 t141:=underlying292
 a141:=isAgg292
 z141:=sizeOf292
 v141:=zeroValue292
 t193:=underlying302
 a193:=isAgg302
 z193:=sizeOf302
 v193:=zeroValue302
 t194:=underlying303
 a194:=isAgg303
 z194:=sizeOf303
 v194:=zeroValue303
 t196:=underlying305
 a196:=isAgg305
 z196:=sizeOf305
 v196:=zeroValue305
 t198:=underlying307
 a198:=isAgg307
 z198:=sizeOf307
 v198:=zeroValue307
 t201:=underlying310
 a201:=isAgg310
 z201:=sizeOf310
 v201:=zeroValue310
 t226:=underlying314
 a226:=isAgg314
 z226:=sizeOf314
 v226:=zeroValue314
 t227:=underlying315
 a227:=isAgg315
 z227:=sizeOf315
 v227:=zeroValue315
 g7:=by kernel_rfl
 g8:=by kernel_rfl }
def Tryz.lays264_ren:Go.Shelf.Ren:=⟨fun|264=>203|n=>n,fun|53=>208|46=>229|n=>n,fun|n=>n⟩
theorem Tryz.lays264:Go.Proofs.Lays.n264 prog Tryz.lays264_ren:={
 mixed:=by kernel_rfl
 f264:=func203.trans (congrArg some (by kernel_rfl))
 t46:=underlying229
 a46:=isAgg229
 z46:=sizeOf229
 v46:=zeroValue229
 t53:=underlying208
 a53:=isAgg208
 z53:=sizeOf208
 v53:=zeroValue208 }
open Go.RowKit Go.Lib in
theorem Tryz.bits_Mul64 (x y:Nat) (hx:x<18446744073709551616) (hy:y<18446744073709551616) (w:World) :
  Calls prog 203 #[.int .u64 x,.int .u64 y] w fun e w'=>e=.returned (.tuple #[.int .u64 ((x*y / 18446744073709551616:Nat):Int),.int .u64 ((x*y % 18446744073709551616:Nat):Int)])∧w'=w:=Any.bits_Mul64 Tryz.lays264 x y hx hy w
def Tryz.lays212_ren:Go.Shelf.Ren:=⟨fun|212=>165|263=>202|264=>203|n=>n,fun|46=>229|51=>262|146=>263|53=>208|148=>265|n=>n,fun|n=>n⟩
theorem Tryz.lays212:Go.Proofs.Lays.n212 prog Tryz.lays212_ren:={
 mixed:=by kernel_rfl
 f212:=func165.trans (congrArg some (by kernel_rfl))
 f263:=func202.trans (congrArg some (by kernel_rfl))
 f264:=func203.trans (congrArg some (by kernel_rfl))
 t46:=underlying229
 a46:=isAgg229
 z46:=sizeOf229
 v46:=zeroValue229
 t51:=underlying262
 a51:=isAgg262
 z51:=sizeOf262
 v51:=zeroValue262
 t53:=underlying208
 a53:=isAgg208
 z53:=sizeOf208
 v53:=zeroValue208
 t146:=underlying263
 a146:=isAgg263
 z146:=sizeOf263
 v146:=zeroValue263
 t148:=underlying265
 a148:=isAgg265
 z148:=sizeOf265
 v148:=zeroValue265 }
open Go.RowKit Go.Lib in
theorem Tryz.bits_Mul (x y:Nat) (hx:x<18446744073709551616) (hy:y<18446744073709551616) (w:World) :
  Calls prog 165 #[.int .u64 x,.int .u64 y] w fun e w'=>e=.returned (.tuple #[.int .u64 ((x*y / 18446744073709551616:Nat):Int),.int .u64 ((x*y % 18446744073709551616:Nat):Int)])∧w'=w:=Any.bits_Mul Tryz.lays212 x y hx hy w
open Go.RowKit Go.Lib in
theorem Tryz.unicode_IsLetter_all (r:Int) (w:World) (hlo:-2147483648≤r) (hhi:r≤2147483647) (htab:Lib.TabIs prog w "unicode.properties" .u8 Lib.propertiesTab) (hV:RVar 1 letterT w) :
  Calls prog 207 #[.int .i32 r] w fun e w'=>e=.returned (.bool (isLetterU r))∧Below w.heap.size w w':=Any.unicode_IsLetter_all Tryz.lays200 (by kernel_rfl) r w hlo hhi htab hV
def Tryz.lays107_ren:Go.Shelf.Ren:=⟨fun|107=>166|108=>204|n=>n,fun|28=>23|3=>3|4=>4|0=>0|n=>n,fun|n=>n⟩
def Tryz.lays112_ren:Go.Shelf.Ren:=⟨fun|112=>201|n=>n,fun|28=>23|3=>3|4=>4|0=>0|n=>n,fun|n=>n⟩
theorem Tryz.lays112:Go.Proofs.Lays.n112 prog Tryz.lays112_ren:={
 mixed:=by kernel_rfl
 f112:=func201.trans (congrArg some (by kernel_rfl))
 t0:=underlying0
 a0:=isAgg0
 z0:=sizeOf0
 v0:=zeroValue0
 t3:=underlying3
 a3:=isAgg3
 z3:=sizeOf3
 v3:=zeroValue3
 t4:=underlying4
 a4:=isAgg4
 z4:=sizeOf4
 v4:=zeroValue4
 t28:=underlying23
 a28:=isAgg23
 z28:=sizeOf23
 v28:=zeroValue23 }
open Go.RowKit Go.Lib Go.Sort in
theorem Tryz.slices_Reverse_int (blk off cap:Nat) (zs:List Int) (w:World) (hH:Holds (Value.int .i64) w blk off zs.toArray) (hsz:zs.length≤9223372036854775807) :
  Calls prog 201 #[.slice (some ⟨blk,off,none⟩) zs.length cap] w fun e w'=>e=.returned (.tuple #[])∧∃n,w'=putRow (Value.int .i64) (Sort.ahead w n) blk off zs.reverse.toArray:=Any.slices_Reverse_int Tryz.lays112 blk off cap zs w hH hsz
open Go.RowKit Go.Lib Go.Sort in
theorem Tryz.slices_Reverse_int_empty (a:Option Addr) (cap:Nat) (w:World) :
  Calls prog 201 #[.slice a 0 cap] w fun e w'=>e=.returned (.tuple #[])∧w'=w:=Any.slices_Reverse_int_empty Tryz.lays112 a cap w
open Go.RowKit Go.Sort in
theorem Tryz.slices_Sort_int_none (p:Option Addr) (cap:Nat) (w:World) :
  Calls prog 167 #[.slice p 0 cap] w fun e w'=>e=.returned (.tuple #[])∧w'=w:=Any.slices_Sort_int_none Tryz.lays189 p cap w
end Go.Proofs
namespace Go.Proofs.YtbbonnfjealmpaaGreatDoor
section
open Go.Proofs.Tryz
open Go.Proofs
variable {E:World}
set_option maxRecDepth 20000
theorem xj (l:List Int) (i:Nat) (T:TypeId) (hl:l.length≤200000):bn prog E 201 [.own i l.length] [(i,.grow 1 T (cI l))] fun r O=>r=.tup []∧O=[(i,.grow 1 T (cI l.reverse))]:=
 bn.turned (g:=List.reverse) (B:=200001) func201 rfl (by decide) (fun l=>List.length_reverse) (fun blk cap zs w hH _ hz=>(Tryz.slices_Reverse_int blk 0 cap zs w hH (by omega)).mono fun e w' ⟨h1,n,h2⟩=>⟨h1,n,#[],by rw[h2,Go.Sort.grow_empty]⟩)
  (fun cap w=>Tryz.slices_Reverse_int_empty none cap w) rfl (by omega)
theorem xk (l:List Int) (i:Nat) (T:TypeId) (hl:l.length≤200000):bn prog E 167 [.own i l.length] [(i,.grow 1 T (cI l))] fun r O=>r=.tup []∧O=[(i,.grow 1 T (cI (lk l)))]:=
 bn.turned (g:=lk) (B:=200001) func167 rfl (by decide) (fun l=>(fj l).length_eq) (fun blk cap zs w hH hb hz=>Tryz.slices_Sort_int blk 0 cap zs w hH hb (by omega))
  (fun cap w=>Tryz.slices_Sort_int_none none cap w) rfl (by omega)
theorem aP.ofSame {E:World} {P:Program} {f:FuncId} {fn:Func} {c:Code} {ars:List AV} {vs:List Value} {r:Value} {x:AV} (hf:P.funcs[f]?=some fn) (hb:fn.body=some c) (hn:fn.name≠"runtime.NumGoroutine") (has:ars=vs.map lit)
  (h:∀w,Calls P f vs.toArray w fun e w'=>e=.returned r∧w'=w) (hr:∀I,cC I x r):aP P E f ars x:=fun I F w us h1 h2=>by
 subst has
 rw[mn h1]
 refine Fn.ofCalls hf hb hn ?_
 exact (h w).mono fun e w' ⟨he,hw⟩=>⟨_,he,I,x,[],.refl _,hr I,by rw[hw];exact h2,rfl⟩
theorem C8 (x y:Nat) (hx:x<18446744073709551616) (hy:y<18446744073709551616):aP prog E 165 [.int .u64 (x:Int),.int .u64 (y:Int)] (.tup [.int .u64 ((x*y / 18446744073709551616:Nat):Int),.int .u64 ((x*y % 18446744073709551616:Nat):Int)]):=
 aP.ofSame (vs:=[.int .u64 x,.int .u64 y]) func165 rfl (by decide) rfl (fun w=>Tryz.bits_Mul x y hx hy w) (fun I=>⟨_,rfl,_,_,rfl,rfl,_,_,rfl,rfl,rfl⟩)
theorem AB (x y:Nat) (hx:x<18446744073709551616) (hy:y<18446744073709551616):aP prog E 203 [.int .u64 (x:Int),.int .u64 (y:Int)] (.tup [.int .u64 ((x*y / 18446744073709551616:Nat):Int),.int .u64 ((x*y % 18446744073709551616:Nat):Int)]):=
 aP.ofSame (vs:=[.int .u64 x,.int .u64 y]) func203 rfl (by decide) rfl (fun w=>Tryz.bits_Mul64 x y hx hy w) (fun I=>⟨_,rfl,_,_,rfl,rfl,_,_,rfl,rfl,rfl⟩)
def zZ (v:Int) (n k:Nat):List Value:=List.replicate k (.int .i64 v)++List.replicate (n - k) (.int .i64 0)
theorem B4 {v:Int} {n k:Nat} (h:k≤n):(zZ v n k).length=n:=by unfold zZ;simp;omega
theorem xl {v:Int} {n k q:Nat} (h:q≤k):(zZ v n k).take q=List.replicate q (.int .i64 v):=by unfold zZ;rw[List.take_append_of_le_length (by simp;exact h),List.take_replicate,Nat.min_eq_left h]
theorem E8 {v:Int} {n k q:Nat} (h:k+q≤n):(zZ v n k).take k++List.replicate q (.int .i64 v)++(zZ v n k).drop (k+q)=zZ v n (k+q):=by
 rw[xl (Nat.le_refl _)]
 unfold zZ
 rw[List.drop_append,List.drop_eq_nil_of_le (by simp),List.length_replicate,List.drop_replicate,List.replicate_append_replicate,List.nil_append]
 congr 2
 omega
theorem HS {v:Int} {n k:Nat}:∀u∈zZ v n k,u.oneCell'=true:=fun u hu=>by
 unfold zZ at hu
 rcases List.mem_append.1 hu with h|h
 ·rw[List.eq_of_mem_replicate h];rfl
 ·rw[List.eq_of_mem_replicate h];rfl
theorem E9 (v:Int) (n:Nat):(zZ v n n).map lit=cI (List.replicate n v):=by unfold zZ cI;simp[lit]
theorem HT {I:G} {k:IntKind} {v:Int} {x:Value} (h:cC I (.fro 1 [[.int k v]]) x):∃b off c,x=.slice (some ⟨b,off,none⟩) 1 c∧Ef I.k b off (.int k v):=by
 obtain ⟨a,n,c,e,hn,_,_,⟨b,off,vs,ea,hl,hr,hk⟩,_⟩:=h
 obtain ⟨u,us,rfl,hu,_⟩:=hr
 have hu:u=.int k v:=hu
 subst ea hu
 simp only[List.length_cons,List.length_nil] at hn
 subst hn
 exact ⟨b,off,c,e,by have:=hk 0 _ rfl;simpa using this⟩
theorem JT {env:aT} {O:OL} {y:Operand} {k:IntKind} {v:Int} (hy:bc env y=.fro 1 [[.int k v]]):∀I F ρ w,eW I env ρ→iB I O F E w→∃a sc,ev ρ y=.slice (some a) 1 sc∧∀j u,([Value.int k v]:List Value)[j]?=some u→w.cell? (a.add j)=some u:=fun I F ρ w h1 h2=>by
 have h:=h1.ev y
 rw[hy] at h
 obtain ⟨b,off,c,e,hk⟩:=HT h
 obtain ⟨_,L,_,hS⟩:=h2
 refine ⟨⟨b,off,none⟩,c,e,fun j u hj=>?_⟩
 cases j with
 |zero=>simp at hj;subst hj;rw[dP];exact hS.at_ (hk.at_ _)
 |succ j=>simp at hj
theorem JU {env:aT} {O O':OL} {y:Operand} {b n c:Nat} {T:TypeId} {vs cs:List Value} (hy:bc env y=HR b 0 n c) (hO:dH O 0 (C7 b T vs) O') (hc:∀(j:Nat) u,cs[j]?=some u→vs[j]?=some u):∀I F ρ w,eW I env ρ→iB I O F E w→∃a sc,ev ρ y=.slice (some a) n sc∧∀j u,cs[j]?=some u→w.cell? (a.add j)=some u:=fun I F ρ w h1 h2=>by
 have h:=ik h1 hy
 obtain ⟨_,L,hL,hS⟩:=h2
 obtain ⟨A,B,hp,hA,hB⟩:=hO.rep hL
 have hA:A=[(b,.cells vs.toArray T (0,0))]:=hA
 subst hA
 have hS2:SL I.k ((b,.cells vs.toArray T (0,0))::(B++F)) E w:=hS.perm ((hp.append_right F).symm)
 refine ⟨⟨b,0,none⟩,c,h,fun j u hj=>?_⟩
 rw[dP,hS2.cell_own,List.getElem?_toArray,Nat.zero_add]
 exact hc j u hj
theorem aS (v:Int) (n:Nat) (hn:n≤100000) (h0:0<n):bn prog E 116 [.fro 1 ([v].map bO),.int .i64 n] [] (fun x O'=>∃i:Nat,x=.own i n∧O'=[(i,.grow 1 3 (cI (List.replicate n v)))]):=by
 have hw:IntKind.wrap .u64 (n:Int)=n:=by unfold IntKind.wrap;simp[IntKind.bits,IntKind.signed];omega
 have hm:(1*n / 18446744073709551616:Nat)=0:=by omega
 have hm2:(1*n % 18446744073709551616:Nat)=n:=by omega
 refine zp func116 U (by decide) U ?_
 have hmul:aP prog E 165 [.int .u64 1,.int .u64 (IntKind.wrap .u64 (n:Int))] (.tup [.int .u64 0,.int .u64 (n:Int)]):=by
  have:=C8 (E:=E) 1 n (by omega) (by omega)
  rw[hm,hm2] at this
  rw[hw];exact this
 refine ae<|cE U<|z2<|zb<|ae<|aa U<|ap U U<|z2<|yq U (by simp)<|zf<|ae<|bd U<|aj j7 U<|z8 (ql X0 X6 U)<|aa U<|z8 (ql X0 X6 U)<|ze (hmul) U<|z8 (uY U)<|z8 (nC U U)<|z8 (nC U U)<|am U<|am U<|z2<|zb<|ae<|aa U<|be U U<|aq U<|z7 U U (by decide)<|aa U<|z7 U U (by decide)<|be U U<|z8 (Eg U (by decide) U)<|z2<|yq U (by simp;omega)<|zf<|ae<|aa U<|z8 (ql X6 X0 U)<|ay.makeRow (m:=n) j7 Y5 U U U U U (by show IntKind.wrap .i64 (n:Int)=n;unfold IntKind.wrap;simp[IntKind.bits,IntKind.signed];omega) (by show IntKind.wrap .i64 (n:Int)=n;unfold IntKind.wrap;simp[IntKind.bits,IntKind.signed];omega) (by show (8:Int)*_≤_;omega) (by omega)<|fun b=>cE U ?_
 refine z2<|ae<|z8 (yt (v:=.raw _) U)<|bd U<|ay.copyRow (cs:=[.int .i64 v]) (q:=1) j7 U U U (Nat.min_eq_left h0).symm .head (by rw[List.length_replicate];omega) (by simp[Value.oneCell']) (JT U) ?_
 have hstart:(List.replicate n (Value.int .i64 0)).take 0++[Value.int .i64 v]++(List.replicate n (Value.int .i64 0)).drop (0+1)=zZ v n 1:=by unfold zZ;simp[List.drop_replicate]
 rw[hstart]
 refine am U<|z2<|zb<|zi<|y5 (γ:=Nat) [7] (fun k=>[(8,.i k)]) (fun k=>[(0,C7 b 3 (zZ v n k))]) (fun k=>1≤k∧k≤n) (fun k=>n - k) 1 aL aE (⟨Nat.le_refl _,h0⟩) ?_
 rintro k ⟨hk1,hk⟩
 refine zb<|ae<|aa U<|z8 (yt (v:=.raw _) U)<|z8 (Gv.lenRow j7 U)<|ap U U<|z2<|zn U (fun ck=>?_) (fun ck=>?_)
 ·have hk2:k<n:=by simp at ck;omega
  obtain ⟨q,hq⟩:∃q,q=min k (n - k):=⟨_,rfl⟩
  have hq1:0<q∧q≤k∧k+q≤n:=by omega
  refine zf<|zi<|zr (fun j=>false) (by kernel_rfl) U (zo (.rest _))<|ai 0 U (dx U)<|ai 1 U (yt (v:=.raw _) U)<|ai 2 U (dx U)<|ai 3 U (Gv.rowLo (j:=k) j7 j9 U U U (by omega) (by omega) (by omega))<|ai 4 U (yt (v:=.raw _) U)<|ai 5 U (dx U)<|ai 6 U (Gv.rowHi (j:=k) j7 j9 U U U (by omega))<|aN 7 U<|ay.copyRow (cs:=List.replicate q (.int .i64 v)) (q:=q) j7 U U (List.length_replicate ..) hq .head (by rw[B4 hk];omega) (fun u hu=>by rw[List.eq_of_mem_replicate hu];rfl) (JU (vs:=zZ v n k) U .head (fun j u hj=>by rw[←xl (v:=v) (n:=n) hq1.2.1,List.getElem?_take] at hj;split at hj;exact hj;cases hj)) ?_
  rw[E8 hq1.2.2]
  refine z2<|ai 8 U (G8 U U)<|ai 9 U (BI U)<|bI ?_
  exact ⟨k+q,aL,aL,aE,⟨by omega,hq1.2.2⟩,by omega⟩
 ·have hkn:k=n:=by simp at ck;omega
  subst hkn
  refine y4<|ae<|z8 (yt (v:=.raw _) U)<|cE U<|z2<|dV.rowOwn (t:=4) U .head (B4 (Nat.le_refl _)) HS (fun i=>?_)
  rw[E9]
  refine zg<|zm (x:=.own _ _) U ?_
  exact ⟨i,rfl,rfl⟩
end
section
open Go.Proofs.Tryz
open Go.Proofs
theorem Ld:kE prog 54 1 [.int .i64 0,.int .i64 0]:=⟨_,_,_,Z9,zeroValue54,j9,rfl⟩
set_option maxRecDepth 20000
variable {E:World}
def gW (f:ab) (x:aB):Bool:=decide ((cH x.op).1=⟨#[]⟩)||!decide (x.args.length=(aX x.op).length)||!x.args.all (bt f)
def iu (f:ab) (x:aB):Bool:=(bE x.op&&!bt f x.dst)||(!bE x.op&&!decide (x.dst=-1))
def dY (f:ab) (x:aB):Bool:=!gW f x&&!iu f x&&(decide (x.num=0)||qS x.op)
def bJ (f:ab) (t:fg):Bool:=if t.kind=0 then eX f t.to0&&decide (t.to1=0)&&decide (t.var=0) else if t.kind=1 then bt f t.var&&eX f t.to0&&eX f t.to1 else
 if t.kind=2 then bt f t.var&&decide (t.to0=0∧t.to1=0) else false
theorem xm (a b c d:Int) (w:World):(Op.equalIn 10000 54 (.agg [.int .i64 a,.int .i64 b].toArray) (.agg [.int .i64 c,.int .i64 d].toArray)).run prog w=.ok (decide (a=c∧b=d)) w:=Jt a b c d w 9998
theorem C9 (f:ab) (x:aB) (hx:qX x.args):aP prog E 155 [.agg (bw f),.agg (bq x)] (.bool (dY f x)):=by
 have hl:=hx.lt
 refine zp func155 U (by decide) U<|ae<|y6 (cs:=_) U U U<|y6 (cs:=_) U U U<|ad U<|z2<|ae<|ak jd U Zs U U<|aA Y2 U<|ze (qW _) U<|z8 (uY U)<|z8 (nC U U)<|z8 (wz U U)<|am U<|ad U<|z2<|zb<|zi<|zb<|zr (fun j=>false) (by kernel_rfl) U (zo (.rest _))<|ai 0 U (db jd U Zs U U)<|ai 1 U (dQ Y2 U)<|aN 2 U<|ze (CR _) U<|z2<|ai 3 U (q7 U U)<|ai 4 U (zX U)<|bT.case (s:=18) U (fun c1=>?_) (fun c1=>?_)
 ·refine fv 5 U U U c1<|fv 6 U U U c1<|fv 7 U U U c1<|fv 8 U U U c1<|fv 9 U U U c1<|fv 10 U U U c1<|fv 11 U U U c1<|fv 12 U U U c1<|ai 13 U (Ep U c1 U)<|ai 14 U (zX U)<|fv 15 U U U U<|fv 16 U U U U<|fv 17 U U U U<|fv 18 U U U U<|fv 19 U U U U<|ai 20 U (Ep U U U)<|ai 21 U (qO U)<|bI<|yr U U<|ae<|ad U<|z2<|zg<|zm (x:=.bool _) U ?_
  exact jb (by simp_all[dY,gW,iu,Int.ofNat_inj]<;>grind)
 ·refine ie 5 U U U c1 (db jd U jh U U)<|ie 6 U U U c1 (gd jx U)<|ie 7 U U U c1 (Gv.lenM j7 U)<|ie 8 U U U c1 (db jd U Zs U U)<|ie 9 U U U c1 (dQ Y2 U)<|aN 10 U<|z7 U U c1<|ze (qV _) U<|z2<|ie 11 U U U c1 (Gv.lenM underlying222 U)<|ie 12 U U U c1 (Gv.neqI U U)<|ai 13 U (Eg U c1 U)<|ai 14 U (zX U)<|bT.case (s:=28) U (fun c2=>?_) (fun c2=>?_)
  ·refine fv 15 U U U c2<|fv 16 U U U c2<|fv 17 U U U c2<|fv 18 U U U c2<|fv 19 U U U c2<|ai 20 U (Ep U c2 U)<|ai 21 U (qO U)<|bI<|yr U U<|ae<|ad U<|z2<|zg<|zm (x:=.bool _) U ?_
   exact jb (by simp_all[dY,gW,iu,Int.ofNat_inj]<;>grind)
  ·refine ie 15 U U U c2 (yp Z0 ji U U)<|ie 16 U U U c2 (db jd U jh U U)<|ie 17 U U U c2 (gd jx U)<|aN 18 U<|z7 U U c2<|ze (ui _ _ (by omega)) U<|z2<|ie 19 U U U c2 (Gv.not U)<|ai 20 U (Eg U c2 U)<|ai 21 U (qO U)<|bI<|zw U (fun c3=>?_) (fun c3=>?_)
   ·refine ae<|ad U<|z2<|zg<|zm (x:=.bool _) U ?_
    exact jb (by simp_all[dY,gW,iu,Int.ofNat_inj]<;>grind)
   ·refine ae<|aq U<|aq U<|zt (s:=37) U (fun c4=>?_) (fun c4=>?_)
    ·refine z7 U U c4<|ac Z0 ji U U<|z7 U U c4<|ak jd U j9 U U<|z7 U U c4<|aA jg U<|z7 U U c4<|ze (lN _ _) U<|z7 U U c4<|aJ U<|au U c4 U<|aq U<|zt (s:=44) U (fun c5=>?_) (fun c5=>?_)
     ·refine z6 U U c5<|z6 U U c5<|z6 U U c5<|zk U U<|zk U U<|zk U U<|z6 U U c5<|au U c5 U<|ad U<|z2<|yr U U<|ae<|ad U<|z2<|zg<|zm (x:=.bool _) U ?_
      exact jb (by simp_all[dY,gW,iu,Int.ofNat_inj]<;>grind)
     ·refine z7 U U c5<|aq U<|z7 U U c5<|aJ U<|z7 U U c5<|aq U<|zt (s:=47) U (fun c6=>?_) (fun c6=>?_)
      ·refine z7 U U c6<|ak jd U j9 U U<|z7 U U c6<|aA jg U<|z7 U U c6<|aO U U<|z7 U U c5<|au U c6 U<|aw U c5 U<|ad U<|z2<|zw U (fun c7=>?_) (fun c7=>?_)
       ·refine ae<|ad U<|z2<|zg<|zm (x:=.bool _) U ?_
        exact jb (by simp_all[dY,gW,iu,Int.ofNat_inj]<;>grind)
       ·refine zf<|ae<|ak jd U Z1 U U<|aA Zc U<|ao U U<|aq U<|zt (s:=56) U (fun c8=>?_) (fun c8=>?_)
        ·refine z6 U U c8<|z6 U U c8<|z6 U U c8<|au U c8 U<|ad U<|z2<|zg<|zm (x:=.bool _) U ?_
         exact jb (by simp_all[dY,gW,iu,Int.ofNat_inj]<;>grind)
        ·refine z7 U U c8<|ak jd U Zs U U<|z7 U U c8<|aA Y2 U<|z7 U U c8<|ze (gO _) U<|aw U c8 U<|ad U<|z2<|zg<|zm (x:=.bool _) U ?_
         exact jb (by simp_all[dY,gW,iu,Int.ofNat_inj]<;>grind)
      ·refine z6 U U c6<|z6 U U c6<|z6 U U c6<|z7 U U c5<|aw U c6 U<|aw U c5 U<|ad U<|z2<|yq U U<|zf<|ae<|ak jd U Z1 U U<|aA Zc U<|ao U U<|aq U<|zt (s:=56) U (fun c9=>?_) (fun c9=>?_)
       ·refine z6 U U c9<|z6 U U c9<|z6 U U c9<|au U c9 U<|ad U<|z2<|zg<|zm (x:=.bool _) U ?_
        exact jb (by simp_all[dY,gW,iu,Int.ofNat_inj]<;>grind)
       ·refine z7 U U c9<|ak jd U Zs U U<|z7 U U c9<|aA Y2 U<|z7 U U c9<|ze (gO _) U<|aw U c9 U<|ad U<|z2<|zg<|zm (x:=.bool _) U ?_
        exact jb (by simp_all[dY,gW,iu,Int.ofNat_inj]<;>grind)
    ·refine z6 U U c4<|z6 U U c4<|z6 U U c4<|z6 U U c4<|z6 U U c4<|aw U c4 U<|aq U<|z7 U U U<|aq U<|z7 U U U<|aJ U<|z7 U U U<|aq U<|zt (s:=47) U (fun c10=>?_) (fun c10=>?_)
     ·refine z7 U U c10<|ak jd U j9 U U<|z7 U U c10<|aA jg U<|z7 U U c10<|aO U U<|z7 U U U<|au U c10 U<|aw U U U<|ad U<|z2<|zw U (fun c11=>?_) (fun c11=>?_)
      ·refine ae<|ad U<|z2<|zg<|zm (x:=.bool _) U ?_
       exact jb (by simp_all[dY,gW,iu,Int.ofNat_inj]<;>grind)
      ·refine zf<|ae<|ak jd U Z1 U U<|aA Zc U<|ao U U<|aq U<|zt (s:=56) U (fun c12=>?_) (fun c12=>?_)
       ·refine z6 U U c12<|z6 U U c12<|z6 U U c12<|au U c12 U<|ad U<|z2<|zg<|zm (x:=.bool _) U ?_
        exact jb (by simp_all[dY,gW,iu,Int.ofNat_inj]<;>grind)
       ·refine z7 U U c12<|ak jd U Zs U U<|z7 U U c12<|aA Y2 U<|z7 U U c12<|ze (gO _) U<|aw U c12 U<|ad U<|z2<|zg<|zm (x:=.bool _) U ?_
        exact jb (by simp_all[dY,gW,iu,Int.ofNat_inj]<;>grind)
     ·refine z6 U U c10<|z6 U U c10<|z6 U U c10<|z7 U U U<|aw U c10 U<|aw U U U<|ad U<|z2<|yq U U<|zf<|ae<|ak jd U Z1 U U<|aA Zc U<|ao U U<|aq U<|zt (s:=56) U (fun c13=>?_) (fun c13=>?_)
      ·refine z6 U U c13<|z6 U U c13<|z6 U U c13<|au U c13 U<|ad U<|z2<|zg<|zm (x:=.bool _) U ?_
       exact jb (by simp_all[dY,gW,iu,Int.ofNat_inj]<;>grind)
      ·refine z7 U U c13<|ak jd U Zs U U<|z7 U U c13<|aA Y2 U<|z7 U U c13<|ze (gO _) U<|aw U c13 U<|ad U<|z2<|zg<|zm (x:=.bool _) U ?_
       exact jb (by simp_all[dY,gW,iu,Int.ofNat_inj]<;>grind)
theorem Da (f:ab) (t:fg):aP prog E 156 [.agg (bw f),.agg (p7 t)] (.bool (bJ f t)):=by
 refine zp func156 U (by decide) U<|ae<|y6 (cs:=_) U U U<|y6 (cs:=_) U U U<|ad U<|z2<|zb<|ae<|ak jj U Y4 U U<|aA Yi U<|z2<|zi<|ae<|ao U U<|ad U<|z2<|zw U (fun c14=>?_) (fun c14=>?_)
 ·refine ae<|ac Z0 ji U U<|ak jj U Zg U U<|z8 (yx (j:=0) Z9 j9 U U U (by decide) U)<|aA jg U<|ze (p8 _ _) U<|aq U<|zt (s:=14) U (fun c15=>?_) (fun c15=>?_)
  ·refine z7 U U c15<|ak jj U Zg U U<|z7 U U c15<|z8 (yx (j:=1) Z9 j9 U U U (by decide) U)<|z7 U U c15<|aA jg U<|z7 U U c15<|ao U U<|au U c15 U<|aq U<|zt (s:=20) U (fun c16=>?_) (fun c16=>?_)
   ·refine z7 U U c16<|ak jj U j9 U U<|z7 U U c16<|aA jg U<|z7 U U c16<|ao U U<|au U c16 U<|ad U<|z2<|zg<|zm (x:=.bool _) U ?_
    exact jb (by simp_all[bJ]<;>grind)
   ·refine z6 U U c16<|z6 U U c16<|z6 U U c16<|aw U c16 U<|ad U<|z2<|zg<|zm (x:=.bool _) U ?_
    exact jb (by simp_all[bJ]<;>grind)
  ·refine z6 U U c15<|z6 U U c15<|z6 U U c15<|z6 U U c15<|aw U c15 U<|aq U<|z6 U U U<|z6 U U U<|z6 U U U<|aw U U U<|ad U<|z2<|zg<|zm (x:=.bool _) U ?_
   exact jb (by simp_all[bJ]<;>grind)
 ·refine ae<|ao U U<|ad U<|z2<|zw U (fun c17=>?_) (fun c17=>?_)
  ·refine ae<|ac Z0 ji U U<|ak jj U j9 U U<|aA jg U<|ze (lN _ _) U<|aq U<|zt (s:=31) U (fun c18=>?_) (fun c18=>?_)
   ·refine z7 U U c18<|ac Z0 ji U U<|z7 U U c18<|ak jj U Zg U U<|z7 U U c18<|z8 (yx (j:=0) Z9 j9 U U U (by decide) U)<|z7 U U c18<|aA jg U<|z7 U U c18<|ze (p8 _ _) U<|au U c18 U<|aq U<|zt (s:=38) U (fun c19=>?_) (fun c19=>?_)
    ·refine z7 U U c19<|ac Z0 ji U U<|z7 U U c19<|ak jj U Zg U U<|z7 U U c19<|z8 (yx (j:=1) Z9 j9 U U U (by decide) U)<|z7 U U c19<|aA jg U<|z7 U U c19<|ze (p8 _ _) U<|au U c19 U<|ad U<|z2<|zg<|zm (x:=.bool _) U ?_
     exact jb (by simp_all[bJ]<;>grind)
    ·refine z6 U U c19<|z6 U U c19<|z6 U U c19<|z6 U U c19<|z6 U U c19<|aw U c19 U<|ad U<|z2<|zg<|zm (x:=.bool _) U ?_
     exact jb (by simp_all[bJ]<;>grind)
   ·refine z6 U U c18<|z6 U U c18<|z6 U U c18<|z6 U U c18<|z6 U U c18<|aw U c18 U<|aq U<|z6 U U U<|z6 U U U<|z6 U U U<|z6 U U U<|z6 U U U<|aw U U U<|ad U<|z2<|zg<|zm (x:=.bool _) U ?_
    exact jb (by simp_all[bJ]<;>grind)
  ·refine ae<|ao U U<|ad U<|z2<|zw U (fun c20=>?_) (fun c20=>?_)
   ·refine ae<|ac Z0 ji U U<|ak jj U j9 U U<|aA jg U<|ze (lN _ _) U<|aq U<|zt (s:=51) U (fun c21=>?_) (fun c21=>?_)
    ·refine z7 U U c21<|ak jj U Zg U U<|z7 U U c21<|ac isAgg54 Zg U U<|z7 U U c21<|z8 (Gv.buildA (cps:=[]) (rs:=[.int .i64 0,.int .i64 0]) Ld U U U)<|z7 U U c21<|z8 (Gv.eqlP (xs:=[.int _ _,.int _ _]) (ys:=[.int _ _,.int _ _]) (by kernel_rfl) U U (fun w=>xm _ _ _ _ w))<|au U c21 U<|ad U<|z2<|zg<|zm (x:=.bool _) U ?_
     exact jb (by simp_all[bJ]<;>grind)
    ·refine z6 U U c21<|z6 U U c21<|z6 U U c21<|z6 U U c21<|aw U c21 U<|ad U<|z2<|zg<|zm (x:=.bool _) U ?_
     exact jb (by simp_all[bJ]<;>grind)
   ·refine zf<|ae<|ad U<|z2<|zg<|zm (x:=.bool _) U ?_
    exact jb (by simp_all[bJ]<;>grind)
def tD (s:ByteArray):List AV:=[.str s]
end
end Go.Proofs.YtbbonnfjealmpaaGreatDoor
