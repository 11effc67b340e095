/- Numbers of 16 and of 64 bits, as a call is handed them. No conditions. -/
import Derived.Test.YtjpnhkmfhlnpcaaGreatDoorZu
import Derived.Test.YtjpnhkmfhlnpcaaGreatDoorZc
import Derived.Test.YtjpnhkmfhlnpcaaGreatDoorZe
import Derived.Handed
import Derived.Test.YtjpnhkmfhlnpcaaGreatDoorRows
import Derived.Test.YtjpnhkmfhlnpcaaGreatDoorChecked
import Derived.ProofKit
import Derived.JoinedOf
import Derived.Test.YtjpnhkmfhlnpcaaGreatDoorZq
import Derived.Test.YtjpnhkmfhlnpcaaGreatDoorZm
import Derived.Test.YtjpnhkmfhlnpcaaGreatDoorZr
set_option linter.unusedVariables false
set_option linter.unusedSimpArgs false
set_option linter.unusedSectionVars false
namespace Go.Proofs.YtjpnhkmfhlnpcaaGreatDoor
section
open Go.Proofs.Tryz
open Go.Proofs Go.Lib Go.Shelf Go.RowKit
variable {E:World} {m:Int}
set_option maxRecDepth 100000
theorem Fr {I:aP} {O:List (Nat × Obj)} {w:World} {a:Addr} {v:Value} (h:E.cell? a=some v) (hS:SL I O E w):w.cell? a=some v:=by
 unfold World.cell? at *
 cases hh:E.heap[a.block]? with
 |none=>rw[hh] at h;cases h
 |some o=>rw[hh] at h;rw[hS.pers _ _ (hS.base _ _ hh)];exact h
def ba (E:World) (m:Int):Prop:=E.cell? ⟨2,2,none⟩=some (.int .u64 m)
theorem tg (hM:ba E m) (u:Nat) (h1:100≤u) (h2:u<512):aZ prog E 270 [.int .u64 u] (.int .i64 (2+if m≤(u:Int) then 1 else 0)):=fun I F w vs h1' h2'=>by
 obtain ⟨v,us,rfl,h3,h5⟩:=h1'
 have h3:v=.int .u64 u:=h3
 have h5:us=[]:=h5
 subst h3 h5
 obtain ⟨ht,L,hL,hS⟩:=h2'
 have hL:L=[]:=hL
 subst hL
 refine Fn.ofCalls func270 Z (by decide) ?_
 exact (Hn (ρ:=Tryz.laysM284_ren) Tryz.laysM284 u h1 h2 w m (Fr hM hS)).mono fun e w' ⟨he,hw⟩=>⟨_,he,I,.int .i64 (2+if m≤(u:Int) then 1 else 0),[],.refl _,rfl,⟨ht,[],rfl,by rw[hw];exact hS⟩,rfl⟩
def Hq (k:Nat) (d:Int):wJ:=fun f ar=>match f,ar with
 |270,[.i .u64 n]=>bif decide (n=(k:Int)) then some (.v (.i .i64 d)) else none
 |_,_=>none
theorem Hr (hM:ba E m) {k:Nat} (h1:100≤k) (h2:k<512):u6 prog E (Hq k (2+if m≤(k:Int) then 1 else 0)):=by
 constructor
 ·intro f ar x h
  unfold Hq at h
  split at h
  ·rename_i n
   cases hb:decide (n=(k:Int)) with
   |false=>rw[hb] at h;cases h
   |true=>
    rw[hb] at h;cases h
    have hb:=w9 hb
    subst hb
    refine ⟨_,_,tg hM k h1 h2,fun φ vs hr I=>?_,fun I v hv φ=>hv⟩
    obtain ⟨v,us,rfl,h1,h2⟩:=hr
    exact ⟨v,us,rfl,h1,h2⟩
  ·cases h
 ·intro f ar l h
  unfold Hq at h
  split at h
  ·rename_i n
   cases hb:decide (n=(k:Int))<;>(rw[hb] at h;cases h)
  ·cases h
theorem Lz:prog.follows .mixedOrders=true:=by kernel_rfl
noncomputable def K7 (k:Nat) (d:Int):cb:=Dp prog (Fm prog) (Hi (Hq k d)) 60 20
noncomputable def r5 (k:Nat) (d:Int):Bool:=match K7 k d 251 [.i .i64 (.ofNat k)] .lf 0 with
 |some (.s t,_,_)=>Nat.ble 2 t.data.toList.length&&Nat.ble t.data.toList.length 3
 |_=>false
noncomputable def FY (j:Nat):Bool:=(List.range 46).all fun i=>r5 (100+46*j+i) 2&&r5 (100+46*j+i) 3
theorem LH:FY 0=true:=by decide +kernel
theorem LI:FY 1=true:=by decide +kernel
theorem LJ:FY 2=true:=by decide +kernel
theorem LK:FY 3=true:=by decide +kernel
theorem LL:FY 4=true:=by decide +kernel
theorem LM:FY 5=true:=by decide +kernel
theorem LN:FY 6=true:=by decide +kernel
theorem LO:FY 7=true:=by decide +kernel
theorem LP:FY 8=true:=by decide +kernel
theorem Hs:∀j:Nat,j<9→FY j=true
 |0,_=>LH
 |1,_=>LI
 |2,_=>LJ
 |3,_=>LK
 |4,_=>LL
 |5,_=>LM
 |6,_=>LN
 |7,_=>LO
 |8,_=>LP
 |n+9,h=>absurd h (by omega)
theorem Dr {k:Nat} (h1:100≤k) (h2:k<512):r5 k 2=true∧r5 k 3=true:=by
 have:=List.all_eq_true.1 (Hs ((k - 100) / 46) (by omega)) ((k - 100) % 46) (List.mem_range.2 (by omega))
 rw[w6,show 100+46*((k - 100) / 46)+(k - 100) % 46=k by omega] at this
 exact this
noncomputable def LA (k:Nat):aV:=⟨251,[.i .i64 (.ofNat k)],[],.us 2 3 0,[],0⟩
theorem Ht (hM:ba E m) {k:Nat} (h1:100≤k) (h2:k<512):aF prog E (LA k):=fun φ I F w vs hi hr hS ht=>by
 have hc:r5 k (2+if m≤(k:Int) then 1 else 0)=true:=by
  have:=Dr h1 h2
  split
  ·exact this.2
  ·exact this.1
 unfold r5 at hc
 split at hc
 ·rename_i t H' nx' he
  rw[w6] at hc
  have hM':aF prog E ⟨251,[.i .i64 (.ofNat k)],[],.s t,[],0⟩:=Fq (oo Lz tc (ta (Hr hM h1 (by omega))) 60 20) rfl (by
   show (match K7 k (2+if m≤(k:Int) then 1 else 0) 251 [.i .i64 (.ofNat k)] .lf 0 with|some (x,H',_)=>some (x,[])|none=>none)=some (.s t,[])
   rw[he])
  refine (hM' φ I F w vs hi hr hS ht).mono fun v w' ⟨J,ψ,a,b,c,d⟩=>⟨J,ψ,a,b,⟨t,c,Nat.le_of_ble_eq_true hc.1,Nat.le_of_ble_eq_true hc.2,.inl Z⟩,d⟩
 ·cases hc
noncomputable def wQ:cb:=fun f ar H nx=>match ar with
 |[.i .i64 (.ofNat k)]=>bif Nat.beq f 251&&(Nat.ble 100 k&&Nat.blt k 512) then some (.us 2 3 0,H,nx) else none
 |_=>none
theorem r6 (hM:ba E m):db prog E wQ:=fun f ar H nx x H' nx' h φ I F w vs hR hr=>by
 unfold wQ at h
 split at h
 ·rename_i k
  cases hb:(Nat.beq f 251&&(Nat.ble 100 k&&Nat.blt k 512)) with
  |false=>rw[hb] at h;cases h
  |true=>
   rw[hb,cond_true] at h
   cases h
   simp only[w6] at hb
   obtain rfl:=Nat.eq_of_beq_eq_true hb.1
   obtain ⟨M,L,hn,hm,hrep,hS⟩:=hR.ex
   exact (Ht hM (Nat.le_of_ble_eq_true hb.2.1) (Nat.le_of_ble_eq_true hb.2.2) (fun _=>none) I (L++F) w vs (fun _ h=>nomatch h) hr hS fun _ _=>rfl).mono fun v w' ⟨J,ψ,a,_,c,_,e⟩=>⟨J,φ,a,.refl _,fun _ _ _=>rfl,Nat.le_refl _,c,hR.top,M,L,hn,hm,hrep.mono a (.refl _),e⟩
 ·cases h
end
section
open Go.Proofs.Tryz
open Go.Proofs Go.Lib Go.Shelf Go.RowKit
variable {E:World}
set_option maxRecDepth 100000
def yR:wJ:=fun f ar=>match f,ar with
 |91,[.i .i32 c]=>bif decide (-2147483648≤c)&&decide (c≤2147483647) then some (.v (.b (isLetterU c))) else none
 |152,[.i .i64 op]=>some (.v (.ag [.s (bM op).1,.s (bM op).2.1,.s (bM op).2.2]))
 |_,_=>none
theorem u9 (hL:aj E):u6 prog E yR:=by
 constructor
 ·intro f ar x h
  unfold yR at h
  split at h
  ·rename_i c
   cases hb:(decide (-2147483648≤c)&&decide (c≤2147483647)) with
   |false=>rw[hb] at h;cases h
   |true=>
    rw[hb] at h;cases h
    simp only[w6,wa] at hb
    refine ⟨_,_,jX c hb.1 hb.2 hL,fun φ vs hr I=>?_,fun I v hv φ=>hv⟩
    obtain ⟨v,us,rfl,h1,h2⟩:=hr
    exact ⟨v,us,rfl,h1,h2⟩
  ·rename_i op
   cases h
   refine ⟨_,_,nN op,fun φ vs hr I=>?_,fun I v hv φ=>?_⟩
   ·obtain ⟨v,us,rfl,h1,h2⟩:=hr
    exact ⟨v,us,rfl,h1,h2⟩
   ·obtain ⟨vs,e,v1,u1,rfl,h1,v2,u2,rfl,h2,v3,u3,rfl,h3,h4⟩:=hv
    have h4:u3=[]:=h4
    subst h4
    exact ⟨_,e,v1,_,rfl,h1,v2,_,rfl,h2,v3,_,rfl,h3,rfl⟩
  ·cases h
 ·intro f ar l h
  unfold yR at h
  split at h
  ·rename_i c
   cases hb:(decide (-2147483648≤c)&&decide (c≤2147483647))<;>(rw[hb] at h;cases h)
  ·cases h
  ·cases h
theorem IC:prog.follows .mixedOrders=true:=by kernel_rfl
noncomputable def K8 (l:List aV):cb:=Dp prog (Fm prog) (K5 (Hi yR) (K5 wQ (JG l))) 600 60
theorem aI (hL:aj E) {pw:Int} (hP:ba E pw) {l:List aV} (h:∀m∈l,aF prog E m):db prog E (K8 l):=oo IC tc (pX (ta (u9 hL)) (pX (r6 hP) (tf h))) 600 60
theorem aA {m:aV} {l:List aV} (h1:aF prog E m) (h2:∀r∈l,aF prog E r):∀r∈m::l,aF prog E r:=fun r hr=>(List.mem_cons.1 hr).elim (fun e=>e▸h1) (h2 r)
def Fs:List aV:=[]
theorem Ft (hL:aj E) {pw:Int} (hP:ba E pw):∀m∈Fs,aF prog E m:=fun _ h=>nomatch h
def Fu:aV:=⟨83,[.ag [.sl 4 0 3 2 (.ex 3),.ns,.sl 17 0 3 7 (.ex 3)]],[(4,[.s ⟨#[122]⟩,.i .i64 0,.s ⟨#[111,110,101]⟩,.i .i64 0,.s ⟨#[99]⟩,.i .i64 1]),(17,[.s ⟨#[97]⟩,.ns,.sl 9 0 3 4 (.ex 3),.i .i64 1,.i .i64 2,.i .i64 1,.i .i64 2,.s ⟨#[98]⟩,.ns,.ns,.i .i64 2,.i .i64 0,.i .i64 0,.i .i64 0,.s ⟨#[101]⟩,.ns,.ns,.i .i64 2,.i .i64 1,.i .i64 0,.i .i64 0]),(9,[.i .i64 0,.i .i64 0,.ns,.i .i64 0,.i .i64 0,.i .i64 1,.ns,.i .i64 1,.i .i64 8,.i .i64 2,.sl 7 0 2 1 (.ex 2),.i .i64 0]),(7,[.i .i64 0,.i .i64 1])],.b true,[],5994000000⟩
theorem JH (hL:aj E) {pw:Int} (hP:ba E pw):aF prog E Fu:=aH (aI hL hP (Ft hL hP)) (by decide +kernel)
def Fv:List aV:=Fu::Fs
theorem Fw (hL:aj E) {pw:Int} (hP:ba E pw):∀m∈Fv,aF prog E m:=aA (JH hL hP) (Ft hL hP)
def Fx:aV:=⟨64,[.ag [.sl 4 0 3 2 (.ex 3),.ns,.sl 17 0 3 7 (.ex 3)]],[(4,[.s ⟨#[122]⟩,.i .i64 0,.s ⟨#[111,110,101]⟩,.i .i64 0,.s ⟨#[99]⟩,.i .i64 1]),(17,[.s ⟨#[97]⟩,.ns,.sl 9 0 3 4 (.ex 3),.i .i64 1,.i .i64 2,.i .i64 1,.i .i64 2,.s ⟨#[98]⟩,.ns,.ns,.i .i64 2,.i .i64 0,.i .i64 0,.i .i64 0,.s ⟨#[101]⟩,.ns,.ns,.i .i64 2,.i .i64 1,.i .i64 0,.i .i64 0]),(9,[.i .i64 0,.i .i64 0,.ns,.i .i64 0,.i .i64 0,.i .i64 1,.ns,.i .i64 1,.i .i64 8,.i .i64 2,.sl 7 0 2 1 (.ex 2),.i .i64 0]),(7,[.i .i64 0,.i .i64 1])],.i .i64 0,[],4995000000⟩
theorem JI (hL:aj E) {pw:Int} (hP:ba E pw):aF prog E Fx:=aH (aI hL hP (Fw hL hP)) (by decide +kernel)
def Fy:List aV:=Fx::Fv
theorem Fz (hL:aj E) {pw:Int} (hP:ba E pw):∀m∈Fy,aF prog E m:=aA (JI hL hP) (Fw hL hP)
def FA:aV:=⟨36,[.ag [.sl 4 0 3 2 (.ex 3),.ns,.sl 17 0 3 7 (.ex 3)]],[(4,[.s ⟨#[122]⟩,.i .i64 0,.s ⟨#[111,110,101]⟩,.i .i64 0,.s ⟨#[99]⟩,.i .i64 1]),(17,[.s ⟨#[97]⟩,.ns,.sl 9 0 3 4 (.ex 3),.i .i64 1,.i .i64 2,.i .i64 1,.i .i64 2,.s ⟨#[98]⟩,.ns,.ns,.i .i64 2,.i .i64 0,.i .i64 0,.i .i64 0,.s ⟨#[101]⟩,.ns,.ns,.i .i64 2,.i .i64 1,.i .i64 0,.i .i64 0]),(9,[.i .i64 0,.i .i64 0,.ns,.i .i64 0,.i .i64 0,.i .i64 1,.ns,.i .i64 1,.i .i64 8,.i .i64 2,.sl 7 0 2 1 (.ex 2),.i .i64 0]),(7,[.i .i64 0,.i .i64 1])],.b true,[],3996000000⟩
theorem JJ (hL:aj E) {pw:Int} (hP:ba E pw):aF prog E FA:=aH (aI hL hP (Fz hL hP)) (by decide +kernel)
def FB:List aV:=FA::Fy
theorem FC (hL:aj E) {pw:Int} (hP:ba E pw):∀m∈FB,aF prog E m:=aA (JJ hL hP) (Fz hL hP)
def FD:aV:=⟨41,[.ag [.sl 4 0 3 2 (.ex 3),.ns,.sl 17 0 3 7 (.ex 3)]],[(4,[.s ⟨#[122]⟩,.i .i64 0,.s ⟨#[111,110,101]⟩,.i .i64 0,.s ⟨#[99]⟩,.i .i64 1]),(17,[.s ⟨#[97]⟩,.ns,.sl 9 0 3 4 (.ex 3),.i .i64 1,.i .i64 2,.i .i64 1,.i .i64 2,.s ⟨#[98]⟩,.ns,.ns,.i .i64 2,.i .i64 0,.i .i64 0,.i .i64 0,.s ⟨#[101]⟩,.ns,.ns,.i .i64 2,.i .i64 1,.i .i64 0,.i .i64 0]),(9,[.i .i64 0,.i .i64 0,.ns,.i .i64 0,.i .i64 0,.i .i64 1,.ns,.i .i64 1,.i .i64 8,.i .i64 2,.sl 7 0 2 1 (.ex 2),.i .i64 0]),(7,[.i .i64 0,.i .i64 1])],.sl 3993000005 0 3 1 (.ex 3),[(3993000005,[.ns,.sl 3993000066 0 1 1 .en,.sl 3993000083 0 1 1 .en]),(3993000066,[.i .i64 0]),(3993000083,[.i .i64 0])],3993000000⟩
theorem JK (hL:aj E) {pw:Int} (hP:ba E pw):aF prog E FD:=aH (aI hL hP (FC hL hP)) (by decide +kernel)
def FE:List aV:=FD::FB
theorem FF (hL:aj E) {pw:Int} (hP:ba E pw):∀m∈FE,aF prog E m:=aA (JK hL hP) (FC hL hP)
def FG:aV:=⟨20,[.ag [.sl 4 0 3 2 (.ex 3),.ns,.sl 17 0 3 7 (.ex 3)]],[(4,[.s ⟨#[122]⟩,.i .i64 0,.s ⟨#[111,110,101]⟩,.i .i64 0,.s ⟨#[99]⟩,.i .i64 1]),(17,[.s ⟨#[97]⟩,.ns,.sl 9 0 3 4 (.ex 3),.i .i64 1,.i .i64 2,.i .i64 1,.i .i64 2,.s ⟨#[98]⟩,.ns,.ns,.i .i64 2,.i .i64 0,.i .i64 0,.i .i64 0,.s ⟨#[101]⟩,.ns,.ns,.i .i64 2,.i .i64 1,.i .i64 0,.i .i64 0]),(9,[.i .i64 0,.i .i64 0,.ns,.i .i64 0,.i .i64 0,.i .i64 1,.ns,.i .i64 1,.i .i64 8,.i .i64 2,.sl 7 0 2 1 (.ex 2),.i .i64 0]),(7,[.i .i64 0,.i .i64 1])],.i .i64 0,[],2997000000⟩
theorem JL (hL:aj E) {pw:Int} (hP:ba E pw):aF prog E FG:=aH (aI hL hP (FF hL hP)) (by decide +kernel)
def FH:List aV:=FG::FE
theorem FI (hL:aj E) {pw:Int} (hP:ba E pw):∀m∈FH,aF prog E m:=aA (JL hL hP) (FF hL hP)
def FJ:aV:=⟨67,[.ag [.sl 4 0 3 2 (.ex 3),.ns,.sl 17 0 3 7 (.ex 3)]],[(4,[.s ⟨#[122]⟩,.i .i64 0,.s ⟨#[111,110,101]⟩,.i .i64 0,.s ⟨#[99]⟩,.i .i64 1]),(17,[.s ⟨#[97]⟩,.ns,.sl 9 0 3 4 (.ex 3),.i .i64 1,.i .i64 2,.i .i64 1,.i .i64 2,.s ⟨#[98]⟩,.ns,.ns,.i .i64 2,.i .i64 0,.i .i64 0,.i .i64 0,.s ⟨#[101]⟩,.ns,.ns,.i .i64 2,.i .i64 1,.i .i64 0,.i .i64 0]),(9,[.i .i64 0,.i .i64 0,.ns,.i .i64 0,.i .i64 0,.i .i64 1,.ns,.i .i64 1,.i .i64 8,.i .i64 2,.sl 7 0 2 1 (.ex 2),.i .i64 0]),(7,[.i .i64 0,.i .i64 1])],.sl 3991000372 0 3 1 .en,[(3991000372,[.i .i64 0,.i .i64 2,.i .i64 1])],3991000000⟩
theorem JM (hL:aj E) {pw:Int} (hP:ba E pw):aF prog E FJ:=aH (aI hL hP (FI hL hP)) (by decide +kernel)
def FK:List aV:=FJ::FH
theorem FL (hL:aj E) {pw:Int} (hP:ba E pw):∀m∈FK,aF prog E m:=aA (JM hL hP) (FI hL hP)
def FM:aV:=⟨75,[.ag [.sl 4 0 3 2 (.ex 3),.ns,.sl 17 0 3 7 (.ex 3)]],[(4,[.s ⟨#[122]⟩,.i .i64 0,.s ⟨#[111,110,101]⟩,.i .i64 0,.s ⟨#[99]⟩,.i .i64 1]),(17,[.s ⟨#[97]⟩,.ns,.sl 9 0 3 4 (.ex 3),.i .i64 1,.i .i64 2,.i .i64 1,.i .i64 2,.s ⟨#[98]⟩,.ns,.ns,.i .i64 2,.i .i64 0,.i .i64 0,.i .i64 0,.s ⟨#[101]⟩,.ns,.ns,.i .i64 2,.i .i64 1,.i .i64 0,.i .i64 0]),(9,[.i .i64 0,.i .i64 0,.ns,.i .i64 0,.i .i64 0,.i .i64 1,.ns,.i .i64 1,.i .i64 8,.i .i64 2,.sl 7 0 2 1 (.ex 2),.i .i64 0]),(7,[.i .i64 0,.i .i64 1])],.sl 2992000012 0 3 1 (.ex 3),[(2992000012,[.b true,.b true,.b true])],2992000000⟩
theorem JN (hL:aj E) {pw:Int} (hP:ba E pw):aF prog E FM:=aH (aI hL hP (FL hL hP)) (by decide +kernel)
def FN:List aV:=FM::FK
theorem FO (hL:aj E) {pw:Int} (hP:ba E pw):∀m∈FN,aF prog E m:=aA (JN hL hP) (FL hL hP)
def FP:aV:=⟨96,[.sl 2990000012 0 3 1 .en,.sl 2990000032 0 3 1 (.ex 3),.i .i64 3],[(2990000012,[.i .i64 0,.i .i64 2,.i .i64 1]),(2990000032,[.ns,.sl 2990000033 0 1 1 .en,.sl 2990000034 0 1 1 .en]),(2990000033,[.i .i64 0]),(2990000034,[.i .i64 0])],.sl 3989000090 0 3 1 (.ex 3),[(3989000090,[.i .i64 (-1),.i .i64 0,.i .i64 0])],3989000000⟩
theorem JO (hL:aj E) {pw:Int} (hP:ba E pw):aF prog E FP:=aH (aI hL hP (FO hL hP)) (by decide +kernel)
def FQ:List aV:=FP::FN
theorem FR (hL:aj E) {pw:Int} (hP:ba E pw):∀m∈FQ,aF prog E m:=aA (JO hL hP) (FO hL hP)
def FS:aV:=⟨77,[.ag [.sl 4 0 3 2 (.ex 3),.ns,.sl 17 0 3 7 (.ex 3)]],[(4,[.s ⟨#[122]⟩,.i .i64 0,.s ⟨#[111,110,101]⟩,.i .i64 0,.s ⟨#[99]⟩,.i .i64 1]),(17,[.s ⟨#[97]⟩,.ns,.sl 9 0 3 4 (.ex 3),.i .i64 1,.i .i64 2,.i .i64 1,.i .i64 2,.s ⟨#[98]⟩,.ns,.ns,.i .i64 2,.i .i64 0,.i .i64 0,.i .i64 0,.s ⟨#[101]⟩,.ns,.ns,.i .i64 2,.i .i64 1,.i .i64 0,.i .i64 0]),(9,[.i .i64 0,.i .i64 0,.ns,.i .i64 0,.i .i64 0,.i .i64 1,.ns,.i .i64 1,.i .i64 8,.i .i64 2,.sl 7 0 2 1 (.ex 2),.i .i64 0]),(7,[.i .i64 0,.i .i64 1])],.tu [.p 2990000048 0,.i .i64 0],[(2990000048,[.sl 2990000050 0 3 1 (.ex 3),.sl 2990000137 0 3 1 (.ex 3),.sl 2990000044 0 3 1 (.ex 3),.sl 2990000046 0 3 1 (.ex 3)]),(2990000050,[.i .i64 (-1),.i .i64 0,.i .i64 0]),(2990000137,[.i .i64 0,.i .i64 1,.i .i64 1]),(2990000044,[.sl 2990000318 0 2 1 .en,.ns,.ns]),(2990000318,[.i .i64 1,.i .i64 2]),(2990000046,[.ns,.ns,.ns])],2990000000⟩
theorem JP (hL:aj E) {pw:Int} (hP:ba E pw):aF prog E FS:=aH (aI hL hP (FR hL hP)) (by decide +kernel)
def FT:List aV:=FS::FQ
theorem FU (hL:aj E) {pw:Int} (hP:ba E pw):∀m∈FT,aF prog E m:=aA (JP hL hP) (FR hL hP)
def FV:aV:=⟨78,[.ag [.sl 4 0 3 2 (.ex 3),.ns,.sl 17 0 3 7 (.ex 3)]],[(4,[.s ⟨#[122]⟩,.i .i64 0,.s ⟨#[111,110,101]⟩,.i .i64 0,.s ⟨#[99]⟩,.i .i64 1]),(17,[.s ⟨#[97]⟩,.ns,.sl 9 0 3 4 (.ex 3),.i .i64 1,.i .i64 2,.i .i64 1,.i .i64 2,.s ⟨#[98]⟩,.ns,.ns,.i .i64 2,.i .i64 0,.i .i64 0,.i .i64 0,.s ⟨#[101]⟩,.ns,.ns,.i .i64 2,.i .i64 1,.i .i64 0,.i .i64 0]),(9,[.i .i64 0,.i .i64 0,.ns,.i .i64 0,.i .i64 0,.i .i64 1,.ns,.i .i64 1,.i .i64 8,.i .i64 2,.sl 7 0 2 1 (.ex 2),.i .i64 0]),(7,[.i .i64 0,.i .i64 1])],.sl 2988000212 0 3 2 .en,[(2988000212,[.i .i64 0,.i .i64 0,.i .i64 0,.i .i64 1,.i .i64 0,.i .i64 2])],2988000000⟩
theorem JQ (hL:aj E) {pw:Int} (hP:ba E pw):aF prog E FV:=aH (aI hL hP (FU hL hP)) (by decide +kernel)
def yS:List aV:=FV::FT
theorem yT (hL:aj E) {pw:Int} (hP:ba E pw):∀m∈yS,aF prog E m:=aA (JQ hL hP) (FU hL hP)
def yU:aV:=⟨57,[.ag [.sl 4 0 3 2 (.ex 3),.ns,.sl 17 0 3 7 (.ex 3)]],[(4,[.s ⟨#[122]⟩,.i .i64 0,.s ⟨#[111,110,101]⟩,.i .i64 0,.s ⟨#[99]⟩,.i .i64 1]),(17,[.s ⟨#[97]⟩,.ns,.sl 9 0 3 4 (.ex 3),.i .i64 1,.i .i64 2,.i .i64 1,.i .i64 2,.s ⟨#[98]⟩,.ns,.ns,.i .i64 2,.i .i64 0,.i .i64 0,.i .i64 0,.s ⟨#[101]⟩,.ns,.ns,.i .i64 2,.i .i64 1,.i .i64 0,.i .i64 0]),(9,[.i .i64 0,.i .i64 0,.ns,.i .i64 0,.i .i64 0,.i .i64 1,.ns,.i .i64 1,.i .i64 8,.i .i64 2,.sl 7 0 2 1 (.ex 2),.i .i64 0]),(7,[.i .i64 0,.i .i64 1])],.i .i64 0,[],1998000000⟩
theorem Hu (hL:aj E) {pw:Int} (hP:ba E pw):aF prog E yU:=aH (aI hL hP (yT hL hP)) (by decide +kernel)
def yV:List aV:=yU::yS
theorem yW (hL:aj E) {pw:Int} (hP:ba E pw):∀m∈yV,aF prog E m:=aA (Hu hL hP) (yT hL hP)
def yX:aV:=⟨34,[.ag [.sl 4 0 3 2 (.ex 3),.ns,.sl 17 0 3 7 (.ex 3)]],[(4,[.s ⟨#[122]⟩,.i .i64 0,.s ⟨#[111,110,101]⟩,.i .i64 0,.s ⟨#[99]⟩,.i .i64 1]),(17,[.s ⟨#[97]⟩,.ns,.sl 9 0 3 4 (.ex 3),.i .i64 1,.i .i64 2,.i .i64 1,.i .i64 2,.s ⟨#[98]⟩,.ns,.ns,.i .i64 2,.i .i64 0,.i .i64 0,.i .i64 0,.s ⟨#[101]⟩,.ns,.ns,.i .i64 2,.i .i64 1,.i .i64 0,.i .i64 0]),(9,[.i .i64 0,.i .i64 0,.ns,.i .i64 0,.i .i64 0,.i .i64 1,.ns,.i .i64 1,.i .i64 8,.i .i64 2,.sl 7 0 2 1 (.ex 2),.i .i64 0]),(7,[.i .i64 0,.i .i64 1])],.i .i64 0,[],999000000⟩
theorem Hv (hL:aj E) {pw:Int} (hP:ba E pw):aF prog E yX:=aH (aI hL hP (yW hL hP)) (by decide +kernel)
def yY:List aV:=yX::yV
theorem yZ (hL:aj E) {pw:Int} (hP:ba E pw):∀m∈yY,aF prog E m:=aA (Hv hL hP) (yW hL hP)
def zA:aV:=⟨83,[.ag [.sl 4 0 3 2 (.ex 3),.ns,.sl 17 0 3 7 (.ex 3)]],[(4,[.s ⟨#[122]⟩,.i .i64 0,.s ⟨#[111,110,101]⟩,.i .i64 0,.s ⟨#[99]⟩,.i .i64 1]),(17,[.s ⟨#[97]⟩,.ns,.sl 9 0 3 4 (.ex 3),.i .i64 1,.i .i64 2,.i .i64 1,.i .i64 2,.s ⟨#[98]⟩,.ns,.ns,.i .i64 2,.i .i64 0,.i .i64 0,.i .i64 0,.s ⟨#[101]⟩,.ns,.ns,.i .i64 2,.i .i64 1,.i .i64 0,.i .i64 0]),(9,[.i .i64 0,.i .i64 0,.ns,.i .i64 0,.i .i64 0,.i .i64 1,.ns,.i .i64 1,.i .i64 8,.i .i64 2,.sl 7 0 2 1 (.ex 2),.i .i64 0]),(7,[.i .i64 0,.i .i64 1])],.b true,[],9978000000⟩
theorem Hw (hL:aj E) {pw:Int} (hP:ba E pw):aF prog E zA:=aH (aI hL hP (yZ hL hP)) (by decide +kernel)
def zB:List aV:=zA::yY
theorem zC (hL:aj E) {pw:Int} (hP:ba E pw):∀m∈zB,aF prog E m:=aA (Hw hL hP) (yZ hL hP)
def zD:aV:=⟨64,[.ag [.sl 4 0 3 2 (.ex 3),.ns,.sl 17 0 3 7 (.ex 3)]],[(4,[.s ⟨#[122]⟩,.i .i64 0,.s ⟨#[111,110,101]⟩,.i .i64 0,.s ⟨#[99]⟩,.i .i64 1]),(17,[.s ⟨#[97]⟩,.ns,.sl 9 0 3 4 (.ex 3),.i .i64 1,.i .i64 2,.i .i64 1,.i .i64 2,.s ⟨#[98]⟩,.ns,.ns,.i .i64 2,.i .i64 0,.i .i64 0,.i .i64 0,.s ⟨#[101]⟩,.ns,.ns,.i .i64 2,.i .i64 1,.i .i64 0,.i .i64 0]),(9,[.i .i64 0,.i .i64 0,.ns,.i .i64 0,.i .i64 0,.i .i64 1,.ns,.i .i64 1,.i .i64 8,.i .i64 2,.sl 7 0 2 1 (.ex 2),.i .i64 0]),(7,[.i .i64 0,.i .i64 1])],.i .i64 0,[],8979000000⟩
theorem Hx (hL:aj E) {pw:Int} (hP:ba E pw):aF prog E zD:=aH (aI hL hP (zC hL hP)) (by decide +kernel)
def zE:List aV:=zD::zB
theorem zF (hL:aj E) {pw:Int} (hP:ba E pw):∀m∈zE,aF prog E m:=aA (Hx hL hP) (zC hL hP)
def zG:aV:=⟨36,[.ag [.sl 4 0 3 2 (.ex 3),.ns,.sl 17 0 3 7 (.ex 3)]],[(4,[.s ⟨#[122]⟩,.i .i64 0,.s ⟨#[111,110,101]⟩,.i .i64 0,.s ⟨#[99]⟩,.i .i64 1]),(17,[.s ⟨#[97]⟩,.ns,.sl 9 0 3 4 (.ex 3),.i .i64 1,.i .i64 2,.i .i64 1,.i .i64 2,.s ⟨#[98]⟩,.ns,.ns,.i .i64 2,.i .i64 0,.i .i64 0,.i .i64 0,.s ⟨#[101]⟩,.ns,.ns,.i .i64 2,.i .i64 1,.i .i64 0,.i .i64 0]),(9,[.i .i64 0,.i .i64 0,.ns,.i .i64 0,.i .i64 0,.i .i64 1,.ns,.i .i64 1,.i .i64 8,.i .i64 2,.sl 7 0 2 1 (.ex 2),.i .i64 0]),(7,[.i .i64 0,.i .i64 1])],.b true,[],7980000000⟩
theorem Hy (hL:aj E) {pw:Int} (hP:ba E pw):aF prog E zG:=aH (aI hL hP (zF hL hP)) (by decide +kernel)
def zH:List aV:=zG::zE
theorem zI (hL:aj E) {pw:Int} (hP:ba E pw):∀m∈zH,aF prog E m:=aA (Hy hL hP) (zF hL hP)
def zJ:aV:=⟨41,[.ag [.sl 4 0 3 2 (.ex 3),.ns,.sl 17 0 3 7 (.ex 3)]],[(4,[.s ⟨#[122]⟩,.i .i64 0,.s ⟨#[111,110,101]⟩,.i .i64 0,.s ⟨#[99]⟩,.i .i64 1]),(17,[.s ⟨#[97]⟩,.ns,.sl 9 0 3 4 (.ex 3),.i .i64 1,.i .i64 2,.i .i64 1,.i .i64 2,.s ⟨#[98]⟩,.ns,.ns,.i .i64 2,.i .i64 0,.i .i64 0,.i .i64 0,.s ⟨#[101]⟩,.ns,.ns,.i .i64 2,.i .i64 1,.i .i64 0,.i .i64 0]),(9,[.i .i64 0,.i .i64 0,.ns,.i .i64 0,.i .i64 0,.i .i64 1,.ns,.i .i64 1,.i .i64 8,.i .i64 2,.sl 7 0 2 1 (.ex 2),.i .i64 0]),(7,[.i .i64 0,.i .i64 1])],.sl 7977000005 0 3 1 (.ex 3),[(7977000005,[.ns,.sl 7977000066 0 1 1 .en,.sl 7977000083 0 1 1 .en]),(7977000066,[.i .i64 0]),(7977000083,[.i .i64 0])],7977000000⟩
theorem Hz (hL:aj E) {pw:Int} (hP:ba E pw):aF prog E zJ:=aH (aI hL hP (zI hL hP)) (by decide +kernel)
def zK:List aV:=zJ::zH
theorem zL (hL:aj E) {pw:Int} (hP:ba E pw):∀m∈zK,aF prog E m:=aA (Hz hL hP) (zI hL hP)
def zM:aV:=⟨20,[.ag [.sl 4 0 3 2 (.ex 3),.ns,.sl 17 0 3 7 (.ex 3)]],[(4,[.s ⟨#[122]⟩,.i .i64 0,.s ⟨#[111,110,101]⟩,.i .i64 0,.s ⟨#[99]⟩,.i .i64 1]),(17,[.s ⟨#[97]⟩,.ns,.sl 9 0 3 4 (.ex 3),.i .i64 1,.i .i64 2,.i .i64 1,.i .i64 2,.s ⟨#[98]⟩,.ns,.ns,.i .i64 2,.i .i64 0,.i .i64 0,.i .i64 0,.s ⟨#[101]⟩,.ns,.ns,.i .i64 2,.i .i64 1,.i .i64 0,.i .i64 0]),(9,[.i .i64 0,.i .i64 0,.ns,.i .i64 0,.i .i64 0,.i .i64 1,.ns,.i .i64 1,.i .i64 8,.i .i64 2,.sl 7 0 2 1 (.ex 2),.i .i64 0]),(7,[.i .i64 0,.i .i64 1])],.i .i64 0,[],6981000000⟩
theorem HA (hL:aj E) {pw:Int} (hP:ba E pw):aF prog E zM:=aH (aI hL hP (zL hL hP)) (by decide +kernel)
def zN:List aV:=zM::zK
theorem zO (hL:aj E) {pw:Int} (hP:ba E pw):∀m∈zN,aF prog E m:=aA (HA hL hP) (zL hL hP)
def zP:aV:=⟨67,[.ag [.sl 4 0 3 2 (.ex 3),.ns,.sl 17 0 3 7 (.ex 3)]],[(4,[.s ⟨#[122]⟩,.i .i64 0,.s ⟨#[111,110,101]⟩,.i .i64 0,.s ⟨#[99]⟩,.i .i64 1]),(17,[.s ⟨#[97]⟩,.ns,.sl 9 0 3 4 (.ex 3),.i .i64 1,.i .i64 2,.i .i64 1,.i .i64 2,.s ⟨#[98]⟩,.ns,.ns,.i .i64 2,.i .i64 0,.i .i64 0,.i .i64 0,.s ⟨#[101]⟩,.ns,.ns,.i .i64 2,.i .i64 1,.i .i64 0,.i .i64 0]),(9,[.i .i64 0,.i .i64 0,.ns,.i .i64 0,.i .i64 0,.i .i64 1,.ns,.i .i64 1,.i .i64 8,.i .i64 2,.sl 7 0 2 1 (.ex 2),.i .i64 0]),(7,[.i .i64 0,.i .i64 1])],.sl 7975000372 0 3 1 .en,[(7975000372,[.i .i64 0,.i .i64 2,.i .i64 1])],7975000000⟩
theorem HB (hL:aj E) {pw:Int} (hP:ba E pw):aF prog E zP:=aH (aI hL hP (zO hL hP)) (by decide +kernel)
def zQ:List aV:=zP::zN
theorem zR (hL:aj E) {pw:Int} (hP:ba E pw):∀m∈zQ,aF prog E m:=aA (HB hL hP) (zO hL hP)
def zS:aV:=⟨75,[.ag [.sl 4 0 3 2 (.ex 3),.ns,.sl 17 0 3 7 (.ex 3)]],[(4,[.s ⟨#[122]⟩,.i .i64 0,.s ⟨#[111,110,101]⟩,.i .i64 0,.s ⟨#[99]⟩,.i .i64 1]),(17,[.s ⟨#[97]⟩,.ns,.sl 9 0 3 4 (.ex 3),.i .i64 1,.i .i64 2,.i .i64 1,.i .i64 2,.s ⟨#[98]⟩,.ns,.ns,.i .i64 2,.i .i64 0,.i .i64 0,.i .i64 0,.s ⟨#[101]⟩,.ns,.ns,.i .i64 2,.i .i64 1,.i .i64 0,.i .i64 0]),(9,[.i .i64 0,.i .i64 0,.ns,.i .i64 0,.i .i64 0,.i .i64 1,.ns,.i .i64 1,.i .i64 8,.i .i64 2,.sl 7 0 2 1 (.ex 2),.i .i64 0]),(7,[.i .i64 0,.i .i64 1])],.sl 6976000012 0 3 1 (.ex 3),[(6976000012,[.b true,.b true,.b true])],6976000000⟩
theorem HC (hL:aj E) {pw:Int} (hP:ba E pw):aF prog E zS:=aH (aI hL hP (zR hL hP)) (by decide +kernel)
def zT:List aV:=zS::zQ
theorem zU (hL:aj E) {pw:Int} (hP:ba E pw):∀m∈zT,aF prog E m:=aA (HC hL hP) (zR hL hP)
def zV:aV:=⟨96,[.sl 6974000012 0 3 1 .en,.sl 6974000032 0 3 1 (.ex 3),.i .i64 3],[(6974000012,[.i .i64 0,.i .i64 2,.i .i64 1]),(6974000032,[.ns,.sl 6974000033 0 1 1 .en,.sl 6974000034 0 1 1 .en]),(6974000033,[.i .i64 0]),(6974000034,[.i .i64 0])],.sl 7973000090 0 3 1 (.ex 3),[(7973000090,[.i .i64 (-1),.i .i64 0,.i .i64 0])],7973000000⟩
theorem HD (hL:aj E) {pw:Int} (hP:ba E pw):aF prog E zV:=aH (aI hL hP (zU hL hP)) (by decide +kernel)
def zW:List aV:=zV::zT
theorem zX (hL:aj E) {pw:Int} (hP:ba E pw):∀m∈zW,aF prog E m:=aA (HD hL hP) (zU hL hP)
def zY:aV:=⟨77,[.ag [.sl 4 0 3 2 (.ex 3),.ns,.sl 17 0 3 7 (.ex 3)]],[(4,[.s ⟨#[122]⟩,.i .i64 0,.s ⟨#[111,110,101]⟩,.i .i64 0,.s ⟨#[99]⟩,.i .i64 1]),(17,[.s ⟨#[97]⟩,.ns,.sl 9 0 3 4 (.ex 3),.i .i64 1,.i .i64 2,.i .i64 1,.i .i64 2,.s ⟨#[98]⟩,.ns,.ns,.i .i64 2,.i .i64 0,.i .i64 0,.i .i64 0,.s ⟨#[101]⟩,.ns,.ns,.i .i64 2,.i .i64 1,.i .i64 0,.i .i64 0]),(9,[.i .i64 0,.i .i64 0,.ns,.i .i64 0,.i .i64 0,.i .i64 1,.ns,.i .i64 1,.i .i64 8,.i .i64 2,.sl 7 0 2 1 (.ex 2),.i .i64 0]),(7,[.i .i64 0,.i .i64 1])],.tu [.p 6974000048 0,.i .i64 0],[(6974000048,[.sl 6974000050 0 3 1 (.ex 3),.sl 6974000137 0 3 1 (.ex 3),.sl 6974000044 0 3 1 (.ex 3),.sl 6974000046 0 3 1 (.ex 3)]),(6974000050,[.i .i64 (-1),.i .i64 0,.i .i64 0]),(6974000137,[.i .i64 0,.i .i64 1,.i .i64 1]),(6974000044,[.sl 6974000318 0 2 1 .en,.ns,.ns]),(6974000318,[.i .i64 1,.i .i64 2]),(6974000046,[.ns,.ns,.ns])],6974000000⟩
theorem HE (hL:aj E) {pw:Int} (hP:ba E pw):aF prog E zY:=aH (aI hL hP (zX hL hP)) (by decide +kernel)
def zZ:List aV:=zY::zW
theorem Aa (hL:aj E) {pw:Int} (hP:ba E pw):∀m∈zZ,aF prog E m:=aA (HE hL hP) (zX hL hP)
def Ab:aV:=⟨78,[.ag [.sl 4 0 3 2 (.ex 3),.ns,.sl 17 0 3 7 (.ex 3)]],[(4,[.s ⟨#[122]⟩,.i .i64 0,.s ⟨#[111,110,101]⟩,.i .i64 0,.s ⟨#[99]⟩,.i .i64 1]),(17,[.s ⟨#[97]⟩,.ns,.sl 9 0 3 4 (.ex 3),.i .i64 1,.i .i64 2,.i .i64 1,.i .i64 2,.s ⟨#[98]⟩,.ns,.ns,.i .i64 2,.i .i64 0,.i .i64 0,.i .i64 0,.s ⟨#[101]⟩,.ns,.ns,.i .i64 2,.i .i64 1,.i .i64 0,.i .i64 0]),(9,[.i .i64 0,.i .i64 0,.ns,.i .i64 0,.i .i64 0,.i .i64 1,.ns,.i .i64 1,.i .i64 8,.i .i64 2,.sl 7 0 2 1 (.ex 2),.i .i64 0]),(7,[.i .i64 0,.i .i64 1])],.sl 6972000212 0 3 2 .en,[(6972000212,[.i .i64 0,.i .i64 0,.i .i64 0,.i .i64 1,.i .i64 0,.i .i64 2])],6972000000⟩
theorem HF (hL:aj E) {pw:Int} (hP:ba E pw):aF prog E Ab:=aH (aI hL hP (Aa hL hP)) (by decide +kernel)
def Ac:List aV:=Ab::zZ
theorem Ad (hL:aj E) {pw:Int} (hP:ba E pw):∀m∈Ac,aF prog E m:=aA (HF hL hP) (Aa hL hP)
def Ae:aV:=⟨57,[.ag [.sl 4 0 3 2 (.ex 3),.ns,.sl 17 0 3 7 (.ex 3)]],[(4,[.s ⟨#[122]⟩,.i .i64 0,.s ⟨#[111,110,101]⟩,.i .i64 0,.s ⟨#[99]⟩,.i .i64 1]),(17,[.s ⟨#[97]⟩,.ns,.sl 9 0 3 4 (.ex 3),.i .i64 1,.i .i64 2,.i .i64 1,.i .i64 2,.s ⟨#[98]⟩,.ns,.ns,.i .i64 2,.i .i64 0,.i .i64 0,.i .i64 0,.s ⟨#[101]⟩,.ns,.ns,.i .i64 2,.i .i64 1,.i .i64 0,.i .i64 0]),(9,[.i .i64 0,.i .i64 0,.ns,.i .i64 0,.i .i64 0,.i .i64 1,.ns,.i .i64 1,.i .i64 8,.i .i64 2,.sl 7 0 2 1 (.ex 2),.i .i64 0]),(7,[.i .i64 0,.i .i64 1])],.i .i64 0,[],5982000000⟩
theorem HG (hL:aj E) {pw:Int} (hP:ba E pw):aF prog E Ae:=aH (aI hL hP (Ad hL hP)) (by decide +kernel)
def Af:List aV:=Ae::Ac
theorem Ag (hL:aj E) {pw:Int} (hP:ba E pw):∀m∈Af,aF prog E m:=aA (HG hL hP) (Ad hL hP)
def Ah:aV:=⟨34,[.ag [.sl 4 0 3 2 (.ex 3),.ns,.sl 17 0 3 7 (.ex 3)]],[(4,[.s ⟨#[122]⟩,.i .i64 0,.s ⟨#[111,110,101]⟩,.i .i64 0,.s ⟨#[99]⟩,.i .i64 1]),(17,[.s ⟨#[97]⟩,.ns,.sl 9 0 3 4 (.ex 3),.i .i64 1,.i .i64 2,.i .i64 1,.i .i64 2,.s ⟨#[98]⟩,.ns,.ns,.i .i64 2,.i .i64 0,.i .i64 0,.i .i64 0,.s ⟨#[101]⟩,.ns,.ns,.i .i64 2,.i .i64 1,.i .i64 0,.i .i64 0]),(9,[.i .i64 0,.i .i64 0,.ns,.i .i64 0,.i .i64 0,.i .i64 1,.ns,.i .i64 1,.i .i64 8,.i .i64 2,.sl 7 0 2 1 (.ex 2),.i .i64 0]),(7,[.i .i64 0,.i .i64 1])],.i .i64 0,[],4983000000⟩
theorem HH (hL:aj E) {pw:Int} (hP:ba E pw):aF prog E Ah:=aH (aI hL hP (Ag hL hP)) (by decide +kernel)
def Ai:List aV:=Ah::Af
theorem Aj (hL:aj E) {pw:Int} (hP:ba E pw):∀m∈Ai,aF prog E m:=aA (HH hL hP) (Ag hL hP)
def Ak:aV:=⟨245,[.sl 3984000319 0 3 1 .en,.i .i64 509],[(3984000319,[.s ⟨#[122]⟩,.s ⟨#[111,110,101]⟩,.s ⟨#[99]⟩])],.sl 4971013197 0 509 1 .en,[(4971013197,[.s ⟨#[120,48]⟩,.s ⟨#[120,49]⟩,.s ⟨#[120,50]⟩,.s ⟨#[120,51]⟩,.s ⟨#[120,52]⟩,.s ⟨#[120,53]⟩,.s ⟨#[120,54]⟩,.s ⟨#[120,55]⟩,.s ⟨#[120,56]⟩,.s ⟨#[120,57]⟩,.s ⟨#[120,49,48]⟩,.s ⟨#[120,49,49]⟩,.s ⟨#[120,49,50]⟩,.s ⟨#[120,49,51]⟩,.s ⟨#[120,49,52]⟩,.s ⟨#[120,49,53]⟩,.s ⟨#[120,49,54]⟩,.s ⟨#[120,49,55]⟩,.s ⟨#[120,49,56]⟩,.s ⟨#[120,49,57]⟩,.s ⟨#[120,50,48]⟩,.s ⟨#[120,50,49]⟩,.s ⟨#[120,50,50]⟩,.s ⟨#[120,50,51]⟩,.s ⟨#[120,50,52]⟩,.s ⟨#[120,50,53]⟩,.s ⟨#[120,50,54]⟩,.s ⟨#[120,50,55]⟩,.s ⟨#[120,50,56]⟩,.s ⟨#[120,50,57]⟩,.s ⟨#[120,51,48]⟩,.s ⟨#[120,51,49]⟩,.s ⟨#[120,51,50]⟩,.s ⟨#[120,51,51]⟩,.s ⟨#[120,51,52]⟩,.s ⟨#[120,51,53]⟩,.s ⟨#[120,51,54]⟩,.s ⟨#[120,51,55]⟩,.s ⟨#[120,51,56]⟩,.s ⟨#[120,51,57]⟩,.s ⟨#[120,52,48]⟩,.s ⟨#[120,52,49]⟩,.s ⟨#[120,52,50]⟩,.s ⟨#[120,52,51]⟩,.s ⟨#[120,52,52]⟩,.s ⟨#[120,52,53]⟩,.s ⟨#[120,52,54]⟩,.s ⟨#[120,52,55]⟩,.s ⟨#[120,52,56]⟩,.s ⟨#[120,52,57]⟩,.s ⟨#[120,53,48]⟩,.s ⟨#[120,53,49]⟩,.s ⟨#[120,53,50]⟩,.s ⟨#[120,53,51]⟩,.s ⟨#[120,53,52]⟩,.s ⟨#[120,53,53]⟩,.s ⟨#[120,53,54]⟩,.s ⟨#[120,53,55]⟩,.s ⟨#[120,53,56]⟩,.s ⟨#[120,53,57]⟩,.s ⟨#[120,54,48]⟩,.s ⟨#[120,54,49]⟩,.s ⟨#[120,54,50]⟩,.s ⟨#[120,54,51]⟩,.s ⟨#[120,54,52]⟩,.s ⟨#[120,54,53]⟩,.s ⟨#[120,54,54]⟩,.s ⟨#[120,54,55]⟩,.s ⟨#[120,54,56]⟩,.s ⟨#[120,54,57]⟩,.s ⟨#[120,55,48]⟩,.s ⟨#[120,55,49]⟩,.s ⟨#[120,55,50]⟩,.s ⟨#[120,55,51]⟩,.s ⟨#[120,55,52]⟩,.s ⟨#[120,55,53]⟩,.s ⟨#[120,55,54]⟩,.s ⟨#[120,55,55]⟩,.s ⟨#[120,55,56]⟩,.s ⟨#[120,55,57]⟩,.s ⟨#[120,56,48]⟩,.s ⟨#[120,56,49]⟩,.s ⟨#[120,56,50]⟩,.s ⟨#[120,56,51]⟩,.s ⟨#[120,56,52]⟩,.s ⟨#[120,56,53]⟩,.s ⟨#[120,56,54]⟩,.s ⟨#[120,56,55]⟩,.s ⟨#[120,56,56]⟩,.s ⟨#[120,56,57]⟩,.s ⟨#[120,57,48]⟩,.s ⟨#[120,57,49]⟩,.s ⟨#[120,57,50]⟩,.s ⟨#[120,57,51]⟩,.s ⟨#[120,57,52]⟩,.s ⟨#[120,57,53]⟩,.s ⟨#[120,57,54]⟩,.s ⟨#[120,57,55]⟩,.s ⟨#[120,57,56]⟩,.s ⟨#[120,57,57]⟩,.us 3 4 120,.us 3 4 120,.us 3 4 120,.us 3 4 120,.us 3 4 120,.us 3 4 120,.us 3 4 120,.us 3 4 120,.us 3 4 120,.us 3 4 120,.us 3 4 120,.us 3 4 120,.us 3 4 120,.us 3 4 120,.us 3 4 120,.us 3 4 120,.us 3 4 120,.us 3 4 120,.us 3 4 120,.us 3 4 120,.us 3 4 120,.us 3 4 120,.us 3 4 120,.us 3 4 120,.us 3 4 120,.us 3 4 120,.us 3 4 120,.us 3 4 120,.us 3 4 120,.us 3 4 120,.us 3 4 120,.us 3 4 120,.us 3 4 120,.us 3 4 120,.us 3 4 120,.us 3 4 120,.us 3 4 120,.us 3 4 120,.us 3 4 120,.us 3 4 120,.us 3 4 120,.us 3 4 120,.us 3 4 120,.us 3 4 120,.us 3 4 120,.us 3 4 120,.us 3 4 120,.us 3 4 120,.us 3 4 120,.us 3 4 120,.us 3 4 120,.us 3 4 120,.us 3 4 120,.us 3 4 120,.us 3 4 120,.us 3 4 120,.us 3 4 120,.us 3 4 120,.us 3 4 120,.us 3 4 120,.us 3 4 120,.us 3 4 120,.us 3 4 120,.us 3 4 120,.us 3 4 120,.us 3 4 120,.us 3 4 120,.us 3 4 120,.us 3 4 120,.us 3 4 120,.us 3 4 120,.us 3 4 120,.us 3 4 120,.us 3 4 120,.us 3 4 120,.us 3 4 120,.us 3 4 120,.us 3 4 120,.us 3 4 120,.us 3 4 120,.us 3 4 120,.us 3 4 120,.us 3 4 120,.us 3 4 120,.us 3 4 120,.us 3 4 120,.us 3 4 120,.us 3 4 120,.us 3 4 120,.us 3 4 120,.us 3 4 120,.us 3 4 120,.us 3 4 120,.us 3 4 120,.us 3 4 120,.us 3 4 120,.us 3 4 120,.us 3 4 120,.us 3 4 120,.us 3 4 120,.us 3 4 120,.us 3 4 120,.us 3 4 120,.us 3 4 120,.us 3 4 120,.us 3 4 120,.us 3 4 120,.us 3 4 120,.us 3 4 120,.us 3 4 120,.us 3 4 120,.us 3 4 120,.us 3 4 120,.us 3 4 120,.us 3 4 120,.us 3 4 120,.us 3 4 120,.us 3 4 120,.us 3 4 120,.us 3 4 120,.us 3 4 120,.us 3 4 120,.us 3 4 120,.us 3 4 120,.us 3 4 120,.us 3 4 120,.us 3 4 120,.us 3 4 120,.us 3 4 120,.us 3 4 120,.us 3 4 120,.us 3 4 120,.us 3 4 120,.us 3 4 120,.us 3 4 120,.us 3 4 120,.us 3 4 120,.us 3 4 120,.us 3 4 120,.us 3 4 120,.us 3 4 120,.us 3 4 120,.us 3 4 120,.us 3 4 120,.us 3 4 120,.us 3 4 120,.us 3 4 120,.us 3 4 120,.us 3 4 120,.us 3 4 120,.us 3 4 120,.us 3 4 120,.us 3 4 120,.us 3 4 120,.us 3 4 120,.us 3 4 120,.us 3 4 120,.us 3 4 120,.us 3 4 120,.us 3 4 120,.us 3 4 120,.us 3 4 120,.us 3 4 120,.us 3 4 120,.us 3 4 120,.us 3 4 120,.us 3 4 120,.us 3 4 120,.us 3 4 120,.us 3 4 120,.us 3 4 120,.us 3 4 120,.us 3 4 120,.us 3 4 120,.us 3 4 120,.us 3 4 120,.us 3 4 120,.us 3 4 120,.us 3 4 120,.us 3 4 120,.us 3 4 120,.us 3 4 120,.us 3 4 120,.us 3 4 120,.us 3 4 120,.us 3 4 120,.us 3 4 120,.us 3 4 120,.us 3 4 120,.us 3 4 120,.us 3 4 120,.us 3 4 120,.us 3 4 120,.us 3 4 120,.us 3 4 120,.us 3 4 120,.us 3 4 120,.us 3 4 120,.us 3 4 120,.us 3 4 120,.us 3 4 120,.us 3 4 120,.us 3 4 120,.us 3 4 120,.us 3 4 120,.us 3 4 120,.us 3 4 120,.us 3 4 120,.us 3 4 120,.us 3 4 120,.us 3 4 120,.us 3 4 120,.us 3 4 120,.us 3 4 120,.us 3 4 120,.us 3 4 120,.us 3 4 120,.us 3 4 120,.us 3 4 120,.us 3 4 120,.us 3 4 120,.us 3 4 120,.us 3 4 120,.us 3 4 120,.us 3 4 120,.us 3 4 120,.us 3 4 120,.us 3 4 120,.us 3 4 120,.us 3 4 120,.us 3 4 120,.us 3 4 120,.us 3 4 120,.us 3 4 120,.us 3 4 120,.us 3 4 120,.us 3 4 120,.us 3 4 120,.us 3 4 120,.us 3 4 120,.us 3 4 120,.us 3 4 120,.us 3 4 120,.us 3 4 120,.us 3 4 120,.us 3 4 120,.us 3 4 120,.us 3 4 120,.us 3 4 120,.us 3 4 120,.us 3 4 120,.us 3 4 120,.us 3 4 120,.us 3 4 120,.us 3 4 120,.us 3 4 120,.us 3 4 120,.us 3 4 120,.us 3 4 120,.us 3 4 120,.us 3 4 120,.us 3 4 120,.us 3 4 120,.us 3 4 120,.us 3 4 120,.us 3 4 120,.us 3 4 120,.us 3 4 120,.us 3 4 120,.us 3 4 120,.us 3 4 120,.us 3 4 120,.us 3 4 120,.us 3 4 120,.us 3 4 120,.us 3 4 120,.us 3 4 120,.us 3 4 120,.us 3 4 120,.us 3 4 120,.us 3 4 120,.us 3 4 120,.us 3 4 120,.us 3 4 120,.us 3 4 120,.us 3 4 120,.us 3 4 120,.us 3 4 120,.us 3 4 120,.us 3 4 120,.us 3 4 120,.us 3 4 120,.us 3 4 120,.us 3 4 120,.us 3 4 120,.us 3 4 120,.us 3 4 120,.us 3 4 120,.us 3 4 120,.us 3 4 120,.us 3 4 120,.us 3 4 120,.us 3 4 120,.us 3 4 120,.us 3 4 120,.us 3 4 120,.us 3 4 120,.us 3 4 120,.us 3 4 120,.us 3 4 120,.us 3 4 120,.us 3 4 120,.us 3 4 120,.us 3 4 120,.us 3 4 120,.us 3 4 120,.us 3 4 120,.us 3 4 120,.us 3 4 120,.us 3 4 120,.us 3 4 120,.us 3 4 120,.us 3 4 120,.us 3 4 120,.us 3 4 120,.us 3 4 120,.us 3 4 120,.us 3 4 120,.us 3 4 120,.us 3 4 120,.us 3 4 120,.us 3 4 120,.us 3 4 120,.us 3 4 120,.us 3 4 120,.us 3 4 120,.us 3 4 120,.us 3 4 120,.us 3 4 120,.us 3 4 120,.us 3 4 120,.us 3 4 120,.us 3 4 120,.us 3 4 120,.us 3 4 120,.us 3 4 120,.us 3 4 120,.us 3 4 120,.us 3 4 120,.us 3 4 120,.us 3 4 120,.us 3 4 120,.us 3 4 120,.us 3 4 120,.us 3 4 120,.us 3 4 120,.us 3 4 120,.us 3 4 120,.us 3 4 120,.us 3 4 120,.us 3 4 120,.us 3 4 120,.us 3 4 120,.us 3 4 120,.us 3 4 120,.us 3 4 120,.us 3 4 120,.us 3 4 120,.us 3 4 120,.us 3 4 120,.us 3 4 120,.us 3 4 120,.us 3 4 120,.us 3 4 120,.us 3 4 120,.us 3 4 120,.us 3 4 120,.us 3 4 120,.us 3 4 120,.us 3 4 120,.us 3 4 120,.us 3 4 120,.us 3 4 120,.us 3 4 120,.us 3 4 120,.us 3 4 120,.us 3 4 120,.us 3 4 120,.us 3 4 120,.us 3 4 120,.us 3 4 120,.us 3 4 120,.us 3 4 120,.us 3 4 120,.us 3 4 120,.us 3 4 120,.us 3 4 120,.us 3 4 120,.us 3 4 120,.us 3 4 120,.us 3 4 120,.us 3 4 120,.us 3 4 120,.us 3 4 120,.us 3 4 120,.us 3 4 120,.us 3 4 120,.us 3 4 120,.us 3 4 120])],4971000000⟩
theorem HI (hL:aj E) {pw:Int} (hP:ba E pw):aF prog E Ak:=aH (aI hL hP (Aj hL hP)) (by decide +kernel)
def Al:List aV:=Ak::Ai
theorem Am (hL:aj E) {pw:Int} (hP:ba E pw):∀m∈Al,aF prog E m:=aA (HI hL hP) (Aj hL hP)
def Ao:aV:=⟨234,[.ag [.sl 4 0 3 2 (.ex 3),.ns,.sl 17 0 3 7 (.ex 3)]],[(4,[.s ⟨#[122]⟩,.i .i64 0,.s ⟨#[111,110,101]⟩,.i .i64 0,.s ⟨#[99]⟩,.i .i64 1]),(17,[.s ⟨#[97]⟩,.ns,.sl 9 0 3 4 (.ex 3),.i .i64 1,.i .i64 2,.i .i64 1,.i .i64 2,.s ⟨#[98]⟩,.ns,.ns,.i .i64 2,.i .i64 0,.i .i64 0,.i .i64 0,.s ⟨#[101]⟩,.ns,.ns,.i .i64 2,.i .i64 1,.i .i64 0,.i .i64 0]),(9,[.i .i64 0,.i .i64 0,.ns,.i .i64 0,.i .i64 0,.i .i64 1,.ns,.i .i64 1,.i .i64 8,.i .i64 2,.sl 7 0 2 1 (.ex 2),.i .i64 0]),(7,[.i .i64 0,.i .i64 1])],.tu [.ag [.sl 3984000071 0 3 2 .en,.ns,.sl 3984000241 0 3 7 .en],.i .i64 0],[(3984000071,[.s ⟨#[122]⟩,.i .i64 0,.s ⟨#[111,110,101]⟩,.i .i64 0,.s ⟨#[99]⟩,.i .i64 1]),(3984000241,[.s ⟨#[97]⟩,.ns,.sl 3984000632 0 3 4 .en,.i .i64 1,.i .i64 2,.i .i64 1,.i .i64 2,.s ⟨#[98]⟩,.ns,.ns,.i .i64 2,.i .i64 0,.i .i64 0,.i .i64 0,.s ⟨#[101]⟩,.ns,.ns,.i .i64 2,.i .i64 1,.i .i64 0,.i .i64 0]),(3984000632,[.i .i64 0,.i .i64 0,.ns,.i .i64 0,.i .i64 0,.i .i64 1,.ns,.i .i64 1,.i .i64 8,.i .i64 2,.sl 3984000610 0 2 1 .en,.i .i64 0]),(3984000610,[.i .i64 0,.i .i64 1])],3984000000⟩
theorem HJ (hL:aj E) {pw:Int} (hP:ba E pw):aF prog E Ao:=aH (aI hL hP (Am hL hP)) (by decide +kernel)
def Ap:List aV:=Ao::Al
theorem Aq (hL:aj E) {pw:Int} (hP:ba E pw):∀m∈Ap,aF prog E m:=aA (HJ hL hP) (Am hL hP)
def Ar:aV:=⟨231,[.ag [.sl 4 0 3 2 (.ex 3),.ns,.sl 17 0 3 7 (.ex 3)]],[(4,[.s ⟨#[122]⟩,.i .i64 0,.s ⟨#[111,110,101]⟩,.i .i64 0,.s ⟨#[99]⟩,.i .i64 1]),(17,[.s ⟨#[97]⟩,.ns,.sl 9 0 3 4 (.ex 3),.i .i64 1,.i .i64 2,.i .i64 1,.i .i64 2,.s ⟨#[98]⟩,.ns,.ns,.i .i64 2,.i .i64 0,.i .i64 0,.i .i64 0,.s ⟨#[101]⟩,.ns,.ns,.i .i64 2,.i .i64 1,.i .i64 0,.i .i64 0]),(9,[.i .i64 0,.i .i64 0,.ns,.i .i64 0,.i .i64 0,.i .i64 1,.ns,.i .i64 1,.i .i64 8,.i .i64 2,.sl 7 0 2 1 (.ex 2),.i .i64 0]),(7,[.i .i64 0,.i .i64 1])],.tu [.ag [.sl 2985000005 0 3 2 .en,.ns,.sl 2985000006 0 3 7 .en],.i .i64 0],[(2985000005,[.s ⟨#[122]⟩,.i .i64 0,.s ⟨#[111,110,101]⟩,.i .i64 0,.s ⟨#[99]⟩,.i .i64 1]),(2985000006,[.s ⟨#[97]⟩,.ns,.sl 2985000007 0 3 4 .en,.i .i64 1,.i .i64 2,.i .i64 1,.i .i64 2,.s ⟨#[98]⟩,.ns,.ns,.i .i64 2,.i .i64 0,.i .i64 0,.i .i64 0,.s ⟨#[101]⟩,.ns,.ns,.i .i64 2,.i .i64 1,.i .i64 0,.i .i64 0]),(2985000007,[.i .i64 0,.i .i64 0,.ns,.i .i64 0,.i .i64 0,.i .i64 1,.ns,.i .i64 1,.i .i64 8,.i .i64 2,.sl 2985000008 0 2 1 .en,.i .i64 0]),(2985000008,[.i .i64 0,.i .i64 1])],2985000000⟩
theorem HK (hL:aj E) {pw:Int} (hP:ba E pw):aF prog E Ar:=aH (aI hL hP (Aq hL hP)) (by decide +kernel)
def As:List aV:=Ar::Ap
theorem Au (hL:aj E) {pw:Int} (hP:ba E pw):∀m∈As,aF prog E m:=aA (HK hL hP) (Aq hL hP)
def Av:aV:=⟨83,[.ag [.sl 1986000006 0 3 2 .en,.ns,.sl 1986000007 0 3 7 .en]],[(1986000006,[.s ⟨#[122]⟩,.i .i64 0,.s ⟨#[111,110,101]⟩,.i .i64 0,.s ⟨#[99]⟩,.i .i64 1]),(1986000007,[.s ⟨#[97]⟩,.ns,.sl 1986000008 0 3 4 .en,.i .i64 1,.i .i64 2,.i .i64 1,.i .i64 2,.s ⟨#[98]⟩,.ns,.ns,.i .i64 2,.i .i64 0,.i .i64 0,.i .i64 0,.s ⟨#[101]⟩,.ns,.ns,.i .i64 2,.i .i64 1,.i .i64 0,.i .i64 0]),(1986000008,[.i .i64 0,.i .i64 0,.ns,.i .i64 0,.i .i64 0,.i .i64 1,.ns,.i .i64 1,.i .i64 8,.i .i64 2,.sl 1986000009 0 2 1 .en,.i .i64 0]),(1986000009,[.i .i64 0,.i .i64 1])],.b true,[],7965000000⟩
theorem HL (hL:aj E) {pw:Int} (hP:ba E pw):aF prog E Av:=aH (aI hL hP (Au hL hP)) (by decide +kernel)
def Aw:List aV:=Av::As
theorem Ax (hL:aj E) {pw:Int} (hP:ba E pw):∀m∈Aw,aF prog E m:=aA (HL hL hP) (Au hL hP)
def Ay:aV:=⟨64,[.ag [.sl 1986000006 0 3 2 .en,.ns,.sl 1986000007 0 3 7 .en]],[(1986000006,[.s ⟨#[122]⟩,.i .i64 0,.s ⟨#[111,110,101]⟩,.i .i64 0,.s ⟨#[99]⟩,.i .i64 1]),(1986000007,[.s ⟨#[97]⟩,.ns,.sl 1986000008 0 3 4 .en,.i .i64 1,.i .i64 2,.i .i64 1,.i .i64 2,.s ⟨#[98]⟩,.ns,.ns,.i .i64 2,.i .i64 0,.i .i64 0,.i .i64 0,.s ⟨#[101]⟩,.ns,.ns,.i .i64 2,.i .i64 1,.i .i64 0,.i .i64 0]),(1986000008,[.i .i64 0,.i .i64 0,.ns,.i .i64 0,.i .i64 0,.i .i64 1,.ns,.i .i64 1,.i .i64 8,.i .i64 2,.sl 1986000009 0 2 1 .en,.i .i64 0]),(1986000009,[.i .i64 0,.i .i64 1])],.i .i64 0,[],6966000000⟩
theorem HM (hL:aj E) {pw:Int} (hP:ba E pw):aF prog E Ay:=aH (aI hL hP (Ax hL hP)) (by decide +kernel)
def Az:List aV:=Ay::Aw
theorem AA (hL:aj E) {pw:Int} (hP:ba E pw):∀m∈Az,aF prog E m:=aA (HM hL hP) (Ax hL hP)
def AB:aV:=⟨36,[.ag [.sl 1986000006 0 3 2 .en,.ns,.sl 1986000007 0 3 7 .en]],[(1986000006,[.s ⟨#[122]⟩,.i .i64 0,.s ⟨#[111,110,101]⟩,.i .i64 0,.s ⟨#[99]⟩,.i .i64 1]),(1986000007,[.s ⟨#[97]⟩,.ns,.sl 1986000008 0 3 4 .en,.i .i64 1,.i .i64 2,.i .i64 1,.i .i64 2,.s ⟨#[98]⟩,.ns,.ns,.i .i64 2,.i .i64 0,.i .i64 0,.i .i64 0,.s ⟨#[101]⟩,.ns,.ns,.i .i64 2,.i .i64 1,.i .i64 0,.i .i64 0]),(1986000008,[.i .i64 0,.i .i64 0,.ns,.i .i64 0,.i .i64 0,.i .i64 1,.ns,.i .i64 1,.i .i64 8,.i .i64 2,.sl 1986000009 0 2 1 .en,.i .i64 0]),(1986000009,[.i .i64 0,.i .i64 1])],.b true,[],5967000000⟩
theorem HN (hL:aj E) {pw:Int} (hP:ba E pw):aF prog E AB:=aH (aI hL hP (AA hL hP)) (by decide +kernel)
def AC:List aV:=AB::Az
theorem AD (hL:aj E) {pw:Int} (hP:ba E pw):∀m∈AC,aF prog E m:=aA (HN hL hP) (AA hL hP)
def AE:aV:=⟨41,[.ag [.sl 1986000006 0 3 2 .en,.ns,.sl 1986000007 0 3 7 .en]],[(1986000006,[.s ⟨#[122]⟩,.i .i64 0,.s ⟨#[111,110,101]⟩,.i .i64 0,.s ⟨#[99]⟩,.i .i64 1]),(1986000007,[.s ⟨#[97]⟩,.ns,.sl 1986000008 0 3 4 .en,.i .i64 1,.i .i64 2,.i .i64 1,.i .i64 2,.s ⟨#[98]⟩,.ns,.ns,.i .i64 2,.i .i64 0,.i .i64 0,.i .i64 0,.s ⟨#[101]⟩,.ns,.ns,.i .i64 2,.i .i64 1,.i .i64 0,.i .i64 0]),(1986000008,[.i .i64 0,.i .i64 0,.ns,.i .i64 0,.i .i64 0,.i .i64 1,.ns,.i .i64 1,.i .i64 8,.i .i64 2,.sl 1986000009 0 2 1 .en,.i .i64 0]),(1986000009,[.i .i64 0,.i .i64 1])],.sl 5964000005 0 3 1 (.ex 3),[(5964000005,[.ns,.sl 5964000066 0 1 1 .en,.sl 5964000083 0 1 1 .en]),(5964000066,[.i .i64 0]),(5964000083,[.i .i64 0])],5964000000⟩
theorem HO (hL:aj E) {pw:Int} (hP:ba E pw):aF prog E AE:=aH (aI hL hP (AD hL hP)) (by decide +kernel)
def AF:List aV:=AE::AC
theorem AG (hL:aj E) {pw:Int} (hP:ba E pw):∀m∈AF,aF prog E m:=aA (HO hL hP) (AD hL hP)
def AH:aV:=⟨20,[.ag [.sl 1986000006 0 3 2 .en,.ns,.sl 1986000007 0 3 7 .en]],[(1986000006,[.s ⟨#[122]⟩,.i .i64 0,.s ⟨#[111,110,101]⟩,.i .i64 0,.s ⟨#[99]⟩,.i .i64 1]),(1986000007,[.s ⟨#[97]⟩,.ns,.sl 1986000008 0 3 4 .en,.i .i64 1,.i .i64 2,.i .i64 1,.i .i64 2,.s ⟨#[98]⟩,.ns,.ns,.i .i64 2,.i .i64 0,.i .i64 0,.i .i64 0,.s ⟨#[101]⟩,.ns,.ns,.i .i64 2,.i .i64 1,.i .i64 0,.i .i64 0]),(1986000008,[.i .i64 0,.i .i64 0,.ns,.i .i64 0,.i .i64 0,.i .i64 1,.ns,.i .i64 1,.i .i64 8,.i .i64 2,.sl 1986000009 0 2 1 .en,.i .i64 0]),(1986000009,[.i .i64 0,.i .i64 1])],.i .i64 0,[],4968000000⟩
theorem HP (hL:aj E) {pw:Int} (hP:ba E pw):aF prog E AH:=aH (aI hL hP (AG hL hP)) (by decide +kernel)
def AJ:List aV:=AH::AF
theorem AK (hL:aj E) {pw:Int} (hP:ba E pw):∀m∈AJ,aF prog E m:=aA (HP hL hP) (AG hL hP)
def AL:aV:=⟨67,[.ag [.sl 1986000006 0 3 2 .en,.ns,.sl 1986000007 0 3 7 .en]],[(1986000006,[.s ⟨#[122]⟩,.i .i64 0,.s ⟨#[111,110,101]⟩,.i .i64 0,.s ⟨#[99]⟩,.i .i64 1]),(1986000007,[.s ⟨#[97]⟩,.ns,.sl 1986000008 0 3 4 .en,.i .i64 1,.i .i64 2,.i .i64 1,.i .i64 2,.s ⟨#[98]⟩,.ns,.ns,.i .i64 2,.i .i64 0,.i .i64 0,.i .i64 0,.s ⟨#[101]⟩,.ns,.ns,.i .i64 2,.i .i64 1,.i .i64 0,.i .i64 0]),(1986000008,[.i .i64 0,.i .i64 0,.ns,.i .i64 0,.i .i64 0,.i .i64 1,.ns,.i .i64 1,.i .i64 8,.i .i64 2,.sl 1986000009 0 2 1 .en,.i .i64 0]),(1986000009,[.i .i64 0,.i .i64 1])],.sl 5962000372 0 3 1 .en,[(5962000372,[.i .i64 0,.i .i64 2,.i .i64 1])],5962000000⟩
theorem HQ (hL:aj E) {pw:Int} (hP:ba E pw):aF prog E AL:=aH (aI hL hP (AK hL hP)) (by decide +kernel)
def AM:List aV:=AL::AJ
theorem AN (hL:aj E) {pw:Int} (hP:ba E pw):∀m∈AM,aF prog E m:=aA (HQ hL hP) (AK hL hP)
def AO:aV:=⟨75,[.ag [.sl 1986000006 0 3 2 .en,.ns,.sl 1986000007 0 3 7 .en]],[(1986000006,[.s ⟨#[122]⟩,.i .i64 0,.s ⟨#[111,110,101]⟩,.i .i64 0,.s ⟨#[99]⟩,.i .i64 1]),(1986000007,[.s ⟨#[97]⟩,.ns,.sl 1986000008 0 3 4 .en,.i .i64 1,.i .i64 2,.i .i64 1,.i .i64 2,.s ⟨#[98]⟩,.ns,.ns,.i .i64 2,.i .i64 0,.i .i64 0,.i .i64 0,.s ⟨#[101]⟩,.ns,.ns,.i .i64 2,.i .i64 1,.i .i64 0,.i .i64 0]),(1986000008,[.i .i64 0,.i .i64 0,.ns,.i .i64 0,.i .i64 0,.i .i64 1,.ns,.i .i64 1,.i .i64 8,.i .i64 2,.sl 1986000009 0 2 1 .en,.i .i64 0]),(1986000009,[.i .i64 0,.i .i64 1])],.sl 4963000012 0 3 1 (.ex 3),[(4963000012,[.b true,.b true,.b true])],4963000000⟩
theorem HR (hL:aj E) {pw:Int} (hP:ba E pw):aF prog E AO:=aH (aI hL hP (AN hL hP)) (by decide +kernel)
def AP:List aV:=AO::AM
theorem AQ (hL:aj E) {pw:Int} (hP:ba E pw):∀m∈AP,aF prog E m:=aA (HR hL hP) (AN hL hP)
def AR:aV:=⟨96,[.sl 4961000012 0 3 1 .en,.sl 4961000032 0 3 1 (.ex 3),.i .i64 3],[(4961000012,[.i .i64 0,.i .i64 2,.i .i64 1]),(4961000032,[.ns,.sl 4961000033 0 1 1 .en,.sl 4961000034 0 1 1 .en]),(4961000033,[.i .i64 0]),(4961000034,[.i .i64 0])],.sl 5960000090 0 3 1 (.ex 3),[(5960000090,[.i .i64 (-1),.i .i64 0,.i .i64 0])],5960000000⟩
theorem HS (hL:aj E) {pw:Int} (hP:ba E pw):aF prog E AR:=aH (aI hL hP (AQ hL hP)) (by decide +kernel)
def AU:List aV:=AR::AP
theorem AW (hL:aj E) {pw:Int} (hP:ba E pw):∀m∈AU,aF prog E m:=aA (HS hL hP) (AQ hL hP)
def AX:aV:=⟨77,[.ag [.sl 1986000006 0 3 2 .en,.ns,.sl 1986000007 0 3 7 .en]],[(1986000006,[.s ⟨#[122]⟩,.i .i64 0,.s ⟨#[111,110,101]⟩,.i .i64 0,.s ⟨#[99]⟩,.i .i64 1]),(1986000007,[.s ⟨#[97]⟩,.ns,.sl 1986000008 0 3 4 .en,.i .i64 1,.i .i64 2,.i .i64 1,.i .i64 2,.s ⟨#[98]⟩,.ns,.ns,.i .i64 2,.i .i64 0,.i .i64 0,.i .i64 0,.s ⟨#[101]⟩,.ns,.ns,.i .i64 2,.i .i64 1,.i .i64 0,.i .i64 0]),(1986000008,[.i .i64 0,.i .i64 0,.ns,.i .i64 0,.i .i64 0,.i .i64 1,.ns,.i .i64 1,.i .i64 8,.i .i64 2,.sl 1986000009 0 2 1 .en,.i .i64 0]),(1986000009,[.i .i64 0,.i .i64 1])],.tu [.p 4961000048 0,.i .i64 0],[(4961000048,[.sl 4961000050 0 3 1 (.ex 3),.sl 4961000137 0 3 1 (.ex 3),.sl 4961000044 0 3 1 (.ex 3),.sl 4961000046 0 3 1 (.ex 3)]),(4961000050,[.i .i64 (-1),.i .i64 0,.i .i64 0]),(4961000137,[.i .i64 0,.i .i64 1,.i .i64 1]),(4961000044,[.sl 4961000318 0 2 1 .en,.ns,.ns]),(4961000318,[.i .i64 1,.i .i64 2]),(4961000046,[.ns,.ns,.ns])],4961000000⟩
theorem HT (hL:aj E) {pw:Int} (hP:ba E pw):aF prog E AX:=aH (aI hL hP (AW hL hP)) (by decide +kernel)
def AY:List aV:=AX::AU
theorem AZ (hL:aj E) {pw:Int} (hP:ba E pw):∀m∈AY,aF prog E m:=aA (HT hL hP) (AW hL hP)
def A3:aV:=⟨78,[.ag [.sl 1986000006 0 3 2 .en,.ns,.sl 1986000007 0 3 7 .en]],[(1986000006,[.s ⟨#[122]⟩,.i .i64 0,.s ⟨#[111,110,101]⟩,.i .i64 0,.s ⟨#[99]⟩,.i .i64 1]),(1986000007,[.s ⟨#[97]⟩,.ns,.sl 1986000008 0 3 4 .en,.i .i64 1,.i .i64 2,.i .i64 1,.i .i64 2,.s ⟨#[98]⟩,.ns,.ns,.i .i64 2,.i .i64 0,.i .i64 0,.i .i64 0,.s ⟨#[101]⟩,.ns,.ns,.i .i64 2,.i .i64 1,.i .i64 0,.i .i64 0]),(1986000008,[.i .i64 0,.i .i64 0,.ns,.i .i64 0,.i .i64 0,.i .i64 1,.ns,.i .i64 1,.i .i64 8,.i .i64 2,.sl 1986000009 0 2 1 .en,.i .i64 0]),(1986000009,[.i .i64 0,.i .i64 1])],.sl 4959000212 0 3 2 .en,[(4959000212,[.i .i64 0,.i .i64 0,.i .i64 0,.i .i64 1,.i .i64 0,.i .i64 2])],4959000000⟩
theorem HU (hL:aj E) {pw:Int} (hP:ba E pw):aF prog E A3:=aH (aI hL hP (AZ hL hP)) (by decide +kernel)
def A4:List aV:=A3::AY
theorem A5 (hL:aj E) {pw:Int} (hP:ba E pw):∀m∈A4,aF prog E m:=aA (HU hL hP) (AZ hL hP)
def A6:aV:=⟨57,[.ag [.sl 1986000006 0 3 2 .en,.ns,.sl 1986000007 0 3 7 .en]],[(1986000006,[.s ⟨#[122]⟩,.i .i64 0,.s ⟨#[111,110,101]⟩,.i .i64 0,.s ⟨#[99]⟩,.i .i64 1]),(1986000007,[.s ⟨#[97]⟩,.ns,.sl 1986000008 0 3 4 .en,.i .i64 1,.i .i64 2,.i .i64 1,.i .i64 2,.s ⟨#[98]⟩,.ns,.ns,.i .i64 2,.i .i64 0,.i .i64 0,.i .i64 0,.s ⟨#[101]⟩,.ns,.ns,.i .i64 2,.i .i64 1,.i .i64 0,.i .i64 0]),(1986000008,[.i .i64 0,.i .i64 0,.ns,.i .i64 0,.i .i64 0,.i .i64 1,.ns,.i .i64 1,.i .i64 8,.i .i64 2,.sl 1986000009 0 2 1 .en,.i .i64 0]),(1986000009,[.i .i64 0,.i .i64 1])],.i .i64 0,[],3969000000⟩
theorem HV (hL:aj E) {pw:Int} (hP:ba E pw):aF prog E A6:=aH (aI hL hP (A5 hL hP)) (by decide +kernel)
def A7:List aV:=A6::A4
theorem A8 (hL:aj E) {pw:Int} (hP:ba E pw):∀m∈A7,aF prog E m:=aA (HV hL hP) (A5 hL hP)
def A9:aV:=⟨232,[.ag [.sl 1986000006 0 3 2 .en,.ns,.sl 1986000007 0 3 7 .en]],[(1986000006,[.s ⟨#[122]⟩,.i .i64 0,.s ⟨#[111,110,101]⟩,.i .i64 0,.s ⟨#[99]⟩,.i .i64 1]),(1986000007,[.s ⟨#[97]⟩,.ns,.sl 1986000008 0 3 4 .en,.i .i64 1,.i .i64 2,.i .i64 1,.i .i64 2,.s ⟨#[98]⟩,.ns,.ns,.i .i64 2,.i .i64 0,.i .i64 0,.i .i64 0,.s ⟨#[101]⟩,.ns,.ns,.i .i64 2,.i .i64 1,.i .i64 0,.i .i64 0]),(1986000008,[.i .i64 0,.i .i64 0,.ns,.i .i64 0,.i .i64 0,.i .i64 1,.ns,.i .i64 1,.i .i64 8,.i .i64 2,.sl 1986000009 0 2 1 .en,.i .i64 0]),(1986000009,[.i .i64 0,.i .i64 1])],.tu [.sl 2970000342 0 3 2 .en,.i .i64 0],[(2970000342,[.i .i64 0,.i .i64 0,.i .i64 1,.i .i64 1,.i .i64 1,.i .i64 1])],2970000000⟩
theorem HW (hL:aj E) {pw:Int} (hP:ba E pw):aF prog E A9:=aH (aI hL hP (A8 hL hP)) (by decide +kernel)
def Ba:List aV:=A9::A7
theorem Bb (hL:aj E) {pw:Int} (hP:ba E pw):∀m∈Ba,aF prog E m:=aA (HW hL hP) (A8 hL hP)
def Bc:aV:=⟨229,[.ag [.sl 4 0 3 2 (.ex 3),.ns,.sl 17 0 3 7 (.ex 3)]],[(4,[.s ⟨#[122]⟩,.i .i64 0,.s ⟨#[111,110,101]⟩,.i .i64 0,.s ⟨#[99]⟩,.i .i64 1]),(17,[.s ⟨#[97]⟩,.ns,.sl 9 0 3 4 (.ex 3),.i .i64 1,.i .i64 2,.i .i64 1,.i .i64 2,.s ⟨#[98]⟩,.ns,.ns,.i .i64 2,.i .i64 0,.i .i64 0,.i .i64 0,.s ⟨#[101]⟩,.ns,.ns,.i .i64 2,.i .i64 1,.i .i64 0,.i .i64 0]),(9,[.i .i64 0,.i .i64 0,.ns,.i .i64 0,.i .i64 0,.i .i64 1,.ns,.i .i64 1,.i .i64 8,.i .i64 2,.sl 7 0 2 1 (.ex 2),.i .i64 0]),(7,[.i .i64 0,.i .i64 1])],.tu [.ag [.sl 1986000006 0 3 2 .en,.ns,.sl 1986000007 0 3 7 .en],.sl 1986000020 0 3 2 .en,.i .i64 0],[(1986000006,[.s ⟨#[122]⟩,.i .i64 0,.s ⟨#[111,110,101]⟩,.i .i64 0,.s ⟨#[99]⟩,.i .i64 1]),(1986000007,[.s ⟨#[97]⟩,.ns,.sl 1986000008 0 3 4 .en,.i .i64 1,.i .i64 2,.i .i64 1,.i .i64 2,.s ⟨#[98]⟩,.ns,.ns,.i .i64 2,.i .i64 0,.i .i64 0,.i .i64 0,.s ⟨#[101]⟩,.ns,.ns,.i .i64 2,.i .i64 1,.i .i64 0,.i .i64 0]),(1986000008,[.i .i64 0,.i .i64 0,.ns,.i .i64 0,.i .i64 0,.i .i64 1,.ns,.i .i64 1,.i .i64 8,.i .i64 2,.sl 1986000009 0 2 1 .en,.i .i64 0]),(1986000009,[.i .i64 0,.i .i64 1]),(1986000020,[.i .i64 0,.i .i64 0,.i .i64 1,.i .i64 1,.i .i64 1,.i .i64 1])],1986000000⟩
theorem HX (hL:aj E) {pw:Int} (hP:ba E pw):aF prog E Bc:=aH (aI hL hP (Bb hL hP)) (by decide +kernel)
def Bd:List aV:=Bc::Ba
theorem Be (hL:aj E) {pw:Int} (hP:ba E pw):∀m∈Bd,aF prog E m:=aA (HX hL hP) (Bb hL hP)
def Bf:aV:=⟨286,[.ag [.sl 4 0 3 2 (.ex 3),.ns,.sl 17 0 3 7 (.ex 3)]],[(4,[.s ⟨#[122]⟩,.i .i64 0,.s ⟨#[111,110,101]⟩,.i .i64 0,.s ⟨#[99]⟩,.i .i64 1]),(17,[.s ⟨#[97]⟩,.ns,.sl 9 0 3 4 (.ex 3),.i .i64 1,.i .i64 2,.i .i64 1,.i .i64 2,.s ⟨#[98]⟩,.ns,.ns,.i .i64 2,.i .i64 0,.i .i64 0,.i .i64 0,.s ⟨#[101]⟩,.ns,.ns,.i .i64 2,.i .i64 1,.i .i64 0,.i .i64 0]),(9,[.i .i64 0,.i .i64 0,.ns,.i .i64 0,.i .i64 0,.i .i64 1,.ns,.i .i64 1,.i .i64 8,.i .i64 2,.sl 7 0 2 1 (.ex 2),.i .i64 0]),(7,[.i .i64 0,.i .i64 1])],.tu [.sl 1958000074 0 3 1 (.ex 3),.i .i64 0],[(1958000074,[.i .i64 1,.i .i64 0,.i .i64 0])],1958000000⟩
theorem HY (hL:aj E) {pw:Int} (hP:ba E pw):aF prog E Bf:=aH (aI hL hP (Be hL hP)) (by decide +kernel)
def Bg:List aV:=Bf::Bd
theorem Bh (hL:aj E) {pw:Int} (hP:ba E pw):∀m∈Bg,aF prog E m:=aA (HY hL hP) (Be hL hP)
def Bi:aV:=⟨35,[.ag [.sl 4 0 3 2 (.ex 3),.ns,.sl 17 0 3 7 (.ex 3)],.i .i64 7],[(4,[.s ⟨#[122]⟩,.i .i64 0,.s ⟨#[111,110,101]⟩,.i .i64 0,.s ⟨#[99]⟩,.i .i64 1]),(17,[.s ⟨#[97]⟩,.ns,.sl 9 0 3 4 (.ex 3),.i .i64 1,.i .i64 2,.i .i64 1,.i .i64 2,.s ⟨#[98]⟩,.ns,.ns,.i .i64 2,.i .i64 0,.i .i64 0,.i .i64 0,.s ⟨#[101]⟩,.ns,.ns,.i .i64 2,.i .i64 1,.i .i64 0,.i .i64 0]),(9,[.i .i64 0,.i .i64 0,.ns,.i .i64 0,.i .i64 0,.i .i64 1,.ns,.i .i64 1,.i .i64 8,.i .i64 2,.sl 7 0 2 1 (.ex 2),.i .i64 0]),(7,[.i .i64 0,.i .i64 1])],.tu [.sl 987003339 0 3 1 (.ex 3),.i .i64 0],[(987003339,[.i .i64 1,.i .i64 0,.i .i64 0])],987000000⟩
theorem HZ (hL:aj E) {pw:Int} (hP:ba E pw):aF prog E Bi:=aH (aI hL hP (Bh hL hP)) (by decide +kernel)
def Bj:List aV:=Bi::Bg
theorem Bk (hL:aj E) {pw:Int} (hP:ba E pw):∀m∈Bj,aF prog E m:=aA (HZ hL hP) (Bh hL hP)
def Bl:aV:=⟨83,[.ag [.sl 957000032 0 3 2 .en,.ns,.sl 957000202 0 3 7 .en]],[(957000032,[.s ⟨#[122]⟩,.i .i64 0,.s ⟨#[111,110,101]⟩,.i .i64 0,.s ⟨#[99]⟩,.i .i64 1]),(957000202,[.s ⟨#[97]⟩,.ns,.sl 957000130 0 3 4 .en,.i .i64 0,.i .i64 0,.i .i64 1,.i .i64 0,.s ⟨#[98]⟩,.ns,.ns,.i .i64 2,.i .i64 0,.i .i64 0,.i .i64 0,.s ⟨#[101]⟩,.ns,.ns,.i .i64 2,.i .i64 1,.i .i64 0,.i .i64 0]),(957000130,[.i .i64 0,.i .i64 0,.ns,.i .i64 0,.i .i64 0,.i .i64 1,.ns,.i .i64 1,.i .i64 8,.i .i64 2,.sl 957000122 0 2 1 .en,.i .i64 0]),(957000122,[.i .i64 0,.i .i64 1])],.b true,[],4953000000⟩
theorem H0 (hL:aj E) {pw:Int} (hP:ba E pw):aF prog E Bl:=aH (aI hL hP (Bk hL hP)) (by decide +kernel)
def Bm:List aV:=Bl::Bj
theorem Bn (hL:aj E) {pw:Int} (hP:ba E pw):∀m∈Bm,aF prog E m:=aA (H0 hL hP) (Bk hL hP)
def Bo:aV:=⟨64,[.ag [.sl 957000032 0 3 2 .en,.ns,.sl 957000202 0 3 7 .en]],[(957000032,[.s ⟨#[122]⟩,.i .i64 0,.s ⟨#[111,110,101]⟩,.i .i64 0,.s ⟨#[99]⟩,.i .i64 1]),(957000202,[.s ⟨#[97]⟩,.ns,.sl 957000130 0 3 4 .en,.i .i64 0,.i .i64 0,.i .i64 1,.i .i64 0,.s ⟨#[98]⟩,.ns,.ns,.i .i64 2,.i .i64 0,.i .i64 0,.i .i64 0,.s ⟨#[101]⟩,.ns,.ns,.i .i64 2,.i .i64 1,.i .i64 0,.i .i64 0]),(957000130,[.i .i64 0,.i .i64 0,.ns,.i .i64 0,.i .i64 0,.i .i64 1,.ns,.i .i64 1,.i .i64 8,.i .i64 2,.sl 957000122 0 2 1 .en,.i .i64 0]),(957000122,[.i .i64 0,.i .i64 1])],.i .i64 0,[],3954000000⟩
theorem H3 (hL:aj E) {pw:Int} (hP:ba E pw):aF prog E Bo:=aH (aI hL hP (Bn hL hP)) (by decide +kernel)
def Bp:List aV:=Bo::Bm
theorem Bq (hL:aj E) {pw:Int} (hP:ba E pw):∀m∈Bp,aF prog E m:=aA (H3 hL hP) (Bn hL hP)
def Br:aV:=⟨36,[.ag [.sl 957000032 0 3 2 .en,.ns,.sl 957000202 0 3 7 .en]],[(957000032,[.s ⟨#[122]⟩,.i .i64 0,.s ⟨#[111,110,101]⟩,.i .i64 0,.s ⟨#[99]⟩,.i .i64 1]),(957000202,[.s ⟨#[97]⟩,.ns,.sl 957000130 0 3 4 .en,.i .i64 0,.i .i64 0,.i .i64 1,.i .i64 0,.s ⟨#[98]⟩,.ns,.ns,.i .i64 2,.i .i64 0,.i .i64 0,.i .i64 0,.s ⟨#[101]⟩,.ns,.ns,.i .i64 2,.i .i64 1,.i .i64 0,.i .i64 0]),(957000130,[.i .i64 0,.i .i64 0,.ns,.i .i64 0,.i .i64 0,.i .i64 1,.ns,.i .i64 1,.i .i64 8,.i .i64 2,.sl 957000122 0 2 1 .en,.i .i64 0]),(957000122,[.i .i64 0,.i .i64 1])],.b true,[],2955000000⟩
theorem H4 (hL:aj E) {pw:Int} (hP:ba E pw):aF prog E Br:=aH (aI hL hP (Bq hL hP)) (by decide +kernel)
def Bs:List aV:=Br::Bp
theorem Bt (hL:aj E) {pw:Int} (hP:ba E pw):∀m∈Bs,aF prog E m:=aA (H4 hL hP) (Bq hL hP)
def Bu:aV:=⟨67,[.ag [.sl 957000032 0 3 2 .en,.ns,.sl 957000202 0 3 7 .en]],[(957000032,[.s ⟨#[122]⟩,.i .i64 0,.s ⟨#[111,110,101]⟩,.i .i64 0,.s ⟨#[99]⟩,.i .i64 1]),(957000202,[.s ⟨#[97]⟩,.ns,.sl 957000130 0 3 4 .en,.i .i64 0,.i .i64 0,.i .i64 1,.i .i64 0,.s ⟨#[98]⟩,.ns,.ns,.i .i64 2,.i .i64 0,.i .i64 0,.i .i64 0,.s ⟨#[101]⟩,.ns,.ns,.i .i64 2,.i .i64 1,.i .i64 0,.i .i64 0]),(957000130,[.i .i64 0,.i .i64 0,.ns,.i .i64 0,.i .i64 0,.i .i64 1,.ns,.i .i64 1,.i .i64 8,.i .i64 2,.sl 957000122 0 2 1 .en,.i .i64 0]),(957000122,[.i .i64 0,.i .i64 1])],.sl 2952000185 0 2 1 .en,[(2952000185,[.i .i64 0,.i .i64 1])],2952000000⟩
theorem H5 (hL:aj E) {pw:Int} (hP:ba E pw):aF prog E Bu:=aH (aI hL hP (Bt hL hP)) (by decide +kernel)
def Bv:List aV:=Bu::Bs
theorem Bw (hL:aj E) {pw:Int} (hP:ba E pw):∀m∈Bv,aF prog E m:=aA (H5 hL hP) (Bt hL hP)
def Bx:aV:=⟨41,[.ag [.sl 957000032 0 3 2 .en,.ns,.sl 957000202 0 3 7 .en]],[(957000032,[.s ⟨#[122]⟩,.i .i64 0,.s ⟨#[111,110,101]⟩,.i .i64 0,.s ⟨#[99]⟩,.i .i64 1]),(957000202,[.s ⟨#[97]⟩,.ns,.sl 957000130 0 3 4 .en,.i .i64 0,.i .i64 0,.i .i64 1,.i .i64 0,.s ⟨#[98]⟩,.ns,.ns,.i .i64 2,.i .i64 0,.i .i64 0,.i .i64 0,.s ⟨#[101]⟩,.ns,.ns,.i .i64 2,.i .i64 1,.i .i64 0,.i .i64 0]),(957000130,[.i .i64 0,.i .i64 0,.ns,.i .i64 0,.i .i64 0,.i .i64 1,.ns,.i .i64 1,.i .i64 8,.i .i64 2,.sl 957000122 0 2 1 .en,.i .i64 0]),(957000122,[.i .i64 0,.i .i64 1])],.sl 2951000005 0 3 1 (.ex 3),[(2951000005,[.ns,.sl 2951000046 0 1 1 .en,.ns]),(2951000046,[.i .i64 0])],2951000000⟩
theorem H6 (hL:aj E) {pw:Int} (hP:ba E pw):aF prog E Bx:=aH (aI hL hP (Bw hL hP)) (by decide +kernel)
def Bz:List aV:=Bx::Bv
theorem BA (hL:aj E) {pw:Int} (hP:ba E pw):∀m∈Bz,aF prog E m:=aA (H6 hL hP) (Bw hL hP)
def BB:aV:=⟨83,[.ag [.sl 1956000132 0 3 2 .en,.ns,.sl 1956000663 0 2 7 .en]],[(1956000132,[.s ⟨#[122]⟩,.i .i64 0,.s ⟨#[111,110,101]⟩,.i .i64 0,.s ⟨#[99]⟩,.i .i64 1]),(1956000663,[.s ⟨#[97]⟩,.ns,.sl 1956000430 0 3 4 .en,.i .i64 0,.i .i64 0,.i .i64 1,.i .i64 0,.s ⟨#[98]⟩,.ns,.ns,.i .i64 2,.i .i64 0,.i .i64 0,.i .i64 0]),(1956000430,[.i .i64 0,.i .i64 0,.ns,.i .i64 0,.i .i64 0,.i .i64 1,.ns,.i .i64 1,.i .i64 8,.i .i64 2,.sl 1956000422 0 2 1 .en,.i .i64 0]),(1956000422,[.i .i64 0,.i .i64 1])],.b true,[],5947000000⟩
theorem H7 (hL:aj E) {pw:Int} (hP:ba E pw):aF prog E BB:=aH (aI hL hP (BA hL hP)) (by decide +kernel)
def BC:List aV:=BB::Bz
theorem BD (hL:aj E) {pw:Int} (hP:ba E pw):∀m∈BC,aF prog E m:=aA (H7 hL hP) (BA hL hP)
def BE:aV:=⟨64,[.ag [.sl 1956000132 0 3 2 .en,.ns,.sl 1956000663 0 2 7 .en]],[(1956000132,[.s ⟨#[122]⟩,.i .i64 0,.s ⟨#[111,110,101]⟩,.i .i64 0,.s ⟨#[99]⟩,.i .i64 1]),(1956000663,[.s ⟨#[97]⟩,.ns,.sl 1956000430 0 3 4 .en,.i .i64 0,.i .i64 0,.i .i64 1,.i .i64 0,.s ⟨#[98]⟩,.ns,.ns,.i .i64 2,.i .i64 0,.i .i64 0,.i .i64 0]),(1956000430,[.i .i64 0,.i .i64 0,.ns,.i .i64 0,.i .i64 0,.i .i64 1,.ns,.i .i64 1,.i .i64 8,.i .i64 2,.sl 1956000422 0 2 1 .en,.i .i64 0]),(1956000422,[.i .i64 0,.i .i64 1])],.i .i64 0,[],4948000000⟩
theorem H8 (hL:aj E) {pw:Int} (hP:ba E pw):aF prog E BE:=aH (aI hL hP (BD hL hP)) (by decide +kernel)
def BF:List aV:=BE::BC
theorem BG (hL:aj E) {pw:Int} (hP:ba E pw):∀m∈BF,aF prog E m:=aA (H8 hL hP) (BD hL hP)
def BH:aV:=⟨36,[.ag [.sl 1956000132 0 3 2 .en,.ns,.sl 1956000663 0 2 7 .en]],[(1956000132,[.s ⟨#[122]⟩,.i .i64 0,.s ⟨#[111,110,101]⟩,.i .i64 0,.s ⟨#[99]⟩,.i .i64 1]),(1956000663,[.s ⟨#[97]⟩,.ns,.sl 1956000430 0 3 4 .en,.i .i64 0,.i .i64 0,.i .i64 1,.i .i64 0,.s ⟨#[98]⟩,.ns,.ns,.i .i64 2,.i .i64 0,.i .i64 0,.i .i64 0]),(1956000430,[.i .i64 0,.i .i64 0,.ns,.i .i64 0,.i .i64 0,.i .i64 1,.ns,.i .i64 1,.i .i64 8,.i .i64 2,.sl 1956000422 0 2 1 .en,.i .i64 0]),(1956000422,[.i .i64 0,.i .i64 1])],.b true,[],3949000000⟩
theorem H9 (hL:aj E) {pw:Int} (hP:ba E pw):aF prog E BH:=aH (aI hL hP (BG hL hP)) (by decide +kernel)
def BI:List aV:=BH::BF
theorem BJ (hL:aj E) {pw:Int} (hP:ba E pw):∀m∈BI,aF prog E m:=aA (H9 hL hP) (BG hL hP)
def BK:aV:=⟨41,[.ag [.sl 1956000132 0 3 2 .en,.ns,.sl 1956000663 0 2 7 .en]],[(1956000132,[.s ⟨#[122]⟩,.i .i64 0,.s ⟨#[111,110,101]⟩,.i .i64 0,.s ⟨#[99]⟩,.i .i64 1]),(1956000663,[.s ⟨#[97]⟩,.ns,.sl 1956000430 0 3 4 .en,.i .i64 0,.i .i64 0,.i .i64 1,.i .i64 0,.s ⟨#[98]⟩,.ns,.ns,.i .i64 2,.i .i64 0,.i .i64 0,.i .i64 0]),(1956000430,[.i .i64 0,.i .i64 0,.ns,.i .i64 0,.i .i64 0,.i .i64 1,.ns,.i .i64 1,.i .i64 8,.i .i64 2,.sl 1956000422 0 2 1 .en,.i .i64 0]),(1956000422,[.i .i64 0,.i .i64 1])],.sl 3946000005 0 2 1 (.ex 2),[(3946000005,[.ns,.sl 3946000046 0 1 1 .en]),(3946000046,[.i .i64 0])],3946000000⟩
theorem Ia (hL:aj E) {pw:Int} (hP:ba E pw):aF prog E BK:=aH (aI hL hP (BJ hL hP)) (by decide +kernel)
def BL:List aV:=BK::BI
theorem BM (hL:aj E) {pw:Int} (hP:ba E pw):∀m∈BL,aF prog E m:=aA (Ia hL hP) (BJ hL hP)
def BN:aV:=⟨20,[.ag [.sl 1956000132 0 3 2 .en,.ns,.sl 1956000663 0 2 7 .en]],[(1956000132,[.s ⟨#[122]⟩,.i .i64 0,.s ⟨#[111,110,101]⟩,.i .i64 0,.s ⟨#[99]⟩,.i .i64 1]),(1956000663,[.s ⟨#[97]⟩,.ns,.sl 1956000430 0 3 4 .en,.i .i64 0,.i .i64 0,.i .i64 1,.i .i64 0,.s ⟨#[98]⟩,.ns,.ns,.i .i64 2,.i .i64 0,.i .i64 0,.i .i64 0]),(1956000430,[.i .i64 0,.i .i64 0,.ns,.i .i64 0,.i .i64 0,.i .i64 1,.ns,.i .i64 1,.i .i64 8,.i .i64 2,.sl 1956000422 0 2 1 .en,.i .i64 0]),(1956000422,[.i .i64 0,.i .i64 1])],.i .i64 0,[],2950000000⟩
theorem Ib (hL:aj E) {pw:Int} (hP:ba E pw):aF prog E BN:=aH (aI hL hP (BM hL hP)) (by decide +kernel)
def BO:List aV:=BN::BL
theorem BP (hL:aj E) {pw:Int} (hP:ba E pw):∀m∈BO,aF prog E m:=aA (Ib hL hP) (BM hL hP)
def BQ:aV:=⟨22,[.ag [.sl 957000032 0 3 2 .en,.ns,.sl 957000202 0 3 7 .en]],[(957000032,[.s ⟨#[122]⟩,.i .i64 0,.s ⟨#[111,110,101]⟩,.i .i64 0,.s ⟨#[99]⟩,.i .i64 1]),(957000202,[.s ⟨#[97]⟩,.ns,.sl 957000130 0 3 4 .en,.i .i64 0,.i .i64 0,.i .i64 1,.i .i64 0,.s ⟨#[98]⟩,.ns,.ns,.i .i64 2,.i .i64 0,.i .i64 0,.i .i64 0,.s ⟨#[101]⟩,.ns,.ns,.i .i64 2,.i .i64 1,.i .i64 0,.i .i64 0]),(957000130,[.i .i64 0,.i .i64 0,.ns,.i .i64 0,.i .i64 0,.i .i64 1,.ns,.i .i64 1,.i .i64 8,.i .i64 2,.sl 957000122 0 2 1 .en,.i .i64 0]),(957000122,[.i .i64 0,.i .i64 1])],.tu [.ag [.sl 1956000132 0 3 2 .en,.ns,.sl 1956000663 0 2 7 .en],.i .i64 0],[(1956000132,[.s ⟨#[122]⟩,.i .i64 0,.s ⟨#[111,110,101]⟩,.i .i64 0,.s ⟨#[99]⟩,.i .i64 1]),(1956000663,[.s ⟨#[97]⟩,.ns,.sl 1956000430 0 3 4 .en,.i .i64 0,.i .i64 0,.i .i64 1,.i .i64 0,.s ⟨#[98]⟩,.ns,.ns,.i .i64 2,.i .i64 0,.i .i64 0,.i .i64 0]),(1956000430,[.i .i64 0,.i .i64 0,.ns,.i .i64 0,.i .i64 0,.i .i64 1,.ns,.i .i64 1,.i .i64 8,.i .i64 2,.sl 1956000422 0 2 1 .en,.i .i64 0]),(1956000422,[.i .i64 0,.i .i64 1])],1956000000⟩
theorem Ic (hL:aj E) {pw:Int} (hP:ba E pw):aF prog E BQ:=aH (aI hL hP (BP hL hP)) (by decide +kernel)
def BR:List aV:=BQ::BO
theorem BS (hL:aj E) {pw:Int} (hP:ba E pw):∀m∈BR,aF prog E m:=aA (Ic hL hP) (BP hL hP)
def BT:aV:=⟨7,[.ag [.sl 4 0 3 2 (.ex 3),.ns,.sl 17 0 3 7 (.ex 3)],.sl 35 0 3 1 (.ex 3)],[(4,[.s ⟨#[122]⟩,.i .i64 0,.s ⟨#[111,110,101]⟩,.i .i64 0,.s ⟨#[99]⟩,.i .i64 1]),(17,[.s ⟨#[97]⟩,.ns,.sl 9 0 3 4 (.ex 3),.i .i64 1,.i .i64 2,.i .i64 1,.i .i64 2,.s ⟨#[98]⟩,.ns,.ns,.i .i64 2,.i .i64 0,.i .i64 0,.i .i64 0,.s ⟨#[101]⟩,.ns,.ns,.i .i64 2,.i .i64 1,.i .i64 0,.i .i64 0]),(9,[.i .i64 0,.i .i64 0,.ns,.i .i64 0,.i .i64 0,.i .i64 1,.ns,.i .i64 1,.i .i64 8,.i .i64 2,.sl 7 0 2 1 (.ex 2),.i .i64 0]),(7,[.i .i64 0,.i .i64 1]),(35,[.i .i64 1,.i .i64 0,.i .i64 0])],.tu [.ag [.sl 957000297 0 3 2 .en,.ns,.sl 957000298 0 2 7 .en],.i .i64 0],[(957000297,[.s ⟨#[122]⟩,.i .i64 0,.s ⟨#[111,110,101]⟩,.i .i64 0,.s ⟨#[99]⟩,.i .i64 1]),(957000298,[.s ⟨#[97]⟩,.ns,.sl 957000299 0 3 4 .en,.i .i64 0,.i .i64 0,.i .i64 1,.i .i64 0,.s ⟨#[98]⟩,.ns,.ns,.i .i64 2,.i .i64 0,.i .i64 0,.i .i64 0]),(957000299,[.i .i64 0,.i .i64 0,.ns,.i .i64 0,.i .i64 0,.i .i64 1,.ns,.i .i64 1,.i .i64 8,.i .i64 2,.sl 957000300 0 2 1 .en,.i .i64 0]),(957000300,[.i .i64 0,.i .i64 1])],957000000⟩
theorem Id (hL:aj E) {pw:Int} (hP:ba E pw):aF prog E BT:=aH (aI hL hP (BS hL hP)) (by decide +kernel)
def Ie:List aV:=BT::BR
theorem Ig (hL:aj E) {pw:Int} (hP:ba E pw):∀m∈Ie,aF prog E m:=aA (Id hL hP) (BS hL hP)
theorem th (hL:aj E) {pw:Int} (hP:ba E pw):aZ prog E 5 [] (.bool true):=
 u7 IC (pX (ta (u9 hL)) (pX (r6 hP) (tf (Ig hL hP)))) (fuel:=600) (d:=60) (by decide +kernel)
end
section
open Go.Proofs.Tryz
open Go.Proofs Go.Lib Go.Shelf Go.RowKit Go.WideShapes
set_option maxRecDepth 20000
variable {W:World}
theorem Ih (h:W.ShapedOpen prog):∃m,ba W m:=
 Fo (P:=prog) (g:=2) (t:=368) (u:=130) (zero:=Array.replicate 20 (.int .u64 0)) (ts:=List.replicate 20 130) (i:=2) h (w9 (by kernel_rfl)) (by kernel_rfl) (by kernel_rfl) (by kernel_rfl) (by decide) rfl Zd
theorem Ii {H:Type} {enc:TypeId × Value→H} {os:Os} {f:FuncId} {fn:Func} {s:ChangeSpec} {X:World→Array Value→Prop}
  (hX:∀(w w':World) (args:Array Value),w.heap=w'.heap→X w args→X w' args)
  (own:ownKnob prog.godebug=none) (started:os.Started) (noInit:prog.inits.idxOf? f=none) (hfn:prog.funcs[f]?=some fn)
  (witness:∃(w:World) (tape:Tape) (i:Input),w.os=os∧(w.forCall tape i).Shaped Tryz.checked.prog∧i.vars=[]∧Input.okWide Tryz.checked.prog (w.forCall tape i) .any w.heap.size f i ∧
   ((s.pre enc Tryz.checked.prog fn [] false (w.forCall tape i).memory i.args∧X (w.forCall tape i).memory i.args)∧sizedMet enc Tryz.checked.prog fn (OpenSpec.ofChange s) false (w.forCall tape i).memory i.args)∧({}:Assume).holds Tryz.checked.prog (lone (Frame.enter Tryz.checked.prog f i.args .normal) [] (w.forCall tape i)))
  (contract:∀(W:World) (base:Nat) (args:Array Value) (ds gs:List (DataW H)) (before:List MemPlace),
   (∀(j:Nat) t v,fn.params[j]?=some t→args[j]?=some v→Value.okWide prog W .any base t v) →
   DataW.Whole enc prog fn.params.toList s.vars false W args.toList ds gs before→X W args→W.ShapedOpen prog →
   Calls prog f args W fun e W'=>∃v,e=.returned v∧s.post enc prog fn false true false false W args v W') :
  ReturnsInHanded {} Tryz.checked os f .any (fun w args=>(s.pre enc prog fn [] false w args∧X w args)∧sizedMet enc prog fn (OpenSpec.ofChange s) false w args) (s.post enc prog fn false true false false):=by
 refine returnsInHanded_of_calls own started noInit witness fun w tape i _ hsh _ hok hpre _=>?_
 obtain ⟨_,_,_,fn',hfn',_,_,_,_,hval⟩:=hok
 have e:fn'=fn:=Option.some.inj (hfn'.symm.trans hfn)
 rw[e] at hval
 obtain ⟨⟨⟨ds,gs,before,hw,_⟩,hx⟩,_⟩:=hpre
 exact (contract _ _ i.args ds gs before hval (DataW.Whole.of_heap (w':=w.forCall tape i) (by rfl) hw) (hX _ _ _ (by rfl) hx) hsh).mono fun e W' ⟨v,he,hp⟩=>by rw[he];exact ChangeSpec.post_blind hp
end
section
open Go.Proofs.Tryz
open Go.Proofs
theorem LB:prog.mayEnter=true:=by kernel_rfl
theorem K9:(Rows.foldRunsRow.lifted == prog.liftsFinal)=true:=by kernel_rfl
theorem La:(prog.make == some Rows.foldRunsRow.make)=true:=by kernel_rfl
theorem Lb:laidOutB prog=true:=by kernel_rfl
theorem LC:mapsRowed prog=true:=by kernel_rfl
theorem Lc:(prog.stops == [])=true:=by kernel_rfl
theorem Ld:(prog.stopKnobs == [])=true:=by kernel_rfl
theorem Le:(Rows.foldRunsRow.plainKeys == prog.plainKeys)=true:=by kernel_rfl
theorem JR:prog.stopsHeard=true:=by kernel_rfl
theorem LQ:(Rows.foldRunsRow.inPlace == prog.inPlace 4)=true:=by kernel_rfl
theorem LR:(Rows.foldRunsRow.unfollowed == prog.unfollowed 4)=true:=by kernel_rfl
theorem LD:(Rows.foldRunsRow.recurses == prog.recurses 4)=true:=by kernel_rfl
theorem LE:(Rows.foldRunsRow.named == prog.varsNamed 4)=true:=by kernel_rfl
theorem closed:joinedFacts prog 4 Tryz.f4 Rows.foldRunsSpec Rows.foldRunsRow=true:=by
 unfold joinedFacts
 rw[Lb,LC,Lc,Ld,LQ,LR,LD,LE,Le,JR,LB,K9,La]
 kernel_rfl
end
section
open Go.Proofs.Tryz
open Go.Proofs Go.Lib Go.Shelf Go.RowKit Go.WideShapes
set_option maxRecDepth 20000
variable {W:World}
theorem ID {n:Int} (h:(Lit.int .i64 n).wf=true):cG n:=by simpa [cG,Lit.wf,IntKind.min,IntKind.max,IntKind.signed,IntKind.bits] using h
theorem JS:fQ prog W 80 EM (fun a=>cG a.int):=fun en held fuel cs x h=>by
 obtain ⟨xs,n,_,_,hl,hxl,hf⟩:=DataW.trod_struct Yn h
 have hl:cs.length=3:=hl.trans (by kernel_rfl)
 have hxl:xs.length=3:=hxl
 obtain ⟨a,ha,ra⟩:=qh (o:=0) (k:=1) (hf 0 _ rfl) (fQ.int Zl) (by omega) rfl (by kernel_rfl)
 obtain ⟨b,_,rb⟩:=qh (o:=1) (k:=1) (hf 1 _ rfl) (fQ.bool Yl) (by omega) rfl (by kernel_rfl)
 obtain ⟨c,_,rc⟩:=qh (o:=2) (k:=1) (hf 2 _ rfl) C6 (by omega) rfl (by kernel_rfl)
 exact ⟨⟨a,b,c⟩,ID ha,qa (o:=0) ra (qa rb (qa rc (RepL.fin hl)))⟩
theorem JT:fQ prog W 44 EN (fun r=>∀x∈r,cG x):=fun en held fuel cs x h=>by
 obtain ⟨l,hl,r⟩:=fQ.slice (k:=1) jr (fQ.int Zl) (by kernel_rfl) (by decide) en held fuel cs x h
 exact ⟨l,fun x hx=>ID (hl.1 x hx),r⟩
theorem Lf:fQ prog W 38 rQ (fun i=>Jf i∧i.args.length≤9223372036854775807∧i.arrays.length≤9223372036854775807):=fun en held fuel cs x h=>by
 obtain ⟨xs,n,_,_,hl,hxl,hf⟩:=DataW.trod_struct Zw h
 have hl:cs.length=2:=hl.trans (by kernel_rfl)
 have hxl:xs.length=2:=hxl
 obtain ⟨a,ha,ra⟩:=qh (o:=0) (k:=1) (hf 0 _ rfl) (fQ.slice (k:=3) Yh JS (by kernel_rfl) (by decide)) (by omega) rfl (by kernel_rfl)
 obtain ⟨b,hb,rb⟩:=qh (o:=1) (k:=1) (hf 1 _ rfl) (fQ.slice (k:=1) Z9 JT (by kernel_rfl) (by decide)) (by omega) rfl (by kernel_rfl)
 exact ⟨⟨a,b⟩,⟨⟨ha.1,hb.1⟩,ha.2,hb.2⟩,qa (o:=0) ra (qa rb (RepL.fin hl))⟩
end
section
open Go.Proofs.Tryz
open Go.Proofs Go.Lib Go.Shelf Go.RowKit Go.WideShapes
set_option maxRecDepth 20000
variable {W:World}
theorem JU {H:Type} {enc:TypeId × Value→H} {held:Bool} {T:TypeId} {base:Nat} {v:Value} {d:DataW H} {p:List MemPlace} (ht:prog.underlying T=some (.int .u16))
  (hv:Value.okWide prog W .any base T v) (h:DataW.Trod enc prog W 0 (fun _=>true) held T v d p):∃n:Int,(0≤n∧n≤65535)∧v=.int .u16 n:=by
 obtain ⟨n,rfl⟩:=okWide_int ht hv
 obtain ⟨fuel,h⟩:=h
 obtain ⟨m,h1,h2⟩:=fQ.int ht enc held fuel _ _ h
 obtain ⟨v,_,e,h2,h3⟩:=h2
 cases e
 cases h2
 exact ⟨n,by simpa [Lit.wf,IntKind.min,IntKind.max,IntKind.signed,IntKind.bits] using h1,rfl⟩
end
end Go.Proofs.YtjpnhkmfhlnpcaaGreatDoor
