/- What is asked of the program itself, of the law DropTells, fact for fact. No conditions. -/
import Derived.Test.YtbconpmnckokoaaGreatDoorJl
import Derived.Test.YtbconpmnckokoaaGreatDoorJb
import Derived.Test.YtbconpmnckokoaaGreatDoorJc
import Derived.Test.YtbconpmnckokoaaGreatDoorJf
import Derived.Test.YtbconpmnckokoaaGreatDoorJh
import Derived.Test.YtbconpmnckokoaaGreatDoorJi
import Derived.Test.YtbconpmnckokoaaGreatDoorJg
import Derived.Handed
import Derived.Test.YtbconpmnckokoaaGreatDoorRows
import Derived.Test.YtbconpmnckokoaaGreatDoorChecked
import Derived.ProofKit
import Derived.JoinedOf
set_option linter.unusedVariables false
set_option linter.unusedSimpArgs false
set_option linter.unusedSectionVars false
namespace Go.Proofs.YtbconpmnckokoaaGreatDoor
section
open Go.Proofs.Tryz
open Go.Proofs Go.Lib Go.Shelf Go.RowKit
variable {E:World} {m:Int}
set_option maxRecDepth 100000
theorem tE {I:aF} {O:List (Nat × Obj)} {w:World} {a:Addr} {v:Value} (h:E.cell? a=some v) (hS:SL I O E w):w.cell? a=some v:=by
 unfold World.cell? at *
 cases hh:E.heap[a.block]? with
 |none=>rw[hh] at h;cases h
 |some o=>rw[hh] at h;rw[hS.pers _ _ (hS.base _ _ hh)];exact h
def aK (E:World) (m:Int):Prop:=E.cell? ⟨2,2,none⟩=some (.int .u64 m)
theorem lz (hM:aK E m) (u:Nat) (h1:100≤u) (h2:u<512):aQ prog E 260 [.int .u64 u] (.int .i64 (2+if m≤(u:Int) then 1 else 0)):=fun I F w vs h1' h2'=>by
 obtain ⟨v,us,rfl,h3,h5⟩:=h1'
 have h3:v=.int .u64 u:=h3
 have h5:us=[]:=h5
 subst h3 h5
 obtain ⟨ht,L,hL,hS⟩:=h2'
 have hL:L=[]:=hL
 subst hL
 refine Fn.ofCalls func260 Z (by decide) ?_
 exact (vq (ρ:=Tryz.laysM284_ren) Tryz.laysM284 u h1 h2 w m (tE hM hS)).mono fun e w' ⟨he,hw⟩=>⟨_,he,I,.int .i64 (2+if m≤(u:Int) then 1 else 0),[],.refl _,rfl,⟨ht,[],rfl,by rw[hw];exact hS⟩,rfl⟩
def vu (k:Nat) (d:Int):nh:=fun f ar=>match f,ar with
 |260,[.i .u64 n]=>bif decide (n=(k:Int)) then some (.v (.i .i64 d)) else none
 |_,_=>none
theorem vv (hM:aK E m) {k:Nat} (h1:100≤k) (h2:k<512):mo prog E (vu k (2+if m≤(k:Int) then 1 else 0)):=by
 constructor
 ·intro f ar x h
  unfold vu at h
  split at h
  ·rename_i n
   cases hb:decide (n=(k:Int)) with
   |false=>rw[hb] at h;cases h
   |true=>
    rw[hb] at h;cases h
    have hb:=of_decide_eq_true hb
    subst hb
    refine ⟨_,_,lz hM k h1 h2,fun φ vs hr I=>?_,fun I v hv φ=>hv⟩
    obtain ⟨v,us,rfl,h1,h2⟩:=hr
    exact ⟨v,us,rfl,h1,h2⟩
  ·cases h
 ·intro f ar l h
  unfold vu at h
  split at h
  ·rename_i n
   cases hb:decide (n=(k:Int))<;>(rw[hb] at h;cases h)
  ·cases h
theorem Ad:prog.follows .mixedOrders=true:=by kernel_rfl
noncomputable def zH (k:Nat) (d:Int):bv:=rZ prog (tA prog) (vl (vu k d)) 60 20
noncomputable def kJ (k:Nat) (d:Int):Bool:=match zH k d 241 [.i .i64 (.ofNat k)] .lf 0 with
 |some (.s t,_,_)=>Nat.ble 2 t.data.toList.length&&Nat.ble t.data.toList.length 3
 |_=>false
noncomputable def um (j:Nat):Bool:=(List.range 46).all fun i=>kJ (100+46*j+i) 2&&kJ (100+46*j+i) 3
theorem Au:um 0=true:=by decide +kernel
theorem Av:um 1=true:=by decide +kernel
theorem Aw:um 2=true:=by decide +kernel
theorem Ax:um 3=true:=by decide +kernel
theorem Ay:um 4=true:=by decide +kernel
theorem Az:um 5=true:=by decide +kernel
theorem AA:um 6=true:=by decide +kernel
theorem AB:um 7=true:=by decide +kernel
theorem AC:um 8=true:=by decide +kernel
theorem vw:∀j:Nat,j<9→um j=true
 |0,_=>Au
 |1,_=>Av
 |2,_=>Aw
 |3,_=>Ax
 |4,_=>Ay
 |5,_=>Az
 |6,_=>AA
 |7,_=>AB
 |8,_=>AC
 |n+9,h=>absurd h (by omega)
theorem r2 {k:Nat} (h1:100≤k) (h2:k<512):kJ k 2=true∧kJ k 3=true:=by
 have:=List.all_eq_true.1 (vw ((k - 100) / 46) (by omega)) ((k - 100) % 46) (List.mem_range.2 (by omega))
 rw[q1,show 100+46*((k - 100) / 46)+(k - 100) % 46=k by omega] at this
 exact this
noncomputable def Ae (k:Nat):aH:=⟨241,[.i .i64 (.ofNat k)],[],.us 2 3,[],0⟩
theorem vx (hM:aK E m) {k:Nat} (h1:100≤k) (h2:k<512):au prog E (Ae k):=fun φ I F w vs hi hr hS ht=>by
 have hc:kJ k (2+if m≤(k:Int) then 1 else 0)=true:=by
  have:=r2 h1 h2
  split
  ·exact this.2
  ·exact this.1
 unfold kJ at hc
 split at hc
 ·rename_i t H' nx' he
  rw[q1] at hc
  have hM':au prog E ⟨241,[.i .i64 (.ofNat k)],[],.s t,[],0⟩:=tD (hH Ad lu (ls (vv hM h1 (by omega))) 60 20) rfl (by
   show (match zH k (2+if m≤(k:Int) then 1 else 0) 241 [.i .i64 (.ofNat k)] .lf 0 with|some (x,H',_)=>some (x,[])|none=>none)=some (.s t,[])
   rw[he])
  refine (hM' φ I F w vs hi hr hS ht).mono fun v w' ⟨J,ψ,a,b,c,d⟩=>⟨J,ψ,a,b,⟨t,c,Nat.le_of_ble_eq_true hc.1,Nat.le_of_ble_eq_true hc.2⟩,d⟩
 ·cases hc
noncomputable def nn:bv:=fun f ar H nx=>match ar with
 |[.i .i64 (.ofNat k)]=>bif Nat.beq f 241&&(Nat.ble 100 k&&Nat.blt k 512) then some (.us 2 3,H,nx) else none
 |_=>none
theorem kK (hM:aK E m):bM prog E nn:=fun f ar H nx x H' nx' h φ I F w vs hR hr=>by
 unfold nn at h
 split at h
 ·rename_i k
  cases hb:(Nat.beq f 241&&(Nat.ble 100 k&&Nat.blt k 512)) with
  |false=>rw[hb] at h;cases h
  |true=>
   rw[hb,cond_true] at h
   cases h
   simp only[q1] at hb
   obtain rfl:=Nat.eq_of_beq_eq_true hb.1
   obtain ⟨M,L,hn,hm,hrep,hS⟩:=hR.ex
   exact (vx hM (Nat.le_of_ble_eq_true hb.2.1) (Nat.le_of_ble_eq_true hb.2.2) (fun _=>none) I (L++F) w vs (fun _ h=>nomatch h) hr hS fun _ _=>rfl).mono fun v w' ⟨J,ψ,a,_,c,_,e⟩=>⟨J,φ,a,.refl _,fun _ _ _=>rfl,Nat.le_refl _,c,hR.top,M,L,hn,hm,hrep.mono a (.refl _),e⟩
 ·cases h
end
section
open Go.Proofs.Tryz
open Go.Proofs Go.Lib Go.Shelf Go.RowKit
variable {E:World}
set_option maxRecDepth 100000
def oo:nh:=fun f ar=>match f,ar with
 |82,[.i .i32 c]=>bif decide (-2147483648≤c)&&decide (c≤2147483647) then some (.v (.b (isLetterU c))) else none
 |80,[.i .i64 op]=>some (.v (.ag [.s (bf op).1,.s (bf op).2.1,.s (bf op).2.2]))
 |_,_=>none
theorem mr (hL:ac E):mo prog E oo:=by
 constructor
 ·intro f ar x h
  unfold oo at h
  split at h
  ·rename_i c
   cases hb:(decide (-2147483648≤c)&&decide (c≤2147483647)) with
   |false=>rw[hb] at h;cases h
   |true=>
    rw[hb] at h;cases h
    simp only[q1,decide_eq_true_eq] at hb
    refine ⟨_,_,eQ c hb.1 hb.2 hL,fun φ vs hr I=>?_,fun I v hv φ=>hv⟩
    obtain ⟨v,us,rfl,h1,h2⟩:=hr
    exact ⟨v,us,rfl,h1,h2⟩
  ·rename_i op
   cases h
   refine ⟨_,_,gN op,fun φ vs hr I=>?_,fun I v hv φ=>?_⟩
   ·obtain ⟨v,us,rfl,h1,h2⟩:=hr
    exact ⟨v,us,rfl,h1,h2⟩
   ·obtain ⟨vs,e,v1,u1,rfl,h1,v2,u2,rfl,h2,v3,u3,rfl,h3,h4⟩:=hv
    have h4:u3=[]:=h4
    subst h4
    exact ⟨_,e,v1,_,rfl,h1,v2,_,rfl,h2,v3,_,rfl,h3,rfl⟩
  ·cases h
 ·intro f ar l h
  unfold oo at h
  split at h
  ·rename_i c
   cases hb:(decide (-2147483648≤c)&&decide (c≤2147483647))<;>(rw[hb] at h;cases h)
  ·cases h
  ·cases h
theorem wR:prog.follows .mixedOrders=true:=by kernel_rfl
noncomputable def zI (l:List aH):bv:=rZ prog (tA prog) (zE (vl oo) (zE nn (xp l))) 600 60
theorem az (hL:ac E) {pw:Int} (hP:aK E pw) {l:List aH} (h:∀m∈l,au prog E m):bM prog E (zI l):=hH wR lu (jN (ls (mr hL)) (jN (kK hP) (ly h))) 600 60
theorem ao {m:aH} {l:List aH} (h1:au prog E m) (h2:∀r∈l,au prog E r):∀r∈m::l,au prog E r:=fun r hr=>(List.mem_cons.1 hr).elim (fun e=>e▸h1) (h2 r)
def tF:List aH:=[]
theorem tG (hL:ac E) {pw:Int} (hP:aK E pw):∀m∈tF,au prog E m:=fun _ h=>nomatch h
def tH:aH:=⟨34,[.ag [.sl 3 0 2 2 (.ex 2),.sl 4 0 2 1 (.ex 2),.sl 12 0 1 7 (.ex 1)]],[(3,[.s ⟨#[120,115]⟩,.i .i64 2,.s ⟨#[105]⟩,.i .i64 0]),(4,[.i .i64 0,.i .i64 1]),(12,[.s ⟨#[97]⟩,.ns,.sl 9 0 2 4 (.ex 2),.i .i64 2,.i .i64 1,.i .i64 0,.i .i64 0]),(9,[.i .i64 18,.i .i64 (-1),.sl 5 0 2 1 (.ex 2),.i .i64 0,.i .i64 18,.i .i64 (-1),.sl 7 0 2 1 (.ex 2),.i .i64 0]),(5,[.i .i64 0,.i .i64 1]),(7,[.i .i64 0,.i .i64 1])],.b true,[],6993000000⟩
theorem xq (hL:ac E) {pw:Int} (hP:aK E pw):au prog E tH:=ay (az hL hP (tG hL hP)) (by decide +kernel)
def tI:List aH:=tH::tF
theorem tJ (hL:ac E) {pw:Int} (hP:aK E pw):∀m∈tI,au prog E m:=ao (xq hL hP) (tG hL hP)
def tK:aH:=⟨23,[.ag [.sl 3 0 2 2 (.ex 2),.sl 4 0 2 1 (.ex 2),.sl 12 0 1 7 (.ex 1)]],[(3,[.s ⟨#[120,115]⟩,.i .i64 2,.s ⟨#[105]⟩,.i .i64 0]),(4,[.i .i64 0,.i .i64 1]),(12,[.s ⟨#[97]⟩,.ns,.sl 9 0 2 4 (.ex 2),.i .i64 2,.i .i64 1,.i .i64 0,.i .i64 0]),(9,[.i .i64 18,.i .i64 (-1),.sl 5 0 2 1 (.ex 2),.i .i64 0,.i .i64 18,.i .i64 (-1),.sl 7 0 2 1 (.ex 2),.i .i64 0]),(5,[.i .i64 0,.i .i64 1]),(7,[.i .i64 0,.i .i64 1])],.i .i64 0,[],5994000000⟩
theorem xr (hL:ac E) {pw:Int} (hP:aK E pw):au prog E tK:=ay (az hL hP (tJ hL hP)) (by decide +kernel)
def tL:List aH:=tK::tI
theorem tM (hL:ac E) {pw:Int} (hP:aK E pw):∀m∈tL,au prog E m:=ao (xr hL hP) (tJ hL hP)
def tN:aH:=⟨102,[.ag [.sl 3 0 2 2 (.ex 2),.sl 4 0 2 1 (.ex 2),.sl 12 0 1 7 (.ex 1)]],[(3,[.s ⟨#[120,115]⟩,.i .i64 2,.s ⟨#[105]⟩,.i .i64 0]),(4,[.i .i64 0,.i .i64 1]),(12,[.s ⟨#[97]⟩,.ns,.sl 9 0 2 4 (.ex 2),.i .i64 2,.i .i64 1,.i .i64 0,.i .i64 0]),(9,[.i .i64 18,.i .i64 (-1),.sl 5 0 2 1 (.ex 2),.i .i64 0,.i .i64 18,.i .i64 (-1),.sl 7 0 2 1 (.ex 2),.i .i64 0]),(5,[.i .i64 0,.i .i64 1]),(7,[.i .i64 0,.i .i64 1])],.b true,[],4995000000⟩
theorem xt (hL:ac E) {pw:Int} (hP:aK E pw):au prog E tN:=ay (az hL hP (tM hL hP)) (by decide +kernel)
def tO:List aH:=tN::tL
theorem tP (hL:ac E) {pw:Int} (hP:aK E pw):∀m∈tO,au prog E m:=ao (xt hL hP) (tM hL hP)
def tQ:aH:=⟨103,[.ag [.sl 3 0 2 2 (.ex 2),.sl 4 0 2 1 (.ex 2),.sl 12 0 1 7 (.ex 1)]],[(3,[.s ⟨#[120,115]⟩,.i .i64 2,.s ⟨#[105]⟩,.i .i64 0]),(4,[.i .i64 0,.i .i64 1]),(12,[.s ⟨#[97]⟩,.ns,.sl 9 0 2 4 (.ex 2),.i .i64 2,.i .i64 1,.i .i64 0,.i .i64 0]),(9,[.i .i64 18,.i .i64 (-1),.sl 5 0 2 1 (.ex 2),.i .i64 0,.i .i64 18,.i .i64 (-1),.sl 7 0 2 1 (.ex 2),.i .i64 0]),(5,[.i .i64 0,.i .i64 1]),(7,[.i .i64 0,.i .i64 1])],.sl 4992000005 0 1 1 (.ex 1),[(4992000005,[.ns])],4992000000⟩
theorem xu (hL:ac E) {pw:Int} (hP:aK E pw):au prog E tQ:=ay (az hL hP (tP hL hP)) (by decide +kernel)
def tR:List aH:=tQ::tO
theorem tS (hL:ac E) {pw:Int} (hP:aK E pw):∀m∈tR,au prog E m:=ao (xu hL hP) (tP hL hP)
def tT:aH:=⟨124,[.ag [.sl 3 0 2 2 (.ex 2),.sl 4 0 2 1 (.ex 2),.sl 12 0 1 7 (.ex 1)]],[(3,[.s ⟨#[120,115]⟩,.i .i64 2,.s ⟨#[105]⟩,.i .i64 0]),(4,[.i .i64 0,.i .i64 1]),(12,[.s ⟨#[97]⟩,.ns,.sl 9 0 2 4 (.ex 2),.i .i64 2,.i .i64 1,.i .i64 0,.i .i64 0]),(9,[.i .i64 18,.i .i64 (-1),.sl 5 0 2 1 (.ex 2),.i .i64 0,.i .i64 18,.i .i64 (-1),.sl 7 0 2 1 (.ex 2),.i .i64 0]),(5,[.i .i64 0,.i .i64 1]),(7,[.i .i64 0,.i .i64 1])],.sl 4991000064 0 1 1 .en,[(4991000064,[.i .i64 0])],4991000000⟩
theorem xv (hL:ac E) {pw:Int} (hP:aK E pw):au prog E tT:=ay (az hL hP (tS hL hP)) (by decide +kernel)
def tU:List aH:=tT::tR
theorem tV (hL:ac E) {pw:Int} (hP:aK E pw):∀m∈tU,au prog E m:=ao (xv hL hP) (tS hL hP)
def tW:aH:=⟨98,[.sl 4990000012 0 1 1 .en,.sl 4990000032 0 1 1 (.ex 1),.i .i64 1],[(4990000012,[.i .i64 0]),(4990000032,[.ns])],.sl 5989000090 0 1 1 (.ex 1),[(5989000090,[.i .i64 (-1)])],5989000000⟩
theorem xw (hL:ac E) {pw:Int} (hP:aK E pw):au prog E tW:=ay (az hL hP (tV hL hP)) (by decide +kernel)
def tX:List aH:=tW::tU
theorem tY (hL:ac E) {pw:Int} (hP:aK E pw):∀m∈tX,au prog E m:=ao (xw hL hP) (tV hL hP)
def tZ:aH:=⟨84,[.ag [.sl 3 0 2 2 (.ex 2),.sl 4 0 2 1 (.ex 2),.sl 12 0 1 7 (.ex 1)]],[(3,[.s ⟨#[120,115]⟩,.i .i64 2,.s ⟨#[105]⟩,.i .i64 0]),(4,[.i .i64 0,.i .i64 1]),(12,[.s ⟨#[97]⟩,.ns,.sl 9 0 2 4 (.ex 2),.i .i64 2,.i .i64 1,.i .i64 0,.i .i64 0]),(9,[.i .i64 18,.i .i64 (-1),.sl 5 0 2 1 (.ex 2),.i .i64 0,.i .i64 18,.i .i64 (-1),.sl 7 0 2 1 (.ex 2),.i .i64 0]),(5,[.i .i64 0,.i .i64 1]),(7,[.i .i64 0,.i .i64 1])],.tu [.p 4990000046 0,.i .i64 0],[(4990000046,[.sl 4990000048 0 1 1 (.ex 1),.sl 4990000135 0 1 1 (.ex 1),.sl 4990000042 0 1 1 (.ex 1),.sl 4990000044 0 1 1 (.ex 1)]),(4990000048,[.i .i64 (-1)]),(4990000135,[.i .i64 0]),(4990000042,[.ns]),(4990000044,[.ns])],4990000000⟩
theorem xx (hL:ac E) {pw:Int} (hP:aK E pw):au prog E tZ:=ay (az hL hP (tY hL hP)) (by decide +kernel)
def ua:List aH:=tZ::tX
theorem ub (hL:ac E) {pw:Int} (hP:aK E pw):∀m∈ua,au prog E m:=ao (xx hL hP) (tY hL hP)
def uc:aH:=⟨85,[.ag [.sl 3 0 2 2 (.ex 2),.sl 4 0 2 1 (.ex 2),.sl 12 0 1 7 (.ex 1)]],[(3,[.s ⟨#[120,115]⟩,.i .i64 2,.s ⟨#[105]⟩,.i .i64 0]),(4,[.i .i64 0,.i .i64 1]),(12,[.s ⟨#[97]⟩,.ns,.sl 9 0 2 4 (.ex 2),.i .i64 2,.i .i64 1,.i .i64 0,.i .i64 0]),(9,[.i .i64 18,.i .i64 (-1),.sl 5 0 2 1 (.ex 2),.i .i64 0,.i .i64 18,.i .i64 (-1),.sl 7 0 2 1 (.ex 2),.i .i64 0]),(5,[.i .i64 0,.i .i64 1]),(7,[.i .i64 0,.i .i64 1])],.sl 4988000099 0 2 2 .en,[(4988000099,[.i .i64 (-1),.i .i64 0,.i .i64 (-1),.i .i64 0])],4988000000⟩
theorem xy (hL:ac E) {pw:Int} (hP:aK E pw):au prog E uc:=ay (az hL hP (ub hL hP)) (by decide +kernel)
def ud:List aH:=uc::ua
theorem ue (hL:ac E) {pw:Int} (hP:aK E pw):∀m∈ud,au prog E m:=ao (xy hL hP) (ub hL hP)
def uf:aH:=⟨95,[.ag [.sl 3 0 2 2 (.ex 2),.sl 4 0 2 1 (.ex 2),.sl 12 0 1 7 (.ex 1)]],[(3,[.s ⟨#[120,115]⟩,.i .i64 2,.s ⟨#[105]⟩,.i .i64 0]),(4,[.i .i64 0,.i .i64 1]),(12,[.s ⟨#[97]⟩,.ns,.sl 9 0 2 4 (.ex 2),.i .i64 2,.i .i64 1,.i .i64 0,.i .i64 0]),(9,[.i .i64 18,.i .i64 (-1),.sl 5 0 2 1 (.ex 2),.i .i64 0,.i .i64 18,.i .i64 (-1),.sl 7 0 2 1 (.ex 2),.i .i64 0]),(5,[.i .i64 0,.i .i64 1]),(7,[.i .i64 0,.i .i64 1])],.i .i64 0,[],3996000000⟩
theorem xz (hL:ac E) {pw:Int} (hP:aK E pw):au prog E uf:=ay (az hL hP (ue hL hP)) (by decide +kernel)
def ug:List aH:=uf::ud
theorem uh (hL:ac E) {pw:Int} (hP:aK E pw):∀m∈ug,au prog E m:=ao (xz hL hP) (ue hL hP)
def ui:aH:=⟨83,[.ag [.sl 3 0 2 2 (.ex 2),.sl 4 0 2 1 (.ex 2),.sl 12 0 1 7 (.ex 1)]],[(3,[.s ⟨#[120,115]⟩,.i .i64 2,.s ⟨#[105]⟩,.i .i64 0]),(4,[.i .i64 0,.i .i64 1]),(12,[.s ⟨#[97]⟩,.ns,.sl 9 0 2 4 (.ex 2),.i .i64 2,.i .i64 1,.i .i64 0,.i .i64 0]),(9,[.i .i64 18,.i .i64 (-1),.sl 5 0 2 1 (.ex 2),.i .i64 0,.i .i64 18,.i .i64 (-1),.sl 7 0 2 1 (.ex 2),.i .i64 0]),(5,[.i .i64 0,.i .i64 1]),(7,[.i .i64 0,.i .i64 1])],.i .i64 0,[],2997000000⟩
theorem xA (hL:ac E) {pw:Int} (hP:aK E pw):au prog E ui:=ay (az hL hP (uh hL hP)) (by decide +kernel)
def oq:List aH:=ui::ug
theorem ot (hL:ac E) {pw:Int} (hP:aK E pw):∀m∈oq,au prog E m:=ao (xA hL hP) (uh hL hP)
def ou:aH:=⟨48,[.ag [.sl 3 0 2 2 (.ex 2),.sl 4 0 2 1 (.ex 2),.sl 12 0 1 7 (.ex 1)]],[(3,[.s ⟨#[120,115]⟩,.i .i64 2,.s ⟨#[105]⟩,.i .i64 0]),(4,[.i .i64 0,.i .i64 1]),(12,[.s ⟨#[97]⟩,.ns,.sl 9 0 2 4 (.ex 2),.i .i64 2,.i .i64 1,.i .i64 0,.i .i64 0]),(9,[.i .i64 18,.i .i64 (-1),.sl 5 0 2 1 (.ex 2),.i .i64 0,.i .i64 18,.i .i64 (-1),.sl 7 0 2 1 (.ex 2),.i .i64 0]),(5,[.i .i64 0,.i .i64 1]),(7,[.i .i64 0,.i .i64 1])],.tu [.sl 1988001340 0 2 1 .en,.i .i64 0],[(1988001340,[.b false,.b true])],1988000000⟩
theorem vy (hL:ac E) {pw:Int} (hP:aK E pw):au prog E ou:=ay (az hL hP (ot hL hP)) (by decide +kernel)
def ov:List aH:=ou::oq
theorem ow (hL:ac E) {pw:Int} (hP:aK E pw):∀m∈ov,au prog E m:=ao (vy hL hP) (ot hL hP)
def ox:aH:=⟨34,[.ag [.sl 3 0 2 2 (.ex 2),.sl 4 0 2 1 (.ex 2),.sl 12 0 1 7 (.ex 1)]],[(3,[.s ⟨#[120,115]⟩,.i .i64 2,.s ⟨#[105]⟩,.i .i64 0]),(4,[.i .i64 0,.i .i64 1]),(12,[.s ⟨#[97]⟩,.ns,.sl 9 0 2 4 (.ex 2),.i .i64 2,.i .i64 1,.i .i64 0,.i .i64 0]),(9,[.i .i64 18,.i .i64 (-1),.sl 5 0 2 1 (.ex 2),.i .i64 0,.i .i64 18,.i .i64 (-1),.sl 7 0 2 1 (.ex 2),.i .i64 0]),(5,[.i .i64 0,.i .i64 1]),(7,[.i .i64 0,.i .i64 1])],.b true,[],8980000000⟩
theorem vz (hL:ac E) {pw:Int} (hP:aK E pw):au prog E ox:=ay (az hL hP (ow hL hP)) (by decide +kernel)
def oy:List aH:=ox::ov
theorem oz (hL:ac E) {pw:Int} (hP:aK E pw):∀m∈oy,au prog E m:=ao (vz hL hP) (ow hL hP)
def oA:aH:=⟨23,[.ag [.sl 3 0 2 2 (.ex 2),.sl 4 0 2 1 (.ex 2),.sl 12 0 1 7 (.ex 1)]],[(3,[.s ⟨#[120,115]⟩,.i .i64 2,.s ⟨#[105]⟩,.i .i64 0]),(4,[.i .i64 0,.i .i64 1]),(12,[.s ⟨#[97]⟩,.ns,.sl 9 0 2 4 (.ex 2),.i .i64 2,.i .i64 1,.i .i64 0,.i .i64 0]),(9,[.i .i64 18,.i .i64 (-1),.sl 5 0 2 1 (.ex 2),.i .i64 0,.i .i64 18,.i .i64 (-1),.sl 7 0 2 1 (.ex 2),.i .i64 0]),(5,[.i .i64 0,.i .i64 1]),(7,[.i .i64 0,.i .i64 1])],.i .i64 0,[],7981000000⟩
theorem vA (hL:ac E) {pw:Int} (hP:aK E pw):au prog E oA:=ay (az hL hP (oz hL hP)) (by decide +kernel)
def oB:List aH:=oA::oy
theorem oC (hL:ac E) {pw:Int} (hP:aK E pw):∀m∈oB,au prog E m:=ao (vA hL hP) (oz hL hP)
def oD:aH:=⟨102,[.ag [.sl 3 0 2 2 (.ex 2),.sl 4 0 2 1 (.ex 2),.sl 12 0 1 7 (.ex 1)]],[(3,[.s ⟨#[120,115]⟩,.i .i64 2,.s ⟨#[105]⟩,.i .i64 0]),(4,[.i .i64 0,.i .i64 1]),(12,[.s ⟨#[97]⟩,.ns,.sl 9 0 2 4 (.ex 2),.i .i64 2,.i .i64 1,.i .i64 0,.i .i64 0]),(9,[.i .i64 18,.i .i64 (-1),.sl 5 0 2 1 (.ex 2),.i .i64 0,.i .i64 18,.i .i64 (-1),.sl 7 0 2 1 (.ex 2),.i .i64 0]),(5,[.i .i64 0,.i .i64 1]),(7,[.i .i64 0,.i .i64 1])],.b true,[],6982000000⟩
theorem vB (hL:ac E) {pw:Int} (hP:aK E pw):au prog E oD:=ay (az hL hP (oC hL hP)) (by decide +kernel)
def oE:List aH:=oD::oB
theorem oF (hL:ac E) {pw:Int} (hP:aK E pw):∀m∈oE,au prog E m:=ao (vB hL hP) (oC hL hP)
def oG:aH:=⟨103,[.ag [.sl 3 0 2 2 (.ex 2),.sl 4 0 2 1 (.ex 2),.sl 12 0 1 7 (.ex 1)]],[(3,[.s ⟨#[120,115]⟩,.i .i64 2,.s ⟨#[105]⟩,.i .i64 0]),(4,[.i .i64 0,.i .i64 1]),(12,[.s ⟨#[97]⟩,.ns,.sl 9 0 2 4 (.ex 2),.i .i64 2,.i .i64 1,.i .i64 0,.i .i64 0]),(9,[.i .i64 18,.i .i64 (-1),.sl 5 0 2 1 (.ex 2),.i .i64 0,.i .i64 18,.i .i64 (-1),.sl 7 0 2 1 (.ex 2),.i .i64 0]),(5,[.i .i64 0,.i .i64 1]),(7,[.i .i64 0,.i .i64 1])],.sl 6979000005 0 1 1 (.ex 1),[(6979000005,[.ns])],6979000000⟩
theorem vC (hL:ac E) {pw:Int} (hP:aK E pw):au prog E oG:=ay (az hL hP (oF hL hP)) (by decide +kernel)
def oH:List aH:=oG::oE
theorem oI (hL:ac E) {pw:Int} (hP:aK E pw):∀m∈oH,au prog E m:=ao (vC hL hP) (oF hL hP)
def oJ:aH:=⟨124,[.ag [.sl 3 0 2 2 (.ex 2),.sl 4 0 2 1 (.ex 2),.sl 12 0 1 7 (.ex 1)]],[(3,[.s ⟨#[120,115]⟩,.i .i64 2,.s ⟨#[105]⟩,.i .i64 0]),(4,[.i .i64 0,.i .i64 1]),(12,[.s ⟨#[97]⟩,.ns,.sl 9 0 2 4 (.ex 2),.i .i64 2,.i .i64 1,.i .i64 0,.i .i64 0]),(9,[.i .i64 18,.i .i64 (-1),.sl 5 0 2 1 (.ex 2),.i .i64 0,.i .i64 18,.i .i64 (-1),.sl 7 0 2 1 (.ex 2),.i .i64 0]),(5,[.i .i64 0,.i .i64 1]),(7,[.i .i64 0,.i .i64 1])],.sl 6978000064 0 1 1 .en,[(6978000064,[.i .i64 0])],6978000000⟩
theorem vD (hL:ac E) {pw:Int} (hP:aK E pw):au prog E oJ:=ay (az hL hP (oI hL hP)) (by decide +kernel)
def oK:List aH:=oJ::oH
theorem oL (hL:ac E) {pw:Int} (hP:aK E pw):∀m∈oK,au prog E m:=ao (vD hL hP) (oI hL hP)
def oM:aH:=⟨98,[.sl 6977000012 0 1 1 .en,.sl 6977000032 0 1 1 (.ex 1),.i .i64 1],[(6977000012,[.i .i64 0]),(6977000032,[.ns])],.sl 7976000090 0 1 1 (.ex 1),[(7976000090,[.i .i64 (-1)])],7976000000⟩
theorem vE (hL:ac E) {pw:Int} (hP:aK E pw):au prog E oM:=ay (az hL hP (oL hL hP)) (by decide +kernel)
def oN:List aH:=oM::oK
theorem oO (hL:ac E) {pw:Int} (hP:aK E pw):∀m∈oN,au prog E m:=ao (vE hL hP) (oL hL hP)
def oP:aH:=⟨84,[.ag [.sl 3 0 2 2 (.ex 2),.sl 4 0 2 1 (.ex 2),.sl 12 0 1 7 (.ex 1)]],[(3,[.s ⟨#[120,115]⟩,.i .i64 2,.s ⟨#[105]⟩,.i .i64 0]),(4,[.i .i64 0,.i .i64 1]),(12,[.s ⟨#[97]⟩,.ns,.sl 9 0 2 4 (.ex 2),.i .i64 2,.i .i64 1,.i .i64 0,.i .i64 0]),(9,[.i .i64 18,.i .i64 (-1),.sl 5 0 2 1 (.ex 2),.i .i64 0,.i .i64 18,.i .i64 (-1),.sl 7 0 2 1 (.ex 2),.i .i64 0]),(5,[.i .i64 0,.i .i64 1]),(7,[.i .i64 0,.i .i64 1])],.tu [.p 6977000046 0,.i .i64 0],[(6977000046,[.sl 6977000048 0 1 1 (.ex 1),.sl 6977000135 0 1 1 (.ex 1),.sl 6977000042 0 1 1 (.ex 1),.sl 6977000044 0 1 1 (.ex 1)]),(6977000048,[.i .i64 (-1)]),(6977000135,[.i .i64 0]),(6977000042,[.ns]),(6977000044,[.ns])],6977000000⟩
theorem vF (hL:ac E) {pw:Int} (hP:aK E pw):au prog E oP:=ay (az hL hP (oO hL hP)) (by decide +kernel)
def oQ:List aH:=oP::oN
theorem oR (hL:ac E) {pw:Int} (hP:aK E pw):∀m∈oQ,au prog E m:=ao (vF hL hP) (oO hL hP)
def oS:aH:=⟨85,[.ag [.sl 3 0 2 2 (.ex 2),.sl 4 0 2 1 (.ex 2),.sl 12 0 1 7 (.ex 1)]],[(3,[.s ⟨#[120,115]⟩,.i .i64 2,.s ⟨#[105]⟩,.i .i64 0]),(4,[.i .i64 0,.i .i64 1]),(12,[.s ⟨#[97]⟩,.ns,.sl 9 0 2 4 (.ex 2),.i .i64 2,.i .i64 1,.i .i64 0,.i .i64 0]),(9,[.i .i64 18,.i .i64 (-1),.sl 5 0 2 1 (.ex 2),.i .i64 0,.i .i64 18,.i .i64 (-1),.sl 7 0 2 1 (.ex 2),.i .i64 0]),(5,[.i .i64 0,.i .i64 1]),(7,[.i .i64 0,.i .i64 1])],.sl 6975000099 0 2 2 .en,[(6975000099,[.i .i64 (-1),.i .i64 0,.i .i64 (-1),.i .i64 0])],6975000000⟩
theorem vG (hL:ac E) {pw:Int} (hP:aK E pw):au prog E oS:=ay (az hL hP (oR hL hP)) (by decide +kernel)
def oT:List aH:=oS::oQ
theorem oU (hL:ac E) {pw:Int} (hP:aK E pw):∀m∈oT,au prog E m:=ao (vG hL hP) (oR hL hP)
def oV:aH:=⟨95,[.ag [.sl 3 0 2 2 (.ex 2),.sl 4 0 2 1 (.ex 2),.sl 12 0 1 7 (.ex 1)]],[(3,[.s ⟨#[120,115]⟩,.i .i64 2,.s ⟨#[105]⟩,.i .i64 0]),(4,[.i .i64 0,.i .i64 1]),(12,[.s ⟨#[97]⟩,.ns,.sl 9 0 2 4 (.ex 2),.i .i64 2,.i .i64 1,.i .i64 0,.i .i64 0]),(9,[.i .i64 18,.i .i64 (-1),.sl 5 0 2 1 (.ex 2),.i .i64 0,.i .i64 18,.i .i64 (-1),.sl 7 0 2 1 (.ex 2),.i .i64 0]),(5,[.i .i64 0,.i .i64 1]),(7,[.i .i64 0,.i .i64 1])],.i .i64 0,[],5983000000⟩
theorem vH (hL:ac E) {pw:Int} (hP:aK E pw):au prog E oV:=ay (az hL hP (oU hL hP)) (by decide +kernel)
def oW:List aH:=oV::oT
theorem oX (hL:ac E) {pw:Int} (hP:aK E pw):∀m∈oW,au prog E m:=ao (vH hL hP) (oU hL hP)
def oY:aH:=⟨83,[.ag [.sl 3 0 2 2 (.ex 2),.sl 4 0 2 1 (.ex 2),.sl 12 0 1 7 (.ex 1)]],[(3,[.s ⟨#[120,115]⟩,.i .i64 2,.s ⟨#[105]⟩,.i .i64 0]),(4,[.i .i64 0,.i .i64 1]),(12,[.s ⟨#[97]⟩,.ns,.sl 9 0 2 4 (.ex 2),.i .i64 2,.i .i64 1,.i .i64 0,.i .i64 0]),(9,[.i .i64 18,.i .i64 (-1),.sl 5 0 2 1 (.ex 2),.i .i64 0,.i .i64 18,.i .i64 (-1),.sl 7 0 2 1 (.ex 2),.i .i64 0]),(5,[.i .i64 0,.i .i64 1]),(7,[.i .i64 0,.i .i64 1])],.i .i64 0,[],4984000000⟩
theorem vI (hL:ac E) {pw:Int} (hP:aK E pw):au prog E oY:=ay (az hL hP (oX hL hP)) (by decide +kernel)
def oZ:List aH:=oY::oW
theorem o0 (hL:ac E) {pw:Int} (hP:aK E pw):∀m∈oZ,au prog E m:=ao (vI hL hP) (oX hL hP)
def o1:aH:=⟨236,[.sl 3975000210 0 2 1 .en,.i .i64 510],[(3975000210,[.s ⟨#[120,115]⟩,.s ⟨#[105]⟩])],.sl 4974013208 0 510 1 .en,[(4974013208,[.s ⟨#[120,48]⟩,.s ⟨#[120,49]⟩,.s ⟨#[120,50]⟩,.s ⟨#[120,51]⟩,.s ⟨#[120,52]⟩,.s ⟨#[120,53]⟩,.s ⟨#[120,54]⟩,.s ⟨#[120,55]⟩,.s ⟨#[120,56]⟩,.s ⟨#[120,57]⟩,.s ⟨#[120,49,48]⟩,.s ⟨#[120,49,49]⟩,.s ⟨#[120,49,50]⟩,.s ⟨#[120,49,51]⟩,.s ⟨#[120,49,52]⟩,.s ⟨#[120,49,53]⟩,.s ⟨#[120,49,54]⟩,.s ⟨#[120,49,55]⟩,.s ⟨#[120,49,56]⟩,.s ⟨#[120,49,57]⟩,.s ⟨#[120,50,48]⟩,.s ⟨#[120,50,49]⟩,.s ⟨#[120,50,50]⟩,.s ⟨#[120,50,51]⟩,.s ⟨#[120,50,52]⟩,.s ⟨#[120,50,53]⟩,.s ⟨#[120,50,54]⟩,.s ⟨#[120,50,55]⟩,.s ⟨#[120,50,56]⟩,.s ⟨#[120,50,57]⟩,.s ⟨#[120,51,48]⟩,.s ⟨#[120,51,49]⟩,.s ⟨#[120,51,50]⟩,.s ⟨#[120,51,51]⟩,.s ⟨#[120,51,52]⟩,.s ⟨#[120,51,53]⟩,.s ⟨#[120,51,54]⟩,.s ⟨#[120,51,55]⟩,.s ⟨#[120,51,56]⟩,.s ⟨#[120,51,57]⟩,.s ⟨#[120,52,48]⟩,.s ⟨#[120,52,49]⟩,.s ⟨#[120,52,50]⟩,.s ⟨#[120,52,51]⟩,.s ⟨#[120,52,52]⟩,.s ⟨#[120,52,53]⟩,.s ⟨#[120,52,54]⟩,.s ⟨#[120,52,55]⟩,.s ⟨#[120,52,56]⟩,.s ⟨#[120,52,57]⟩,.s ⟨#[120,53,48]⟩,.s ⟨#[120,53,49]⟩,.s ⟨#[120,53,50]⟩,.s ⟨#[120,53,51]⟩,.s ⟨#[120,53,52]⟩,.s ⟨#[120,53,53]⟩,.s ⟨#[120,53,54]⟩,.s ⟨#[120,53,55]⟩,.s ⟨#[120,53,56]⟩,.s ⟨#[120,53,57]⟩,.s ⟨#[120,54,48]⟩,.s ⟨#[120,54,49]⟩,.s ⟨#[120,54,50]⟩,.s ⟨#[120,54,51]⟩,.s ⟨#[120,54,52]⟩,.s ⟨#[120,54,53]⟩,.s ⟨#[120,54,54]⟩,.s ⟨#[120,54,55]⟩,.s ⟨#[120,54,56]⟩,.s ⟨#[120,54,57]⟩,.s ⟨#[120,55,48]⟩,.s ⟨#[120,55,49]⟩,.s ⟨#[120,55,50]⟩,.s ⟨#[120,55,51]⟩,.s ⟨#[120,55,52]⟩,.s ⟨#[120,55,53]⟩,.s ⟨#[120,55,54]⟩,.s ⟨#[120,55,55]⟩,.s ⟨#[120,55,56]⟩,.s ⟨#[120,55,57]⟩,.s ⟨#[120,56,48]⟩,.s ⟨#[120,56,49]⟩,.s ⟨#[120,56,50]⟩,.s ⟨#[120,56,51]⟩,.s ⟨#[120,56,52]⟩,.s ⟨#[120,56,53]⟩,.s ⟨#[120,56,54]⟩,.s ⟨#[120,56,55]⟩,.s ⟨#[120,56,56]⟩,.s ⟨#[120,56,57]⟩,.s ⟨#[120,57,48]⟩,.s ⟨#[120,57,49]⟩,.s ⟨#[120,57,50]⟩,.s ⟨#[120,57,51]⟩,.s ⟨#[120,57,52]⟩,.s ⟨#[120,57,53]⟩,.s ⟨#[120,57,54]⟩,.s ⟨#[120,57,55]⟩,.s ⟨#[120,57,56]⟩,.s ⟨#[120,57,57]⟩,.us 3 4,.us 3 4,.us 3 4,.us 3 4,.us 3 4,.us 3 4,.us 3 4,.us 3 4,.us 3 4,.us 3 4,.us 3 4,.us 3 4,.us 3 4,.us 3 4,.us 3 4,.us 3 4,.us 3 4,.us 3 4,.us 3 4,.us 3 4,.us 3 4,.us 3 4,.us 3 4,.us 3 4,.us 3 4,.us 3 4,.us 3 4,.us 3 4,.us 3 4,.us 3 4,.us 3 4,.us 3 4,.us 3 4,.us 3 4,.us 3 4,.us 3 4,.us 3 4,.us 3 4,.us 3 4,.us 3 4,.us 3 4,.us 3 4,.us 3 4,.us 3 4,.us 3 4,.us 3 4,.us 3 4,.us 3 4,.us 3 4,.us 3 4,.us 3 4,.us 3 4,.us 3 4,.us 3 4,.us 3 4,.us 3 4,.us 3 4,.us 3 4,.us 3 4,.us 3 4,.us 3 4,.us 3 4,.us 3 4,.us 3 4,.us 3 4,.us 3 4,.us 3 4,.us 3 4,.us 3 4,.us 3 4,.us 3 4,.us 3 4,.us 3 4,.us 3 4,.us 3 4,.us 3 4,.us 3 4,.us 3 4,.us 3 4,.us 3 4,.us 3 4,.us 3 4,.us 3 4,.us 3 4,.us 3 4,.us 3 4,.us 3 4,.us 3 4,.us 3 4,.us 3 4,.us 3 4,.us 3 4,.us 3 4,.us 3 4,.us 3 4,.us 3 4,.us 3 4,.us 3 4,.us 3 4,.us 3 4,.us 3 4,.us 3 4,.us 3 4,.us 3 4,.us 3 4,.us 3 4,.us 3 4,.us 3 4,.us 3 4,.us 3 4,.us 3 4,.us 3 4,.us 3 4,.us 3 4,.us 3 4,.us 3 4,.us 3 4,.us 3 4,.us 3 4,.us 3 4,.us 3 4,.us 3 4,.us 3 4,.us 3 4,.us 3 4,.us 3 4,.us 3 4,.us 3 4,.us 3 4,.us 3 4,.us 3 4,.us 3 4,.us 3 4,.us 3 4,.us 3 4,.us 3 4,.us 3 4,.us 3 4,.us 3 4,.us 3 4,.us 3 4,.us 3 4,.us 3 4,.us 3 4,.us 3 4,.us 3 4,.us 3 4,.us 3 4,.us 3 4,.us 3 4,.us 3 4,.us 3 4,.us 3 4,.us 3 4,.us 3 4,.us 3 4,.us 3 4,.us 3 4,.us 3 4,.us 3 4,.us 3 4,.us 3 4,.us 3 4,.us 3 4,.us 3 4,.us 3 4,.us 3 4,.us 3 4,.us 3 4,.us 3 4,.us 3 4,.us 3 4,.us 3 4,.us 3 4,.us 3 4,.us 3 4,.us 3 4,.us 3 4,.us 3 4,.us 3 4,.us 3 4,.us 3 4,.us 3 4,.us 3 4,.us 3 4,.us 3 4,.us 3 4,.us 3 4,.us 3 4,.us 3 4,.us 3 4,.us 3 4,.us 3 4,.us 3 4,.us 3 4,.us 3 4,.us 3 4,.us 3 4,.us 3 4,.us 3 4,.us 3 4,.us 3 4,.us 3 4,.us 3 4,.us 3 4,.us 3 4,.us 3 4,.us 3 4,.us 3 4,.us 3 4,.us 3 4,.us 3 4,.us 3 4,.us 3 4,.us 3 4,.us 3 4,.us 3 4,.us 3 4,.us 3 4,.us 3 4,.us 3 4,.us 3 4,.us 3 4,.us 3 4,.us 3 4,.us 3 4,.us 3 4,.us 3 4,.us 3 4,.us 3 4,.us 3 4,.us 3 4,.us 3 4,.us 3 4,.us 3 4,.us 3 4,.us 3 4,.us 3 4,.us 3 4,.us 3 4,.us 3 4,.us 3 4,.us 3 4,.us 3 4,.us 3 4,.us 3 4,.us 3 4,.us 3 4,.us 3 4,.us 3 4,.us 3 4,.us 3 4,.us 3 4,.us 3 4,.us 3 4,.us 3 4,.us 3 4,.us 3 4,.us 3 4,.us 3 4,.us 3 4,.us 3 4,.us 3 4,.us 3 4,.us 3 4,.us 3 4,.us 3 4,.us 3 4,.us 3 4,.us 3 4,.us 3 4,.us 3 4,.us 3 4,.us 3 4,.us 3 4,.us 3 4,.us 3 4,.us 3 4,.us 3 4,.us 3 4,.us 3 4,.us 3 4,.us 3 4,.us 3 4,.us 3 4,.us 3 4,.us 3 4,.us 3 4,.us 3 4,.us 3 4,.us 3 4,.us 3 4,.us 3 4,.us 3 4,.us 3 4,.us 3 4,.us 3 4,.us 3 4,.us 3 4,.us 3 4,.us 3 4,.us 3 4,.us 3 4,.us 3 4,.us 3 4,.us 3 4,.us 3 4,.us 3 4,.us 3 4,.us 3 4,.us 3 4,.us 3 4,.us 3 4,.us 3 4,.us 3 4,.us 3 4,.us 3 4,.us 3 4,.us 3 4,.us 3 4,.us 3 4,.us 3 4,.us 3 4,.us 3 4,.us 3 4,.us 3 4,.us 3 4,.us 3 4,.us 3 4,.us 3 4,.us 3 4,.us 3 4,.us 3 4,.us 3 4,.us 3 4,.us 3 4,.us 3 4,.us 3 4,.us 3 4,.us 3 4,.us 3 4,.us 3 4,.us 3 4,.us 3 4,.us 3 4,.us 3 4,.us 3 4,.us 3 4,.us 3 4,.us 3 4,.us 3 4,.us 3 4,.us 3 4,.us 3 4,.us 3 4,.us 3 4,.us 3 4,.us 3 4,.us 3 4,.us 3 4,.us 3 4,.us 3 4,.us 3 4,.us 3 4,.us 3 4,.us 3 4,.us 3 4,.us 3 4,.us 3 4,.us 3 4,.us 3 4,.us 3 4,.us 3 4,.us 3 4,.us 3 4,.us 3 4,.us 3 4,.us 3 4,.us 3 4,.us 3 4,.us 3 4,.us 3 4,.us 3 4,.us 3 4,.us 3 4,.us 3 4,.us 3 4,.us 3 4,.us 3 4,.us 3 4,.us 3 4,.us 3 4,.us 3 4,.us 3 4,.us 3 4,.us 3 4,.us 3 4,.us 3 4,.us 3 4,.us 3 4,.us 3 4,.us 3 4,.us 3 4,.us 3 4,.us 3 4,.us 3 4,.us 3 4,.us 3 4,.us 3 4,.us 3 4])],4974000000⟩
theorem vJ (hL:ac E) {pw:Int} (hP:aK E pw):au prog E o1:=ay (az hL hP (o0 hL hP)) (by decide +kernel)
def o3:List aH:=o1::oZ
theorem o4 (hL:ac E) {pw:Int} (hP:aK E pw):∀m∈o3,au prog E m:=ao (vJ hL hP) (o0 hL hP)
def o5:aH:=⟨225,[.ag [.sl 3 0 2 2 (.ex 2),.sl 4 0 2 1 (.ex 2),.sl 12 0 1 7 (.ex 1)]],[(3,[.s ⟨#[120,115]⟩,.i .i64 2,.s ⟨#[105]⟩,.i .i64 0]),(4,[.i .i64 0,.i .i64 1]),(12,[.s ⟨#[97]⟩,.ns,.sl 9 0 2 4 (.ex 2),.i .i64 2,.i .i64 1,.i .i64 0,.i .i64 0]),(9,[.i .i64 18,.i .i64 (-1),.sl 5 0 2 1 (.ex 2),.i .i64 0,.i .i64 18,.i .i64 (-1),.sl 7 0 2 1 (.ex 2),.i .i64 0]),(5,[.i .i64 0,.i .i64 1]),(7,[.i .i64 0,.i .i64 1])],.tu [.ag [.sl 3975000769 0 4 2 .en,.sl 3975000075 0 2 1 .en,.sl 3975000159 0 1 7 .en],.i .i64 0],[(3975000769,[.s ⟨#[120,115]⟩,.i .i64 2,.s ⟨#[105]⟩,.i .i64 0,.s ⟨#[120,48]⟩,.i .i64 0,.s ⟨#[120,49]⟩,.i .i64 0]),(3975000075,[.i .i64 0,.i .i64 1]),(3975000159,[.s ⟨#[97]⟩,.ns,.sl 3975000801 0 4 4 .en,.i .i64 2,.i .i64 3,.i .i64 0,.i .i64 0]),(3975000801,[.i .i64 18,.i .i64 (-1),.sl 3975000407 0 2 1 .en,.i .i64 0,.i .i64 26,.i .i64 2,.sl 3975000448 0 2 1 (.ex 2),.i .i64 0,.i .i64 18,.i .i64 (-1),.sl 3975000645 0 2 1 .en,.i .i64 0,.i .i64 26,.i .i64 3,.sl 3975000686 0 2 1 (.ex 2),.i .i64 0]),(3975000407,[.i .i64 0,.i .i64 1]),(3975000448,[.i .i64 1,.i .i64 0]),(3975000645,[.i .i64 0,.i .i64 2]),(3975000686,[.i .i64 2,.i .i64 0])],3975000000⟩
theorem vK (hL:ac E) {pw:Int} (hP:aK E pw):au prog E o5:=ay (az hL hP (o4 hL hP)) (by decide +kernel)
def o6:List aH:=o5::o3
theorem o7 (hL:ac E) {pw:Int} (hP:aK E pw):∀m∈o6,au prog E m:=ao (vK hL hP) (o4 hL hP)
def o8:aH:=⟨220,[.ag [.sl 3 0 2 2 (.ex 2),.sl 4 0 2 1 (.ex 2),.sl 12 0 1 7 (.ex 1)]],[(3,[.s ⟨#[120,115]⟩,.i .i64 2,.s ⟨#[105]⟩,.i .i64 0]),(4,[.i .i64 0,.i .i64 1]),(12,[.s ⟨#[97]⟩,.ns,.sl 9 0 2 4 (.ex 2),.i .i64 2,.i .i64 1,.i .i64 0,.i .i64 0]),(9,[.i .i64 18,.i .i64 (-1),.sl 5 0 2 1 (.ex 2),.i .i64 0,.i .i64 18,.i .i64 (-1),.sl 7 0 2 1 (.ex 2),.i .i64 0]),(5,[.i .i64 0,.i .i64 1]),(7,[.i .i64 0,.i .i64 1])],.tu [.ag [.sl 2976000005 0 4 2 .en,.sl 2976000006 0 2 1 .en,.sl 2976000007 0 1 7 .en],.i .i64 0],[(2976000005,[.s ⟨#[120,115]⟩,.i .i64 2,.s ⟨#[105]⟩,.i .i64 0,.s ⟨#[120,48]⟩,.i .i64 0,.s ⟨#[120,49]⟩,.i .i64 0]),(2976000006,[.i .i64 0,.i .i64 1]),(2976000007,[.s ⟨#[97]⟩,.ns,.sl 2976000008 0 4 4 .en,.i .i64 2,.i .i64 3,.i .i64 0,.i .i64 0]),(2976000008,[.i .i64 18,.i .i64 (-1),.sl 2976000009 0 2 1 .en,.i .i64 0,.i .i64 26,.i .i64 2,.sl 2976000010 0 2 1 (.ex 2),.i .i64 0,.i .i64 18,.i .i64 (-1),.sl 2976000011 0 2 1 .en,.i .i64 0,.i .i64 26,.i .i64 3,.sl 2976000012 0 2 1 (.ex 2),.i .i64 0]),(2976000009,[.i .i64 0,.i .i64 1]),(2976000010,[.i .i64 1,.i .i64 0]),(2976000011,[.i .i64 0,.i .i64 2]),(2976000012,[.i .i64 2,.i .i64 0])],2976000000⟩
theorem vL (hL:ac E) {pw:Int} (hP:aK E pw):au prog E o8:=ay (az hL hP (o7 hL hP)) (by decide +kernel)
def o9:List aH:=o8::o6
theorem pa (hL:ac E) {pw:Int} (hP:aK E pw):∀m∈o9,au prog E m:=ao (vL hL hP) (o7 hL hP)
def pd:aH:=⟨34,[.ag [.sl 1977000006 0 4 2 .en,.sl 1977000007 0 2 1 .en,.sl 1977000008 0 1 7 .en]],[(1977000006,[.s ⟨#[120,115]⟩,.i .i64 2,.s ⟨#[105]⟩,.i .i64 0,.s ⟨#[120,48]⟩,.i .i64 0,.s ⟨#[120,49]⟩,.i .i64 0]),(1977000007,[.i .i64 0,.i .i64 1]),(1977000008,[.s ⟨#[97]⟩,.ns,.sl 1977000009 0 4 4 .en,.i .i64 2,.i .i64 3,.i .i64 0,.i .i64 0]),(1977000009,[.i .i64 18,.i .i64 (-1),.sl 1977000010 0 2 1 .en,.i .i64 0,.i .i64 26,.i .i64 2,.sl 1977000011 0 2 1 (.ex 2),.i .i64 0,.i .i64 18,.i .i64 (-1),.sl 1977000012 0 2 1 .en,.i .i64 0,.i .i64 26,.i .i64 3,.sl 1977000013 0 2 1 (.ex 2),.i .i64 0]),(1977000010,[.i .i64 0,.i .i64 1]),(1977000011,[.i .i64 1,.i .i64 0]),(1977000012,[.i .i64 0,.i .i64 2]),(1977000013,[.i .i64 2,.i .i64 0])],.b true,[],6969000000⟩
theorem vM (hL:ac E) {pw:Int} (hP:aK E pw):au prog E pd:=ay (az hL hP (pa hL hP)) (by decide +kernel)
def pe:List aH:=pd::o9
theorem pg (hL:ac E) {pw:Int} (hP:aK E pw):∀m∈pe,au prog E m:=ao (vM hL hP) (pa hL hP)
def ph:aH:=⟨23,[.ag [.sl 1977000006 0 4 2 .en,.sl 1977000007 0 2 1 .en,.sl 1977000008 0 1 7 .en]],[(1977000006,[.s ⟨#[120,115]⟩,.i .i64 2,.s ⟨#[105]⟩,.i .i64 0,.s ⟨#[120,48]⟩,.i .i64 0,.s ⟨#[120,49]⟩,.i .i64 0]),(1977000007,[.i .i64 0,.i .i64 1]),(1977000008,[.s ⟨#[97]⟩,.ns,.sl 1977000009 0 4 4 .en,.i .i64 2,.i .i64 3,.i .i64 0,.i .i64 0]),(1977000009,[.i .i64 18,.i .i64 (-1),.sl 1977000010 0 2 1 .en,.i .i64 0,.i .i64 26,.i .i64 2,.sl 1977000011 0 2 1 (.ex 2),.i .i64 0,.i .i64 18,.i .i64 (-1),.sl 1977000012 0 2 1 .en,.i .i64 0,.i .i64 26,.i .i64 3,.sl 1977000013 0 2 1 (.ex 2),.i .i64 0]),(1977000010,[.i .i64 0,.i .i64 1]),(1977000011,[.i .i64 1,.i .i64 0]),(1977000012,[.i .i64 0,.i .i64 2]),(1977000013,[.i .i64 2,.i .i64 0])],.i .i64 0,[],5970000000⟩
theorem vN (hL:ac E) {pw:Int} (hP:aK E pw):au prog E ph:=ay (az hL hP (pg hL hP)) (by decide +kernel)
def pi:List aH:=ph::pe
theorem pj (hL:ac E) {pw:Int} (hP:aK E pw):∀m∈pi,au prog E m:=ao (vN hL hP) (pg hL hP)
def pk:aH:=⟨102,[.ag [.sl 1977000006 0 4 2 .en,.sl 1977000007 0 2 1 .en,.sl 1977000008 0 1 7 .en]],[(1977000006,[.s ⟨#[120,115]⟩,.i .i64 2,.s ⟨#[105]⟩,.i .i64 0,.s ⟨#[120,48]⟩,.i .i64 0,.s ⟨#[120,49]⟩,.i .i64 0]),(1977000007,[.i .i64 0,.i .i64 1]),(1977000008,[.s ⟨#[97]⟩,.ns,.sl 1977000009 0 4 4 .en,.i .i64 2,.i .i64 3,.i .i64 0,.i .i64 0]),(1977000009,[.i .i64 18,.i .i64 (-1),.sl 1977000010 0 2 1 .en,.i .i64 0,.i .i64 26,.i .i64 2,.sl 1977000011 0 2 1 (.ex 2),.i .i64 0,.i .i64 18,.i .i64 (-1),.sl 1977000012 0 2 1 .en,.i .i64 0,.i .i64 26,.i .i64 3,.sl 1977000013 0 2 1 (.ex 2),.i .i64 0]),(1977000010,[.i .i64 0,.i .i64 1]),(1977000011,[.i .i64 1,.i .i64 0]),(1977000012,[.i .i64 0,.i .i64 2]),(1977000013,[.i .i64 2,.i .i64 0])],.b true,[],4971000000⟩
theorem vO (hL:ac E) {pw:Int} (hP:aK E pw):au prog E pk:=ay (az hL hP (pj hL hP)) (by decide +kernel)
def pm:List aH:=pk::pi
theorem pn (hL:ac E) {pw:Int} (hP:aK E pw):∀m∈pm,au prog E m:=ao (vO hL hP) (pj hL hP)
def pp:aH:=⟨103,[.ag [.sl 1977000006 0 4 2 .en,.sl 1977000007 0 2 1 .en,.sl 1977000008 0 1 7 .en]],[(1977000006,[.s ⟨#[120,115]⟩,.i .i64 2,.s ⟨#[105]⟩,.i .i64 0,.s ⟨#[120,48]⟩,.i .i64 0,.s ⟨#[120,49]⟩,.i .i64 0]),(1977000007,[.i .i64 0,.i .i64 1]),(1977000008,[.s ⟨#[97]⟩,.ns,.sl 1977000009 0 4 4 .en,.i .i64 2,.i .i64 3,.i .i64 0,.i .i64 0]),(1977000009,[.i .i64 18,.i .i64 (-1),.sl 1977000010 0 2 1 .en,.i .i64 0,.i .i64 26,.i .i64 2,.sl 1977000011 0 2 1 (.ex 2),.i .i64 0,.i .i64 18,.i .i64 (-1),.sl 1977000012 0 2 1 .en,.i .i64 0,.i .i64 26,.i .i64 3,.sl 1977000013 0 2 1 (.ex 2),.i .i64 0]),(1977000010,[.i .i64 0,.i .i64 1]),(1977000011,[.i .i64 1,.i .i64 0]),(1977000012,[.i .i64 0,.i .i64 2]),(1977000013,[.i .i64 2,.i .i64 0])],.sl 4968000005 0 1 1 (.ex 1),[(4968000005,[.ns])],4968000000⟩
theorem vP (hL:ac E) {pw:Int} (hP:aK E pw):au prog E pp:=ay (az hL hP (pn hL hP)) (by decide +kernel)
def pq:List aH:=pp::pm
theorem pt (hL:ac E) {pw:Int} (hP:aK E pw):∀m∈pq,au prog E m:=ao (vP hL hP) (pn hL hP)
def pu:aH:=⟨124,[.ag [.sl 1977000006 0 4 2 .en,.sl 1977000007 0 2 1 .en,.sl 1977000008 0 1 7 .en]],[(1977000006,[.s ⟨#[120,115]⟩,.i .i64 2,.s ⟨#[105]⟩,.i .i64 0,.s ⟨#[120,48]⟩,.i .i64 0,.s ⟨#[120,49]⟩,.i .i64 0]),(1977000007,[.i .i64 0,.i .i64 1]),(1977000008,[.s ⟨#[97]⟩,.ns,.sl 1977000009 0 4 4 .en,.i .i64 2,.i .i64 3,.i .i64 0,.i .i64 0]),(1977000009,[.i .i64 18,.i .i64 (-1),.sl 1977000010 0 2 1 .en,.i .i64 0,.i .i64 26,.i .i64 2,.sl 1977000011 0 2 1 (.ex 2),.i .i64 0,.i .i64 18,.i .i64 (-1),.sl 1977000012 0 2 1 .en,.i .i64 0,.i .i64 26,.i .i64 3,.sl 1977000013 0 2 1 (.ex 2),.i .i64 0]),(1977000010,[.i .i64 0,.i .i64 1]),(1977000011,[.i .i64 1,.i .i64 0]),(1977000012,[.i .i64 0,.i .i64 2]),(1977000013,[.i .i64 2,.i .i64 0])],.sl 4967000064 0 1 1 .en,[(4967000064,[.i .i64 0])],4967000000⟩
theorem vQ (hL:ac E) {pw:Int} (hP:aK E pw):au prog E pu:=ay (az hL hP (pt hL hP)) (by decide +kernel)
def px:List aH:=pu::pq
theorem py (hL:ac E) {pw:Int} (hP:aK E pw):∀m∈px,au prog E m:=ao (vQ hL hP) (pt hL hP)
def pz:aH:=⟨98,[.sl 4966000012 0 1 1 .en,.sl 4966000032 0 1 1 (.ex 1),.i .i64 1],[(4966000012,[.i .i64 0]),(4966000032,[.ns])],.sl 5965000090 0 1 1 (.ex 1),[(5965000090,[.i .i64 (-1)])],5965000000⟩
theorem vR (hL:ac E) {pw:Int} (hP:aK E pw):au prog E pz:=ay (az hL hP (py hL hP)) (by decide +kernel)
def pC:List aH:=pz::px
theorem pD (hL:ac E) {pw:Int} (hP:aK E pw):∀m∈pC,au prog E m:=ao (vR hL hP) (py hL hP)
def pE:aH:=⟨84,[.ag [.sl 1977000006 0 4 2 .en,.sl 1977000007 0 2 1 .en,.sl 1977000008 0 1 7 .en]],[(1977000006,[.s ⟨#[120,115]⟩,.i .i64 2,.s ⟨#[105]⟩,.i .i64 0,.s ⟨#[120,48]⟩,.i .i64 0,.s ⟨#[120,49]⟩,.i .i64 0]),(1977000007,[.i .i64 0,.i .i64 1]),(1977000008,[.s ⟨#[97]⟩,.ns,.sl 1977000009 0 4 4 .en,.i .i64 2,.i .i64 3,.i .i64 0,.i .i64 0]),(1977000009,[.i .i64 18,.i .i64 (-1),.sl 1977000010 0 2 1 .en,.i .i64 0,.i .i64 26,.i .i64 2,.sl 1977000011 0 2 1 (.ex 2),.i .i64 0,.i .i64 18,.i .i64 (-1),.sl 1977000012 0 2 1 .en,.i .i64 0,.i .i64 26,.i .i64 3,.sl 1977000013 0 2 1 (.ex 2),.i .i64 0]),(1977000010,[.i .i64 0,.i .i64 1]),(1977000011,[.i .i64 1,.i .i64 0]),(1977000012,[.i .i64 0,.i .i64 2]),(1977000013,[.i .i64 2,.i .i64 0])],.tu [.p 4966000046 0,.i .i64 0],[(4966000046,[.sl 4966000048 0 1 1 (.ex 1),.sl 4966000135 0 1 1 (.ex 1),.sl 4966000042 0 1 1 (.ex 1),.sl 4966000044 0 1 1 (.ex 1)]),(4966000048,[.i .i64 (-1)]),(4966000135,[.i .i64 0]),(4966000042,[.ns]),(4966000044,[.ns])],4966000000⟩
theorem vS (hL:ac E) {pw:Int} (hP:aK E pw):au prog E pE:=ay (az hL hP (pD hL hP)) (by decide +kernel)
def pF:List aH:=pE::pC
theorem pG (hL:ac E) {pw:Int} (hP:aK E pw):∀m∈pF,au prog E m:=ao (vS hL hP) (pD hL hP)
def pH:aH:=⟨85,[.ag [.sl 1977000006 0 4 2 .en,.sl 1977000007 0 2 1 .en,.sl 1977000008 0 1 7 .en]],[(1977000006,[.s ⟨#[120,115]⟩,.i .i64 2,.s ⟨#[105]⟩,.i .i64 0,.s ⟨#[120,48]⟩,.i .i64 0,.s ⟨#[120,49]⟩,.i .i64 0]),(1977000007,[.i .i64 0,.i .i64 1]),(1977000008,[.s ⟨#[97]⟩,.ns,.sl 1977000009 0 4 4 .en,.i .i64 2,.i .i64 3,.i .i64 0,.i .i64 0]),(1977000009,[.i .i64 18,.i .i64 (-1),.sl 1977000010 0 2 1 .en,.i .i64 0,.i .i64 26,.i .i64 2,.sl 1977000011 0 2 1 (.ex 2),.i .i64 0,.i .i64 18,.i .i64 (-1),.sl 1977000012 0 2 1 .en,.i .i64 0,.i .i64 26,.i .i64 3,.sl 1977000013 0 2 1 (.ex 2),.i .i64 0]),(1977000010,[.i .i64 0,.i .i64 1]),(1977000011,[.i .i64 1,.i .i64 0]),(1977000012,[.i .i64 0,.i .i64 2]),(1977000013,[.i .i64 2,.i .i64 0])],.sl 4964000189 0 4 2 .en,[(4964000189,[.i .i64 (-1),.i .i64 0,.i .i64 (-1),.i .i64 0,.i .i64 0,.i .i64 1,.i .i64 0,.i .i64 3])],4964000000⟩
theorem vT (hL:ac E) {pw:Int} (hP:aK E pw):au prog E pH:=ay (az hL hP (pG hL hP)) (by decide +kernel)
def pI:List aH:=pH::pF
theorem pJ (hL:ac E) {pw:Int} (hP:aK E pw):∀m∈pI,au prog E m:=ao (vT hL hP) (pG hL hP)
def pK:aH:=⟨95,[.ag [.sl 1977000006 0 4 2 .en,.sl 1977000007 0 2 1 .en,.sl 1977000008 0 1 7 .en]],[(1977000006,[.s ⟨#[120,115]⟩,.i .i64 2,.s ⟨#[105]⟩,.i .i64 0,.s ⟨#[120,48]⟩,.i .i64 0,.s ⟨#[120,49]⟩,.i .i64 0]),(1977000007,[.i .i64 0,.i .i64 1]),(1977000008,[.s ⟨#[97]⟩,.ns,.sl 1977000009 0 4 4 .en,.i .i64 2,.i .i64 3,.i .i64 0,.i .i64 0]),(1977000009,[.i .i64 18,.i .i64 (-1),.sl 1977000010 0 2 1 .en,.i .i64 0,.i .i64 26,.i .i64 2,.sl 1977000011 0 2 1 (.ex 2),.i .i64 0,.i .i64 18,.i .i64 (-1),.sl 1977000012 0 2 1 .en,.i .i64 0,.i .i64 26,.i .i64 3,.sl 1977000013 0 2 1 (.ex 2),.i .i64 0]),(1977000010,[.i .i64 0,.i .i64 1]),(1977000011,[.i .i64 1,.i .i64 0]),(1977000012,[.i .i64 0,.i .i64 2]),(1977000013,[.i .i64 2,.i .i64 0])],.i .i64 0,[],3972000000⟩
theorem vU (hL:ac E) {pw:Int} (hP:aK E pw):au prog E pK:=ay (az hL hP (pJ hL hP)) (by decide +kernel)
def pL:List aH:=pK::pI
theorem pM (hL:ac E) {pw:Int} (hP:aK E pw):∀m∈pL,au prog E m:=ao (vU hL hP) (pJ hL hP)
def pN:aH:=⟨221,[.ag [.sl 1977000006 0 4 2 .en,.sl 1977000007 0 2 1 .en,.sl 1977000008 0 1 7 .en]],[(1977000006,[.s ⟨#[120,115]⟩,.i .i64 2,.s ⟨#[105]⟩,.i .i64 0,.s ⟨#[120,48]⟩,.i .i64 0,.s ⟨#[120,49]⟩,.i .i64 0]),(1977000007,[.i .i64 0,.i .i64 1]),(1977000008,[.s ⟨#[97]⟩,.ns,.sl 1977000009 0 4 4 .en,.i .i64 2,.i .i64 3,.i .i64 0,.i .i64 0]),(1977000009,[.i .i64 18,.i .i64 (-1),.sl 1977000010 0 2 1 .en,.i .i64 0,.i .i64 26,.i .i64 2,.sl 1977000011 0 2 1 (.ex 2),.i .i64 0,.i .i64 18,.i .i64 (-1),.sl 1977000012 0 2 1 .en,.i .i64 0,.i .i64 26,.i .i64 3,.sl 1977000013 0 2 1 (.ex 2),.i .i64 0]),(1977000010,[.i .i64 0,.i .i64 1]),(1977000011,[.i .i64 1,.i .i64 0]),(1977000012,[.i .i64 0,.i .i64 2]),(1977000013,[.i .i64 2,.i .i64 0])],.tu [.sl 2973000460 0 4 2 .en,.i .i64 0],[(2973000460,[.i .i64 0,.i .i64 64,.i .i64 (-9223372036854775808),.i .i64 9223372036854775807,.i .i64 0,.i .i64 63,.i .i64 0,.i .i64 63])],2973000000⟩
theorem vV (hL:ac E) {pw:Int} (hP:aK E pw):au prog E pN:=ay (az hL hP (pM hL hP)) (by decide +kernel)
def pO:List aH:=pN::pL
theorem pP (hL:ac E) {pw:Int} (hP:aK E pw):∀m∈pO,au prog E m:=ao (vV hL hP) (pM hL hP)
def pQ:aH:=⟨218,[.ag [.sl 3 0 2 2 (.ex 2),.sl 4 0 2 1 (.ex 2),.sl 12 0 1 7 (.ex 1)]],[(3,[.s ⟨#[120,115]⟩,.i .i64 2,.s ⟨#[105]⟩,.i .i64 0]),(4,[.i .i64 0,.i .i64 1]),(12,[.s ⟨#[97]⟩,.ns,.sl 9 0 2 4 (.ex 2),.i .i64 2,.i .i64 1,.i .i64 0,.i .i64 0]),(9,[.i .i64 18,.i .i64 (-1),.sl 5 0 2 1 (.ex 2),.i .i64 0,.i .i64 18,.i .i64 (-1),.sl 7 0 2 1 (.ex 2),.i .i64 0]),(5,[.i .i64 0,.i .i64 1]),(7,[.i .i64 0,.i .i64 1])],.tu [.ag [.sl 1977000006 0 4 2 .en,.sl 1977000007 0 2 1 .en,.sl 1977000008 0 1 7 .en],.sl 1977000024 0 4 2 .en,.i .i64 0],[(1977000006,[.s ⟨#[120,115]⟩,.i .i64 2,.s ⟨#[105]⟩,.i .i64 0,.s ⟨#[120,48]⟩,.i .i64 0,.s ⟨#[120,49]⟩,.i .i64 0]),(1977000007,[.i .i64 0,.i .i64 1]),(1977000008,[.s ⟨#[97]⟩,.ns,.sl 1977000009 0 4 4 .en,.i .i64 2,.i .i64 3,.i .i64 0,.i .i64 0]),(1977000009,[.i .i64 18,.i .i64 (-1),.sl 1977000010 0 2 1 .en,.i .i64 0,.i .i64 26,.i .i64 2,.sl 1977000011 0 2 1 (.ex 2),.i .i64 0,.i .i64 18,.i .i64 (-1),.sl 1977000012 0 2 1 .en,.i .i64 0,.i .i64 26,.i .i64 3,.sl 1977000013 0 2 1 (.ex 2),.i .i64 0]),(1977000010,[.i .i64 0,.i .i64 1]),(1977000011,[.i .i64 1,.i .i64 0]),(1977000012,[.i .i64 0,.i .i64 2]),(1977000013,[.i .i64 2,.i .i64 0]),(1977000024,[.i .i64 0,.i .i64 64,.i .i64 (-9223372036854775808),.i .i64 9223372036854775807,.i .i64 0,.i .i64 63,.i .i64 0,.i .i64 63])],1977000000⟩
theorem vW (hL:ac E) {pw:Int} (hP:aK E pw):au prog E pQ:=ay (az hL hP (pP hL hP)) (by decide +kernel)
def pR:List aH:=pQ::pO
theorem pS (hL:ac E) {pw:Int} (hP:aK E pw):∀m∈pR,au prog E m:=ao (vW hL hP) (pP hL hP)
def pT:aH:=⟨34,[.ag [.sl 1963000005 0 4 2 .en,.sl 1963000006 0 2 1 .en,.sl 1963000007 0 1 7 .en]],[(1963000005,[.s ⟨#[120,115]⟩,.i .i64 2,.s ⟨#[105]⟩,.i .i64 0,.s ⟨#[120,48]⟩,.i .i64 0,.s ⟨#[120,49]⟩,.i .i64 0]),(1963000006,[.i .i64 0,.i .i64 1]),(1963000007,[.s ⟨#[97]⟩,.ns,.sl 1963000008 0 4 4 .en,.i .i64 2,.i .i64 3,.i .i64 0,.i .i64 0]),(1963000008,[.i .i64 18,.i .i64 (-1),.sl 1963000009 0 2 1 .en,.i .i64 0,.i .i64 26,.i .i64 2,.sl 1963000010 0 2 1 (.ex 2),.i .i64 0,.i .i64 18,.i .i64 (-1),.sl 1963000011 0 2 1 .en,.i .i64 0,.i .i64 26,.i .i64 3,.sl 1963000012 0 2 1 (.ex 2),.i .i64 0]),(1963000009,[.i .i64 0,.i .i64 1]),(1963000010,[.i .i64 1,.i .i64 0]),(1963000011,[.i .i64 0,.i .i64 2]),(1963000012,[.i .i64 2,.i .i64 0])],.b true,[],6958000000⟩
theorem vX (hL:ac E) {pw:Int} (hP:aK E pw):au prog E pT:=ay (az hL hP (pS hL hP)) (by decide +kernel)
def pU:List aH:=pT::pR
theorem pV (hL:ac E) {pw:Int} (hP:aK E pw):∀m∈pU,au prog E m:=ao (vX hL hP) (pS hL hP)
def pW:aH:=⟨23,[.ag [.sl 1963000005 0 4 2 .en,.sl 1963000006 0 2 1 .en,.sl 1963000007 0 1 7 .en]],[(1963000005,[.s ⟨#[120,115]⟩,.i .i64 2,.s ⟨#[105]⟩,.i .i64 0,.s ⟨#[120,48]⟩,.i .i64 0,.s ⟨#[120,49]⟩,.i .i64 0]),(1963000006,[.i .i64 0,.i .i64 1]),(1963000007,[.s ⟨#[97]⟩,.ns,.sl 1963000008 0 4 4 .en,.i .i64 2,.i .i64 3,.i .i64 0,.i .i64 0]),(1963000008,[.i .i64 18,.i .i64 (-1),.sl 1963000009 0 2 1 .en,.i .i64 0,.i .i64 26,.i .i64 2,.sl 1963000010 0 2 1 (.ex 2),.i .i64 0,.i .i64 18,.i .i64 (-1),.sl 1963000011 0 2 1 .en,.i .i64 0,.i .i64 26,.i .i64 3,.sl 1963000012 0 2 1 (.ex 2),.i .i64 0]),(1963000009,[.i .i64 0,.i .i64 1]),(1963000010,[.i .i64 1,.i .i64 0]),(1963000011,[.i .i64 0,.i .i64 2]),(1963000012,[.i .i64 2,.i .i64 0])],.i .i64 0,[],5959000000⟩
theorem vY (hL:ac E) {pw:Int} (hP:aK E pw):au prog E pW:=ay (az hL hP (pV hL hP)) (by decide +kernel)
def pX:List aH:=pW::pU
theorem pY (hL:ac E) {pw:Int} (hP:aK E pw):∀m∈pX,au prog E m:=ao (vY hL hP) (pV hL hP)
def pZ:aH:=⟨102,[.ag [.sl 1963000005 0 4 2 .en,.sl 1963000006 0 2 1 .en,.sl 1963000007 0 1 7 .en]],[(1963000005,[.s ⟨#[120,115]⟩,.i .i64 2,.s ⟨#[105]⟩,.i .i64 0,.s ⟨#[120,48]⟩,.i .i64 0,.s ⟨#[120,49]⟩,.i .i64 0]),(1963000006,[.i .i64 0,.i .i64 1]),(1963000007,[.s ⟨#[97]⟩,.ns,.sl 1963000008 0 4 4 .en,.i .i64 2,.i .i64 3,.i .i64 0,.i .i64 0]),(1963000008,[.i .i64 18,.i .i64 (-1),.sl 1963000009 0 2 1 .en,.i .i64 0,.i .i64 26,.i .i64 2,.sl 1963000010 0 2 1 (.ex 2),.i .i64 0,.i .i64 18,.i .i64 (-1),.sl 1963000011 0 2 1 .en,.i .i64 0,.i .i64 26,.i .i64 3,.sl 1963000012 0 2 1 (.ex 2),.i .i64 0]),(1963000009,[.i .i64 0,.i .i64 1]),(1963000010,[.i .i64 1,.i .i64 0]),(1963000011,[.i .i64 0,.i .i64 2]),(1963000012,[.i .i64 2,.i .i64 0])],.b true,[],4960000000⟩
theorem vZ (hL:ac E) {pw:Int} (hP:aK E pw):au prog E pZ:=ay (az hL hP (pY hL hP)) (by decide +kernel)
def p5:List aH:=pZ::pX
theorem p6 (hL:ac E) {pw:Int} (hP:aK E pw):∀m∈p5,au prog E m:=ao (vZ hL hP) (pY hL hP)
def p7:aH:=⟨103,[.ag [.sl 1963000005 0 4 2 .en,.sl 1963000006 0 2 1 .en,.sl 1963000007 0 1 7 .en]],[(1963000005,[.s ⟨#[120,115]⟩,.i .i64 2,.s ⟨#[105]⟩,.i .i64 0,.s ⟨#[120,48]⟩,.i .i64 0,.s ⟨#[120,49]⟩,.i .i64 0]),(1963000006,[.i .i64 0,.i .i64 1]),(1963000007,[.s ⟨#[97]⟩,.ns,.sl 1963000008 0 4 4 .en,.i .i64 2,.i .i64 3,.i .i64 0,.i .i64 0]),(1963000008,[.i .i64 18,.i .i64 (-1),.sl 1963000009 0 2 1 .en,.i .i64 0,.i .i64 26,.i .i64 2,.sl 1963000010 0 2 1 (.ex 2),.i .i64 0,.i .i64 18,.i .i64 (-1),.sl 1963000011 0 2 1 .en,.i .i64 0,.i .i64 26,.i .i64 3,.sl 1963000012 0 2 1 (.ex 2),.i .i64 0]),(1963000009,[.i .i64 0,.i .i64 1]),(1963000010,[.i .i64 1,.i .i64 0]),(1963000011,[.i .i64 0,.i .i64 2]),(1963000012,[.i .i64 2,.i .i64 0])],.sl 4957000005 0 1 1 (.ex 1),[(4957000005,[.ns])],4957000000⟩
theorem v6 (hL:ac E) {pw:Int} (hP:aK E pw):au prog E p7:=ay (az hL hP (p6 hL hP)) (by decide +kernel)
def p8:List aH:=p7::p5
theorem p9 (hL:ac E) {pw:Int} (hP:aK E pw):∀m∈p8,au prog E m:=ao (v6 hL hP) (p6 hL hP)
def qa:aH:=⟨124,[.ag [.sl 1963000005 0 4 2 .en,.sl 1963000006 0 2 1 .en,.sl 1963000007 0 1 7 .en]],[(1963000005,[.s ⟨#[120,115]⟩,.i .i64 2,.s ⟨#[105]⟩,.i .i64 0,.s ⟨#[120,48]⟩,.i .i64 0,.s ⟨#[120,49]⟩,.i .i64 0]),(1963000006,[.i .i64 0,.i .i64 1]),(1963000007,[.s ⟨#[97]⟩,.ns,.sl 1963000008 0 4 4 .en,.i .i64 2,.i .i64 3,.i .i64 0,.i .i64 0]),(1963000008,[.i .i64 18,.i .i64 (-1),.sl 1963000009 0 2 1 .en,.i .i64 0,.i .i64 26,.i .i64 2,.sl 1963000010 0 2 1 (.ex 2),.i .i64 0,.i .i64 18,.i .i64 (-1),.sl 1963000011 0 2 1 .en,.i .i64 0,.i .i64 26,.i .i64 3,.sl 1963000012 0 2 1 (.ex 2),.i .i64 0]),(1963000009,[.i .i64 0,.i .i64 1]),(1963000010,[.i .i64 1,.i .i64 0]),(1963000011,[.i .i64 0,.i .i64 2]),(1963000012,[.i .i64 2,.i .i64 0])],.sl 4956000064 0 1 1 .en,[(4956000064,[.i .i64 0])],4956000000⟩
theorem v7 (hL:ac E) {pw:Int} (hP:aK E pw):au prog E qa:=ay (az hL hP (p9 hL hP)) (by decide +kernel)
def qb:List aH:=qa::p8
theorem qc (hL:ac E) {pw:Int} (hP:aK E pw):∀m∈qb,au prog E m:=ao (v7 hL hP) (p9 hL hP)
def qe:aH:=⟨98,[.sl 4955000012 0 1 1 .en,.sl 4955000032 0 1 1 (.ex 1),.i .i64 1],[(4955000012,[.i .i64 0]),(4955000032,[.ns])],.sl 5954000090 0 1 1 (.ex 1),[(5954000090,[.i .i64 (-1)])],5954000000⟩
theorem v8 (hL:ac E) {pw:Int} (hP:aK E pw):au prog E qe:=ay (az hL hP (qc hL hP)) (by decide +kernel)
def qf:List aH:=qe::qb
theorem qg (hL:ac E) {pw:Int} (hP:aK E pw):∀m∈qf,au prog E m:=ao (v8 hL hP) (qc hL hP)
def qh:aH:=⟨84,[.ag [.sl 1963000005 0 4 2 .en,.sl 1963000006 0 2 1 .en,.sl 1963000007 0 1 7 .en]],[(1963000005,[.s ⟨#[120,115]⟩,.i .i64 2,.s ⟨#[105]⟩,.i .i64 0,.s ⟨#[120,48]⟩,.i .i64 0,.s ⟨#[120,49]⟩,.i .i64 0]),(1963000006,[.i .i64 0,.i .i64 1]),(1963000007,[.s ⟨#[97]⟩,.ns,.sl 1963000008 0 4 4 .en,.i .i64 2,.i .i64 3,.i .i64 0,.i .i64 0]),(1963000008,[.i .i64 18,.i .i64 (-1),.sl 1963000009 0 2 1 .en,.i .i64 0,.i .i64 26,.i .i64 2,.sl 1963000010 0 2 1 (.ex 2),.i .i64 0,.i .i64 18,.i .i64 (-1),.sl 1963000011 0 2 1 .en,.i .i64 0,.i .i64 26,.i .i64 3,.sl 1963000012 0 2 1 (.ex 2),.i .i64 0]),(1963000009,[.i .i64 0,.i .i64 1]),(1963000010,[.i .i64 1,.i .i64 0]),(1963000011,[.i .i64 0,.i .i64 2]),(1963000012,[.i .i64 2,.i .i64 0])],.tu [.p 4955000046 0,.i .i64 0],[(4955000046,[.sl 4955000048 0 1 1 (.ex 1),.sl 4955000135 0 1 1 (.ex 1),.sl 4955000042 0 1 1 (.ex 1),.sl 4955000044 0 1 1 (.ex 1)]),(4955000048,[.i .i64 (-1)]),(4955000135,[.i .i64 0]),(4955000042,[.ns]),(4955000044,[.ns])],4955000000⟩
theorem wa (hL:ac E) {pw:Int} (hP:aK E pw):au prog E qh:=ay (az hL hP (qg hL hP)) (by decide +kernel)
def qi:List aH:=qh::qf
theorem qj (hL:ac E) {pw:Int} (hP:aK E pw):∀m∈qi,au prog E m:=ao (wa hL hP) (qg hL hP)
def qk:aH:=⟨85,[.ag [.sl 1963000005 0 4 2 .en,.sl 1963000006 0 2 1 .en,.sl 1963000007 0 1 7 .en]],[(1963000005,[.s ⟨#[120,115]⟩,.i .i64 2,.s ⟨#[105]⟩,.i .i64 0,.s ⟨#[120,48]⟩,.i .i64 0,.s ⟨#[120,49]⟩,.i .i64 0]),(1963000006,[.i .i64 0,.i .i64 1]),(1963000007,[.s ⟨#[97]⟩,.ns,.sl 1963000008 0 4 4 .en,.i .i64 2,.i .i64 3,.i .i64 0,.i .i64 0]),(1963000008,[.i .i64 18,.i .i64 (-1),.sl 1963000009 0 2 1 .en,.i .i64 0,.i .i64 26,.i .i64 2,.sl 1963000010 0 2 1 (.ex 2),.i .i64 0,.i .i64 18,.i .i64 (-1),.sl 1963000011 0 2 1 .en,.i .i64 0,.i .i64 26,.i .i64 3,.sl 1963000012 0 2 1 (.ex 2),.i .i64 0]),(1963000009,[.i .i64 0,.i .i64 1]),(1963000010,[.i .i64 1,.i .i64 0]),(1963000011,[.i .i64 0,.i .i64 2]),(1963000012,[.i .i64 2,.i .i64 0])],.sl 4953000189 0 4 2 .en,[(4953000189,[.i .i64 (-1),.i .i64 0,.i .i64 (-1),.i .i64 0,.i .i64 0,.i .i64 1,.i .i64 0,.i .i64 3])],4953000000⟩
theorem wb (hL:ac E) {pw:Int} (hP:aK E pw):au prog E qk:=ay (az hL hP (qj hL hP)) (by decide +kernel)
def ql:List aH:=qk::qi
theorem qm (hL:ac E) {pw:Int} (hP:aK E pw):∀m∈ql,au prog E m:=ao (wb hL hP) (qj hL hP)
def qn:aH:=⟨95,[.ag [.sl 1963000005 0 4 2 .en,.sl 1963000006 0 2 1 .en,.sl 1963000007 0 1 7 .en]],[(1963000005,[.s ⟨#[120,115]⟩,.i .i64 2,.s ⟨#[105]⟩,.i .i64 0,.s ⟨#[120,48]⟩,.i .i64 0,.s ⟨#[120,49]⟩,.i .i64 0]),(1963000006,[.i .i64 0,.i .i64 1]),(1963000007,[.s ⟨#[97]⟩,.ns,.sl 1963000008 0 4 4 .en,.i .i64 2,.i .i64 3,.i .i64 0,.i .i64 0]),(1963000008,[.i .i64 18,.i .i64 (-1),.sl 1963000009 0 2 1 .en,.i .i64 0,.i .i64 26,.i .i64 2,.sl 1963000010 0 2 1 (.ex 2),.i .i64 0,.i .i64 18,.i .i64 (-1),.sl 1963000011 0 2 1 .en,.i .i64 0,.i .i64 26,.i .i64 3,.sl 1963000012 0 2 1 (.ex 2),.i .i64 0]),(1963000009,[.i .i64 0,.i .i64 1]),(1963000010,[.i .i64 1,.i .i64 0]),(1963000011,[.i .i64 0,.i .i64 2]),(1963000012,[.i .i64 2,.i .i64 0])],.i .i64 0,[],3961000000⟩
theorem wc (hL:ac E) {pw:Int} (hP:aK E pw):au prog E qn:=ay (az hL hP (qm hL hP)) (by decide +kernel)
def qo:List aH:=qn::ql
theorem qp (hL:ac E) {pw:Int} (hP:aK E pw):∀m∈qo,au prog E m:=ao (wc hL hP) (qm hL hP)
def qq:aH:=⟨221,[.ag [.sl 1963000005 0 4 2 .en,.sl 1963000006 0 2 1 .en,.sl 1963000007 0 1 7 .en]],[(1963000005,[.s ⟨#[120,115]⟩,.i .i64 2,.s ⟨#[105]⟩,.i .i64 0,.s ⟨#[120,48]⟩,.i .i64 0,.s ⟨#[120,49]⟩,.i .i64 0]),(1963000006,[.i .i64 0,.i .i64 1]),(1963000007,[.s ⟨#[97]⟩,.ns,.sl 1963000008 0 4 4 .en,.i .i64 2,.i .i64 3,.i .i64 0,.i .i64 0]),(1963000008,[.i .i64 18,.i .i64 (-1),.sl 1963000009 0 2 1 .en,.i .i64 0,.i .i64 26,.i .i64 2,.sl 1963000010 0 2 1 (.ex 2),.i .i64 0,.i .i64 18,.i .i64 (-1),.sl 1963000011 0 2 1 .en,.i .i64 0,.i .i64 26,.i .i64 3,.sl 1963000012 0 2 1 (.ex 2),.i .i64 0]),(1963000009,[.i .i64 0,.i .i64 1]),(1963000010,[.i .i64 1,.i .i64 0]),(1963000011,[.i .i64 0,.i .i64 2]),(1963000012,[.i .i64 2,.i .i64 0])],.tu [.sl 2962000460 0 4 2 .en,.i .i64 0],[(2962000460,[.i .i64 0,.i .i64 64,.i .i64 (-9223372036854775808),.i .i64 9223372036854775807,.i .i64 0,.i .i64 63,.i .i64 0,.i .i64 63])],2962000000⟩
theorem wd (hL:ac E) {pw:Int} (hP:aK E pw):au prog E qq:=ay (az hL hP (qp hL hP)) (by decide +kernel)
def qr:List aH:=qq::qo
theorem qs (hL:ac E) {pw:Int} (hP:aK E pw):∀m∈qr,au prog E m:=ao (wd hL hP) (qp hL hP)
def qt:aH:=⟨278,[.ag [.sl 1963000005 0 4 2 .en,.sl 1963000006 0 2 1 .en,.sl 1963000007 0 1 7 .en],.sl 1963000023 0 4 2 .en],[(1963000005,[.s ⟨#[120,115]⟩,.i .i64 2,.s ⟨#[105]⟩,.i .i64 0,.s ⟨#[120,48]⟩,.i .i64 0,.s ⟨#[120,49]⟩,.i .i64 0]),(1963000006,[.i .i64 0,.i .i64 1]),(1963000007,[.s ⟨#[97]⟩,.ns,.sl 1963000008 0 4 4 .en,.i .i64 2,.i .i64 3,.i .i64 0,.i .i64 0]),(1963000008,[.i .i64 18,.i .i64 (-1),.sl 1963000009 0 2 1 .en,.i .i64 0,.i .i64 26,.i .i64 2,.sl 1963000010 0 2 1 (.ex 2),.i .i64 0,.i .i64 18,.i .i64 (-1),.sl 1963000011 0 2 1 .en,.i .i64 0,.i .i64 26,.i .i64 3,.sl 1963000012 0 2 1 (.ex 2),.i .i64 0]),(1963000009,[.i .i64 0,.i .i64 1]),(1963000010,[.i .i64 1,.i .i64 0]),(1963000011,[.i .i64 0,.i .i64 2]),(1963000012,[.i .i64 2,.i .i64 0]),(1963000023,[.i .i64 0,.i .i64 64,.i .i64 (-9223372036854775808),.i .i64 9223372036854775807,.i .i64 0,.i .i64 63,.i .i64 0,.i .i64 63])],.b true,[],3951000000⟩
theorem we (hL:ac E) {pw:Int} (hP:aK E pw):au prog E qt:=ay (az hL hP (qs hL hP)) (by decide +kernel)
def qu:List aH:=qt::qr
theorem qv (hL:ac E) {pw:Int} (hP:aK E pw):∀m∈qu,au prog E m:=ao (we hL hP) (qs hL hP)
def qw:aH:=⟨280,[.ag [.sl 1963000005 0 4 2 .en,.sl 1963000006 0 2 1 .en,.sl 1963000007 0 1 7 .en],.sl 1963000023 0 4 2 .en],[(1963000005,[.s ⟨#[120,115]⟩,.i .i64 2,.s ⟨#[105]⟩,.i .i64 0,.s ⟨#[120,48]⟩,.i .i64 0,.s ⟨#[120,49]⟩,.i .i64 0]),(1963000006,[.i .i64 0,.i .i64 1]),(1963000007,[.s ⟨#[97]⟩,.ns,.sl 1963000008 0 4 4 .en,.i .i64 2,.i .i64 3,.i .i64 0,.i .i64 0]),(1963000008,[.i .i64 18,.i .i64 (-1),.sl 1963000009 0 2 1 .en,.i .i64 0,.i .i64 26,.i .i64 2,.sl 1963000010 0 2 1 (.ex 2),.i .i64 0,.i .i64 18,.i .i64 (-1),.sl 1963000011 0 2 1 .en,.i .i64 0,.i .i64 26,.i .i64 3,.sl 1963000012 0 2 1 (.ex 2),.i .i64 0]),(1963000009,[.i .i64 0,.i .i64 1]),(1963000010,[.i .i64 1,.i .i64 0]),(1963000011,[.i .i64 0,.i .i64 2]),(1963000012,[.i .i64 2,.i .i64 0]),(1963000023,[.i .i64 0,.i .i64 64,.i .i64 (-9223372036854775808),.i .i64 9223372036854775807,.i .i64 0,.i .i64 63,.i .i64 0,.i .i64 63])],.sl 3950000854 0 7 3 .en,[(3950000854,[.i .i64 4,.i .i64 0,.i .i64 0,.i .i64 1,.i .i64 2,.i .i64 0,.i .i64 4,.i .i64 2,.i .i64 0,.i .i64 4,.i .i64 2,.i .i64 0,.i .i64 2,.i .i64 3,.i .i64 0,.i .i64 4,.i .i64 3,.i .i64 0,.i .i64 4,.i .i64 3,.i .i64 0])],3950000000⟩
theorem wg (hL:ac E) {pw:Int} (hP:aK E pw):au prog E qw:=ay (az hL hP (qv hL hP)) (by decide +kernel)
def qx:List aH:=qw::qu
theorem qy (hL:ac E) {pw:Int} (hP:aK E pw):∀m∈qx,au prog E m:=ao (wg hL hP) (qv hL hP)
def qz:aH:=⟨275,[.ag [.sl 1963000005 0 4 2 .en,.sl 1963000006 0 2 1 .en,.sl 1963000007 0 1 7 .en],.sl 1963000023 0 4 2 .en],[(1963000005,[.s ⟨#[120,115]⟩,.i .i64 2,.s ⟨#[105]⟩,.i .i64 0,.s ⟨#[120,48]⟩,.i .i64 0,.s ⟨#[120,49]⟩,.i .i64 0]),(1963000006,[.i .i64 0,.i .i64 1]),(1963000007,[.s ⟨#[97]⟩,.ns,.sl 1963000008 0 4 4 .en,.i .i64 2,.i .i64 3,.i .i64 0,.i .i64 0]),(1963000008,[.i .i64 18,.i .i64 (-1),.sl 1963000009 0 2 1 .en,.i .i64 0,.i .i64 26,.i .i64 2,.sl 1963000010 0 2 1 (.ex 2),.i .i64 0,.i .i64 18,.i .i64 (-1),.sl 1963000011 0 2 1 .en,.i .i64 0,.i .i64 26,.i .i64 3,.sl 1963000012 0 2 1 (.ex 2),.i .i64 0]),(1963000009,[.i .i64 0,.i .i64 1]),(1963000010,[.i .i64 1,.i .i64 0]),(1963000011,[.i .i64 0,.i .i64 2]),(1963000012,[.i .i64 2,.i .i64 0]),(1963000023,[.i .i64 0,.i .i64 64,.i .i64 (-9223372036854775808),.i .i64 9223372036854775807,.i .i64 0,.i .i64 63,.i .i64 0,.i .i64 63])],.sl 2952004229 0 5 2 .en,[(2952004229,[.b true,.i .i64 0,.b false,.i .i64 0,.b true,.i .i64 0,.b true,.i .i64 0,.b true,.i .i64 0])],2952000000⟩
theorem wh (hL:ac E) {pw:Int} (hP:aK E pw):au prog E qz:=ay (az hL hP (qy hL hP)) (by decide +kernel)
def qB:List aH:=qz::qx
theorem qC (hL:ac E) {pw:Int} (hP:aK E pw):∀m∈qB,au prog E m:=ao (wh hL hP) (qy hL hP)
def qD:aH:=⟨282,[.ag [.sl 1963000005 0 4 2 .en,.sl 1963000006 0 2 1 .en,.sl 1963000007 0 1 7 .en],.sl 1963000023 0 4 2 .en],[(1963000005,[.s ⟨#[120,115]⟩,.i .i64 2,.s ⟨#[105]⟩,.i .i64 0,.s ⟨#[120,48]⟩,.i .i64 0,.s ⟨#[120,49]⟩,.i .i64 0]),(1963000006,[.i .i64 0,.i .i64 1]),(1963000007,[.s ⟨#[97]⟩,.ns,.sl 1963000008 0 4 4 .en,.i .i64 2,.i .i64 3,.i .i64 0,.i .i64 0]),(1963000008,[.i .i64 18,.i .i64 (-1),.sl 1963000009 0 2 1 .en,.i .i64 0,.i .i64 26,.i .i64 2,.sl 1963000010 0 2 1 (.ex 2),.i .i64 0,.i .i64 18,.i .i64 (-1),.sl 1963000011 0 2 1 .en,.i .i64 0,.i .i64 26,.i .i64 3,.sl 1963000012 0 2 1 (.ex 2),.i .i64 0]),(1963000009,[.i .i64 0,.i .i64 1]),(1963000010,[.i .i64 1,.i .i64 0]),(1963000011,[.i .i64 0,.i .i64 2]),(1963000012,[.i .i64 2,.i .i64 0]),(1963000023,[.i .i64 0,.i .i64 64,.i .i64 (-9223372036854775808),.i .i64 9223372036854775807,.i .i64 0,.i .i64 63,.i .i64 0,.i .i64 63])],.sl 3948000868 0 7 3 .en,[(3948000868,[.i .i64 4,.i .i64 0,.i .i64 64,.i .i64 1,.i .i64 2,.i .i64 0,.i .i64 0,.i .i64 2,.i .i64 (-1),.i .i64 4,.i .i64 2,.i .i64 63,.i .i64 2,.i .i64 3,.i .i64 0,.i .i64 0,.i .i64 3,.i .i64 (-1),.i .i64 4,.i .i64 3,.i .i64 63])],3948000000⟩
theorem wi (hL:ac E) {pw:Int} (hP:aK E pw):au prog E qD:=ay (az hL hP (qC hL hP)) (by decide +kernel)
def qE:List aH:=qD::qB
theorem qF (hL:ac E) {pw:Int} (hP:aK E pw):∀m∈qE,au prog E m:=ao (wi hL hP) (qC hL hP)
def qG:aH:=⟨276,[.ag [.sl 1963000005 0 4 2 .en,.sl 1963000006 0 2 1 .en,.sl 1963000007 0 1 7 .en],.sl 1963000023 0 4 2 .en,.i .i64 4],[(1963000005,[.s ⟨#[120,115]⟩,.i .i64 2,.s ⟨#[105]⟩,.i .i64 0,.s ⟨#[120,48]⟩,.i .i64 0,.s ⟨#[120,49]⟩,.i .i64 0]),(1963000006,[.i .i64 0,.i .i64 1]),(1963000007,[.s ⟨#[97]⟩,.ns,.sl 1963000008 0 4 4 .en,.i .i64 2,.i .i64 3,.i .i64 0,.i .i64 0]),(1963000008,[.i .i64 18,.i .i64 (-1),.sl 1963000009 0 2 1 .en,.i .i64 0,.i .i64 26,.i .i64 2,.sl 1963000010 0 2 1 (.ex 2),.i .i64 0,.i .i64 18,.i .i64 (-1),.sl 1963000011 0 2 1 .en,.i .i64 0,.i .i64 26,.i .i64 3,.sl 1963000012 0 2 1 (.ex 2),.i .i64 0]),(1963000009,[.i .i64 0,.i .i64 1]),(1963000010,[.i .i64 1,.i .i64 0]),(1963000011,[.i .i64 0,.i .i64 2]),(1963000012,[.i .i64 2,.i .i64 0]),(1963000023,[.i .i64 0,.i .i64 64,.i .i64 (-9223372036854775808),.i .i64 9223372036854775807,.i .i64 0,.i .i64 63,.i .i64 0,.i .i64 63])],.sl 2949004211 0 5 2 .en,[(2949004211,[.b true,.i .i64 64,.b false,.i .i64 0,.b true,.i .i64 63,.b true,.i .i64 63,.b true,.i .i64 0])],2949000000⟩
theorem wj (hL:ac E) {pw:Int} (hP:aK E pw):au prog E qG:=ay (az hL hP (qF hL hP)) (by decide +kernel)
def qH:List aH:=qG::qE
theorem qI (hL:ac E) {pw:Int} (hP:aK E pw):∀m∈qH,au prog E m:=ao (wj hL hP) (qF hL hP)
def qJ:aH:=⟨276,[.ag [.sl 1963000005 0 4 2 .en,.sl 1963000006 0 2 1 .en,.sl 1963000007 0 1 7 .en],.sl 1963000023 0 4 2 .en,.i .i64 0],[(1963000005,[.s ⟨#[120,115]⟩,.i .i64 2,.s ⟨#[105]⟩,.i .i64 0,.s ⟨#[120,48]⟩,.i .i64 0,.s ⟨#[120,49]⟩,.i .i64 0]),(1963000006,[.i .i64 0,.i .i64 1]),(1963000007,[.s ⟨#[97]⟩,.ns,.sl 1963000008 0 4 4 .en,.i .i64 2,.i .i64 3,.i .i64 0,.i .i64 0]),(1963000008,[.i .i64 18,.i .i64 (-1),.sl 1963000009 0 2 1 .en,.i .i64 0,.i .i64 26,.i .i64 2,.sl 1963000010 0 2 1 (.ex 2),.i .i64 0,.i .i64 18,.i .i64 (-1),.sl 1963000011 0 2 1 .en,.i .i64 0,.i .i64 26,.i .i64 3,.sl 1963000012 0 2 1 (.ex 2),.i .i64 0]),(1963000009,[.i .i64 0,.i .i64 1]),(1963000010,[.i .i64 1,.i .i64 0]),(1963000011,[.i .i64 0,.i .i64 2]),(1963000012,[.i .i64 2,.i .i64 0]),(1963000023,[.i .i64 0,.i .i64 64,.i .i64 (-9223372036854775808),.i .i64 9223372036854775807,.i .i64 0,.i .i64 63,.i .i64 0,.i .i64 63])],.sl 2947005472 0 5 2 .en,[(2947005472,[.b true,.i .i64 0,.b false,.i .i64 0,.b true,.i .i64 (-1),.b true,.i .i64 (-1),.b true,.i .i64 0])],2947000000⟩
theorem wk (hL:ac E) {pw:Int} (hP:aK E pw):au prog E qJ:=ay (az hL hP (qI hL hP)) (by decide +kernel)
def qK:List aH:=qJ::qH
theorem qL (hL:ac E) {pw:Int} (hP:aK E pw):∀m∈qK,au prog E m:=ao (wk hL hP) (qI hL hP)
def qM:aH:=⟨274,[.ag [.sl 3 0 2 2 (.ex 2),.sl 4 0 2 1 (.ex 2),.sl 12 0 1 7 (.ex 1)]],[(3,[.s ⟨#[120,115]⟩,.i .i64 2,.s ⟨#[105]⟩,.i .i64 0]),(4,[.i .i64 0,.i .i64 1]),(12,[.s ⟨#[97]⟩,.ns,.sl 9 0 2 4 (.ex 2),.i .i64 2,.i .i64 1,.i .i64 0,.i .i64 0]),(9,[.i .i64 18,.i .i64 (-1),.sl 5 0 2 1 (.ex 2),.i .i64 0,.i .i64 18,.i .i64 (-1),.sl 7 0 2 1 (.ex 2),.i .i64 0]),(5,[.i .i64 0,.i .i64 1]),(7,[.i .i64 0,.i .i64 1])],.tu [.sl 1963000491 0 2 1 .en,.i .i64 0],[(1963000491,[.b false,.b true])],1963000000⟩
theorem wl (hL:ac E) {pw:Int} (hP:aK E pw):au prog E qM:=ay (az hL hP (qL hL hP)) (by decide +kernel)
def qN:List aH:=qM::qK
theorem qO (hL:ac E) {pw:Int} (hP:aK E pw):∀m∈qN,au prog E m:=ao (wl hL hP) (qL hL hP)
def qP:aH:=⟨33,[.ag [.sl 3 0 2 2 (.ex 2),.sl 4 0 2 1 (.ex 2),.sl 12 0 1 7 (.ex 1)],.i .i64 7],[(3,[.s ⟨#[120,115]⟩,.i .i64 2,.s ⟨#[105]⟩,.i .i64 0]),(4,[.i .i64 0,.i .i64 1]),(12,[.s ⟨#[97]⟩,.ns,.sl 9 0 2 4 (.ex 2),.i .i64 2,.i .i64 1,.i .i64 0,.i .i64 0]),(9,[.i .i64 18,.i .i64 (-1),.sl 5 0 2 1 (.ex 2),.i .i64 0,.i .i64 18,.i .i64 (-1),.sl 7 0 2 1 (.ex 2),.i .i64 0]),(5,[.i .i64 0,.i .i64 1]),(7,[.i .i64 0,.i .i64 1])],.tu [.sl 978000015 0 2 1 (.ex 2),.i .i64 0],[(978000015,[.i .i64 0,.i .i64 2])],978000000⟩
theorem wm (hL:ac E) {pw:Int} (hP:aK E pw):au prog E qP:=ay (az hL hP (qO hL hP)) (by decide +kernel)
def qQ:List aH:=qP::qN
theorem qR (hL:ac E) {pw:Int} (hP:aK E pw):∀m∈qQ,au prog E m:=ao (wm hL hP) (qO hL hP)
def qS:aH:=⟨8,[.ag [.sl 3 0 2 2 (.ex 2),.sl 4 0 2 1 (.ex 2),.sl 12 0 1 7 (.ex 1)]],[(3,[.s ⟨#[120,115]⟩,.i .i64 2,.s ⟨#[105]⟩,.i .i64 0]),(4,[.i .i64 0,.i .i64 1]),(12,[.s ⟨#[97]⟩,.ns,.sl 9 0 2 4 (.ex 2),.i .i64 2,.i .i64 1,.i .i64 0,.i .i64 0]),(9,[.i .i64 18,.i .i64 (-1),.sl 5 0 2 1 (.ex 2),.i .i64 0,.i .i64 18,.i .i64 (-1),.sl 7 0 2 1 (.ex 2),.i .i64 0]),(5,[.i .i64 0,.i .i64 1]),(7,[.i .i64 0,.i .i64 1])],.sl 1945000071 0 2 2 .en,[(1945000071,[.i .i64 0,.i .i64 0,.i .i64 0,.i .i64 1])],1945000000⟩
theorem wn (hL:ac E) {pw:Int} (hP:aK E pw):au prog E qS:=ay (az hL hP (qR hL hP)) (by decide +kernel)
def qT:List aH:=qS::qQ
theorem qU (hL:ac E) {pw:Int} (hP:aK E pw):∀m∈qT,au prog E m:=ao (wn hL hP) (qR hL hP)
def qV:aH:=⟨7,[.ag [.sl 3 0 2 2 (.ex 2),.sl 4 0 2 1 (.ex 2),.sl 12 0 1 7 (.ex 1)],.sl 57 0 2 1 .en],[(3,[.s ⟨#[120,115]⟩,.i .i64 2,.s ⟨#[105]⟩,.i .i64 0]),(4,[.i .i64 0,.i .i64 1]),(12,[.s ⟨#[97]⟩,.ns,.sl 9 0 2 4 (.ex 2),.i .i64 2,.i .i64 1,.i .i64 0,.i .i64 0]),(9,[.i .i64 18,.i .i64 (-1),.sl 5 0 2 1 (.ex 2),.i .i64 0,.i .i64 18,.i .i64 (-1),.sl 7 0 2 1 (.ex 2),.i .i64 0]),(5,[.i .i64 0,.i .i64 1]),(7,[.i .i64 0,.i .i64 1]),(57,[.b false,.b true])],.tu [.ag [.sl 946000033 0 2 2 .en,.sl 946000040 0 2 1 .en,.sl 946000124 0 1 7 .en],.i .i64 0],[(946000033,[.s ⟨#[120,115]⟩,.i .i64 2,.s ⟨#[105]⟩,.i .i64 0]),(946000040,[.i .i64 0,.i .i64 1]),(946000124,[.s ⟨#[97]⟩,.ns,.sl 946000193 0 1 4 .en,.i .i64 2,.i .i64 1,.i .i64 0,.i .i64 0]),(946000193,[.i .i64 18,.i .i64 (-1),.sl 946000080 0 2 1 .en,.i .i64 0]),(946000080,[.i .i64 0,.i .i64 1])],946000000⟩
theorem wo (hL:ac E) {pw:Int} (hP:aK E pw):au prog E qV:=ay (az hL hP (qU hL hP)) (by decide +kernel)
def wq:List aH:=qV::qT
theorem wr (hL:ac E) {pw:Int} (hP:aK E pw):∀m∈wq,au prog E m:=ao (wo hL hP) (qU hL hP)
theorem lA (hL:ac E) {pw:Int} (hP:aK E pw):aQ prog E 5 [] (.bool true):=
 mq wR (jN (ls (mr hL)) (jN (kK hP) (ly (wr hL hP)))) (fuel:=600) (d:=60) (by decide +kernel)
end
section
open Go.Proofs.Tryz
open Go.Proofs
def x1 (x:aN):Int:=(x.args[1]?).getD 0
end
section
open Go.Proofs.Tryz
end
section
open Go.Proofs.Tryz
open Go.Proofs Go.Lib Go.Shelf Go.RowKit Go.WideShapes
set_option maxRecDepth 20000
variable {W:World}
theorem xB:cU prog W 27 (fun l:List Bool=>[.fro 1 (l.map rv)]) (fun l=>l.length≤9223372036854775807):=fun en held fuel cs x h=>by
 obtain ⟨l,hl,r⟩:=cU.slice (k:=1) Za (cU.bool (W:=W) underlying4) (by kernel_rfl) (by decide) en held fuel cs x h
 exact ⟨l,hl.2,r⟩
end
section
open Go.Proofs.Tryz
open Go.Proofs Go.Lib Go.Shelf Go.RowKit Go.WideShapes
set_option maxRecDepth 20000
variable {W:World}
theorem ws (h:W.ShapedOpen prog):∃m,aK W m:=
 tB (P:=prog) (g:=2) (t:=362) (u:=126) (zero:=Array.replicate 20 (.int .u64 0)) (ts:=List.replicate 20 126) (i:=2) h (of_decide_eq_true (by kernel_rfl)) (by kernel_rfl) (by kernel_rfl) (by kernel_rfl) (by decide) rfl underlying126
theorem wt {H:Type} {enc:TypeId × Value→H} {os:Os} {f:FuncId} {fn:Func} {s:ChangeSpec} {X:World→Array Value→Prop}
  (hX:∀(w w':World) (args:Array Value),w.heap=w'.heap→X w args→X w' args)
  (own:ownKnob prog.godebug=none) (started:os.Started) (noInit:prog.inits.idxOf? f=none) (hfn:prog.funcs[f]?=some fn)
  (witness:∃(w:World) (tape:Tape) (i:Input),w.os=os∧(w.forCall tape i).Shaped Tryz.checked.prog∧i.vars=[]∧Input.okWide Tryz.checked.prog (w.forCall tape i) .any w.heap.size f i ∧
   ((s.pre enc Tryz.checked.prog fn [] false (w.forCall tape i).memory i.args∧X (w.forCall tape i).memory i.args)∧sizedMet enc Tryz.checked.prog fn (OpenSpec.ofChange s) false (w.forCall tape i).memory i.args)∧({}:Assume).holds Tryz.checked.prog (lone (Frame.enter Tryz.checked.prog f i.args .normal) [] (w.forCall tape i)))
  (contract:∀(W:World) (base:Nat) (args:Array Value) (ds gs:List (DataW H)) (before:List MemPlace),
   (∀(j:Nat) t v,fn.params[j]?=some t→args[j]?=some v→Value.okWide prog W .any base t v) →
   DataW.Whole enc prog fn.params.toList s.vars false W args.toList ds gs before→X W args→W.ShapedOpen prog →
   Calls prog f args W fun e W'=>∃v,e=.returned v∧s.post enc prog fn false true false false W args v W') :
  ReturnsInHanded {} Tryz.checked os f .any (fun w args=>(s.pre enc prog fn [] false w args∧X w args)∧sizedMet enc prog fn (OpenSpec.ofChange s) false w args) (s.post enc prog fn false true false false):=by
 refine returnsInHanded_of_calls own started noInit witness fun w tape i _ hsh _ hok hpre _=>?_
 obtain ⟨_,_,_,fn',hfn',_,_,_,_,hval⟩:=hok
 have e:fn'=fn:=Option.some.inj (hfn'.symm.trans hfn)
 rw[e] at hval
 obtain ⟨⟨⟨ds,gs,before,hw,_⟩,hx⟩,_⟩:=hpre
 exact (contract _ _ i.args ds gs before hval (DataW.Whole.of_heap (w':=w.forCall tape i) (by rfl) hw) (hX _ _ _ (by rfl) hx) hsh).mono fun e W' ⟨v,he,hp⟩=>by rw[he];exact ChangeSpec.post_blind hp
end
section
open Go.Proofs.Tryz
open Go.Proofs
theorem Af:prog.mayEnter=true:=by kernel_rfl
theorem zJ:(Rows.dropTellsRow.lifted == prog.liftsFinal)=true:=by kernel_rfl
theorem zK:(prog.make == some Rows.dropTellsRow.make)=true:=by kernel_rfl
theorem zL:laidOutB prog=true:=by kernel_rfl
theorem Ag:mapsRowed prog=true:=by kernel_rfl
theorem zM:(prog.stops == [])=true:=by kernel_rfl
theorem zN:(prog.stopKnobs == [])=true:=by kernel_rfl
theorem zO:(Rows.dropTellsRow.plainKeys == prog.plainKeys)=true:=by kernel_rfl
theorem xC:prog.stopsHeard=true:=by kernel_rfl
theorem AD:(Rows.dropTellsRow.inPlace == prog.inPlace 3)=true:=by kernel_rfl
theorem AE:(Rows.dropTellsRow.unfollowed == prog.unfollowed 3)=true:=by kernel_rfl
theorem Ah:(Rows.dropTellsRow.recurses == prog.recurses 3)=true:=by kernel_rfl
theorem Ai:(Rows.dropTellsRow.named == prog.varsNamed 3)=true:=by kernel_rfl
theorem closed:joinedFacts prog 3 Tryz.f3 Rows.dropTellsSpec Rows.dropTellsRow=true:=by
 unfold joinedFacts
 rw[zL,Ag,zM,zN,AD,AE,Ah,Ai,zO,xC,Af,zJ,zK]
 kernel_rfl
end
end Go.Proofs.YtbconpmnckokoaaGreatDoor
