/- What is asked of the program itself, of the law FoldTells, fact for fact. No conditions. -/
import Derived.Test.YtjpnhkmfhlnpcaaGreatDoorJp
import Derived.Test.YtjpnhkmfhlnpcaaGreatDoorJc
import Derived.Test.YtjpnhkmfhlnpcaaGreatDoorJe
import Derived.Handed
import Derived.Test.YtjpnhkmfhlnpcaaGreatDoorRows
import Derived.Test.YtjpnhkmfhlnpcaaGreatDoorChecked
import Derived.ProofKit
import Derived.JoinedOf
set_option linter.unusedVariables false
set_option linter.unusedSimpArgs false
set_option linter.unusedSectionVars false
namespace Go.Proofs.YtjpnhkmfhlnpcaaGreatDoor
section
open Go.Proofs.Tryz
open Go.Proofs Go.Lib Go.Shelf Go.RowKit
variable {E:World}
set_option maxRecDepth 100000
def sU:rF:=fun f ar=>match f,ar with
 |91,[.i .i32 c]=>bif decide (-2147483648≤c)&&decide (c≤2147483647) then some (.v (.b (isLetterU c))) else none
 |152,[.i .i64 op]=>some (.v (.ag [.s (bv op).1,.s (bv op).2.1,.s (bv op).2.2]))
 |_,_=>none
theorem p9 (hL:ah E):p7 prog E sU:=by
 constructor
 ·intro f ar x h
  unfold sU at h
  split at h
  ·rename_i c
   cases hb:(decide (-2147483648≤c)&&decide (c≤2147483647)) with
   |false=>rw[hb] at h;cases h
   |true=>
    rw[hb] at h;cases h
    simp only[qg,qh] at hb
    refine ⟨_,_,gr c hb.1 hb.2 hL,fun φ vs hr I=>?_,fun I v hv φ=>hv⟩
    obtain ⟨v,us,rfl,h1,h2⟩:=hr
    exact ⟨v,us,rfl,h1,h2⟩
  ·rename_i op
   cases h
   refine ⟨_,_,kW op,fun φ vs hr I=>?_,fun I v hv φ=>?_⟩
   ·obtain ⟨v,us,rfl,h1,h2⟩:=hr
    exact ⟨v,us,rfl,h1,h2⟩
   ·obtain ⟨vs,e,v1,u1,rfl,h1,v2,u2,rfl,h2,v3,u3,rfl,h3,h4⟩:=hv
    have h4:u3=[]:=h4
    subst h4
    exact ⟨_,e,v1,_,rfl,h1,v2,_,rfl,h2,v3,_,rfl,h3,rfl⟩
  ·cases h
 ·intro f ar l h
  unfold sU at h
  split at h
  ·rename_i c
   cases hb:(decide (-2147483648≤c)&&decide (c≤2147483647))<;>(rw[hb] at h;cases h)
  ·cases h
  ·cases h
theorem CS:prog.follows .mixedOrders=true:=by kernel_rfl
noncomputable def ET (l:List aM):bK:=w5 prog (zD prog) (EP (BD sU) (EP rJ (DF l))) 600 60
theorem aD (hL:ah E) {pw:Int} (hP:aR E pw) {l:List aM} (h:∀m∈l,aA prog E m):cE prog E (ET l):=lp CS ox (mH (ow (p9 hL)) (mH (nI hP) (oA h))) 600 60
theorem ax {m:aM} {l:List aM} (h1:aA prog E m) (h2:∀r∈l,aA prog E r):∀r∈m::l,aA prog E r:=fun r hr=>(List.mem_cons.1 hr).elim (fun e=>e▸h1) (h2 r)
def zI:List aM:=[]
theorem zJ (hL:ah E) {pw:Int} (hP:aR E pw):∀m∈zI,aA prog E m:=fun _ h=>nomatch h
def zK:aM:=⟨83,[.ag [.sl 4 0 3 2 (.ex 3),.ns,.sl 17 0 3 7 (.ex 3)]],[(4,[.s ⟨#[122]⟩,.i .i64 0,.s ⟨#[111,110,101]⟩,.i .i64 0,.s ⟨#[99]⟩,.i .i64 1]),(17,[.s ⟨#[97]⟩,.ns,.sl 9 0 3 4 (.ex 3),.i .i64 1,.i .i64 2,.i .i64 1,.i .i64 2,.s ⟨#[98]⟩,.ns,.ns,.i .i64 2,.i .i64 0,.i .i64 0,.i .i64 0,.s ⟨#[101]⟩,.ns,.ns,.i .i64 2,.i .i64 1,.i .i64 0,.i .i64 0]),(9,[.i .i64 0,.i .i64 0,.ns,.i .i64 0,.i .i64 0,.i .i64 1,.ns,.i .i64 1,.i .i64 8,.i .i64 2,.sl 7 0 2 1 (.ex 2),.i .i64 0]),(7,[.i .i64 0,.i .i64 1])],.b true,[],5994000000⟩
theorem DG (hL:ah E) {pw:Int} (hP:aR E pw):aA prog E zK:=aC (aD hL hP (zJ hL hP)) (by decide +kernel)
def zL:List aM:=zK::zI
theorem zM (hL:ah E) {pw:Int} (hP:aR E pw):∀m∈zL,aA prog E m:=ax (DG hL hP) (zJ hL hP)
def zN:aM:=⟨64,[.ag [.sl 4 0 3 2 (.ex 3),.ns,.sl 17 0 3 7 (.ex 3)]],[(4,[.s ⟨#[122]⟩,.i .i64 0,.s ⟨#[111,110,101]⟩,.i .i64 0,.s ⟨#[99]⟩,.i .i64 1]),(17,[.s ⟨#[97]⟩,.ns,.sl 9 0 3 4 (.ex 3),.i .i64 1,.i .i64 2,.i .i64 1,.i .i64 2,.s ⟨#[98]⟩,.ns,.ns,.i .i64 2,.i .i64 0,.i .i64 0,.i .i64 0,.s ⟨#[101]⟩,.ns,.ns,.i .i64 2,.i .i64 1,.i .i64 0,.i .i64 0]),(9,[.i .i64 0,.i .i64 0,.ns,.i .i64 0,.i .i64 0,.i .i64 1,.ns,.i .i64 1,.i .i64 8,.i .i64 2,.sl 7 0 2 1 (.ex 2),.i .i64 0]),(7,[.i .i64 0,.i .i64 1])],.i .i64 0,[],4995000000⟩
theorem DH (hL:ah E) {pw:Int} (hP:aR E pw):aA prog E zN:=aC (aD hL hP (zM hL hP)) (by decide +kernel)
def zO:List aM:=zN::zL
theorem zP (hL:ah E) {pw:Int} (hP:aR E pw):∀m∈zO,aA prog E m:=ax (DH hL hP) (zM hL hP)
def zQ:aM:=⟨36,[.ag [.sl 4 0 3 2 (.ex 3),.ns,.sl 17 0 3 7 (.ex 3)]],[(4,[.s ⟨#[122]⟩,.i .i64 0,.s ⟨#[111,110,101]⟩,.i .i64 0,.s ⟨#[99]⟩,.i .i64 1]),(17,[.s ⟨#[97]⟩,.ns,.sl 9 0 3 4 (.ex 3),.i .i64 1,.i .i64 2,.i .i64 1,.i .i64 2,.s ⟨#[98]⟩,.ns,.ns,.i .i64 2,.i .i64 0,.i .i64 0,.i .i64 0,.s ⟨#[101]⟩,.ns,.ns,.i .i64 2,.i .i64 1,.i .i64 0,.i .i64 0]),(9,[.i .i64 0,.i .i64 0,.ns,.i .i64 0,.i .i64 0,.i .i64 1,.ns,.i .i64 1,.i .i64 8,.i .i64 2,.sl 7 0 2 1 (.ex 2),.i .i64 0]),(7,[.i .i64 0,.i .i64 1])],.b true,[],3996000000⟩
theorem DI (hL:ah E) {pw:Int} (hP:aR E pw):aA prog E zQ:=aC (aD hL hP (zP hL hP)) (by decide +kernel)
def zR:List aM:=zQ::zO
theorem zS (hL:ah E) {pw:Int} (hP:aR E pw):∀m∈zR,aA prog E m:=ax (DI hL hP) (zP hL hP)
def zT:aM:=⟨41,[.ag [.sl 4 0 3 2 (.ex 3),.ns,.sl 17 0 3 7 (.ex 3)]],[(4,[.s ⟨#[122]⟩,.i .i64 0,.s ⟨#[111,110,101]⟩,.i .i64 0,.s ⟨#[99]⟩,.i .i64 1]),(17,[.s ⟨#[97]⟩,.ns,.sl 9 0 3 4 (.ex 3),.i .i64 1,.i .i64 2,.i .i64 1,.i .i64 2,.s ⟨#[98]⟩,.ns,.ns,.i .i64 2,.i .i64 0,.i .i64 0,.i .i64 0,.s ⟨#[101]⟩,.ns,.ns,.i .i64 2,.i .i64 1,.i .i64 0,.i .i64 0]),(9,[.i .i64 0,.i .i64 0,.ns,.i .i64 0,.i .i64 0,.i .i64 1,.ns,.i .i64 1,.i .i64 8,.i .i64 2,.sl 7 0 2 1 (.ex 2),.i .i64 0]),(7,[.i .i64 0,.i .i64 1])],.sl 3993000005 0 3 1 (.ex 3),[(3993000005,[.ns,.sl 3993000066 0 1 1 .en,.sl 3993000083 0 1 1 .en]),(3993000066,[.i .i64 0]),(3993000083,[.i .i64 0])],3993000000⟩
theorem DJ (hL:ah E) {pw:Int} (hP:aR E pw):aA prog E zT:=aC (aD hL hP (zS hL hP)) (by decide +kernel)
def zU:List aM:=zT::zR
theorem zV (hL:ah E) {pw:Int} (hP:aR E pw):∀m∈zU,aA prog E m:=ax (DJ hL hP) (zS hL hP)
def zW:aM:=⟨20,[.ag [.sl 4 0 3 2 (.ex 3),.ns,.sl 17 0 3 7 (.ex 3)]],[(4,[.s ⟨#[122]⟩,.i .i64 0,.s ⟨#[111,110,101]⟩,.i .i64 0,.s ⟨#[99]⟩,.i .i64 1]),(17,[.s ⟨#[97]⟩,.ns,.sl 9 0 3 4 (.ex 3),.i .i64 1,.i .i64 2,.i .i64 1,.i .i64 2,.s ⟨#[98]⟩,.ns,.ns,.i .i64 2,.i .i64 0,.i .i64 0,.i .i64 0,.s ⟨#[101]⟩,.ns,.ns,.i .i64 2,.i .i64 1,.i .i64 0,.i .i64 0]),(9,[.i .i64 0,.i .i64 0,.ns,.i .i64 0,.i .i64 0,.i .i64 1,.ns,.i .i64 1,.i .i64 8,.i .i64 2,.sl 7 0 2 1 (.ex 2),.i .i64 0]),(7,[.i .i64 0,.i .i64 1])],.i .i64 0,[],2997000000⟩
theorem DK (hL:ah E) {pw:Int} (hP:aR E pw):aA prog E zW:=aC (aD hL hP (zV hL hP)) (by decide +kernel)
def zX:List aM:=zW::zU
theorem zY (hL:ah E) {pw:Int} (hP:aR E pw):∀m∈zX,aA prog E m:=ax (DK hL hP) (zV hL hP)
def zZ:aM:=⟨67,[.ag [.sl 4 0 3 2 (.ex 3),.ns,.sl 17 0 3 7 (.ex 3)]],[(4,[.s ⟨#[122]⟩,.i .i64 0,.s ⟨#[111,110,101]⟩,.i .i64 0,.s ⟨#[99]⟩,.i .i64 1]),(17,[.s ⟨#[97]⟩,.ns,.sl 9 0 3 4 (.ex 3),.i .i64 1,.i .i64 2,.i .i64 1,.i .i64 2,.s ⟨#[98]⟩,.ns,.ns,.i .i64 2,.i .i64 0,.i .i64 0,.i .i64 0,.s ⟨#[101]⟩,.ns,.ns,.i .i64 2,.i .i64 1,.i .i64 0,.i .i64 0]),(9,[.i .i64 0,.i .i64 0,.ns,.i .i64 0,.i .i64 0,.i .i64 1,.ns,.i .i64 1,.i .i64 8,.i .i64 2,.sl 7 0 2 1 (.ex 2),.i .i64 0]),(7,[.i .i64 0,.i .i64 1])],.sl 3991000372 0 3 1 .en,[(3991000372,[.i .i64 0,.i .i64 2,.i .i64 1])],3991000000⟩
theorem DL (hL:ah E) {pw:Int} (hP:aR E pw):aA prog E zZ:=aC (aD hL hP (zY hL hP)) (by decide +kernel)
def Aa:List aM:=zZ::zX
theorem Ab (hL:ah E) {pw:Int} (hP:aR E pw):∀m∈Aa,aA prog E m:=ax (DL hL hP) (zY hL hP)
def Ac:aM:=⟨75,[.ag [.sl 4 0 3 2 (.ex 3),.ns,.sl 17 0 3 7 (.ex 3)]],[(4,[.s ⟨#[122]⟩,.i .i64 0,.s ⟨#[111,110,101]⟩,.i .i64 0,.s ⟨#[99]⟩,.i .i64 1]),(17,[.s ⟨#[97]⟩,.ns,.sl 9 0 3 4 (.ex 3),.i .i64 1,.i .i64 2,.i .i64 1,.i .i64 2,.s ⟨#[98]⟩,.ns,.ns,.i .i64 2,.i .i64 0,.i .i64 0,.i .i64 0,.s ⟨#[101]⟩,.ns,.ns,.i .i64 2,.i .i64 1,.i .i64 0,.i .i64 0]),(9,[.i .i64 0,.i .i64 0,.ns,.i .i64 0,.i .i64 0,.i .i64 1,.ns,.i .i64 1,.i .i64 8,.i .i64 2,.sl 7 0 2 1 (.ex 2),.i .i64 0]),(7,[.i .i64 0,.i .i64 1])],.sl 2992000012 0 3 1 (.ex 3),[(2992000012,[.b true,.b true,.b true])],2992000000⟩
theorem DM (hL:ah E) {pw:Int} (hP:aR E pw):aA prog E Ac:=aC (aD hL hP (Ab hL hP)) (by decide +kernel)
def Ad:List aM:=Ac::Aa
theorem Ae (hL:ah E) {pw:Int} (hP:aR E pw):∀m∈Ad,aA prog E m:=ax (DM hL hP) (Ab hL hP)
def Af:aM:=⟨96,[.sl 2990000012 0 3 1 .en,.sl 2990000032 0 3 1 (.ex 3),.i .i64 3],[(2990000012,[.i .i64 0,.i .i64 2,.i .i64 1]),(2990000032,[.ns,.sl 2990000033 0 1 1 .en,.sl 2990000034 0 1 1 .en]),(2990000033,[.i .i64 0]),(2990000034,[.i .i64 0])],.sl 3989000090 0 3 1 (.ex 3),[(3989000090,[.i .i64 (-1),.i .i64 0,.i .i64 0])],3989000000⟩
theorem DN (hL:ah E) {pw:Int} (hP:aR E pw):aA prog E Af:=aC (aD hL hP (Ae hL hP)) (by decide +kernel)
def Ag:List aM:=Af::Ad
theorem Ah (hL:ah E) {pw:Int} (hP:aR E pw):∀m∈Ag,aA prog E m:=ax (DN hL hP) (Ae hL hP)
def Ai:aM:=⟨77,[.ag [.sl 4 0 3 2 (.ex 3),.ns,.sl 17 0 3 7 (.ex 3)]],[(4,[.s ⟨#[122]⟩,.i .i64 0,.s ⟨#[111,110,101]⟩,.i .i64 0,.s ⟨#[99]⟩,.i .i64 1]),(17,[.s ⟨#[97]⟩,.ns,.sl 9 0 3 4 (.ex 3),.i .i64 1,.i .i64 2,.i .i64 1,.i .i64 2,.s ⟨#[98]⟩,.ns,.ns,.i .i64 2,.i .i64 0,.i .i64 0,.i .i64 0,.s ⟨#[101]⟩,.ns,.ns,.i .i64 2,.i .i64 1,.i .i64 0,.i .i64 0]),(9,[.i .i64 0,.i .i64 0,.ns,.i .i64 0,.i .i64 0,.i .i64 1,.ns,.i .i64 1,.i .i64 8,.i .i64 2,.sl 7 0 2 1 (.ex 2),.i .i64 0]),(7,[.i .i64 0,.i .i64 1])],.tu [.p 2990000048 0,.i .i64 0],[(2990000048,[.sl 2990000050 0 3 1 (.ex 3),.sl 2990000137 0 3 1 (.ex 3),.sl 2990000044 0 3 1 (.ex 3),.sl 2990000046 0 3 1 (.ex 3)]),(2990000050,[.i .i64 (-1),.i .i64 0,.i .i64 0]),(2990000137,[.i .i64 0,.i .i64 1,.i .i64 1]),(2990000044,[.sl 2990000318 0 2 1 .en,.ns,.ns]),(2990000318,[.i .i64 1,.i .i64 2]),(2990000046,[.ns,.ns,.ns])],2990000000⟩
theorem DO (hL:ah E) {pw:Int} (hP:aR E pw):aA prog E Ai:=aC (aD hL hP (Ah hL hP)) (by decide +kernel)
def Aj:List aM:=Ai::Ag
theorem Ak (hL:ah E) {pw:Int} (hP:aR E pw):∀m∈Aj,aA prog E m:=ax (DO hL hP) (Ah hL hP)
def Al:aM:=⟨78,[.ag [.sl 4 0 3 2 (.ex 3),.ns,.sl 17 0 3 7 (.ex 3)]],[(4,[.s ⟨#[122]⟩,.i .i64 0,.s ⟨#[111,110,101]⟩,.i .i64 0,.s ⟨#[99]⟩,.i .i64 1]),(17,[.s ⟨#[97]⟩,.ns,.sl 9 0 3 4 (.ex 3),.i .i64 1,.i .i64 2,.i .i64 1,.i .i64 2,.s ⟨#[98]⟩,.ns,.ns,.i .i64 2,.i .i64 0,.i .i64 0,.i .i64 0,.s ⟨#[101]⟩,.ns,.ns,.i .i64 2,.i .i64 1,.i .i64 0,.i .i64 0]),(9,[.i .i64 0,.i .i64 0,.ns,.i .i64 0,.i .i64 0,.i .i64 1,.ns,.i .i64 1,.i .i64 8,.i .i64 2,.sl 7 0 2 1 (.ex 2),.i .i64 0]),(7,[.i .i64 0,.i .i64 1])],.sl 2988000212 0 3 2 .en,[(2988000212,[.i .i64 0,.i .i64 0,.i .i64 0,.i .i64 1,.i .i64 0,.i .i64 2])],2988000000⟩
theorem DP (hL:ah E) {pw:Int} (hP:aR E pw):aA prog E Al:=aC (aD hL hP (Ak hL hP)) (by decide +kernel)
def sV:List aM:=Al::Aj
theorem sW (hL:ah E) {pw:Int} (hP:aR E pw):∀m∈sV,aA prog E m:=ax (DP hL hP) (Ak hL hP)
def sX:aM:=⟨57,[.ag [.sl 4 0 3 2 (.ex 3),.ns,.sl 17 0 3 7 (.ex 3)]],[(4,[.s ⟨#[122]⟩,.i .i64 0,.s ⟨#[111,110,101]⟩,.i .i64 0,.s ⟨#[99]⟩,.i .i64 1]),(17,[.s ⟨#[97]⟩,.ns,.sl 9 0 3 4 (.ex 3),.i .i64 1,.i .i64 2,.i .i64 1,.i .i64 2,.s ⟨#[98]⟩,.ns,.ns,.i .i64 2,.i .i64 0,.i .i64 0,.i .i64 0,.s ⟨#[101]⟩,.ns,.ns,.i .i64 2,.i .i64 1,.i .i64 0,.i .i64 0]),(9,[.i .i64 0,.i .i64 0,.ns,.i .i64 0,.i .i64 0,.i .i64 1,.ns,.i .i64 1,.i .i64 8,.i .i64 2,.sl 7 0 2 1 (.ex 2),.i .i64 0]),(7,[.i .i64 0,.i .i64 1])],.i .i64 0,[],1998000000⟩
theorem BN (hL:ah E) {pw:Int} (hP:aR E pw):aA prog E sX:=aC (aD hL hP (sW hL hP)) (by decide +kernel)
def sY:List aM:=sX::sV
theorem sZ (hL:ah E) {pw:Int} (hP:aR E pw):∀m∈sY,aA prog E m:=ax (BN hL hP) (sW hL hP)
def s6:aM:=⟨34,[.ag [.sl 4 0 3 2 (.ex 3),.ns,.sl 17 0 3 7 (.ex 3)]],[(4,[.s ⟨#[122]⟩,.i .i64 0,.s ⟨#[111,110,101]⟩,.i .i64 0,.s ⟨#[99]⟩,.i .i64 1]),(17,[.s ⟨#[97]⟩,.ns,.sl 9 0 3 4 (.ex 3),.i .i64 1,.i .i64 2,.i .i64 1,.i .i64 2,.s ⟨#[98]⟩,.ns,.ns,.i .i64 2,.i .i64 0,.i .i64 0,.i .i64 0,.s ⟨#[101]⟩,.ns,.ns,.i .i64 2,.i .i64 1,.i .i64 0,.i .i64 0]),(9,[.i .i64 0,.i .i64 0,.ns,.i .i64 0,.i .i64 0,.i .i64 1,.ns,.i .i64 1,.i .i64 8,.i .i64 2,.sl 7 0 2 1 (.ex 2),.i .i64 0]),(7,[.i .i64 0,.i .i64 1])],.i .i64 0,[],999000000⟩
theorem BO (hL:ah E) {pw:Int} (hP:aR E pw):aA prog E s6:=aC (aD hL hP (sZ hL hP)) (by decide +kernel)
def s7:List aM:=s6::sY
theorem s8 (hL:ah E) {pw:Int} (hP:aR E pw):∀m∈s7,aA prog E m:=ax (BO hL hP) (sZ hL hP)
def s9:aM:=⟨83,[.ag [.sl 4 0 3 2 (.ex 3),.ns,.sl 17 0 3 7 (.ex 3)]],[(4,[.s ⟨#[122]⟩,.i .i64 0,.s ⟨#[111,110,101]⟩,.i .i64 0,.s ⟨#[99]⟩,.i .i64 1]),(17,[.s ⟨#[97]⟩,.ns,.sl 9 0 3 4 (.ex 3),.i .i64 1,.i .i64 2,.i .i64 1,.i .i64 2,.s ⟨#[98]⟩,.ns,.ns,.i .i64 2,.i .i64 0,.i .i64 0,.i .i64 0,.s ⟨#[101]⟩,.ns,.ns,.i .i64 2,.i .i64 1,.i .i64 0,.i .i64 0]),(9,[.i .i64 0,.i .i64 0,.ns,.i .i64 0,.i .i64 0,.i .i64 1,.ns,.i .i64 1,.i .i64 8,.i .i64 2,.sl 7 0 2 1 (.ex 2),.i .i64 0]),(7,[.i .i64 0,.i .i64 1])],.b true,[],9978000000⟩
theorem BP (hL:ah E) {pw:Int} (hP:aR E pw):aA prog E s9:=aC (aD hL hP (s8 hL hP)) (by decide +kernel)
def ta:List aM:=s9::s7
theorem tb (hL:ah E) {pw:Int} (hP:aR E pw):∀m∈ta,aA prog E m:=ax (BP hL hP) (s8 hL hP)
def tc:aM:=⟨64,[.ag [.sl 4 0 3 2 (.ex 3),.ns,.sl 17 0 3 7 (.ex 3)]],[(4,[.s ⟨#[122]⟩,.i .i64 0,.s ⟨#[111,110,101]⟩,.i .i64 0,.s ⟨#[99]⟩,.i .i64 1]),(17,[.s ⟨#[97]⟩,.ns,.sl 9 0 3 4 (.ex 3),.i .i64 1,.i .i64 2,.i .i64 1,.i .i64 2,.s ⟨#[98]⟩,.ns,.ns,.i .i64 2,.i .i64 0,.i .i64 0,.i .i64 0,.s ⟨#[101]⟩,.ns,.ns,.i .i64 2,.i .i64 1,.i .i64 0,.i .i64 0]),(9,[.i .i64 0,.i .i64 0,.ns,.i .i64 0,.i .i64 0,.i .i64 1,.ns,.i .i64 1,.i .i64 8,.i .i64 2,.sl 7 0 2 1 (.ex 2),.i .i64 0]),(7,[.i .i64 0,.i .i64 1])],.i .i64 0,[],8979000000⟩
theorem BQ (hL:ah E) {pw:Int} (hP:aR E pw):aA prog E tc:=aC (aD hL hP (tb hL hP)) (by decide +kernel)
def td:List aM:=tc::ta
theorem te (hL:ah E) {pw:Int} (hP:aR E pw):∀m∈td,aA prog E m:=ax (BQ hL hP) (tb hL hP)
def tf:aM:=⟨36,[.ag [.sl 4 0 3 2 (.ex 3),.ns,.sl 17 0 3 7 (.ex 3)]],[(4,[.s ⟨#[122]⟩,.i .i64 0,.s ⟨#[111,110,101]⟩,.i .i64 0,.s ⟨#[99]⟩,.i .i64 1]),(17,[.s ⟨#[97]⟩,.ns,.sl 9 0 3 4 (.ex 3),.i .i64 1,.i .i64 2,.i .i64 1,.i .i64 2,.s ⟨#[98]⟩,.ns,.ns,.i .i64 2,.i .i64 0,.i .i64 0,.i .i64 0,.s ⟨#[101]⟩,.ns,.ns,.i .i64 2,.i .i64 1,.i .i64 0,.i .i64 0]),(9,[.i .i64 0,.i .i64 0,.ns,.i .i64 0,.i .i64 0,.i .i64 1,.ns,.i .i64 1,.i .i64 8,.i .i64 2,.sl 7 0 2 1 (.ex 2),.i .i64 0]),(7,[.i .i64 0,.i .i64 1])],.b true,[],7980000000⟩
theorem BR (hL:ah E) {pw:Int} (hP:aR E pw):aA prog E tf:=aC (aD hL hP (te hL hP)) (by decide +kernel)
def tg:List aM:=tf::td
theorem th (hL:ah E) {pw:Int} (hP:aR E pw):∀m∈tg,aA prog E m:=ax (BR hL hP) (te hL hP)
def tj:aM:=⟨41,[.ag [.sl 4 0 3 2 (.ex 3),.ns,.sl 17 0 3 7 (.ex 3)]],[(4,[.s ⟨#[122]⟩,.i .i64 0,.s ⟨#[111,110,101]⟩,.i .i64 0,.s ⟨#[99]⟩,.i .i64 1]),(17,[.s ⟨#[97]⟩,.ns,.sl 9 0 3 4 (.ex 3),.i .i64 1,.i .i64 2,.i .i64 1,.i .i64 2,.s ⟨#[98]⟩,.ns,.ns,.i .i64 2,.i .i64 0,.i .i64 0,.i .i64 0,.s ⟨#[101]⟩,.ns,.ns,.i .i64 2,.i .i64 1,.i .i64 0,.i .i64 0]),(9,[.i .i64 0,.i .i64 0,.ns,.i .i64 0,.i .i64 0,.i .i64 1,.ns,.i .i64 1,.i .i64 8,.i .i64 2,.sl 7 0 2 1 (.ex 2),.i .i64 0]),(7,[.i .i64 0,.i .i64 1])],.sl 7977000005 0 3 1 (.ex 3),[(7977000005,[.ns,.sl 7977000066 0 1 1 .en,.sl 7977000083 0 1 1 .en]),(7977000066,[.i .i64 0]),(7977000083,[.i .i64 0])],7977000000⟩
theorem BS (hL:ah E) {pw:Int} (hP:aR E pw):aA prog E tj:=aC (aD hL hP (th hL hP)) (by decide +kernel)
def tk:List aM:=tj::tg
theorem tm (hL:ah E) {pw:Int} (hP:aR E pw):∀m∈tk,aA prog E m:=ax (BS hL hP) (th hL hP)
def tn:aM:=⟨20,[.ag [.sl 4 0 3 2 (.ex 3),.ns,.sl 17 0 3 7 (.ex 3)]],[(4,[.s ⟨#[122]⟩,.i .i64 0,.s ⟨#[111,110,101]⟩,.i .i64 0,.s ⟨#[99]⟩,.i .i64 1]),(17,[.s ⟨#[97]⟩,.ns,.sl 9 0 3 4 (.ex 3),.i .i64 1,.i .i64 2,.i .i64 1,.i .i64 2,.s ⟨#[98]⟩,.ns,.ns,.i .i64 2,.i .i64 0,.i .i64 0,.i .i64 0,.s ⟨#[101]⟩,.ns,.ns,.i .i64 2,.i .i64 1,.i .i64 0,.i .i64 0]),(9,[.i .i64 0,.i .i64 0,.ns,.i .i64 0,.i .i64 0,.i .i64 1,.ns,.i .i64 1,.i .i64 8,.i .i64 2,.sl 7 0 2 1 (.ex 2),.i .i64 0]),(7,[.i .i64 0,.i .i64 1])],.i .i64 0,[],6981000000⟩
theorem BT (hL:ah E) {pw:Int} (hP:aR E pw):aA prog E tn:=aC (aD hL hP (tm hL hP)) (by decide +kernel)
def tp:List aM:=tn::tk
theorem tq (hL:ah E) {pw:Int} (hP:aR E pw):∀m∈tp,aA prog E m:=ax (BT hL hP) (tm hL hP)
def tt:aM:=⟨67,[.ag [.sl 4 0 3 2 (.ex 3),.ns,.sl 17 0 3 7 (.ex 3)]],[(4,[.s ⟨#[122]⟩,.i .i64 0,.s ⟨#[111,110,101]⟩,.i .i64 0,.s ⟨#[99]⟩,.i .i64 1]),(17,[.s ⟨#[97]⟩,.ns,.sl 9 0 3 4 (.ex 3),.i .i64 1,.i .i64 2,.i .i64 1,.i .i64 2,.s ⟨#[98]⟩,.ns,.ns,.i .i64 2,.i .i64 0,.i .i64 0,.i .i64 0,.s ⟨#[101]⟩,.ns,.ns,.i .i64 2,.i .i64 1,.i .i64 0,.i .i64 0]),(9,[.i .i64 0,.i .i64 0,.ns,.i .i64 0,.i .i64 0,.i .i64 1,.ns,.i .i64 1,.i .i64 8,.i .i64 2,.sl 7 0 2 1 (.ex 2),.i .i64 0]),(7,[.i .i64 0,.i .i64 1])],.sl 7975000372 0 3 1 .en,[(7975000372,[.i .i64 0,.i .i64 2,.i .i64 1])],7975000000⟩
theorem BU (hL:ah E) {pw:Int} (hP:aR E pw):aA prog E tt:=aC (aD hL hP (tq hL hP)) (by decide +kernel)
def tv:List aM:=tt::tp
theorem tw (hL:ah E) {pw:Int} (hP:aR E pw):∀m∈tv,aA prog E m:=ax (BU hL hP) (tq hL hP)
def tx:aM:=⟨75,[.ag [.sl 4 0 3 2 (.ex 3),.ns,.sl 17 0 3 7 (.ex 3)]],[(4,[.s ⟨#[122]⟩,.i .i64 0,.s ⟨#[111,110,101]⟩,.i .i64 0,.s ⟨#[99]⟩,.i .i64 1]),(17,[.s ⟨#[97]⟩,.ns,.sl 9 0 3 4 (.ex 3),.i .i64 1,.i .i64 2,.i .i64 1,.i .i64 2,.s ⟨#[98]⟩,.ns,.ns,.i .i64 2,.i .i64 0,.i .i64 0,.i .i64 0,.s ⟨#[101]⟩,.ns,.ns,.i .i64 2,.i .i64 1,.i .i64 0,.i .i64 0]),(9,[.i .i64 0,.i .i64 0,.ns,.i .i64 0,.i .i64 0,.i .i64 1,.ns,.i .i64 1,.i .i64 8,.i .i64 2,.sl 7 0 2 1 (.ex 2),.i .i64 0]),(7,[.i .i64 0,.i .i64 1])],.sl 6976000012 0 3 1 (.ex 3),[(6976000012,[.b true,.b true,.b true])],6976000000⟩
theorem BV (hL:ah E) {pw:Int} (hP:aR E pw):aA prog E tx:=aC (aD hL hP (tw hL hP)) (by decide +kernel)
def tz:List aM:=tx::tv
theorem tA (hL:ah E) {pw:Int} (hP:aR E pw):∀m∈tz,aA prog E m:=ax (BV hL hP) (tw hL hP)
def tB:aM:=⟨96,[.sl 6974000012 0 3 1 .en,.sl 6974000032 0 3 1 (.ex 3),.i .i64 3],[(6974000012,[.i .i64 0,.i .i64 2,.i .i64 1]),(6974000032,[.ns,.sl 6974000033 0 1 1 .en,.sl 6974000034 0 1 1 .en]),(6974000033,[.i .i64 0]),(6974000034,[.i .i64 0])],.sl 7973000090 0 3 1 (.ex 3),[(7973000090,[.i .i64 (-1),.i .i64 0,.i .i64 0])],7973000000⟩
theorem BW (hL:ah E) {pw:Int} (hP:aR E pw):aA prog E tB:=aC (aD hL hP (tA hL hP)) (by decide +kernel)
def tC:List aM:=tB::tz
theorem tD (hL:ah E) {pw:Int} (hP:aR E pw):∀m∈tC,aA prog E m:=ax (BW hL hP) (tA hL hP)
def tE:aM:=⟨77,[.ag [.sl 4 0 3 2 (.ex 3),.ns,.sl 17 0 3 7 (.ex 3)]],[(4,[.s ⟨#[122]⟩,.i .i64 0,.s ⟨#[111,110,101]⟩,.i .i64 0,.s ⟨#[99]⟩,.i .i64 1]),(17,[.s ⟨#[97]⟩,.ns,.sl 9 0 3 4 (.ex 3),.i .i64 1,.i .i64 2,.i .i64 1,.i .i64 2,.s ⟨#[98]⟩,.ns,.ns,.i .i64 2,.i .i64 0,.i .i64 0,.i .i64 0,.s ⟨#[101]⟩,.ns,.ns,.i .i64 2,.i .i64 1,.i .i64 0,.i .i64 0]),(9,[.i .i64 0,.i .i64 0,.ns,.i .i64 0,.i .i64 0,.i .i64 1,.ns,.i .i64 1,.i .i64 8,.i .i64 2,.sl 7 0 2 1 (.ex 2),.i .i64 0]),(7,[.i .i64 0,.i .i64 1])],.tu [.p 6974000048 0,.i .i64 0],[(6974000048,[.sl 6974000050 0 3 1 (.ex 3),.sl 6974000137 0 3 1 (.ex 3),.sl 6974000044 0 3 1 (.ex 3),.sl 6974000046 0 3 1 (.ex 3)]),(6974000050,[.i .i64 (-1),.i .i64 0,.i .i64 0]),(6974000137,[.i .i64 0,.i .i64 1,.i .i64 1]),(6974000044,[.sl 6974000318 0 2 1 .en,.ns,.ns]),(6974000318,[.i .i64 1,.i .i64 2]),(6974000046,[.ns,.ns,.ns])],6974000000⟩
theorem BX (hL:ah E) {pw:Int} (hP:aR E pw):aA prog E tE:=aC (aD hL hP (tD hL hP)) (by decide +kernel)
def tF:List aM:=tE::tC
theorem tG (hL:ah E) {pw:Int} (hP:aR E pw):∀m∈tF,aA prog E m:=ax (BX hL hP) (tD hL hP)
def tH:aM:=⟨78,[.ag [.sl 4 0 3 2 (.ex 3),.ns,.sl 17 0 3 7 (.ex 3)]],[(4,[.s ⟨#[122]⟩,.i .i64 0,.s ⟨#[111,110,101]⟩,.i .i64 0,.s ⟨#[99]⟩,.i .i64 1]),(17,[.s ⟨#[97]⟩,.ns,.sl 9 0 3 4 (.ex 3),.i .i64 1,.i .i64 2,.i .i64 1,.i .i64 2,.s ⟨#[98]⟩,.ns,.ns,.i .i64 2,.i .i64 0,.i .i64 0,.i .i64 0,.s ⟨#[101]⟩,.ns,.ns,.i .i64 2,.i .i64 1,.i .i64 0,.i .i64 0]),(9,[.i .i64 0,.i .i64 0,.ns,.i .i64 0,.i .i64 0,.i .i64 1,.ns,.i .i64 1,.i .i64 8,.i .i64 2,.sl 7 0 2 1 (.ex 2),.i .i64 0]),(7,[.i .i64 0,.i .i64 1])],.sl 6972000212 0 3 2 .en,[(6972000212,[.i .i64 0,.i .i64 0,.i .i64 0,.i .i64 1,.i .i64 0,.i .i64 2])],6972000000⟩
theorem BZ (hL:ah E) {pw:Int} (hP:aR E pw):aA prog E tH:=aC (aD hL hP (tG hL hP)) (by decide +kernel)
def tI:List aM:=tH::tF
theorem tJ (hL:ah E) {pw:Int} (hP:aR E pw):∀m∈tI,aA prog E m:=ax (BZ hL hP) (tG hL hP)
def tK:aM:=⟨57,[.ag [.sl 4 0 3 2 (.ex 3),.ns,.sl 17 0 3 7 (.ex 3)]],[(4,[.s ⟨#[122]⟩,.i .i64 0,.s ⟨#[111,110,101]⟩,.i .i64 0,.s ⟨#[99]⟩,.i .i64 1]),(17,[.s ⟨#[97]⟩,.ns,.sl 9 0 3 4 (.ex 3),.i .i64 1,.i .i64 2,.i .i64 1,.i .i64 2,.s ⟨#[98]⟩,.ns,.ns,.i .i64 2,.i .i64 0,.i .i64 0,.i .i64 0,.s ⟨#[101]⟩,.ns,.ns,.i .i64 2,.i .i64 1,.i .i64 0,.i .i64 0]),(9,[.i .i64 0,.i .i64 0,.ns,.i .i64 0,.i .i64 0,.i .i64 1,.ns,.i .i64 1,.i .i64 8,.i .i64 2,.sl 7 0 2 1 (.ex 2),.i .i64 0]),(7,[.i .i64 0,.i .i64 1])],.i .i64 0,[],5982000000⟩
theorem B3 (hL:ah E) {pw:Int} (hP:aR E pw):aA prog E tK:=aC (aD hL hP (tJ hL hP)) (by decide +kernel)
def tL:List aM:=tK::tI
theorem tM (hL:ah E) {pw:Int} (hP:aR E pw):∀m∈tL,aA prog E m:=ax (B3 hL hP) (tJ hL hP)
def tN:aM:=⟨34,[.ag [.sl 4 0 3 2 (.ex 3),.ns,.sl 17 0 3 7 (.ex 3)]],[(4,[.s ⟨#[122]⟩,.i .i64 0,.s ⟨#[111,110,101]⟩,.i .i64 0,.s ⟨#[99]⟩,.i .i64 1]),(17,[.s ⟨#[97]⟩,.ns,.sl 9 0 3 4 (.ex 3),.i .i64 1,.i .i64 2,.i .i64 1,.i .i64 2,.s ⟨#[98]⟩,.ns,.ns,.i .i64 2,.i .i64 0,.i .i64 0,.i .i64 0,.s ⟨#[101]⟩,.ns,.ns,.i .i64 2,.i .i64 1,.i .i64 0,.i .i64 0]),(9,[.i .i64 0,.i .i64 0,.ns,.i .i64 0,.i .i64 0,.i .i64 1,.ns,.i .i64 1,.i .i64 8,.i .i64 2,.sl 7 0 2 1 (.ex 2),.i .i64 0]),(7,[.i .i64 0,.i .i64 1])],.i .i64 0,[],4983000000⟩
theorem B4 (hL:ah E) {pw:Int} (hP:aR E pw):aA prog E tN:=aC (aD hL hP (tM hL hP)) (by decide +kernel)
def tO:List aM:=tN::tL
theorem tP (hL:ah E) {pw:Int} (hP:aR E pw):∀m∈tO,aA prog E m:=ax (B4 hL hP) (tM hL hP)
def tQ:aM:=⟨245,[.sl 3984000319 0 3 1 .en,.i .i64 509],[(3984000319,[.s ⟨#[122]⟩,.s ⟨#[111,110,101]⟩,.s ⟨#[99]⟩])],.sl 4971013197 0 509 1 .en,[(4971013197,[.s ⟨#[120,48]⟩,.s ⟨#[120,49]⟩,.s ⟨#[120,50]⟩,.s ⟨#[120,51]⟩,.s ⟨#[120,52]⟩,.s ⟨#[120,53]⟩,.s ⟨#[120,54]⟩,.s ⟨#[120,55]⟩,.s ⟨#[120,56]⟩,.s ⟨#[120,57]⟩,.s ⟨#[120,49,48]⟩,.s ⟨#[120,49,49]⟩,.s ⟨#[120,49,50]⟩,.s ⟨#[120,49,51]⟩,.s ⟨#[120,49,52]⟩,.s ⟨#[120,49,53]⟩,.s ⟨#[120,49,54]⟩,.s ⟨#[120,49,55]⟩,.s ⟨#[120,49,56]⟩,.s ⟨#[120,49,57]⟩,.s ⟨#[120,50,48]⟩,.s ⟨#[120,50,49]⟩,.s ⟨#[120,50,50]⟩,.s ⟨#[120,50,51]⟩,.s ⟨#[120,50,52]⟩,.s ⟨#[120,50,53]⟩,.s ⟨#[120,50,54]⟩,.s ⟨#[120,50,55]⟩,.s ⟨#[120,50,56]⟩,.s ⟨#[120,50,57]⟩,.s ⟨#[120,51,48]⟩,.s ⟨#[120,51,49]⟩,.s ⟨#[120,51,50]⟩,.s ⟨#[120,51,51]⟩,.s ⟨#[120,51,52]⟩,.s ⟨#[120,51,53]⟩,.s ⟨#[120,51,54]⟩,.s ⟨#[120,51,55]⟩,.s ⟨#[120,51,56]⟩,.s ⟨#[120,51,57]⟩,.s ⟨#[120,52,48]⟩,.s ⟨#[120,52,49]⟩,.s ⟨#[120,52,50]⟩,.s ⟨#[120,52,51]⟩,.s ⟨#[120,52,52]⟩,.s ⟨#[120,52,53]⟩,.s ⟨#[120,52,54]⟩,.s ⟨#[120,52,55]⟩,.s ⟨#[120,52,56]⟩,.s ⟨#[120,52,57]⟩,.s ⟨#[120,53,48]⟩,.s ⟨#[120,53,49]⟩,.s ⟨#[120,53,50]⟩,.s ⟨#[120,53,51]⟩,.s ⟨#[120,53,52]⟩,.s ⟨#[120,53,53]⟩,.s ⟨#[120,53,54]⟩,.s ⟨#[120,53,55]⟩,.s ⟨#[120,53,56]⟩,.s ⟨#[120,53,57]⟩,.s ⟨#[120,54,48]⟩,.s ⟨#[120,54,49]⟩,.s ⟨#[120,54,50]⟩,.s ⟨#[120,54,51]⟩,.s ⟨#[120,54,52]⟩,.s ⟨#[120,54,53]⟩,.s ⟨#[120,54,54]⟩,.s ⟨#[120,54,55]⟩,.s ⟨#[120,54,56]⟩,.s ⟨#[120,54,57]⟩,.s ⟨#[120,55,48]⟩,.s ⟨#[120,55,49]⟩,.s ⟨#[120,55,50]⟩,.s ⟨#[120,55,51]⟩,.s ⟨#[120,55,52]⟩,.s ⟨#[120,55,53]⟩,.s ⟨#[120,55,54]⟩,.s ⟨#[120,55,55]⟩,.s ⟨#[120,55,56]⟩,.s ⟨#[120,55,57]⟩,.s ⟨#[120,56,48]⟩,.s ⟨#[120,56,49]⟩,.s ⟨#[120,56,50]⟩,.s ⟨#[120,56,51]⟩,.s ⟨#[120,56,52]⟩,.s ⟨#[120,56,53]⟩,.s ⟨#[120,56,54]⟩,.s ⟨#[120,56,55]⟩,.s ⟨#[120,56,56]⟩,.s ⟨#[120,56,57]⟩,.s ⟨#[120,57,48]⟩,.s ⟨#[120,57,49]⟩,.s ⟨#[120,57,50]⟩,.s ⟨#[120,57,51]⟩,.s ⟨#[120,57,52]⟩,.s ⟨#[120,57,53]⟩,.s ⟨#[120,57,54]⟩,.s ⟨#[120,57,55]⟩,.s ⟨#[120,57,56]⟩,.s ⟨#[120,57,57]⟩,.us 3 4 120,.us 3 4 120,.us 3 4 120,.us 3 4 120,.us 3 4 120,.us 3 4 120,.us 3 4 120,.us 3 4 120,.us 3 4 120,.us 3 4 120,.us 3 4 120,.us 3 4 120,.us 3 4 120,.us 3 4 120,.us 3 4 120,.us 3 4 120,.us 3 4 120,.us 3 4 120,.us 3 4 120,.us 3 4 120,.us 3 4 120,.us 3 4 120,.us 3 4 120,.us 3 4 120,.us 3 4 120,.us 3 4 120,.us 3 4 120,.us 3 4 120,.us 3 4 120,.us 3 4 120,.us 3 4 120,.us 3 4 120,.us 3 4 120,.us 3 4 120,.us 3 4 120,.us 3 4 120,.us 3 4 120,.us 3 4 120,.us 3 4 120,.us 3 4 120,.us 3 4 120,.us 3 4 120,.us 3 4 120,.us 3 4 120,.us 3 4 120,.us 3 4 120,.us 3 4 120,.us 3 4 120,.us 3 4 120,.us 3 4 120,.us 3 4 120,.us 3 4 120,.us 3 4 120,.us 3 4 120,.us 3 4 120,.us 3 4 120,.us 3 4 120,.us 3 4 120,.us 3 4 120,.us 3 4 120,.us 3 4 120,.us 3 4 120,.us 3 4 120,.us 3 4 120,.us 3 4 120,.us 3 4 120,.us 3 4 120,.us 3 4 120,.us 3 4 120,.us 3 4 120,.us 3 4 120,.us 3 4 120,.us 3 4 120,.us 3 4 120,.us 3 4 120,.us 3 4 120,.us 3 4 120,.us 3 4 120,.us 3 4 120,.us 3 4 120,.us 3 4 120,.us 3 4 120,.us 3 4 120,.us 3 4 120,.us 3 4 120,.us 3 4 120,.us 3 4 120,.us 3 4 120,.us 3 4 120,.us 3 4 120,.us 3 4 120,.us 3 4 120,.us 3 4 120,.us 3 4 120,.us 3 4 120,.us 3 4 120,.us 3 4 120,.us 3 4 120,.us 3 4 120,.us 3 4 120,.us 3 4 120,.us 3 4 120,.us 3 4 120,.us 3 4 120,.us 3 4 120,.us 3 4 120,.us 3 4 120,.us 3 4 120,.us 3 4 120,.us 3 4 120,.us 3 4 120,.us 3 4 120,.us 3 4 120,.us 3 4 120,.us 3 4 120,.us 3 4 120,.us 3 4 120,.us 3 4 120,.us 3 4 120,.us 3 4 120,.us 3 4 120,.us 3 4 120,.us 3 4 120,.us 3 4 120,.us 3 4 120,.us 3 4 120,.us 3 4 120,.us 3 4 120,.us 3 4 120,.us 3 4 120,.us 3 4 120,.us 3 4 120,.us 3 4 120,.us 3 4 120,.us 3 4 120,.us 3 4 120,.us 3 4 120,.us 3 4 120,.us 3 4 120,.us 3 4 120,.us 3 4 120,.us 3 4 120,.us 3 4 120,.us 3 4 120,.us 3 4 120,.us 3 4 120,.us 3 4 120,.us 3 4 120,.us 3 4 120,.us 3 4 120,.us 3 4 120,.us 3 4 120,.us 3 4 120,.us 3 4 120,.us 3 4 120,.us 3 4 120,.us 3 4 120,.us 3 4 120,.us 3 4 120,.us 3 4 120,.us 3 4 120,.us 3 4 120,.us 3 4 120,.us 3 4 120,.us 3 4 120,.us 3 4 120,.us 3 4 120,.us 3 4 120,.us 3 4 120,.us 3 4 120,.us 3 4 120,.us 3 4 120,.us 3 4 120,.us 3 4 120,.us 3 4 120,.us 3 4 120,.us 3 4 120,.us 3 4 120,.us 3 4 120,.us 3 4 120,.us 3 4 120,.us 3 4 120,.us 3 4 120,.us 3 4 120,.us 3 4 120,.us 3 4 120,.us 3 4 120,.us 3 4 120,.us 3 4 120,.us 3 4 120,.us 3 4 120,.us 3 4 120,.us 3 4 120,.us 3 4 120,.us 3 4 120,.us 3 4 120,.us 3 4 120,.us 3 4 120,.us 3 4 120,.us 3 4 120,.us 3 4 120,.us 3 4 120,.us 3 4 120,.us 3 4 120,.us 3 4 120,.us 3 4 120,.us 3 4 120,.us 3 4 120,.us 3 4 120,.us 3 4 120,.us 3 4 120,.us 3 4 120,.us 3 4 120,.us 3 4 120,.us 3 4 120,.us 3 4 120,.us 3 4 120,.us 3 4 120,.us 3 4 120,.us 3 4 120,.us 3 4 120,.us 3 4 120,.us 3 4 120,.us 3 4 120,.us 3 4 120,.us 3 4 120,.us 3 4 120,.us 3 4 120,.us 3 4 120,.us 3 4 120,.us 3 4 120,.us 3 4 120,.us 3 4 120,.us 3 4 120,.us 3 4 120,.us 3 4 120,.us 3 4 120,.us 3 4 120,.us 3 4 120,.us 3 4 120,.us 3 4 120,.us 3 4 120,.us 3 4 120,.us 3 4 120,.us 3 4 120,.us 3 4 120,.us 3 4 120,.us 3 4 120,.us 3 4 120,.us 3 4 120,.us 3 4 120,.us 3 4 120,.us 3 4 120,.us 3 4 120,.us 3 4 120,.us 3 4 120,.us 3 4 120,.us 3 4 120,.us 3 4 120,.us 3 4 120,.us 3 4 120,.us 3 4 120,.us 3 4 120,.us 3 4 120,.us 3 4 120,.us 3 4 120,.us 3 4 120,.us 3 4 120,.us 3 4 120,.us 3 4 120,.us 3 4 120,.us 3 4 120,.us 3 4 120,.us 3 4 120,.us 3 4 120,.us 3 4 120,.us 3 4 120,.us 3 4 120,.us 3 4 120,.us 3 4 120,.us 3 4 120,.us 3 4 120,.us 3 4 120,.us 3 4 120,.us 3 4 120,.us 3 4 120,.us 3 4 120,.us 3 4 120,.us 3 4 120,.us 3 4 120,.us 3 4 120,.us 3 4 120,.us 3 4 120,.us 3 4 120,.us 3 4 120,.us 3 4 120,.us 3 4 120,.us 3 4 120,.us 3 4 120,.us 3 4 120,.us 3 4 120,.us 3 4 120,.us 3 4 120,.us 3 4 120,.us 3 4 120,.us 3 4 120,.us 3 4 120,.us 3 4 120,.us 3 4 120,.us 3 4 120,.us 3 4 120,.us 3 4 120,.us 3 4 120,.us 3 4 120,.us 3 4 120,.us 3 4 120,.us 3 4 120,.us 3 4 120,.us 3 4 120,.us 3 4 120,.us 3 4 120,.us 3 4 120,.us 3 4 120,.us 3 4 120,.us 3 4 120,.us 3 4 120,.us 3 4 120,.us 3 4 120,.us 3 4 120,.us 3 4 120,.us 3 4 120,.us 3 4 120,.us 3 4 120,.us 3 4 120,.us 3 4 120,.us 3 4 120,.us 3 4 120,.us 3 4 120,.us 3 4 120,.us 3 4 120,.us 3 4 120,.us 3 4 120,.us 3 4 120,.us 3 4 120,.us 3 4 120,.us 3 4 120,.us 3 4 120,.us 3 4 120,.us 3 4 120,.us 3 4 120,.us 3 4 120,.us 3 4 120,.us 3 4 120,.us 3 4 120,.us 3 4 120,.us 3 4 120,.us 3 4 120,.us 3 4 120,.us 3 4 120,.us 3 4 120,.us 3 4 120,.us 3 4 120,.us 3 4 120,.us 3 4 120,.us 3 4 120,.us 3 4 120,.us 3 4 120,.us 3 4 120,.us 3 4 120,.us 3 4 120,.us 3 4 120,.us 3 4 120,.us 3 4 120,.us 3 4 120,.us 3 4 120,.us 3 4 120,.us 3 4 120,.us 3 4 120,.us 3 4 120,.us 3 4 120,.us 3 4 120,.us 3 4 120,.us 3 4 120,.us 3 4 120,.us 3 4 120,.us 3 4 120,.us 3 4 120,.us 3 4 120,.us 3 4 120,.us 3 4 120,.us 3 4 120,.us 3 4 120,.us 3 4 120,.us 3 4 120,.us 3 4 120,.us 3 4 120,.us 3 4 120,.us 3 4 120,.us 3 4 120,.us 3 4 120,.us 3 4 120,.us 3 4 120,.us 3 4 120,.us 3 4 120,.us 3 4 120,.us 3 4 120,.us 3 4 120,.us 3 4 120,.us 3 4 120])],4971000000⟩
theorem B5 (hL:ah E) {pw:Int} (hP:aR E pw):aA prog E tQ:=aC (aD hL hP (tP hL hP)) (by decide +kernel)
def tR:List aM:=tQ::tO
theorem tS (hL:ah E) {pw:Int} (hP:aR E pw):∀m∈tR,aA prog E m:=ax (B5 hL hP) (tP hL hP)
def tT:aM:=⟨234,[.ag [.sl 4 0 3 2 (.ex 3),.ns,.sl 17 0 3 7 (.ex 3)]],[(4,[.s ⟨#[122]⟩,.i .i64 0,.s ⟨#[111,110,101]⟩,.i .i64 0,.s ⟨#[99]⟩,.i .i64 1]),(17,[.s ⟨#[97]⟩,.ns,.sl 9 0 3 4 (.ex 3),.i .i64 1,.i .i64 2,.i .i64 1,.i .i64 2,.s ⟨#[98]⟩,.ns,.ns,.i .i64 2,.i .i64 0,.i .i64 0,.i .i64 0,.s ⟨#[101]⟩,.ns,.ns,.i .i64 2,.i .i64 1,.i .i64 0,.i .i64 0]),(9,[.i .i64 0,.i .i64 0,.ns,.i .i64 0,.i .i64 0,.i .i64 1,.ns,.i .i64 1,.i .i64 8,.i .i64 2,.sl 7 0 2 1 (.ex 2),.i .i64 0]),(7,[.i .i64 0,.i .i64 1])],.tu [.ag [.sl 3984000071 0 3 2 .en,.ns,.sl 3984000241 0 3 7 .en],.i .i64 0],[(3984000071,[.s ⟨#[122]⟩,.i .i64 0,.s ⟨#[111,110,101]⟩,.i .i64 0,.s ⟨#[99]⟩,.i .i64 1]),(3984000241,[.s ⟨#[97]⟩,.ns,.sl 3984000632 0 3 4 .en,.i .i64 1,.i .i64 2,.i .i64 1,.i .i64 2,.s ⟨#[98]⟩,.ns,.ns,.i .i64 2,.i .i64 0,.i .i64 0,.i .i64 0,.s ⟨#[101]⟩,.ns,.ns,.i .i64 2,.i .i64 1,.i .i64 0,.i .i64 0]),(3984000632,[.i .i64 0,.i .i64 0,.ns,.i .i64 0,.i .i64 0,.i .i64 1,.ns,.i .i64 1,.i .i64 8,.i .i64 2,.sl 3984000610 0 2 1 .en,.i .i64 0]),(3984000610,[.i .i64 0,.i .i64 1])],3984000000⟩
theorem B6 (hL:ah E) {pw:Int} (hP:aR E pw):aA prog E tT:=aC (aD hL hP (tS hL hP)) (by decide +kernel)
def tU:List aM:=tT::tR
theorem tV (hL:ah E) {pw:Int} (hP:aR E pw):∀m∈tU,aA prog E m:=ax (B6 hL hP) (tS hL hP)
def tW:aM:=⟨231,[.ag [.sl 4 0 3 2 (.ex 3),.ns,.sl 17 0 3 7 (.ex 3)]],[(4,[.s ⟨#[122]⟩,.i .i64 0,.s ⟨#[111,110,101]⟩,.i .i64 0,.s ⟨#[99]⟩,.i .i64 1]),(17,[.s ⟨#[97]⟩,.ns,.sl 9 0 3 4 (.ex 3),.i .i64 1,.i .i64 2,.i .i64 1,.i .i64 2,.s ⟨#[98]⟩,.ns,.ns,.i .i64 2,.i .i64 0,.i .i64 0,.i .i64 0,.s ⟨#[101]⟩,.ns,.ns,.i .i64 2,.i .i64 1,.i .i64 0,.i .i64 0]),(9,[.i .i64 0,.i .i64 0,.ns,.i .i64 0,.i .i64 0,.i .i64 1,.ns,.i .i64 1,.i .i64 8,.i .i64 2,.sl 7 0 2 1 (.ex 2),.i .i64 0]),(7,[.i .i64 0,.i .i64 1])],.tu [.ag [.sl 2985000005 0 3 2 .en,.ns,.sl 2985000006 0 3 7 .en],.i .i64 0],[(2985000005,[.s ⟨#[122]⟩,.i .i64 0,.s ⟨#[111,110,101]⟩,.i .i64 0,.s ⟨#[99]⟩,.i .i64 1]),(2985000006,[.s ⟨#[97]⟩,.ns,.sl 2985000007 0 3 4 .en,.i .i64 1,.i .i64 2,.i .i64 1,.i .i64 2,.s ⟨#[98]⟩,.ns,.ns,.i .i64 2,.i .i64 0,.i .i64 0,.i .i64 0,.s ⟨#[101]⟩,.ns,.ns,.i .i64 2,.i .i64 1,.i .i64 0,.i .i64 0]),(2985000007,[.i .i64 0,.i .i64 0,.ns,.i .i64 0,.i .i64 0,.i .i64 1,.ns,.i .i64 1,.i .i64 8,.i .i64 2,.sl 2985000008 0 2 1 .en,.i .i64 0]),(2985000008,[.i .i64 0,.i .i64 1])],2985000000⟩
theorem B7 (hL:ah E) {pw:Int} (hP:aR E pw):aA prog E tW:=aC (aD hL hP (tV hL hP)) (by decide +kernel)
def tX:List aM:=tW::tU
theorem tY (hL:ah E) {pw:Int} (hP:aR E pw):∀m∈tX,aA prog E m:=ax (B7 hL hP) (tV hL hP)
def tZ:aM:=⟨83,[.ag [.sl 1986000006 0 3 2 .en,.ns,.sl 1986000007 0 3 7 .en]],[(1986000006,[.s ⟨#[122]⟩,.i .i64 0,.s ⟨#[111,110,101]⟩,.i .i64 0,.s ⟨#[99]⟩,.i .i64 1]),(1986000007,[.s ⟨#[97]⟩,.ns,.sl 1986000008 0 3 4 .en,.i .i64 1,.i .i64 2,.i .i64 1,.i .i64 2,.s ⟨#[98]⟩,.ns,.ns,.i .i64 2,.i .i64 0,.i .i64 0,.i .i64 0,.s ⟨#[101]⟩,.ns,.ns,.i .i64 2,.i .i64 1,.i .i64 0,.i .i64 0]),(1986000008,[.i .i64 0,.i .i64 0,.ns,.i .i64 0,.i .i64 0,.i .i64 1,.ns,.i .i64 1,.i .i64 8,.i .i64 2,.sl 1986000009 0 2 1 .en,.i .i64 0]),(1986000009,[.i .i64 0,.i .i64 1])],.b true,[],7965000000⟩
theorem B8 (hL:ah E) {pw:Int} (hP:aR E pw):aA prog E tZ:=aC (aD hL hP (tY hL hP)) (by decide +kernel)
def ua:List aM:=tZ::tX
theorem ub (hL:ah E) {pw:Int} (hP:aR E pw):∀m∈ua,aA prog E m:=ax (B8 hL hP) (tY hL hP)
def uc:aM:=⟨64,[.ag [.sl 1986000006 0 3 2 .en,.ns,.sl 1986000007 0 3 7 .en]],[(1986000006,[.s ⟨#[122]⟩,.i .i64 0,.s ⟨#[111,110,101]⟩,.i .i64 0,.s ⟨#[99]⟩,.i .i64 1]),(1986000007,[.s ⟨#[97]⟩,.ns,.sl 1986000008 0 3 4 .en,.i .i64 1,.i .i64 2,.i .i64 1,.i .i64 2,.s ⟨#[98]⟩,.ns,.ns,.i .i64 2,.i .i64 0,.i .i64 0,.i .i64 0,.s ⟨#[101]⟩,.ns,.ns,.i .i64 2,.i .i64 1,.i .i64 0,.i .i64 0]),(1986000008,[.i .i64 0,.i .i64 0,.ns,.i .i64 0,.i .i64 0,.i .i64 1,.ns,.i .i64 1,.i .i64 8,.i .i64 2,.sl 1986000009 0 2 1 .en,.i .i64 0]),(1986000009,[.i .i64 0,.i .i64 1])],.i .i64 0,[],6966000000⟩
theorem B9 (hL:ah E) {pw:Int} (hP:aR E pw):aA prog E uc:=aC (aD hL hP (ub hL hP)) (by decide +kernel)
def ud:List aM:=uc::ua
theorem ue (hL:ah E) {pw:Int} (hP:aR E pw):∀m∈ud,aA prog E m:=ax (B9 hL hP) (ub hL hP)
def uf:aM:=⟨36,[.ag [.sl 1986000006 0 3 2 .en,.ns,.sl 1986000007 0 3 7 .en]],[(1986000006,[.s ⟨#[122]⟩,.i .i64 0,.s ⟨#[111,110,101]⟩,.i .i64 0,.s ⟨#[99]⟩,.i .i64 1]),(1986000007,[.s ⟨#[97]⟩,.ns,.sl 1986000008 0 3 4 .en,.i .i64 1,.i .i64 2,.i .i64 1,.i .i64 2,.s ⟨#[98]⟩,.ns,.ns,.i .i64 2,.i .i64 0,.i .i64 0,.i .i64 0,.s ⟨#[101]⟩,.ns,.ns,.i .i64 2,.i .i64 1,.i .i64 0,.i .i64 0]),(1986000008,[.i .i64 0,.i .i64 0,.ns,.i .i64 0,.i .i64 0,.i .i64 1,.ns,.i .i64 1,.i .i64 8,.i .i64 2,.sl 1986000009 0 2 1 .en,.i .i64 0]),(1986000009,[.i .i64 0,.i .i64 1])],.b true,[],5967000000⟩
theorem Ca (hL:ah E) {pw:Int} (hP:aR E pw):aA prog E uf:=aC (aD hL hP (ue hL hP)) (by decide +kernel)
def ug:List aM:=uf::ud
theorem uh (hL:ah E) {pw:Int} (hP:aR E pw):∀m∈ug,aA prog E m:=ax (Ca hL hP) (ue hL hP)
def ui:aM:=⟨41,[.ag [.sl 1986000006 0 3 2 .en,.ns,.sl 1986000007 0 3 7 .en]],[(1986000006,[.s ⟨#[122]⟩,.i .i64 0,.s ⟨#[111,110,101]⟩,.i .i64 0,.s ⟨#[99]⟩,.i .i64 1]),(1986000007,[.s ⟨#[97]⟩,.ns,.sl 1986000008 0 3 4 .en,.i .i64 1,.i .i64 2,.i .i64 1,.i .i64 2,.s ⟨#[98]⟩,.ns,.ns,.i .i64 2,.i .i64 0,.i .i64 0,.i .i64 0,.s ⟨#[101]⟩,.ns,.ns,.i .i64 2,.i .i64 1,.i .i64 0,.i .i64 0]),(1986000008,[.i .i64 0,.i .i64 0,.ns,.i .i64 0,.i .i64 0,.i .i64 1,.ns,.i .i64 1,.i .i64 8,.i .i64 2,.sl 1986000009 0 2 1 .en,.i .i64 0]),(1986000009,[.i .i64 0,.i .i64 1])],.sl 5964000005 0 3 1 (.ex 3),[(5964000005,[.ns,.sl 5964000066 0 1 1 .en,.sl 5964000083 0 1 1 .en]),(5964000066,[.i .i64 0]),(5964000083,[.i .i64 0])],5964000000⟩
theorem Cb (hL:ah E) {pw:Int} (hP:aR E pw):aA prog E ui:=aC (aD hL hP (uh hL hP)) (by decide +kernel)
def uj:List aM:=ui::ug
theorem uk (hL:ah E) {pw:Int} (hP:aR E pw):∀m∈uj,aA prog E m:=ax (Cb hL hP) (uh hL hP)
def ul:aM:=⟨20,[.ag [.sl 1986000006 0 3 2 .en,.ns,.sl 1986000007 0 3 7 .en]],[(1986000006,[.s ⟨#[122]⟩,.i .i64 0,.s ⟨#[111,110,101]⟩,.i .i64 0,.s ⟨#[99]⟩,.i .i64 1]),(1986000007,[.s ⟨#[97]⟩,.ns,.sl 1986000008 0 3 4 .en,.i .i64 1,.i .i64 2,.i .i64 1,.i .i64 2,.s ⟨#[98]⟩,.ns,.ns,.i .i64 2,.i .i64 0,.i .i64 0,.i .i64 0,.s ⟨#[101]⟩,.ns,.ns,.i .i64 2,.i .i64 1,.i .i64 0,.i .i64 0]),(1986000008,[.i .i64 0,.i .i64 0,.ns,.i .i64 0,.i .i64 0,.i .i64 1,.ns,.i .i64 1,.i .i64 8,.i .i64 2,.sl 1986000009 0 2 1 .en,.i .i64 0]),(1986000009,[.i .i64 0,.i .i64 1])],.i .i64 0,[],4968000000⟩
theorem Cc (hL:ah E) {pw:Int} (hP:aR E pw):aA prog E ul:=aC (aD hL hP (uk hL hP)) (by decide +kernel)
def um:List aM:=ul::uj
theorem uo (hL:ah E) {pw:Int} (hP:aR E pw):∀m∈um,aA prog E m:=ax (Cc hL hP) (uk hL hP)
def uq:aM:=⟨67,[.ag [.sl 1986000006 0 3 2 .en,.ns,.sl 1986000007 0 3 7 .en]],[(1986000006,[.s ⟨#[122]⟩,.i .i64 0,.s ⟨#[111,110,101]⟩,.i .i64 0,.s ⟨#[99]⟩,.i .i64 1]),(1986000007,[.s ⟨#[97]⟩,.ns,.sl 1986000008 0 3 4 .en,.i .i64 1,.i .i64 2,.i .i64 1,.i .i64 2,.s ⟨#[98]⟩,.ns,.ns,.i .i64 2,.i .i64 0,.i .i64 0,.i .i64 0,.s ⟨#[101]⟩,.ns,.ns,.i .i64 2,.i .i64 1,.i .i64 0,.i .i64 0]),(1986000008,[.i .i64 0,.i .i64 0,.ns,.i .i64 0,.i .i64 0,.i .i64 1,.ns,.i .i64 1,.i .i64 8,.i .i64 2,.sl 1986000009 0 2 1 .en,.i .i64 0]),(1986000009,[.i .i64 0,.i .i64 1])],.sl 5962000372 0 3 1 .en,[(5962000372,[.i .i64 0,.i .i64 2,.i .i64 1])],5962000000⟩
theorem Cd (hL:ah E) {pw:Int} (hP:aR E pw):aA prog E uq:=aC (aD hL hP (uo hL hP)) (by decide +kernel)
def ur:List aM:=uq::um
theorem ut (hL:ah E) {pw:Int} (hP:aR E pw):∀m∈ur,aA prog E m:=ax (Cd hL hP) (uo hL hP)
def uu:aM:=⟨75,[.ag [.sl 1986000006 0 3 2 .en,.ns,.sl 1986000007 0 3 7 .en]],[(1986000006,[.s ⟨#[122]⟩,.i .i64 0,.s ⟨#[111,110,101]⟩,.i .i64 0,.s ⟨#[99]⟩,.i .i64 1]),(1986000007,[.s ⟨#[97]⟩,.ns,.sl 1986000008 0 3 4 .en,.i .i64 1,.i .i64 2,.i .i64 1,.i .i64 2,.s ⟨#[98]⟩,.ns,.ns,.i .i64 2,.i .i64 0,.i .i64 0,.i .i64 0,.s ⟨#[101]⟩,.ns,.ns,.i .i64 2,.i .i64 1,.i .i64 0,.i .i64 0]),(1986000008,[.i .i64 0,.i .i64 0,.ns,.i .i64 0,.i .i64 0,.i .i64 1,.ns,.i .i64 1,.i .i64 8,.i .i64 2,.sl 1986000009 0 2 1 .en,.i .i64 0]),(1986000009,[.i .i64 0,.i .i64 1])],.sl 4963000012 0 3 1 (.ex 3),[(4963000012,[.b true,.b true,.b true])],4963000000⟩
theorem Ce (hL:ah E) {pw:Int} (hP:aR E pw):aA prog E uu:=aC (aD hL hP (ut hL hP)) (by decide +kernel)
def uv:List aM:=uu::ur
theorem uw (hL:ah E) {pw:Int} (hP:aR E pw):∀m∈uv,aA prog E m:=ax (Ce hL hP) (ut hL hP)
def ux:aM:=⟨96,[.sl 4961000012 0 3 1 .en,.sl 4961000032 0 3 1 (.ex 3),.i .i64 3],[(4961000012,[.i .i64 0,.i .i64 2,.i .i64 1]),(4961000032,[.ns,.sl 4961000033 0 1 1 .en,.sl 4961000034 0 1 1 .en]),(4961000033,[.i .i64 0]),(4961000034,[.i .i64 0])],.sl 5960000090 0 3 1 (.ex 3),[(5960000090,[.i .i64 (-1),.i .i64 0,.i .i64 0])],5960000000⟩
theorem Cf (hL:ah E) {pw:Int} (hP:aR E pw):aA prog E ux:=aC (aD hL hP (uw hL hP)) (by decide +kernel)
def uy:List aM:=ux::uv
theorem uz (hL:ah E) {pw:Int} (hP:aR E pw):∀m∈uy,aA prog E m:=ax (Cf hL hP) (uw hL hP)
def uA:aM:=⟨77,[.ag [.sl 1986000006 0 3 2 .en,.ns,.sl 1986000007 0 3 7 .en]],[(1986000006,[.s ⟨#[122]⟩,.i .i64 0,.s ⟨#[111,110,101]⟩,.i .i64 0,.s ⟨#[99]⟩,.i .i64 1]),(1986000007,[.s ⟨#[97]⟩,.ns,.sl 1986000008 0 3 4 .en,.i .i64 1,.i .i64 2,.i .i64 1,.i .i64 2,.s ⟨#[98]⟩,.ns,.ns,.i .i64 2,.i .i64 0,.i .i64 0,.i .i64 0,.s ⟨#[101]⟩,.ns,.ns,.i .i64 2,.i .i64 1,.i .i64 0,.i .i64 0]),(1986000008,[.i .i64 0,.i .i64 0,.ns,.i .i64 0,.i .i64 0,.i .i64 1,.ns,.i .i64 1,.i .i64 8,.i .i64 2,.sl 1986000009 0 2 1 .en,.i .i64 0]),(1986000009,[.i .i64 0,.i .i64 1])],.tu [.p 4961000048 0,.i .i64 0],[(4961000048,[.sl 4961000050 0 3 1 (.ex 3),.sl 4961000137 0 3 1 (.ex 3),.sl 4961000044 0 3 1 (.ex 3),.sl 4961000046 0 3 1 (.ex 3)]),(4961000050,[.i .i64 (-1),.i .i64 0,.i .i64 0]),(4961000137,[.i .i64 0,.i .i64 1,.i .i64 1]),(4961000044,[.sl 4961000318 0 2 1 .en,.ns,.ns]),(4961000318,[.i .i64 1,.i .i64 2]),(4961000046,[.ns,.ns,.ns])],4961000000⟩
theorem Cg (hL:ah E) {pw:Int} (hP:aR E pw):aA prog E uA:=aC (aD hL hP (uz hL hP)) (by decide +kernel)
def uB:List aM:=uA::uy
theorem uC (hL:ah E) {pw:Int} (hP:aR E pw):∀m∈uB,aA prog E m:=ax (Cg hL hP) (uz hL hP)
def uD:aM:=⟨78,[.ag [.sl 1986000006 0 3 2 .en,.ns,.sl 1986000007 0 3 7 .en]],[(1986000006,[.s ⟨#[122]⟩,.i .i64 0,.s ⟨#[111,110,101]⟩,.i .i64 0,.s ⟨#[99]⟩,.i .i64 1]),(1986000007,[.s ⟨#[97]⟩,.ns,.sl 1986000008 0 3 4 .en,.i .i64 1,.i .i64 2,.i .i64 1,.i .i64 2,.s ⟨#[98]⟩,.ns,.ns,.i .i64 2,.i .i64 0,.i .i64 0,.i .i64 0,.s ⟨#[101]⟩,.ns,.ns,.i .i64 2,.i .i64 1,.i .i64 0,.i .i64 0]),(1986000008,[.i .i64 0,.i .i64 0,.ns,.i .i64 0,.i .i64 0,.i .i64 1,.ns,.i .i64 1,.i .i64 8,.i .i64 2,.sl 1986000009 0 2 1 .en,.i .i64 0]),(1986000009,[.i .i64 0,.i .i64 1])],.sl 4959000212 0 3 2 .en,[(4959000212,[.i .i64 0,.i .i64 0,.i .i64 0,.i .i64 1,.i .i64 0,.i .i64 2])],4959000000⟩
theorem Ch (hL:ah E) {pw:Int} (hP:aR E pw):aA prog E uD:=aC (aD hL hP (uC hL hP)) (by decide +kernel)
def uE:List aM:=uD::uB
theorem uF (hL:ah E) {pw:Int} (hP:aR E pw):∀m∈uE,aA prog E m:=ax (Ch hL hP) (uC hL hP)
def uG:aM:=⟨57,[.ag [.sl 1986000006 0 3 2 .en,.ns,.sl 1986000007 0 3 7 .en]],[(1986000006,[.s ⟨#[122]⟩,.i .i64 0,.s ⟨#[111,110,101]⟩,.i .i64 0,.s ⟨#[99]⟩,.i .i64 1]),(1986000007,[.s ⟨#[97]⟩,.ns,.sl 1986000008 0 3 4 .en,.i .i64 1,.i .i64 2,.i .i64 1,.i .i64 2,.s ⟨#[98]⟩,.ns,.ns,.i .i64 2,.i .i64 0,.i .i64 0,.i .i64 0,.s ⟨#[101]⟩,.ns,.ns,.i .i64 2,.i .i64 1,.i .i64 0,.i .i64 0]),(1986000008,[.i .i64 0,.i .i64 0,.ns,.i .i64 0,.i .i64 0,.i .i64 1,.ns,.i .i64 1,.i .i64 8,.i .i64 2,.sl 1986000009 0 2 1 .en,.i .i64 0]),(1986000009,[.i .i64 0,.i .i64 1])],.i .i64 0,[],3969000000⟩
theorem Ci (hL:ah E) {pw:Int} (hP:aR E pw):aA prog E uG:=aC (aD hL hP (uF hL hP)) (by decide +kernel)
def uH:List aM:=uG::uE
theorem uI (hL:ah E) {pw:Int} (hP:aR E pw):∀m∈uH,aA prog E m:=ax (Ci hL hP) (uF hL hP)
def uJ:aM:=⟨232,[.ag [.sl 1986000006 0 3 2 .en,.ns,.sl 1986000007 0 3 7 .en]],[(1986000006,[.s ⟨#[122]⟩,.i .i64 0,.s ⟨#[111,110,101]⟩,.i .i64 0,.s ⟨#[99]⟩,.i .i64 1]),(1986000007,[.s ⟨#[97]⟩,.ns,.sl 1986000008 0 3 4 .en,.i .i64 1,.i .i64 2,.i .i64 1,.i .i64 2,.s ⟨#[98]⟩,.ns,.ns,.i .i64 2,.i .i64 0,.i .i64 0,.i .i64 0,.s ⟨#[101]⟩,.ns,.ns,.i .i64 2,.i .i64 1,.i .i64 0,.i .i64 0]),(1986000008,[.i .i64 0,.i .i64 0,.ns,.i .i64 0,.i .i64 0,.i .i64 1,.ns,.i .i64 1,.i .i64 8,.i .i64 2,.sl 1986000009 0 2 1 .en,.i .i64 0]),(1986000009,[.i .i64 0,.i .i64 1])],.tu [.sl 2970000342 0 3 2 .en,.i .i64 0],[(2970000342,[.i .i64 0,.i .i64 0,.i .i64 1,.i .i64 1,.i .i64 1,.i .i64 1])],2970000000⟩
theorem Cj (hL:ah E) {pw:Int} (hP:aR E pw):aA prog E uJ:=aC (aD hL hP (uI hL hP)) (by decide +kernel)
def uK:List aM:=uJ::uH
theorem uL (hL:ah E) {pw:Int} (hP:aR E pw):∀m∈uK,aA prog E m:=ax (Cj hL hP) (uI hL hP)
def uM:aM:=⟨229,[.ag [.sl 4 0 3 2 (.ex 3),.ns,.sl 17 0 3 7 (.ex 3)]],[(4,[.s ⟨#[122]⟩,.i .i64 0,.s ⟨#[111,110,101]⟩,.i .i64 0,.s ⟨#[99]⟩,.i .i64 1]),(17,[.s ⟨#[97]⟩,.ns,.sl 9 0 3 4 (.ex 3),.i .i64 1,.i .i64 2,.i .i64 1,.i .i64 2,.s ⟨#[98]⟩,.ns,.ns,.i .i64 2,.i .i64 0,.i .i64 0,.i .i64 0,.s ⟨#[101]⟩,.ns,.ns,.i .i64 2,.i .i64 1,.i .i64 0,.i .i64 0]),(9,[.i .i64 0,.i .i64 0,.ns,.i .i64 0,.i .i64 0,.i .i64 1,.ns,.i .i64 1,.i .i64 8,.i .i64 2,.sl 7 0 2 1 (.ex 2),.i .i64 0]),(7,[.i .i64 0,.i .i64 1])],.tu [.ag [.sl 1986000006 0 3 2 .en,.ns,.sl 1986000007 0 3 7 .en],.sl 1986000020 0 3 2 .en,.i .i64 0],[(1986000006,[.s ⟨#[122]⟩,.i .i64 0,.s ⟨#[111,110,101]⟩,.i .i64 0,.s ⟨#[99]⟩,.i .i64 1]),(1986000007,[.s ⟨#[97]⟩,.ns,.sl 1986000008 0 3 4 .en,.i .i64 1,.i .i64 2,.i .i64 1,.i .i64 2,.s ⟨#[98]⟩,.ns,.ns,.i .i64 2,.i .i64 0,.i .i64 0,.i .i64 0,.s ⟨#[101]⟩,.ns,.ns,.i .i64 2,.i .i64 1,.i .i64 0,.i .i64 0]),(1986000008,[.i .i64 0,.i .i64 0,.ns,.i .i64 0,.i .i64 0,.i .i64 1,.ns,.i .i64 1,.i .i64 8,.i .i64 2,.sl 1986000009 0 2 1 .en,.i .i64 0]),(1986000009,[.i .i64 0,.i .i64 1]),(1986000020,[.i .i64 0,.i .i64 0,.i .i64 1,.i .i64 1,.i .i64 1,.i .i64 1])],1986000000⟩
theorem Ck (hL:ah E) {pw:Int} (hP:aR E pw):aA prog E uM:=aC (aD hL hP (uL hL hP)) (by decide +kernel)
def uN:List aM:=uM::uK
theorem uO (hL:ah E) {pw:Int} (hP:aR E pw):∀m∈uN,aA prog E m:=ax (Ck hL hP) (uL hL hP)
def uP:aM:=⟨286,[.ag [.sl 4 0 3 2 (.ex 3),.ns,.sl 17 0 3 7 (.ex 3)]],[(4,[.s ⟨#[122]⟩,.i .i64 0,.s ⟨#[111,110,101]⟩,.i .i64 0,.s ⟨#[99]⟩,.i .i64 1]),(17,[.s ⟨#[97]⟩,.ns,.sl 9 0 3 4 (.ex 3),.i .i64 1,.i .i64 2,.i .i64 1,.i .i64 2,.s ⟨#[98]⟩,.ns,.ns,.i .i64 2,.i .i64 0,.i .i64 0,.i .i64 0,.s ⟨#[101]⟩,.ns,.ns,.i .i64 2,.i .i64 1,.i .i64 0,.i .i64 0]),(9,[.i .i64 0,.i .i64 0,.ns,.i .i64 0,.i .i64 0,.i .i64 1,.ns,.i .i64 1,.i .i64 8,.i .i64 2,.sl 7 0 2 1 (.ex 2),.i .i64 0]),(7,[.i .i64 0,.i .i64 1])],.tu [.sl 1958000074 0 3 1 (.ex 3),.i .i64 0],[(1958000074,[.i .i64 1,.i .i64 0,.i .i64 0])],1958000000⟩
theorem Cl (hL:ah E) {pw:Int} (hP:aR E pw):aA prog E uP:=aC (aD hL hP (uO hL hP)) (by decide +kernel)
def uQ:List aM:=uP::uN
theorem uR (hL:ah E) {pw:Int} (hP:aR E pw):∀m∈uQ,aA prog E m:=ax (Cl hL hP) (uO hL hP)
def uS:aM:=⟨35,[.ag [.sl 4 0 3 2 (.ex 3),.ns,.sl 17 0 3 7 (.ex 3)],.i .i64 7],[(4,[.s ⟨#[122]⟩,.i .i64 0,.s ⟨#[111,110,101]⟩,.i .i64 0,.s ⟨#[99]⟩,.i .i64 1]),(17,[.s ⟨#[97]⟩,.ns,.sl 9 0 3 4 (.ex 3),.i .i64 1,.i .i64 2,.i .i64 1,.i .i64 2,.s ⟨#[98]⟩,.ns,.ns,.i .i64 2,.i .i64 0,.i .i64 0,.i .i64 0,.s ⟨#[101]⟩,.ns,.ns,.i .i64 2,.i .i64 1,.i .i64 0,.i .i64 0]),(9,[.i .i64 0,.i .i64 0,.ns,.i .i64 0,.i .i64 0,.i .i64 1,.ns,.i .i64 1,.i .i64 8,.i .i64 2,.sl 7 0 2 1 (.ex 2),.i .i64 0]),(7,[.i .i64 0,.i .i64 1])],.tu [.sl 987003339 0 3 1 (.ex 3),.i .i64 0],[(987003339,[.i .i64 1,.i .i64 0,.i .i64 0])],987000000⟩
theorem Cm (hL:ah E) {pw:Int} (hP:aR E pw):aA prog E uS:=aC (aD hL hP (uR hL hP)) (by decide +kernel)
def uT:List aM:=uS::uQ
theorem uU (hL:ah E) {pw:Int} (hP:aR E pw):∀m∈uT,aA prog E m:=ax (Cm hL hP) (uR hL hP)
def uV:aM:=⟨83,[.ag [.sl 957000032 0 3 2 .en,.ns,.sl 957000202 0 3 7 .en]],[(957000032,[.s ⟨#[122]⟩,.i .i64 0,.s ⟨#[111,110,101]⟩,.i .i64 0,.s ⟨#[99]⟩,.i .i64 1]),(957000202,[.s ⟨#[97]⟩,.ns,.sl 957000130 0 3 4 .en,.i .i64 0,.i .i64 0,.i .i64 1,.i .i64 0,.s ⟨#[98]⟩,.ns,.ns,.i .i64 2,.i .i64 0,.i .i64 0,.i .i64 0,.s ⟨#[101]⟩,.ns,.ns,.i .i64 2,.i .i64 1,.i .i64 0,.i .i64 0]),(957000130,[.i .i64 0,.i .i64 0,.ns,.i .i64 0,.i .i64 0,.i .i64 1,.ns,.i .i64 1,.i .i64 8,.i .i64 2,.sl 957000122 0 2 1 .en,.i .i64 0]),(957000122,[.i .i64 0,.i .i64 1])],.b true,[],4953000000⟩
theorem Cn (hL:ah E) {pw:Int} (hP:aR E pw):aA prog E uV:=aC (aD hL hP (uU hL hP)) (by decide +kernel)
def uW:List aM:=uV::uT
theorem uX (hL:ah E) {pw:Int} (hP:aR E pw):∀m∈uW,aA prog E m:=ax (Cn hL hP) (uU hL hP)
def uY:aM:=⟨64,[.ag [.sl 957000032 0 3 2 .en,.ns,.sl 957000202 0 3 7 .en]],[(957000032,[.s ⟨#[122]⟩,.i .i64 0,.s ⟨#[111,110,101]⟩,.i .i64 0,.s ⟨#[99]⟩,.i .i64 1]),(957000202,[.s ⟨#[97]⟩,.ns,.sl 957000130 0 3 4 .en,.i .i64 0,.i .i64 0,.i .i64 1,.i .i64 0,.s ⟨#[98]⟩,.ns,.ns,.i .i64 2,.i .i64 0,.i .i64 0,.i .i64 0,.s ⟨#[101]⟩,.ns,.ns,.i .i64 2,.i .i64 1,.i .i64 0,.i .i64 0]),(957000130,[.i .i64 0,.i .i64 0,.ns,.i .i64 0,.i .i64 0,.i .i64 1,.ns,.i .i64 1,.i .i64 8,.i .i64 2,.sl 957000122 0 2 1 .en,.i .i64 0]),(957000122,[.i .i64 0,.i .i64 1])],.i .i64 0,[],3954000000⟩
theorem Co (hL:ah E) {pw:Int} (hP:aR E pw):aA prog E uY:=aC (aD hL hP (uX hL hP)) (by decide +kernel)
def uZ:List aM:=uY::uW
theorem u0 (hL:ah E) {pw:Int} (hP:aR E pw):∀m∈uZ,aA prog E m:=ax (Co hL hP) (uX hL hP)
def u4:aM:=⟨36,[.ag [.sl 957000032 0 3 2 .en,.ns,.sl 957000202 0 3 7 .en]],[(957000032,[.s ⟨#[122]⟩,.i .i64 0,.s ⟨#[111,110,101]⟩,.i .i64 0,.s ⟨#[99]⟩,.i .i64 1]),(957000202,[.s ⟨#[97]⟩,.ns,.sl 957000130 0 3 4 .en,.i .i64 0,.i .i64 0,.i .i64 1,.i .i64 0,.s ⟨#[98]⟩,.ns,.ns,.i .i64 2,.i .i64 0,.i .i64 0,.i .i64 0,.s ⟨#[101]⟩,.ns,.ns,.i .i64 2,.i .i64 1,.i .i64 0,.i .i64 0]),(957000130,[.i .i64 0,.i .i64 0,.ns,.i .i64 0,.i .i64 0,.i .i64 1,.ns,.i .i64 1,.i .i64 8,.i .i64 2,.sl 957000122 0 2 1 .en,.i .i64 0]),(957000122,[.i .i64 0,.i .i64 1])],.b true,[],2955000000⟩
theorem Cq (hL:ah E) {pw:Int} (hP:aR E pw):aA prog E u4:=aC (aD hL hP (u0 hL hP)) (by decide +kernel)
def u5:List aM:=u4::uZ
theorem u6 (hL:ah E) {pw:Int} (hP:aR E pw):∀m∈u5,aA prog E m:=ax (Cq hL hP) (u0 hL hP)
def u7:aM:=⟨67,[.ag [.sl 957000032 0 3 2 .en,.ns,.sl 957000202 0 3 7 .en]],[(957000032,[.s ⟨#[122]⟩,.i .i64 0,.s ⟨#[111,110,101]⟩,.i .i64 0,.s ⟨#[99]⟩,.i .i64 1]),(957000202,[.s ⟨#[97]⟩,.ns,.sl 957000130 0 3 4 .en,.i .i64 0,.i .i64 0,.i .i64 1,.i .i64 0,.s ⟨#[98]⟩,.ns,.ns,.i .i64 2,.i .i64 0,.i .i64 0,.i .i64 0,.s ⟨#[101]⟩,.ns,.ns,.i .i64 2,.i .i64 1,.i .i64 0,.i .i64 0]),(957000130,[.i .i64 0,.i .i64 0,.ns,.i .i64 0,.i .i64 0,.i .i64 1,.ns,.i .i64 1,.i .i64 8,.i .i64 2,.sl 957000122 0 2 1 .en,.i .i64 0]),(957000122,[.i .i64 0,.i .i64 1])],.sl 2952000185 0 2 1 .en,[(2952000185,[.i .i64 0,.i .i64 1])],2952000000⟩
theorem Cr (hL:ah E) {pw:Int} (hP:aR E pw):aA prog E u7:=aC (aD hL hP (u6 hL hP)) (by decide +kernel)
def u9:List aM:=u7::u5
theorem va (hL:ah E) {pw:Int} (hP:aR E pw):∀m∈u9,aA prog E m:=ax (Cr hL hP) (u6 hL hP)
def vb:aM:=⟨41,[.ag [.sl 957000032 0 3 2 .en,.ns,.sl 957000202 0 3 7 .en]],[(957000032,[.s ⟨#[122]⟩,.i .i64 0,.s ⟨#[111,110,101]⟩,.i .i64 0,.s ⟨#[99]⟩,.i .i64 1]),(957000202,[.s ⟨#[97]⟩,.ns,.sl 957000130 0 3 4 .en,.i .i64 0,.i .i64 0,.i .i64 1,.i .i64 0,.s ⟨#[98]⟩,.ns,.ns,.i .i64 2,.i .i64 0,.i .i64 0,.i .i64 0,.s ⟨#[101]⟩,.ns,.ns,.i .i64 2,.i .i64 1,.i .i64 0,.i .i64 0]),(957000130,[.i .i64 0,.i .i64 0,.ns,.i .i64 0,.i .i64 0,.i .i64 1,.ns,.i .i64 1,.i .i64 8,.i .i64 2,.sl 957000122 0 2 1 .en,.i .i64 0]),(957000122,[.i .i64 0,.i .i64 1])],.sl 2951000005 0 3 1 (.ex 3),[(2951000005,[.ns,.sl 2951000046 0 1 1 .en,.ns]),(2951000046,[.i .i64 0])],2951000000⟩
theorem Cs (hL:ah E) {pw:Int} (hP:aR E pw):aA prog E vb:=aC (aD hL hP (va hL hP)) (by decide +kernel)
def vd:List aM:=vb::u9
theorem ve (hL:ah E) {pw:Int} (hP:aR E pw):∀m∈vd,aA prog E m:=ax (Cs hL hP) (va hL hP)
def vf:aM:=⟨83,[.ag [.sl 1956000132 0 3 2 .en,.ns,.sl 1956000663 0 2 7 .en]],[(1956000132,[.s ⟨#[122]⟩,.i .i64 0,.s ⟨#[111,110,101]⟩,.i .i64 0,.s ⟨#[99]⟩,.i .i64 1]),(1956000663,[.s ⟨#[97]⟩,.ns,.sl 1956000430 0 3 4 .en,.i .i64 0,.i .i64 0,.i .i64 1,.i .i64 0,.s ⟨#[98]⟩,.ns,.ns,.i .i64 2,.i .i64 0,.i .i64 0,.i .i64 0]),(1956000430,[.i .i64 0,.i .i64 0,.ns,.i .i64 0,.i .i64 0,.i .i64 1,.ns,.i .i64 1,.i .i64 8,.i .i64 2,.sl 1956000422 0 2 1 .en,.i .i64 0]),(1956000422,[.i .i64 0,.i .i64 1])],.b true,[],5947000000⟩
theorem Ct (hL:ah E) {pw:Int} (hP:aR E pw):aA prog E vf:=aC (aD hL hP (ve hL hP)) (by decide +kernel)
def vg:List aM:=vf::vd
theorem vh (hL:ah E) {pw:Int} (hP:aR E pw):∀m∈vg,aA prog E m:=ax (Ct hL hP) (ve hL hP)
def vj:aM:=⟨64,[.ag [.sl 1956000132 0 3 2 .en,.ns,.sl 1956000663 0 2 7 .en]],[(1956000132,[.s ⟨#[122]⟩,.i .i64 0,.s ⟨#[111,110,101]⟩,.i .i64 0,.s ⟨#[99]⟩,.i .i64 1]),(1956000663,[.s ⟨#[97]⟩,.ns,.sl 1956000430 0 3 4 .en,.i .i64 0,.i .i64 0,.i .i64 1,.i .i64 0,.s ⟨#[98]⟩,.ns,.ns,.i .i64 2,.i .i64 0,.i .i64 0,.i .i64 0]),(1956000430,[.i .i64 0,.i .i64 0,.ns,.i .i64 0,.i .i64 0,.i .i64 1,.ns,.i .i64 1,.i .i64 8,.i .i64 2,.sl 1956000422 0 2 1 .en,.i .i64 0]),(1956000422,[.i .i64 0,.i .i64 1])],.i .i64 0,[],4948000000⟩
theorem Cu (hL:ah E) {pw:Int} (hP:aR E pw):aA prog E vj:=aC (aD hL hP (vh hL hP)) (by decide +kernel)
def vk:List aM:=vj::vg
theorem vl (hL:ah E) {pw:Int} (hP:aR E pw):∀m∈vk,aA prog E m:=ax (Cu hL hP) (vh hL hP)
def vm:aM:=⟨36,[.ag [.sl 1956000132 0 3 2 .en,.ns,.sl 1956000663 0 2 7 .en]],[(1956000132,[.s ⟨#[122]⟩,.i .i64 0,.s ⟨#[111,110,101]⟩,.i .i64 0,.s ⟨#[99]⟩,.i .i64 1]),(1956000663,[.s ⟨#[97]⟩,.ns,.sl 1956000430 0 3 4 .en,.i .i64 0,.i .i64 0,.i .i64 1,.i .i64 0,.s ⟨#[98]⟩,.ns,.ns,.i .i64 2,.i .i64 0,.i .i64 0,.i .i64 0]),(1956000430,[.i .i64 0,.i .i64 0,.ns,.i .i64 0,.i .i64 0,.i .i64 1,.ns,.i .i64 1,.i .i64 8,.i .i64 2,.sl 1956000422 0 2 1 .en,.i .i64 0]),(1956000422,[.i .i64 0,.i .i64 1])],.b true,[],3949000000⟩
theorem Cv (hL:ah E) {pw:Int} (hP:aR E pw):aA prog E vm:=aC (aD hL hP (vl hL hP)) (by decide +kernel)
def vn:List aM:=vm::vk
theorem vp (hL:ah E) {pw:Int} (hP:aR E pw):∀m∈vn,aA prog E m:=ax (Cv hL hP) (vl hL hP)
def vq:aM:=⟨41,[.ag [.sl 1956000132 0 3 2 .en,.ns,.sl 1956000663 0 2 7 .en]],[(1956000132,[.s ⟨#[122]⟩,.i .i64 0,.s ⟨#[111,110,101]⟩,.i .i64 0,.s ⟨#[99]⟩,.i .i64 1]),(1956000663,[.s ⟨#[97]⟩,.ns,.sl 1956000430 0 3 4 .en,.i .i64 0,.i .i64 0,.i .i64 1,.i .i64 0,.s ⟨#[98]⟩,.ns,.ns,.i .i64 2,.i .i64 0,.i .i64 0,.i .i64 0]),(1956000430,[.i .i64 0,.i .i64 0,.ns,.i .i64 0,.i .i64 0,.i .i64 1,.ns,.i .i64 1,.i .i64 8,.i .i64 2,.sl 1956000422 0 2 1 .en,.i .i64 0]),(1956000422,[.i .i64 0,.i .i64 1])],.sl 3946000005 0 2 1 (.ex 2),[(3946000005,[.ns,.sl 3946000046 0 1 1 .en]),(3946000046,[.i .i64 0])],3946000000⟩
theorem Cw (hL:ah E) {pw:Int} (hP:aR E pw):aA prog E vq:=aC (aD hL hP (vp hL hP)) (by decide +kernel)
def vt:List aM:=vq::vn
theorem vu (hL:ah E) {pw:Int} (hP:aR E pw):∀m∈vt,aA prog E m:=ax (Cw hL hP) (vp hL hP)
def vv:aM:=⟨20,[.ag [.sl 1956000132 0 3 2 .en,.ns,.sl 1956000663 0 2 7 .en]],[(1956000132,[.s ⟨#[122]⟩,.i .i64 0,.s ⟨#[111,110,101]⟩,.i .i64 0,.s ⟨#[99]⟩,.i .i64 1]),(1956000663,[.s ⟨#[97]⟩,.ns,.sl 1956000430 0 3 4 .en,.i .i64 0,.i .i64 0,.i .i64 1,.i .i64 0,.s ⟨#[98]⟩,.ns,.ns,.i .i64 2,.i .i64 0,.i .i64 0,.i .i64 0]),(1956000430,[.i .i64 0,.i .i64 0,.ns,.i .i64 0,.i .i64 0,.i .i64 1,.ns,.i .i64 1,.i .i64 8,.i .i64 2,.sl 1956000422 0 2 1 .en,.i .i64 0]),(1956000422,[.i .i64 0,.i .i64 1])],.i .i64 0,[],2950000000⟩
theorem Cx (hL:ah E) {pw:Int} (hP:aR E pw):aA prog E vv:=aC (aD hL hP (vu hL hP)) (by decide +kernel)
def vw:List aM:=vv::vt
theorem vx (hL:ah E) {pw:Int} (hP:aR E pw):∀m∈vw,aA prog E m:=ax (Cx hL hP) (vu hL hP)
def vy:aM:=⟨22,[.ag [.sl 957000032 0 3 2 .en,.ns,.sl 957000202 0 3 7 .en]],[(957000032,[.s ⟨#[122]⟩,.i .i64 0,.s ⟨#[111,110,101]⟩,.i .i64 0,.s ⟨#[99]⟩,.i .i64 1]),(957000202,[.s ⟨#[97]⟩,.ns,.sl 957000130 0 3 4 .en,.i .i64 0,.i .i64 0,.i .i64 1,.i .i64 0,.s ⟨#[98]⟩,.ns,.ns,.i .i64 2,.i .i64 0,.i .i64 0,.i .i64 0,.s ⟨#[101]⟩,.ns,.ns,.i .i64 2,.i .i64 1,.i .i64 0,.i .i64 0]),(957000130,[.i .i64 0,.i .i64 0,.ns,.i .i64 0,.i .i64 0,.i .i64 1,.ns,.i .i64 1,.i .i64 8,.i .i64 2,.sl 957000122 0 2 1 .en,.i .i64 0]),(957000122,[.i .i64 0,.i .i64 1])],.tu [.ag [.sl 1956000132 0 3 2 .en,.ns,.sl 1956000663 0 2 7 .en],.i .i64 0],[(1956000132,[.s ⟨#[122]⟩,.i .i64 0,.s ⟨#[111,110,101]⟩,.i .i64 0,.s ⟨#[99]⟩,.i .i64 1]),(1956000663,[.s ⟨#[97]⟩,.ns,.sl 1956000430 0 3 4 .en,.i .i64 0,.i .i64 0,.i .i64 1,.i .i64 0,.s ⟨#[98]⟩,.ns,.ns,.i .i64 2,.i .i64 0,.i .i64 0,.i .i64 0]),(1956000430,[.i .i64 0,.i .i64 0,.ns,.i .i64 0,.i .i64 0,.i .i64 1,.ns,.i .i64 1,.i .i64 8,.i .i64 2,.sl 1956000422 0 2 1 .en,.i .i64 0]),(1956000422,[.i .i64 0,.i .i64 1])],1956000000⟩
theorem Cy (hL:ah E) {pw:Int} (hP:aR E pw):aA prog E vy:=aC (aD hL hP (vx hL hP)) (by decide +kernel)
def vz:List aM:=vy::vw
theorem vA (hL:ah E) {pw:Int} (hP:aR E pw):∀m∈vz,aA prog E m:=ax (Cy hL hP) (vx hL hP)
def vB:aM:=⟨7,[.ag [.sl 4 0 3 2 (.ex 3),.ns,.sl 17 0 3 7 (.ex 3)],.sl 35 0 3 1 (.ex 3)],[(4,[.s ⟨#[122]⟩,.i .i64 0,.s ⟨#[111,110,101]⟩,.i .i64 0,.s ⟨#[99]⟩,.i .i64 1]),(17,[.s ⟨#[97]⟩,.ns,.sl 9 0 3 4 (.ex 3),.i .i64 1,.i .i64 2,.i .i64 1,.i .i64 2,.s ⟨#[98]⟩,.ns,.ns,.i .i64 2,.i .i64 0,.i .i64 0,.i .i64 0,.s ⟨#[101]⟩,.ns,.ns,.i .i64 2,.i .i64 1,.i .i64 0,.i .i64 0]),(9,[.i .i64 0,.i .i64 0,.ns,.i .i64 0,.i .i64 0,.i .i64 1,.ns,.i .i64 1,.i .i64 8,.i .i64 2,.sl 7 0 2 1 (.ex 2),.i .i64 0]),(7,[.i .i64 0,.i .i64 1]),(35,[.i .i64 1,.i .i64 0,.i .i64 0])],.tu [.ag [.sl 957000297 0 3 2 .en,.ns,.sl 957000298 0 2 7 .en],.i .i64 0],[(957000297,[.s ⟨#[122]⟩,.i .i64 0,.s ⟨#[111,110,101]⟩,.i .i64 0,.s ⟨#[99]⟩,.i .i64 1]),(957000298,[.s ⟨#[97]⟩,.ns,.sl 957000299 0 3 4 .en,.i .i64 0,.i .i64 0,.i .i64 1,.i .i64 0,.s ⟨#[98]⟩,.ns,.ns,.i .i64 2,.i .i64 0,.i .i64 0,.i .i64 0]),(957000299,[.i .i64 0,.i .i64 0,.ns,.i .i64 0,.i .i64 0,.i .i64 1,.ns,.i .i64 1,.i .i64 8,.i .i64 2,.sl 957000300 0 2 1 .en,.i .i64 0]),(957000300,[.i .i64 0,.i .i64 1])],957000000⟩
theorem Cz (hL:ah E) {pw:Int} (hP:aR E pw):aA prog E vB:=aC (aD hL hP (vA hL hP)) (by decide +kernel)
def CA:List aM:=vB::vz
theorem CB (hL:ah E) {pw:Int} (hP:aR E pw):∀m∈CA,aA prog E m:=ax (Cz hL hP) (vA hL hP)
theorem oC (hL:ah E) {pw:Int} (hP:aR E pw):aT prog E 5 [] (.bool true):=
 p8 CS (mH (ow (p9 hL)) (mH (nI hP) (oA (CB hL hP)))) (fuel:=600) (d:=60) (by decide +kernel)
end
section
open Go.Proofs.Tryz
open Go.Proofs Go.Lib Go.Shelf Go.RowKit Go.WideShapes
set_option maxRecDepth 20000
variable {W:World}
theorem CC (h:W.ShapedOpen prog):∃m,aR W m:=
 zE (P:=prog) (g:=2) (t:=368) (u:=130) (zero:=Array.replicate 20 (.int .u64 0)) (ts:=List.replicate 20 130) (i:=2) h (of_decide_eq_true (by kernel_rfl)) (by kernel_rfl) (by kernel_rfl) (by kernel_rfl) (by decide) rfl underlying130
theorem CD {H:Type} {enc:TypeId × Value→H} {os:Os} {f:FuncId} {fn:Func} {s:ChangeSpec} {X:World→Array Value→Prop}
  (hX:∀(w w':World) (args:Array Value),w.heap=w'.heap→X w args→X w' args)
  (own:ownKnob prog.godebug=none) (started:os.Started) (noInit:prog.inits.idxOf? f=none) (hfn:prog.funcs[f]?=some fn)
  (witness:∃(w:World) (tape:Tape) (i:Input),w.os=os∧(w.forCall tape i).Shaped Tryz.checked.prog∧i.vars=[]∧Input.okWide Tryz.checked.prog (w.forCall tape i) .any w.heap.size f i ∧
   ((s.pre enc Tryz.checked.prog fn [] false (w.forCall tape i).memory i.args∧X (w.forCall tape i).memory i.args)∧sizedMet enc Tryz.checked.prog fn (OpenSpec.ofChange s) false (w.forCall tape i).memory i.args)∧({}:Assume).holds Tryz.checked.prog (lone (Frame.enter Tryz.checked.prog f i.args .normal) [] (w.forCall tape i)))
  (contract:∀(W:World) (base:Nat) (args:Array Value) (ds gs:List (DataW H)) (before:List MemPlace),
   (∀(j:Nat) t v,fn.params[j]?=some t→args[j]?=some v→Value.okWide prog W .any base t v) →
   DataW.Whole enc prog fn.params.toList s.vars false W args.toList ds gs before→X W args→W.ShapedOpen prog →
   Calls prog f args W fun e W'=>∃v,e=.returned v∧s.post enc prog fn false true false false W args v W') :
  ReturnsInHanded {} Tryz.checked os f .any (fun w args=>(s.pre enc prog fn [] false w args∧X w args)∧sizedMet enc prog fn (OpenSpec.ofChange s) false w args) (s.post enc prog fn false true false false):=by
 refine returnsInHanded_of_calls own started noInit witness fun w tape i _ hsh _ hok hpre _=>?_
 obtain ⟨_,_,_,fn',hfn',_,_,_,_,hval⟩:=hok
 have e:fn'=fn:=Option.some.inj (hfn'.symm.trans hfn)
 rw[e] at hval
 obtain ⟨⟨⟨ds,gs,before,hw,_⟩,hx⟩,_⟩:=hpre
 exact (contract _ _ i.args ds gs before hval (DataW.Whole.of_heap (w':=w.forCall tape i) (by rfl) hw) (hX _ _ _ (by rfl) hx) hsh).mono fun e W' ⟨v,he,hp⟩=>by rw[he];exact ChangeSpec.post_blind hp
end
section
open Go.Proofs.Tryz
open Go.Proofs
theorem Fg:prog.mayEnter=true:=by kernel_rfl
theorem EU:(Rows.foldTellsRow.lifted == prog.liftsFinal)=true:=by kernel_rfl
theorem EW:(prog.make == some Rows.foldTellsRow.make)=true:=by kernel_rfl
theorem EX:laidOutB prog=true:=by kernel_rfl
theorem Fh:mapsRowed prog=true:=by kernel_rfl
theorem EY:(prog.stops == [])=true:=by kernel_rfl
theorem EZ:(prog.stopKnobs == [])=true:=by kernel_rfl
theorem E0:(Rows.foldTellsRow.plainKeys == prog.plainKeys)=true:=by kernel_rfl
theorem DQ:prog.stopsHeard=true:=by kernel_rfl
theorem FD:(Rows.foldTellsRow.inPlace == prog.inPlace 3)=true:=by kernel_rfl
theorem FE:(Rows.foldTellsRow.unfollowed == prog.unfollowed 3)=true:=by kernel_rfl
theorem Fi:(Rows.foldTellsRow.recurses == prog.recurses 3)=true:=by kernel_rfl
theorem Fj:(Rows.foldTellsRow.named == prog.varsNamed 3)=true:=by kernel_rfl
theorem closed:joinedFacts prog 3 Tryz.f3 Rows.foldTellsSpec Rows.foldTellsRow=true:=by
 unfold joinedFacts
 rw[EX,Fh,EY,EZ,FD,FE,Fi,Fj,E0,DQ,Fg,EU,EW]
 kernel_rfl
end
end Go.Proofs.YtjpnhkmfhlnpcaaGreatDoor
