/- Printed walks: what each function of the program computes. Condition: the Lean function gives a value. -/
import Derived.Test.YtmffocankommaaaDoorDYZed
import Derived.Test.YtmffocankommaaaDoorDx5
import Derived.Test.YtmffocankommaaaDoorDx16
import Derived.Test.YtmffocankommaaaDoorDx11
import Derived.Test.YtmffocankommaaaDoorDx14
namespace Go.Proofs.YtmffocankommaaaDoor.J
open Go.RowKit Go.Proofs.YtmffocankommaaaDoorW.PrintWords Go.Proofs.YtmffocankommaaaDoorW.PrintLast Go.Proofs.YtmffocankommaaaDoorW.PrintMore Go.Proofs.YtmffocankommaaaDoorY Go.Proofs.YtmffocankommaaaDoorS Go.Proofs.YtmffocankommaaaDoorS _root_.Go.Proofs.Tryd
attribute [local go_sem] q1X q2F q2H q3c q3b q2u q2t q2E q2G
set_option linter.unusedVariables false
set_option maxHeartbeats 8000000
set_option maxRecDepth 100000
set_option linter.unusedSimpArgs false
attribute [local go_sem high] eqA88
def q1t.l0:Nat → List q0a → List q0a → Int → Option (Bool)
 | 0,_,_,_=>none
 | k + 1,x0,x1,x5=>if x5 < (x0.length:Int) then (if 0≤x5 then (if x5 < (x1.length:Int) then (if (rdOf ByteArray.empty x0 x5).toList = (rdOf ByteArray.empty x1 x5).toList then (q1t.l0 k x0 x1 (wrap64 (x5 + 1))) else (none)) else (none)) else (none)) else (some true)
def q1t.f (k:Nat) (l0:List q0a) (l1:List q0a):Option (Bool):=if (l0.length:Int) = (l1.length:Int) then (q1t.l0 k l0 l1 0) else (none)
theorem q1t.mono_l:∀ k,(∀ y0 y1 y2,LeO (q1t.l0 k y0 y1 y2) (q1t.l0 (k + 1) y0 y1 y2))
 | 0=>fun _ _ _ r h=>by simp [q1t.l0] at h
 | k + 1=>by
  have aA:=q1t.mono_l k
  ·intro y0 y1 y2;unfold q1t.l0;exact X96
theorem q1t.mono:∀ a0 a1 k,LeO (q1t.f k a0 a1) (q1t.f (k + 1) a0 a1):=by
 intro a0 a1 k;have aA:=q1t.mono_l k;unfold q1t.f;exact X96
theorem q1t.calls (k:Nat) (A0:Option Addr) (c0:Nat) (l0:List q0a) (A1:Option Addr) (c1:Nat) (l1:List q0a) (r:Bool) (w:World) (aA:Kd.C Kd.string w A0 l0.length l0) (aC:l0.length≤c0) (aD:Kd.C Kd.string w A1 l1.length l1) (aE:l1.length≤c1) (h:q1t.f k l0 l1 = some r) :
  Calls prog 46 #[sl A0 l0 c0,sl A1 l1 c1] w fun e w'=>e = .returned (.bool r)∧q3Q w w':=by
 have aG:=am aA;have HC0:=am aC;clear aA aC;have aH:=am aD;have HC1:=am aE;clear aD aE;have H:=h;clear h;unfold q1t.f at H;by_cases c3:(l0.length:Int) = (l1.length:Int)
 ·rw [if_pos c3] at H;have c3b0:=eT c3;have c3b1:=eF c3;have c3b2:(l0.length == l1.length) = true:=by first | simpa using c3|(simp at c3 ⊢;omega)
  clear c3;have H':=am H;clear H;go_enter func46,ntmps46;go_wp2
  repeat (go_quiet (fail);try go_wp2)
  go_loopg [5] k (fun kq v5 w'=>∃ (aI:Int),v5 = iv aI∧q0j (q1t.l0 kq l0 l1 aI = some r)∧q0j (kq≤k)∧q3Q w w')
  case atStart=>exact ⟨(0),X7,H',⟨q0f _⟩,X18⟩
  case round=>
   clear H';(try clear c1 p2 c3 c3b0 c3b1 c3b2);obtain ⟨aI,rfl,HA,aJ,⟨m1,rfl⟩⟩:=hrel;cases gk with
   | zero=>exact absurd HA.out (by simp [q1t.l0])
   | succ k1=>
    have H:=HA.out;clear HA;simp only [q1t.l0] at H;by_cases c4:aI < (l0.length:Int)
    ·rw [if_pos c4] at H;have c4b0:=dT c4;clear c4;by_cases c5:0≤aI
     ·rw [if_pos c5] at H;have c5b0:=dT c5;clear c5;by_cases c6:aI < (l1.length:Int)
      ·rw [if_pos c6] at H;have c6b0:=dT c6;clear c6;by_cases c7:(rdOf ByteArray.empty l0 aI).toList = (rdOf ByteArray.empty l1 aI).toList
       ·rw [if_pos c7] at H;have c7b0:=eT c7;have c7b1:=eF c7;clear c7;have H':=am H;clear H;have aK:0≤(aI:Int):=q0b X12;have aM:aI < (l0.length:Int):=q0b X12;obtain ⟨ad737,e737,hx737_0⟩:=q2C aG.out aI aK aM;cases e737;replace aK:=q0c aK;replace aM:=q0c aM;have aQ:0≤(aI:Int):=q0b X12;have aT:aI < (l1.length:Int):=q0b X12;obtain ⟨ad738,e738,hx738_0⟩:=q2C aH.out aI aQ aT;cases e738;replace aQ:=q0c aQ;replace aT:=q0c aT;go_wp2
        repeat (go_quiet (fail);try go_wp2)
        go_roundg k1
        case measure=>have:=aJ.out;omega
        case rel=>exact ⟨(wrap64 (aI + 1)),X7,H',⟨by have:=aJ.out;omega⟩,X18⟩
       ·exact iN c7 H
      ·exact iN c6 H
     ·exact iN c5 H
    ·rw [if_neg c4] at H;have c4b0:=dF c4;clear c4;obtain rfl:=q0d H;go_wp2
     repeat (go_quiet (fail);try go_wp2)
     go_ret
     exact ⟨X7,X18⟩
 ·exact iN c3 H
mutual
def q0p.j0:Nat → Bool → q0a → List (S86) → List (S88) → List (List q0a) → Int → q0a → Int → List (S25) → q0a → List (S86) → List (S88) → List (List q0a) → Int → q0a → Int → List (S25) → Option (Bool)
 | 0,_,_,_,_,_,_,_,_,_,_,_,_,_,_,_,_,_=>none
 | k + 1,aA,aC,aD,aE,aG,aH,aI,aJ,aK,aM,aQ,aT,aU,aW,aX,aY,aZ=>if aA = true then (none) else (q0p.l0 k 0 aC aD aE aG aH aI aJ aK aM aQ aT aU aW aX aY aZ)
def q0p.l0:Nat → Int → q0a → List (S86) → List (S88) → List (List q0a) → Int → q0a → Int → List (S25) → q0a → List (S86) → List (S88) → List (List q0a) → Int → q0a → Int → List (S25) → Option (Bool)
 | 0,_,_,_,_,_,_,_,_,_,_,_,_,_,_,_,_,_=>none
 | k + 1,x5,aA,aC,aD,aE,aG,aH,aI,aJ,aK,aM,aQ,aT,aU,aW,aX,aY=>if x5 < (aC.length:Int) then (if 0≤x5 then (if x5 < (aM.length:Int) then (if ((q1e aC x5).f0).toList = ((q1e aM x5).f0).toList then ((q0s.f k ((q1e aC x5).f1.f0) ((q1e aC x5).f1.f1) ((q1e aC x5).f1.f2) ((q1e aC x5).f1.f3) ((q1e aM x5).f1.f0) ((q1e aM x5).f1.f1) ((q1e aM x5).f1.f2) ((q1e aM x5).f1.f3)).bind fun aZ=>(if aZ = true then (q0p.l0 k (wrap64 (x5 + 1)) aA aC aD aE aG aH aI aJ aK aM aQ aT aU aW aX aY) else (none))) else (none)) else (none)) else (none)) else (q0p.l1 k 0 aA aC aD aE aG aH aI aJ aK aM aQ aT aU aW aX aY)
def q0p.l1:Nat → Int → q0a → List (S86) → List (S88) → List (List q0a) → Int → q0a → Int → List (S25) → q0a → List (S86) → List (S88) → List (List q0a) → Int → q0a → Int → List (S25) → Option (Bool)
 | 0,_,_,_,_,_,_,_,_,_,_,_,_,_,_,_,_,_=>none
 | k + 1,x6,aA,aC,aD,aE,aG,aH,aI,aJ,aK,aM,aQ,aT,aU,aW,aX,aY=>if x6 < (aD.length:Int) then (if 0≤x6 then (if x6 < (aQ.length:Int) then (if (!((((q2p aD x6).f0).toList) == (((q2p aQ x6).f0).toList)) || (!(((q2p aD x6).f1) == ((q2p aQ x6).f1)) || (!(((q2p aD x6).f2) == ((q2p aQ x6).f2))))) = true then (none) else (q0p.l1 k (wrap64 (x6 + 1)) aA aC aD aE aG aH aI aJ aK aM aQ aT aU aW aX aY)) else (none)) else (none)) else (q0p.l2 k 0 aA aC aD aE aG aH aI aJ aK aM aQ aT aU aW aX aY)
def q0p.l2:Nat → Int → q0a → List (S86) → List (S88) → List (List q0a) → Int → q0a → Int → List (S25) → q0a → List (S86) → List (S88) → List (List q0a) → Int → q0a → Int → List (S25) → Option (Bool)
 | 0,_,_,_,_,_,_,_,_,_,_,_,_,_,_,_,_,_=>none
 | k + 1,x7,aA,aC,aD,aE,aG,aH,aI,aJ,aK,aM,aQ,aT,aU,aW,aX,aY=>if x7 < (aE.length:Int) then (if 0≤x7 then (if x7 < (aT.length:Int) then ((q1t.f k (q2M aE x7) (q2M aT x7)).bind fun aZ=>(if aZ = true then (q0p.l2 k (wrap64 (x7 + 1)) aA aC aD aE aG aH aI aJ aK aM aQ aT aU aW aX aY) else (none))) else (none)) else (none)) else (some true)
end
def q0p.f (k:Nat) (aA:q0a) (aC:List (S86)) (aD:List (S88)) (aE:List (List q0a)) (aG:Int) (aH:q0a) (aI:Int) (aJ:List (S25)) (aK:q0a) (aM:List (S86)) (aQ:List (S88)) (aT:List (List q0a)) (aU:Int) (aW:q0a) (aX:Int) (aY:List (S25)):Option (Bool):=if aA.toList = aK.toList then (if (aC.length:Int) = (aM.length:Int) then (if (aD.length:Int) = (aQ.length:Int) then (if (aE.length:Int) = (aT.length:Int) then ((q0s.f k aG aH aI aJ aU aW aX aY).bind fun aZ=>(q0p.j0 k (!aZ) aA aC aD aE aG aH aI aJ aK aM aQ aT aU aW aX aY)) else (q0p.j0 k true aA aC aD aE aG aH aI aJ aK aM aQ aT aU aW aX aY)) else (q0p.j0 k true aA aC aD aE aG aH aI aJ aK aM aQ aT aU aW aX aY)) else (q0p.j0 k true aA aC aD aE aG aH aI aJ aK aM aQ aT aU aW aX aY)) else (q0p.j0 k true aA aC aD aE aG aH aI aJ aK aM aQ aT aU aW aX aY)
theorem q0p.mono_l:∀ k,(∀ y0 y1 y2 y3 y4 y5 y6 y7 y8 y9 aA aC aD aE aG aH aI,LeO (q0p.j0 k y0 y1 y2 y3 y4 y5 y6 y7 y8 y9 aA aC aD aE aG aH aI) (q0p.j0 (k + 1) y0 y1 y2 y3 y4 y5 y6 y7 y8 y9 aA aC aD aE aG aH aI))∧(∀ y0 y1 y2 y3 y4 y5 y6 y7 y8 y9 aA aC aD aE aG aH aI,LeO (q0p.l0 k y0 y1 y2 y3 y4 y5 y6 y7 y8 y9 aA aC aD aE aG aH aI) (q0p.l0 (k + 1) y0 y1 y2 y3 y4 y5 y6 y7 y8 y9 aA aC aD aE aG aH aI))∧(∀ y0 y1 y2 y3 y4 y5 y6 y7 y8 y9 aA aC aD aE aG aH aI,LeO (q0p.l1 k y0 y1 y2 y3 y4 y5 y6 y7 y8 y9 aA aC aD aE aG aH aI) (q0p.l1 (k + 1) y0 y1 y2 y3 y4 y5 y6 y7 y8 y9 aA aC aD aE aG aH aI))∧(∀ y0 y1 y2 y3 y4 y5 y6 y7 y8 y9 aA aC aD aE aG aH aI,LeO (q0p.l2 k y0 y1 y2 y3 y4 y5 y6 y7 y8 y9 aA aC aD aE aG aH aI) (q0p.l2 (k + 1) y0 y1 y2 y3 y4 y5 y6 y7 y8 y9 aA aC aD aE aG aH aI))
 | 0=>⟨fun _ _ _ _ _ _ _ _ _ _ _ _ _ _ _ _ _ r h=>by simp [q0p.j0] at h,fun _ _ _ _ _ _ _ _ _ _ _ _ _ _ _ _ _ r h=>by simp [q0p.l0] at h,fun _ _ _ _ _ _ _ _ _ _ _ _ _ _ _ _ _ r h=>by simp [q0p.l1] at h,fun _ _ _ _ _ _ _ _ _ _ _ _ _ _ _ _ _ r h=>by simp [q0p.l2] at h⟩
 | k + 1=>by
  obtain ⟨aJ,aK,aM,aQ⟩:=q0p.mono_l k;refine ⟨?_,?_,?_,?_⟩
  ·intro y0 y1 y2 y3 y4 y5 y6 y7 y8 y9 aA aC aD aE aG aH aI;unfold q0p.j0;exact X97
  ·intro y0 y1 y2 y3 y4 y5 y6 y7 y8 y9 aA aC aD aE aG aH aI;unfold q0p.l0;exact X97
  ·intro y0 y1 y2 y3 y4 y5 y6 y7 y8 y9 aA aC aD aE aG aH aI;unfold q0p.l1;exact X97
  ·intro y0 y1 y2 y3 y4 y5 y6 y7 y8 y9 aA aC aD aE aG aH aI;unfold q0p.l2;exact X97
theorem q0p.mono:∀ a0 a1 a2 a3 a4 a5 a6 a7 a8 a9 aA aC aD aE aG aH k,LeO (q0p.f k a0 a1 a2 a3 a4 a5 a6 a7 a8 a9 aA aC aD aE aG aH) (q0p.f (k + 1) a0 a1 a2 a3 a4 a5 a6 a7 a8 a9 aA aC aD aE aG aH):=by
 intro a0 a1 a2 a3 a4 a5 a6 a7 a8 a9 aA aC aD aE aG aH k;obtain ⟨aI,aJ,aK,aM⟩:=q0p.mono_l k;unfold q0p.f;exact (by repeat' (with_reducible first | apply aI | apply aJ | apply aK | apply aM | apply q0s.mono | exact q1t.mono _ _ _ | exact LeO.refl _ | exact LeO.none _ | refine LeO.ite ?_ ?_ | refine LeO.bind ?_ (fun _=>?_) | apply q1t.mono))
def q0p.T6:Bool × List (List Nat × List Nat):=(true,[([],[]),([0],[0]),([],[]),([1,2],[1,2]),([3],[3]),([4],[4]),([],[]),([6],[6]),([],[]),([7,8],[7,8]),([9],[9]),([10],[10]),([5,11],[5,11]),([12],[12]),([13],[13]),([14,13],[13,14]),([13],[13]),([15,16,13],[13,15,16]),([17,13],[13,17]),([18,13],[13,18]),([13],[13]),([20,13],[13,20]),([13],[13]),([21,22,13],[13,21,22]),([23,13],[13,23]),([24,13],[13,24]),([19,25,13,13],[13,19,25]),([26,13],[13,26]),([13,27],[13,27])])
def q0p.B6:List Nat:=[0,1,0,7,15,31,0,64,0,448,960,1984,4095,8191,16383,32767,16383,131071,262143,524287,16383,1064959,16383,7356415,15745023,32522239,67108863,134217727,268435455]
theorem q0p.tab6:rtab .any (q5m Tryd.f16 6) = q0p.T6:=by kernel_rfl
theorem q0p.bits6:q3G q0p.T6.2 q0p.B6 = true:=by kernel_rfl
def q0p.T11:Bool × List (List Nat × List Nat):=(true,[([],[]),([0],[0]),([],[]),([1,2],[1,2]),([3],[3]),([],[]),([5],[5]),([],[]),([6,7],[6,7]),([8],[8]),([4,9],[4,9])])
def q0p.B11:List Nat:=[0,1,0,7,15,0,32,0,224,480,1023]
theorem q0p.tab11:rtab .any (q5m Tryd.f16 11) = q0p.T11:=by kernel_rfl
theorem q0p.bits11:q3G q0p.T11.2 q0p.B11 = true:=by kernel_rfl
def q0p.T16:Bool × List (List Nat × List Nat):=(true,[([],[]),([0],[0]),([],[]),([1,2],[1,2]),([3],[3]),([],[]),([5],[5]),([],[]),([6,7],[6,7]),([8],[8]),([4,9],[4,9]),([10],[10])])
def q0p.B16:List Nat:=[0,1,0,7,15,0,32,0,224,480,1023,2047]
theorem q0p.tab16:rtab .any (q5m Tryd.f16 16) = q0p.T16:=by kernel_rfl
theorem q0p.bits16:q3G q0p.T16.2 q0p.B16 = true:=by kernel_rfl
theorem q0p.calls (k:Nat) (aA:q0a) (aC:Option Addr) (aD:Nat) (aE:List (S86)) (aG:Option Addr) (aH:Nat) (aI:List (S88)) (aJ:Option Addr) (aK:Nat) (aM:List (List q0a)) (aQ:Int) (aT:q0a) (aU:Int) (aW:Option Addr) (aX:Nat) (aY:List (S25)) (aZ:q0a) (bA:Option Addr) (bB:Nat) (bC:List (S86)) (bD:Option Addr) (bE:Nat) (bF:List (S88)) (bG:Option Addr) (bH:Nat) (bI:List (List q0a)) (bJ:Int) (bK:q0a) (bL:Int) (bM:Option Addr) (bN:Nat) (bO:List (S25)) (r:Bool) (w:World) (bP:Kd.C k86 w aC aE.length aE) (bQ:aE.length≤aD) (bR:Kd.C k88 w aG aI.length aI) (bT:aI.length≤aH) (bU:Kd.C (Kd.slice 9 Kd.string) w aJ aM.length aM) (bV:aM.length≤aK) (bW:Kd.C k25 w aW aY.length aY) (bX:aY.length≤aX) (bY:Kd.C k86 w bA bC.length bC) (bZ:bC.length≤bB) (cA:Kd.C k88 w bD bF.length bF) (cC:bF.length≤bE) (cD:Kd.C (Kd.slice 9 Kd.string) w bG bI.length bI) (cE:bI.length≤bH) (cF:Kd.C k25 w bM bO.length bO) (cG:bO.length≤bN) (h:q0p.f k aA aE aI aM aQ aT aU aY aZ bC bF bI bJ bK bL bO = some r) :
  Calls prog 16 #[.agg #[.string aA,sl aC aE aD,sl aG aI aH,sl aJ aM aK,iv aQ,.string aT,iv aU,sl aW aY aX],.agg #[.string aZ,sl bA bC bB,sl bD bF bE,sl bG bI bH,iv bJ,.string bK,iv bL,sl bM bO bN]] w fun e w'=>e = .returned (.bool r)∧Below w.heap.size w w':=by
 have hu44:=underlying44;have hu25:=underlying25;have hu88:=underlying88;have cH:=am bP;have HC0_1:=am bQ;clear bP bQ;have cI:=am bR;have HC0_2:=am bT;clear bR bT;have cJ:=am bU;have HC0_3:=am bV;clear bU bV;have cK:=am bW;have cL:=am bX;clear bW bX;have cM:=am bY;have HC1_1:=am bZ;clear bY bZ;have cN:=am cA;have HC1_2:=am cC;clear cA cC;have cO:=am cD;have HC1_3:=am cE;clear cD cE;have cP:=am cF;have cQ:=am cG;clear cF cG;have HB:=am (q0i w.heap.size w);have H:=h;clear h;unfold q0p.f at H;have cR:=am H;clear H;go_enter func16,ntmps16;go_upto_region 1 with (first|((with_reducible refine gd 2 ?_);(try (refine q1l (by rfl) ?_;dsimp only));refine be 2 #[.string aA,sl aC aE aD,sl aG aI aH,sl aJ aM aK,iv aQ,.string aT,iv aU,sl aW aY aX] 44 ?_;intro cS hg w4 hbox hb;have cT:=am (hbox);have GW739:=sG (w:=w) hg X6;have cU:=sG (w:=w) hg X6;replace HB:=bS X6 hb;clear hb hbox hg)|((with_reducible refine gd 3 ?_);(try (refine q1l (by rfl) ?_;dsimp only));refine be 3 #[.string aZ,sl bA bC bB,sl bD bF bE,sl bG bI bH,iv bJ,.string bK,iv bL,sl bM bO bN] 44 ?_;intro cV hg w5 hbox hb;have cX:=am (hbox);have GW740:=sG (w:=w) hg (X10 HB cU);have cY:=sG (w:=w) hg (X10 HB cU);replace HB:=bS (X10 HB cU) hb;have cZ:=nLT hg cT;have dA:=nGT hg cT;replace cT:=kB cT hb;clear hb hbox hg))
 (try simp only [Act.put,List.setIfInBounds_toArray,List.set_cons_zero,List.set_cons_succ]);go_cut [47] (fun dB wc=>∃ (kq:Nat) (dC:Bool),dB = .bool dC∧q0j (q0p.j0 kq dC aA aE aI aM aQ aT aU aY aZ bC bF bI bJ bK bL bO = some r)∧q0j (kq≤k)∧q0j (wc.heap[cS]? = some (.cells #[.string aA,(sl aC aE aD),(sl aG aI aH),(sl aJ aM aK),iv aQ,.string aT,iv aU,(sl aW aY aX)] 44 (0,0)))∧q0j (wc.heap[cV]? = some (.cells #[.string aZ,(sl bA bC bB),(sl bD bF bE),(sl bG bI bH),iv bJ,.string bK,iv bL,(sl bM bO bN)] 44 (0,0)))∧q0j (Below w.heap.size w wc))
 case first=>
  have H:=cR.out;clear cR;by_cases c6:aA.toList = aZ.toList
  ·rw [if_pos c6] at H;have c6b0:=eT c6;have c6b1:=eF c6;clear c6;(first | rw [c6b0]|(simp only [q3O,q3U];rw [c6b0]) | skip);by_cases c7:(aE.length:Int) = (bC.length:Int)
   ·rw [if_pos c7] at H;have c7b0:=eT c7;have c7b1:=eF c7;have c7b2:(aE.length == bC.length) = true:=by first | simpa using c7|(simp at c7 ⊢;omega)
    clear c7;by_cases c8:(aI.length:Int) = (bF.length:Int)
    ·rw [if_pos c8] at H;have c8b0:=eT c8;have c8b1:=eF c8;have c8b2:(aI.length == bF.length) = true:=by first | simpa using c8|(simp at c8 ⊢;omega)
     clear c8;by_cases c9:(aM.length:Int) = (bI.length:Int)
     ·rw [if_pos c9] at H;have c9b0:=eT c9;have c9b1:=eF c9;have c9b2:(aM.length == bI.length) = true:=by first | simpa using c9|(simp at c9 ⊢;omega)
      clear c9;obtain ⟨dD,dG,H⟩:=oA H;(try dsimp only at H);have H':=am H;clear H;have hnb11:=cZ.out;have hnc11:=dA.out;have dH:=bc8 cT;have dI:=bc8 cX;go_wp2_with (first|(go_at_call 12;(with_reducible refine (q0s.calls k aQ aT aU _ _ aY bJ bK bL _ _ bO dD _ ?side1 ?side2 ?side3 ?side4 dG.out).mono ?_);(case side1=>exact cW (q0r cK.out HB.out));(case side2=>exact cL.out);(case side3=>exact cW (q0r cP.out HB.out));(case side4=>exact cQ.out);rintro e w14 ⟨rfl,hb⟩;replace cT:=kB cT hb;replace cX:=kB cX hb;replace HB:=bS (X13 HB cU cY) hb;clear hb))
      go_meet
      case rel=>exact ⟨_,(!dD),X7,H',⟨X8⟩,⟨(X9 cT)⟩,⟨(X9 cX)⟩,⟨(X13 HB cU cY)⟩⟩
     ·rw [if_neg c9] at H;have c9b0:=nF c9;have c9b1:=nT c9;have c9b2:(aM.length == bI.length) = false:=by first | simpa using c9|(simp at c9 ⊢;omega)
      have H':=am H;clear H;have hnb15:=cZ.out;have hnc15:=dA.out;have dJ:=bc8 cT;have dK:=bc8 cX;go_wp2
      go_meet
      case rel=>exact ⟨_,(true),X7,H',⟨X8⟩,⟨(X9 cT)⟩,⟨(X9 cX)⟩,⟨(X13 HB cU cY)⟩⟩
    ·rw [if_neg c8] at H;have c8b0:=nF c8;have c8b1:=nT c8;have c8b2:(aI.length == bF.length) = false:=by first | simpa using c8|(simp at c8 ⊢;omega)
     have H':=am H;clear H;have hnb18:=cZ.out;have hnc18:=dA.out;have dL:=bc8 cT;have dM:=bc8 cX;go_wp2
     go_meet
     case rel=>exact ⟨_,(true),X7,H',⟨X8⟩,⟨(X9 cT)⟩,⟨(X9 cX)⟩,⟨(X13 HB cU cY)⟩⟩
   ·rw [if_neg c7] at H;have c7b0:=nF c7;have c7b1:=nT c7;have c7b2:(aE.length == bC.length) = false:=by first | simpa using c7|(simp at c7 ⊢;omega)
    have H':=am H;clear H;have hnb21:=cZ.out;have hnc21:=dA.out;have dN:=bc8 cT;have dO:=bc8 cX;go_wp2
    go_meet
    case rel=>exact ⟨_,(true),X7,H',⟨X8⟩,⟨(X9 cT)⟩,⟨(X9 cX)⟩,⟨(X13 HB cU cY)⟩⟩
  ·rw [if_neg c6] at H;have c6b0:=nF c6;have c6b1:=nT c6;(first | rw [c6b0]|(simp only [q3O,q3U];rw [c6b0]) | skip);have H':=am H;clear H;have hnb24:=cZ.out;have hnc24:=dA.out;have dP:=bc8 cT;have dQ:=bc8 cX;go_wp2
   go_meet
   case rel=>exact ⟨_,(true),X7,H',⟨X8⟩,⟨(X9 cT)⟩,⟨(X9 cX)⟩,⟨(X13 HB cU cY)⟩⟩
 case rest=>
  clear cR;(try clear c1 c2 p2 c6 c6b0 c6b1 c7 c7b0 c7b1 c7b2 c8 c8b0 c8b1 c8b2 c9 c9b0 c9b1 c9b2 dR dS dU dV dW dX dH dI dJ dK dL dM dN dO dP dQ);obtain ⟨kq,dC,rfl,HA,dY,cT,cX,HB⟩:=hcut;cases kq with
  | zero=>exact absurd HA.out (by simp [q0p.j0])
  | succ dZ=>
   have H:=HA.out;clear HA;simp only [q0p.j0] at H;by_cases eA:dC = true
   ·subst eA;replace H:=tP H;exact absurd H (by simp)
   ·replace eA:=fI eA;subst eA;replace H:=tN H;have H':=am H;clear H;go_wp2
    go_loopg [5] dZ (fun kq v5 w'=>∃ (eB:Int),v5 = iv eB∧q0j (q0p.l0 kq eB aA aE aI aM aQ aT aU aY aZ bC bF bI bJ bK bL bO = some r)∧q0j (kq≤dZ)∧q0j (w'.heap[cS]? = some (.cells #[.string aA,(sl aC aE aD),(sl aG aI aH),(sl aJ aM aK),iv aQ,.string aT,iv aU,(sl aW aY aX)] 44 (0,0)))∧q0j (w'.heap[cV]? = some (.cells #[.string aZ,(sl bA bC bB),(sl bD bF bE),(sl bG bI bH),iv bJ,.string bK,iv bL,(sl bM bO bN)] 44 (0,0)))∧q0j (Below w.heap.size w w'))
    case atStart=>exact ⟨(0),X7,H',⟨q0f _⟩,⟨(X9 cT)⟩,⟨(X9 cX)⟩,⟨(X13 HB cU cY)⟩⟩
    case round=>
     clear H';(try clear c1 c2);(try clear p2 p2);(try clear c6 c6b0 c6b1 c7 c7b0 c7b1 c7b2 c8 c8b0 c8b1 c8b2 c9 c9b0 c9b1 c9b2 dR dS dU dV dW dX eA dH dI dJ dK dL dM dN dO dP dQ);obtain ⟨eB,rfl,HA,eC,cT,cX,HB⟩:=hrel;cases gk with
     | zero=>exact absurd HA.out (by simp [q0p.l0])
     | succ k2=>
      have H:=HA.out;clear HA;simp only [q0p.l0] at H;by_cases eD:eB < (aE.length:Int)
      ·rw [if_pos eD] at H;have c28b0:=dT eD;clear eD;by_cases eE:0≤eB
       ·rw [if_pos eE] at H;have c29b0:=dT eE;clear eE;by_cases eG:eB < (bC.length:Int)
        ·rw [if_pos eG] at H;have c30b0:=dT eG;clear eG;by_cases eH:((q1e aE eB).f0).toList = ((q1e bC eB).f0).toList
         ·rw [if_pos eH] at H;have c31b0:=eT eH;have c31b1:=eF eH;clear eH;obtain ⟨eI,eK,H⟩:=oA H;(try dsimp only at H);by_cases eL:eI = true
          ·subst eL;replace H:=tP H;have H':=am H;clear H;have hnb34:=cZ.out;have hnc34:=dA.out;have eM:=bc8 cT;try go_wp2
           replace cT:=am (q1b cT.out);replace cX:=am (q1b cX.out);replace HB:=am (q0l HB.out);have eN:0≤(eB:Int):=q0b X12;have eO:eB < (aE.length:Int):=q0b X12;obtain ⟨eP,eQ,eR,e742,eS,eU,eV,eW,eX,eY,eZ⟩:=q6N cH.out eB eN eO;have fA:=eX;have fB:=eW;have fC:=eV;have fD:=eU;have fE:=eS;cases e742;replace eS:=cB HB eS;replace eU:=cB HB eU;replace eV:=cB HB eV;replace eW:=cB HB eW;replace eX:=cB HB eX;have fF:=am eZ;have HC742_4:=am eY;clear eZ eY;replace eN:=q0c eN;replace eO:=q0c eO;have fG:0≤(eB:Int):=q0b X12;have fH:eB < (bC.length:Int):=q0b X12;obtain ⟨fJ,fK,fL,e743,fM,fN,fO,fP,fQ,fR,fS⟩:=q6N cM.out eB fG fH;have fT:=fQ;have fU:=fP;have fV:=fO;have fW:=fN;have fX:=fM;cases e743;replace fM:=cB HB fM;replace fN:=cB HB fN;replace fO:=cB HB fO;replace fP:=cB HB fP;replace fQ:=cB HB fQ;have fY:=am fS;have HC743_4:=am fR;clear fS fR;replace fG:=q0c fG;replace fH:=q0c fH;have fZ:0≤(eB:Int):=q0b X12;have gA:eB < (aE.length:Int):=q0b X12;obtain ⟨gB,A744_4,c744_4,e744,gC,gD,gE,gF,gG,gH,gI⟩:=q6N cH.out eB fZ gA;have gJ:=gG;have gK:=gF;have gM:=gE;have gN:=gD;have gP:=gC;obtain rfl:eP = gB:=(by injection e744);replace gC:=cB HB gC;replace gD:=cB HB gD;replace gE:=cB HB gE;replace gF:=cB HB gF;replace gG:=cB HB gG;have gQ:=am gI;have gR:=am gH;clear gI gH;replace fZ:=q0c fZ;replace gA:=q0c gA;have ea_:=q0d (eX.symm.trans gG);injection ea_ with ea_ en_ ec_;subst ea_;subst ec_;clear en_;have gS:0≤(eB:Int):=q0b X12;have gT:eB < (bC.length:Int):=q0b X12;obtain ⟨gU,A745_4,c745_4,e745,gV,gW,gX,gY,gZ,hA,hD⟩:=q6N cM.out eB gS gT;have hE:=gZ;have hF:=gY;have hG:=gX;have hH:=gW;have hJ:=gV;obtain rfl:fJ = gU:=(by injection e745);replace gV:=cB HB gV;replace gW:=cB HB gW;replace gX:=cB HB gX;replace gY:=cB HB gY;replace gZ:=cB HB gZ;have hL:=am hD;have hM:=am hA;clear hD hA;replace gS:=q0c gS;replace gT:=q0c gT;have ea_:=q0d (fQ.symm.trans gZ);injection ea_ with ea_ en_ ec_;subst ea_;subst ec_;clear en_;refine q4o (n:=29) (S:=fun w'=>cc8 w' cS (.string aA) (sl (some eP) aE aD) (sl aG aI aH) (sl aJ aM aK) (iv aQ) (.string aT) (iv aU) (sl aW aY aX) (cc8 w' cV (.string aZ) (sl (some fJ) bC bB) (sl bD bF bE) (sl bG bI bH) (iv bJ) (.string bK) (iv bL) (sl bM bO bN) (w'.cell? (eP.add ((eB).toNat * 5)) = some (.string ((q1e aE eB).f0))∧w'.cell? ⟨(eP.add ((eB).toNat * 5)).block,(eP.add ((eB).toNat * 5)).off + 1,none⟩ = some (iv ((q1e aE eB).f1.f0))∧w'.cell? ⟨(eP.add ((eB).toNat * 5)).block,(eP.add ((eB).toNat * 5)).off + 2,none⟩ = some (.string ((q1e aE eB).f1.f1))∧w'.cell? ⟨(eP.add ((eB).toNat * 5)).block,(eP.add ((eB).toNat * 5)).off + 3,none⟩ = some (iv ((q1e aE eB).f1.f2))∧w'.cell? ⟨(eP.add ((eB).toNat * 5)).block,(eP.add ((eB).toNat * 5)).off + 4,none⟩ = some (sl eQ ((q1e aE eB).f1.f3) eR)∧w'.cell? (fJ.add ((eB).toNat * 5)) = some (.string ((q1e bC eB).f0))∧w'.cell? ⟨(fJ.add ((eB).toNat * 5)).block,(fJ.add ((eB).toNat * 5)).off + 1,none⟩ = some (iv ((q1e bC eB).f1.f0))∧w'.cell? ⟨(fJ.add ((eB).toNat * 5)).block,(fJ.add ((eB).toNat * 5)).off + 2,none⟩ = some (.string ((q1e bC eB).f1.f1))∧w'.cell? ⟨(fJ.add ((eB).toNat * 5)).block,(fJ.add ((eB).toNat * 5)).off + 3,none⟩ = some (iv ((q1e bC eB).f1.f2))∧w'.cell? ⟨(fJ.add ((eB).toNat * 5)).block,(fJ.add ((eB).toNat * 5)).off + 4,none⟩ = some (sl fK ((q1e bC eB).f1.f3) fL)∧w'.cell? (eP.add ((eB).toNat * 5)) = some (.string ((q1e aE eB).f0))∧w'.cell? ⟨(eP.add ((eB).toNat * 5)).block,(eP.add ((eB).toNat * 5)).off + 1,none⟩ = some (iv ((q1e aE eB).f1.f0))∧w'.cell? ⟨(eP.add ((eB).toNat * 5)).block,(eP.add ((eB).toNat * 5)).off + 2,none⟩ = some (.string ((q1e aE eB).f1.f1))∧w'.cell? ⟨(eP.add ((eB).toNat * 5)).block,(eP.add ((eB).toNat * 5)).off + 3,none⟩ = some (iv ((q1e aE eB).f1.f2))∧w'.cell? ⟨(eP.add ((eB).toNat * 5)).block,(eP.add ((eB).toNat * 5)).off + 4,none⟩ = some (sl eQ ((q1e aE eB).f1.f3) eR)∧w'.cell? (fJ.add ((eB).toNat * 5)) = some (.string ((q1e bC eB).f0))∧w'.cell? ⟨(fJ.add ((eB).toNat * 5)).block,(fJ.add ((eB).toNat * 5)).off + 1,none⟩ = some (iv ((q1e bC eB).f1.f0))∧w'.cell? ⟨(fJ.add ((eB).toNat * 5)).block,(fJ.add ((eB).toNat * 5)).off + 2,none⟩ = some (.string ((q1e bC eB).f1.f1))∧w'.cell? ⟨(fJ.add ((eB).toNat * 5)).block,(fJ.add ((eB).toNat * 5)).off + 3,none⟩ = some (iv ((q1e bC eB).f1.f2))∧w'.cell? ⟨(fJ.add ((eB).toNat * 5)).block,(fJ.add ((eB).toNat * 5)).off + 4,none⟩ = some (sl fK ((q1e bC eB).f1.f3) fL)))) (ds:=[]) (lb 29 0) X4 rfl rfl (b8 cT (b8 cX ⟨(q0G HB.out fE),(q0G HB.out fD),(q0G HB.out fC),(q0G HB.out fB),(q0G HB.out fA),(q0G HB.out fX),(q0G HB.out fW),(q0G HB.out fV),(q0G HB.out fU),(q0G HB.out fT),(q0G HB.out gP),(q0G HB.out gN),(q0G HB.out gM),(q0G HB.out gK),(q0G HB.out gJ),(q0G HB.out hJ),(q0G HB.out hH),(q0G HB.out hG),(q0G HB.out hF),(q0G HB.out hE)⟩)) (fun hHeld=>?_);refine q3u q0p.tab6 q0p.bits6 (fun HT_ HW_=>?_);generalize wr.drew = w36 at cT cX HB fF fY gQ hL eS eU eV eW eX fM fN fO fP fQ gC gD gE gF gG gV gW gX gY gZ hHeld ⊢
           refine pu 0 (some 55) (lb 29 1) HT_ ?_;refine pu 2 (some 57) (lb 29 5) HT_ ?_;refine pu 6 (some 61) (lb 29 69) HT_ ?_;refine pu 8 (some 63) (lb 29 325) HT_ ?_;refine tk 1 (some 56) (lb 29 327) HT_ HW_ hHeld ?_;refine pu 3 (some 58) (lb 29 335) HT_ ?_;refine pu 4 (some 59) (lb 29 351) HT_ ?_;refine tk 5 (some 60) (lb 29 383) HT_ HW_ hHeld ?_;refine tk 7 (some 62) (lb 29 511) HT_ HW_ hHeld ?_;refine pu 9 (some 64) (lb 29 1023) HT_ ?_;refine pu 10 (some 65) (lb 29 2047) HT_ ?_;refine tk 11 (some 66) (lb 29 4095) HT_ HW_ hHeld ?_;refine pu 12 (some 67) (lb 29 8191) HT_ ?_;refine pu 13 (some 68) (lb 29 16383) HT_ ?_;refine pu 14 (some 69) (lb 29 32767) HT_ ?_;refine pu 16 (some 71) (lb 29 98303) HT_ ?_;refine pu 20 (some 75) (lb 29 1146879) HT_ ?_;refine pu 22 (some 77) (lb 29 5341183) HT_ ?_;refine tk 15 (some 70) (lb 29 5373951) HT_ HW_ hHeld ?_;refine pu 17 (some 72) (lb 29 5505023) HT_ ?_;refine pu 18 (some 73) (lb 29 5767167) HT_ ?_;refine tk 19 (some 74) (lb 29 6291455) HT_ HW_ hHeld ?_;refine tk 21 (some 76) (lb 29 8388607) HT_ HW_ hHeld ?_;refine pu 23 (some 78) (lb 29 16777215) HT_ ?_;refine pu 24 (some 79) (lb 29 33554431) HT_ ?_;refine tk 25 (some 80) (lb 29 67108863) HT_ HW_ hHeld ?_;refine oo 26 (some 81) (lb 29 134217727) HT_ (fun K hK=>?_);refine gO func12 #[.agg #[iv ((q1e aE eB).f1.f0),.string ((q1e aE eB).f1.f1),iv ((q1e aE eB).f1.f2),sl eQ ((q1e aE eB).f1.f3) eR],.agg #[iv ((q1e bC eB).f1.f0),.string ((q1e bC eB).f1.f1),iv ((q1e bC eB).f1.f2),sl fK ((q1e bC eB).f1.f3) fL]] ?_;with_reducible refine (q0s.calls k2 ((q1e aE eB).f1.f0) ((q1e aE eB).f1.f1) ((q1e aE eB).f1.f2) _ _ ((q1e aE eB).f1.f3) ((q1e bC eB).f1.f0) ((q1e bC eB).f1.f1) ((q1e bC eB).f1.f2) _ _ ((q1e bC eB).f1.f3) true _ ?side1 ?side2 ?side3 ?side4 eK.out).mono ?_
           (case side1=>exact cW (q0r gQ.out HB.out));(case side2=>exact gR.out);(case side3=>exact cW (q0r hL.out HB.out));(case side4=>exact hM.out);rintro e w37 ⟨rfl,hb⟩;refine ⟨_,rfl,?_⟩;replace cT:=kB cT hb;replace cX:=kB cX hb;replace HB:=bS (X13 HB cU cY) hb;(try clear hb hb2 hk hi);refine hK.out _ _ (b8 cT (b8 cX ⟨(q0G HB.out fE),(q0G HB.out fD),(q0G HB.out fC),(q0G HB.out fB),(q0G HB.out fA),(q0G HB.out fX),(q0G HB.out fW),(q0G HB.out fV),(q0G HB.out fU),(q0G HB.out fT),(q0G HB.out gP),(q0G HB.out gN),(q0G HB.out gM),(q0G HB.out gK),(q0G HB.out gJ),(q0G HB.out hJ),(q0G HB.out hH),(q0G HB.out hG),(q0G HB.out hF),(q0G HB.out hE)⟩)) (fun hHeld=>?_);clear hK K;refine q3f (a':=?_) ?_ ?_;rotate_left
           ·exact pA (some 81)
           refine pu 27 (some 82) (lb 29 268435455) HT_ ?_;refine pu 28 (some 83) (lb 29 536870911) HT_ ?_;refine q5c (q3Z HT_.out X4) ?_;try go_wp2
           go_roundg k2
           case measure=>have:=dY.out;have:=eC.out;omega
           case rel=>exact ⟨(wrap64 (eB + 1)),X7,H',⟨by have:=dY.out;have:=eC.out;omega⟩,⟨(X9 cT)⟩,⟨(X9 cX)⟩,⟨(X13 HB cU cY)⟩⟩
          ·replace eL:=fI eL;subst eL;replace H:=tN H;exact absurd H (by simp)
         ·rw [if_neg eH] at H;have c31b0:=nF eH;have c31b1:=nT eH;exact absurd H (by simp)
        ·exact iN eG H
       ·exact iN eE H
      ·rw [if_neg eD] at H;have c28b0:=dF eD;clear eD;have H':=am H;clear H;have hnb38:=cZ.out;have hnc38:=dA.out;have hP:=bc8 cT;go_wp2
       go_loopg [6] k2 (fun kq v6 w'=>∃ (hU:Int),v6 = iv hU∧q0j (q0p.l1 kq hU aA aE aI aM aQ aT aU aY aZ bC bF bI bJ bK bL bO = some r)∧q0j (kq≤k2)∧q0j (w'.heap[cS]? = some (.cells #[.string aA,(sl aC aE aD),(sl aG aI aH),(sl aJ aM aK),iv aQ,.string aT,iv aU,(sl aW aY aX)] 44 (0,0)))∧q0j (w'.heap[cV]? = some (.cells #[.string aZ,(sl bA bC bB),(sl bD bF bE),(sl bG bI bH),iv bJ,.string bK,iv bL,(sl bM bO bN)] 44 (0,0)))∧q0j (Below w.heap.size w w'))
       case atStart=>exact ⟨(0),X7,H',⟨q0f _⟩,⟨(X9 cT)⟩,⟨(X9 cX)⟩,⟨(X13 HB cU cY)⟩⟩
       case round=>
        clear H';(try clear c1 c2);(try clear p2 p2);(try clear c3 p6 c7 p7 q7 hV hX eD c28b0 eE c29b0 eG c30b0 eH c31b0 c31b1 eL hY hZ dJ dK dL dM dN dO dP dQ eM hP dH dI eS eU eV eW eX fM fN fO fP fQ gC gD gE gF gG gV gW gX gY gZ eN fG fZ gS eO fH gA gT);obtain ⟨hU,rfl,HA,iA,cT,cX,HB⟩:=hrel;cases gk with
        | zero=>exact absurd HA.out (by simp [q0p.l1])
        | succ k3=>
         have H:=HA.out;clear HA;simp only [q0p.l1] at H;by_cases iB:hU < (aI.length:Int)
         ·rw [if_pos iB] at H;have c40b0:=dT iB;clear iB;by_cases iC:0≤hU
          ·rw [if_pos iC] at H;have c41b0:=dT iC;clear iC;by_cases iD:hU < (bF.length:Int)
           ·rw [if_pos iD] at H;have c42b0:=dT iD;clear iD;by_cases iE:(!((((q2p aI hU).f0).toList) == (((q2p bF hU).f0).toList)) || (!(((q2p aI hU).f1) == ((q2p bF hU).f1)) || (!(((q2p aI hU).f2) == ((q2p bF hU).f2))))) = true
            ·exact iP iE H
            ·rw [if_neg iE] at H;have c43b0:(!((((q2p aI hU).f0).toList) == (((q2p bF hU).f0).toList)) || (!(((q2p aI hU).f1) == ((q2p bF hU).f1)) || (!(((q2p aI hU).f2) == ((q2p bF hU).f2))))) = false:=by simpa using iE
             clear iE;have H':=am H;clear H;have hnb44:=cZ.out;have hnc44:=dA.out;have iF:=bc8 cT;try go_wp2
             replace cT:=am (q1b cT.out);replace cX:=am (q1b cX.out);replace HB:=am (q0l HB.out);have iG:0≤(hU:Int):=q0b X12;have iH:hU < (aI.length:Int):=q0b X12;obtain ⟨iI,e747,iJ,iK,iL⟩:=q6M cI.out hU iG iH;have iM:=iL;have iO:=iK;have iQ:=iJ;cases e747;replace iJ:=cB HB iJ;replace iK:=cB HB iK;replace iL:=cB HB iL;replace iG:=q0c iG;replace iH:=q0c iH;have iR:0≤(hU:Int):=q0b X12;have iS:hU < (bF.length:Int):=q0b X12;obtain ⟨iT,e748,iU,iV,iW⟩:=q6M cN.out hU iR iS;have iX:=iW;have iY:=iV;have iZ:=iU;cases e748;replace iU:=cB HB iU;replace iV:=cB HB iV;replace iW:=cB HB iW;replace iR:=q0c iR;replace iS:=q0c iS;refine q4o (n:=11) (S:=fun w'=>cc8 w' cS (.string aA) (sl aC aE aD) (sl (some iI) aI aH) (sl aJ aM aK) (iv aQ) (.string aT) (iv aU) (sl aW aY aX) (cc8 w' cV (.string aZ) (sl bA bC bB) (sl (some iT) bF bE) (sl bG bI bH) (iv bJ) (.string bK) (iv bL) (sl bM bO bN) (w'.cell? (iI.add ((hU).toNat * 3)) = some (.string ((q2p aI hU).f0))∧w'.cell? ⟨(iI.add ((hU).toNat * 3)).block,(iI.add ((hU).toNat * 3)).off + 1,none⟩ = some (iv ((q2p aI hU).f1))∧w'.cell? ⟨(iI.add ((hU).toNat * 3)).block,(iI.add ((hU).toNat * 3)).off + 2,none⟩ = some (iv ((q2p aI hU).f2))∧w'.cell? (iT.add ((hU).toNat * 3)) = some (.string ((q2p bF hU).f0))∧w'.cell? ⟨(iT.add ((hU).toNat * 3)).block,(iT.add ((hU).toNat * 3)).off + 1,none⟩ = some (iv ((q2p bF hU).f1))∧w'.cell? ⟨(iT.add ((hU).toNat * 3)).block,(iT.add ((hU).toNat * 3)).off + 2,none⟩ = some (iv ((q2p bF hU).f2))))) (ds:=[]) (lb 11 0) X4 rfl rfl (b8 cT (b8 cX ⟨(q0G HB.out iQ),(q0G HB.out iO),(q0G HB.out iM),(q0G HB.out iZ),(q0G HB.out iY),(q0G HB.out iX)⟩)) (fun hHeld=>?_);refine q3u q0p.tab11 q0p.bits11 (fun HT_ HW_=>?_);generalize wr.drew = w46 at cT cX HB iJ iK iL iU iV iW hHeld ⊢
             refine pu 0 (some 91) (lb 11 1) HT_ ?_;refine pu 2 (some 93) (lb 11 5) HT_ ?_;refine pu 5 (some 96) (lb 11 37) HT_ ?_;refine pu 7 (some 98) (lb 11 165) HT_ ?_;refine tk 1 (some 92) (lb 11 167) HT_ HW_ hHeld ?_;refine pu 3 (some 94) (lb 11 175) HT_ ?_;refine tk 4 (some 95) (lb 11 191) HT_ HW_ hHeld ?_;refine tk 6 (some 97) (lb 11 255) HT_ HW_ hHeld ?_;refine pu 8 (some 99) (lb 11 511) HT_ ?_;refine tk 9 (some 100) (lb 11 1023) HT_ HW_ hHeld ?_;refine pu 10 (some 101) (lb 11 2047) HT_ ?_;refine q5c (q3Z HT_.out X4) ?_;try go_wp2
             go_roundg k3
             case measure=>have:=dY.out;have:=eC.out;have:=iA.out;omega
             case rel=>exact ⟨(wrap64 (hU + 1)),X7,H',⟨by have:=dY.out;have:=eC.out;have:=iA.out;omega⟩,⟨(X9 cT)⟩,⟨(X9 cX)⟩,⟨(X13 HB cU cY)⟩⟩
           ·exact iN iD H
          ·exact iN iC H
         ·rw [if_neg iB] at H;have c40b0:=dF iB;clear iB;have H':=am H;clear H;have hnb47:=cZ.out;have hnc47:=dA.out;have jA:=bc8 cT;go_wp2
          go_loopg [7] k3 (fun kq v7 w'=>∃ (jB:Int),v7 = iv jB∧q0j (q0p.l2 kq jB aA aE aI aM aQ aT aU aY aZ bC bF bI bJ bK bL bO = some r)∧q0j (kq≤k3)∧q0j (w'.heap[cS]? = some (.cells #[.string aA,(sl aC aE aD),(sl aG aI aH),(sl aJ aM aK),iv aQ,.string aT,iv aU,(sl aW aY aX)] 44 (0,0)))∧q0j (w'.heap[cV]? = some (.cells #[.string aZ,(sl bA bC bB),(sl bD bF bE),(sl bG bI bH),iv bJ,.string bK,iv bL,(sl bM bO bN)] 44 (0,0)))∧q0j (Below w.heap.size w w'))
          case atStart=>exact ⟨(0),X7,H',⟨q0f _⟩,⟨(X9 cT)⟩,⟨(X9 cX)⟩,⟨(X13 HB cU cY)⟩⟩
          case round=>
           clear H';(try clear c1 c2);(try clear p2 p2);(try clear c3 c4);(try clear p6 p6);(try clear c7);(try clear p7 p7);(try clear q7 q7);(try clear hV hX eD c28b0 eE c29b0 eG c30b0 eH c31b0 c31b1 eL hY hZ iB c40b0 iC c41b0 iD c42b0 iE c43b0 c44 c47 dJ dK dL dM dN dO dP dQ eM hP iF jA dH dI eS eU eV eW eX fM fN fO fP fQ gC gD gE gF gG gV gW gX gY gZ iJ iK iL iU iV iW eN fG fZ gS iG iR eO fH gA gT iH iS);obtain ⟨jB,rfl,HA,jC,cT,cX,HB⟩:=hrel;cases gk with
           | zero=>exact absurd HA.out (by simp [q0p.l2])
           | succ k4=>
            have H:=HA.out;clear HA;simp only [q0p.l2] at H;by_cases jD:jB < (aM.length:Int)
            ·rw [if_pos jD] at H;have c49b0:=dT jD;clear jD;by_cases jE:0≤jB
             ·rw [if_pos jE] at H;have c50b0:=dT jE;clear jE;by_cases jF:jB < (bI.length:Int)
              ·rw [if_pos jF] at H;have c51b0:=dT jF;clear jF;obtain ⟨jG,jI,H⟩:=oA H;(try dsimp only at H);by_cases jJ:jG = true
               ·subst jJ;replace H:=tP H;have H':=am H;clear H;have hnb54:=cZ.out;have hnc54:=dA.out;have Z55:=bc8 cT;try go_wp2
                replace cT:=am (q1b cT.out);replace cX:=am (q1b cX.out);replace HB:=am (q0l HB.out);have jK:0≤(jB:Int):=q0b X12;have jL:jB < (aM.length:Int):=q0b X12;obtain ⟨jM,jN,jO,e749,jP,jQ,jR⟩:=q5Y cJ.out jB jK jL;have jS:=jP;cases e749;replace jP:=cB HB jP;have jT:=am jR;have jU:=am jQ;clear jR jQ;replace jK:=q0c jK;replace jL:=q0c jL;have jV:0≤(jB:Int):=q0b X12;have jW:jB < (bI.length:Int):=q0b X12;obtain ⟨jX,jY,jZ,e750,kA,kC,kD⟩:=q5Y cO.out jB jV jW;have kE:=kA;cases e750;replace kA:=cB HB kA;have kF:=am kD;have kH:=am kC;clear kD kC;replace jV:=q0c jV;replace jW:=q0c jW;refine q4o (n:=12) (S:=fun w'=>cc8 w' cS (.string aA) (sl aC aE aD) (sl aG aI aH) (sl (some jM) aM aK) (iv aQ) (.string aT) (iv aU) (sl aW aY aX) (cc8 w' cV (.string aZ) (sl bA bC bB) (sl bD bF bE) (sl (some jX) bI bH) (iv bJ) (.string bK) (iv bL) (sl bM bO bN) (w'.cell? (jM.add (jB).toNat) = some (sl jN (q2M aM jB) jO)∧w'.cell? (jX.add (jB).toNat) = some (sl jY (q2M bI jB) jZ)))) (ds:=[]) (lb 12 0) X4 rfl rfl (b8 cT (b8 cX ⟨(q0G HB.out jS),(q0G HB.out kE)⟩)) (fun hHeld=>?_);refine q3u q0p.tab16 q0p.bits16 (fun HT_ HW_=>?_);generalize wr.drew = w56 at cT cX HB jT kF jP kA hHeld ⊢
                refine pu 0 (some 109) (lb 12 1) HT_ ?_;refine pu 2 (some 111) (lb 12 5) HT_ ?_;refine pu 5 (some 114) (lb 12 37) HT_ ?_;refine pu 7 (some 116) (lb 12 165) HT_ ?_;refine tk 1 (some 110) (lb 12 167) HT_ HW_ hHeld ?_;refine pu 3 (some 112) (lb 12 175) HT_ ?_;refine tk 4 (some 113) (lb 12 191) HT_ HW_ hHeld ?_;refine tk 6 (some 115) (lb 12 255) HT_ HW_ hHeld ?_;refine pu 8 (some 117) (lb 12 511) HT_ ?_;refine tk 9 (some 118) (lb 12 1023) HT_ HW_ hHeld ?_;refine oo 10 (some 119) (lb 12 2047) HT_ (fun K hK=>?_);refine gO func46 #[sl jN (q2M aM jB) jO,sl jY (q2M bI jB) jZ] ?_;with_reducible refine (q1t.calls k4 _ _ (q2M aM jB) _ _ (q2M bI jB) true _ ?side1 ?side2 ?side3 ?side4 jI.out).mono ?_
                (case side1=>exact cW (q0r jT.out HB.out));(case side2=>exact jU.out);(case side3=>exact cW (q0r kF.out HB.out));(case side4=>exact kH.out);rintro e w' ⟨rfl,⟨nd,rfl⟩⟩;refine ⟨_,rfl,?_⟩;refine hK.out _ _ (b8 cT (b8 cX ⟨(q0G HB.out jS),(q0G HB.out kE)⟩)) (fun hHeld=>?_);clear hK K;refine q3f (a':=?_) ?_ ?_;rotate_left
                ·exact pA (some 119)
                refine pu 11 (some 120) (lb 12 4095) HT_ ?_;refine q5c (q3Z HT_.out X4) ?_;try go_wp2
                go_roundg k4
                case measure=>have:=dY.out;have:=eC.out;have:=iA.out;have:=jC.out;omega
                case rel=>exact ⟨(wrap64 (jB + 1)),X7,H',⟨by have:=dY.out;have:=eC.out;have:=iA.out;have:=jC.out;omega⟩,⟨(X9 cT)⟩,⟨(X9 cX)⟩,⟨(X13 HB cU cY)⟩⟩
               ·replace jJ:=fI jJ;subst jJ;replace H:=tN H;exact absurd H (by simp)
              ·exact iN jF H
             ·exact iN jE H
            ·rw [if_neg jD] at H;have c49b0:=dF jD;clear jD;obtain rfl:=q0d H;have hnb57:=cZ.out;have hnc57:=dA.out;have Z58:=bc8 cT;go_wp2
             go_ret
             exact ⟨X11,(X13 HB cU cY)⟩
set_option maxHeartbeats 1000000 in
/-- q5f at a builder that has been used: nothing turns. -/
theorem q6E (b:Nat) (w:World) (h0:w.cell? ⟨b,0,none⟩ = some (.pointer (some ⟨b,0,none⟩))) :
  Calls prog 98 #[.pointer (some ⟨b,0,none⟩)] w fun e w'=>e = .returned (.tuple #[])∧w' = w:=by
 obtain ⟨j,hj,_⟩:=Option.map_eq_some_iff.1 (show (Tryd.prog.info? 95).map (·.size) = some 2 by kernel_rfl);have u93:=run_underlying underlying93;have u95:=run_underlying underlying95;have u137:=run_underlying underlying137;go_enter func98,ntmps98;go_wp2
 rw [Lib.run_neq_ptr_same w _ underlying93 hj];go_wp2
 go_end0
 exact ⟨rfl,rfl⟩
set_option maxHeartbeats 1000000 in
/-- q5f at a fresh builder: it stores its own address. -/
theorem q6j (b:Nat) (w:World) (h0:w.cell? ⟨b,0,none⟩ = some (.pointer none)) (hsh:w.shape? b = some (95,2)) (hfz:w.frozen? ⟨b,0,none⟩ = false) :
  Calls prog 98 #[.pointer (some ⟨b,0,none⟩)] w fun e w'=>e = .returned (.tuple #[])∧w' = w.setCell ⟨b,0,none⟩ (.pointer (some ⟨b,0,none⟩)):=by
 obtain ⟨j,hj,hjs⟩:=Option.map_eq_some_iff.1 (show (Tryd.prog.info? 95).map (·.size) = some 2 by kernel_rfl);have u93:=run_underlying underlying93;have u95:=run_underlying underlying95;have u137:=run_underlying underlying137;go_enter func98,ntmps98;go_wp2
 rw [Lib.run_to_unsafe w ⟨b,0,none⟩ underlying93 underlying137 hj (by rw [hjs];decide) hsh (Nat.zero_lt_succ 1)];simp only [Result.andThen];rw [Oper.upon_value];go_wp2
 rw [run_callFunc_extern func124 X4 X4 X4 (e:=Extern.AbiNoEscape.same) X4];rw [Lib.run_noEscape];simp only [Result.andThen];rw [Oper.upon_value];go_wp2
 rw [Lib.run_from_unsafe w ⟨b,0,none⟩ underlying137 underlying93 hj hsh X4];simp only [Result.andThen];rw [Oper.upon_value];go_wp2
 go_end0
 exact ⟨rfl,rfl⟩
/-- q5f: behind it the builder is used; its bytes are as they were. -/
theorem q5f (B b:Nat) (bs:List Value) (w:World) (h:Lib.IsBuilder 95 5 B b bs w) :
  Calls prog 98 #[.pointer (some ⟨b,0,none⟩)] w fun e w'=>e = .returned (.tuple #[])∧(Lib.BuilderAt 95 5 B b (.pointer (some ⟨b,0,none⟩)) bs w'∧Below B w w'):=by
 rcases h with h | h
 ·refine (q6j b w h.cell0 h.shape h.frozen0).mono ?_;rintro e w' ⟨rfl,rfl⟩;exact ⟨rfl,h.used _,(q0i B w).setCell (p:=⟨b,0,none⟩) h.1 _⟩
 ·refine (q6E b w h.cell0).mono ?_;rintro e w' ⟨rfl,rfl⟩;exact ⟨rfl,h,q0i B _⟩
theorem q8L:∃ i0,Tryd.prog.info? 5 = some i0∧i0.zero = some (.int .u8 0)∧i0.size = 1∧i0.bytes = 1:=by
 obtain ⟨i,hi,h⟩:=Option.map_eq_some_iff.1 (show (Tryd.prog.info? 5).map (fun i=>(i.zero,i.size,i.bytes)) = some (some (.int .u8 0),1,1) by kernel_rfl);injection h with h1 h2;injection h2 with h2 h3;exact ⟨i,hi,h1,h2,h3⟩
set_option maxHeartbeats 1000000 in
/-- WriteString puts the letters behind what the builder holds. -/
theorem q7B (B b:Nat) (bs:List Value) (s:q0a) (w:World) (h:Lib.IsBuilder 95 5 B b bs w) (hlen:bs.length + s.size≤140737488355328) (hBw:B≤w.heap.size) :
  Calls prog 53 #[.pointer (some ⟨b,0,none⟩),.string s] w fun e w'=>e = .returned (.tuple #[iv s.size,.nilIface])∧(Lib.BuilderAt 95 5 B b (.pointer (some ⟨b,0,none⟩)) (bs++Lib.strCells s) w'∧Below B w w'):=by
 obtain ⟨i0,hi,aA,aC,aD⟩:=q8L;have u93:=run_underlying underlying93;have u95:=run_underlying underlying95;have u31:=run_underlying underlying31;have u9:=run_underlying underlying9;have u5:=run_underlying underlying5;have ecc:∀ args w,(callFunc 98 args).run prog w = .ok (.enter 98 args) w:=enters_of func98 X4 rfl;go_enter func53,ntmps53;go_wp2_with (go_at_fn 98;refine (q5f B b bs _ h).mono ?_)
 rintro e w1 ⟨rfl,h1,aE⟩;obtain ⟨hB,v,hbk,hown,hne⟩:=h1;have c0:w1.cell? ⟨b,0,none⟩ = some (.pointer (some ⟨b,0,none⟩)):=by rw [Lib.cell_of_heap hbk];rfl
 have c1:w1.cell? ⟨b,1,none⟩ = some v:=by rw [Lib.cell_of_heap hbk];rfl
 go_wp2_with (at_builtin;refine Lib.wpList_append_own_string _ rfl _ _ 31 9 rfl B 5 i0 underlying31 underlying9 hi aA aC aD _ _ _ rfl hown s rfl ?c3 ?c4 ?c5 ?_)
 case c3=>unfold maxLen;omega
 case c4=>omega
 case c5=>have:=aE.size;omega
 intro v' w2 hown' hgrow _;have hlt:b < w1.heap.size:=by
  rcases Nat.lt_or_ge b w1.heap.size with h' | h'
  ·exact h'
  ·simp [Array.getElem?_eq_none h'] at hbk
 have aG:w2.heap[b]? = some (.cells #[.pointer (some ⟨b,0,none⟩),v] 95 (0,0)):=by
  rw [hgrow.block b hlt (fun e=>hne e.symm)];exact hbk
 have d0:w2.cell? ⟨b,0,none⟩ = some (.pointer (some ⟨b,0,none⟩)):=by rw [Lib.cell_of_heap aG];rfl
 have d1:w2.cell? ⟨b,1,none⟩ = some v:=by rw [Lib.cell_of_heap aG];rfl
 have f1:w2.frozen? ⟨b,1,none⟩ = false:=Lib.frozen_of_heap aG 1;obtain ⟨ao,n',cap,rfl⟩:∃ ao n' cap,v' = .slice ao n' cap:=by
  rcases hown'.2 with ⟨hv,_⟩ | ⟨g,cap,cur,hv,_⟩
  ·exact ⟨_,_,_,hv⟩
  ·exact ⟨_,_,_,hv⟩
 go_wp2
 go_ret2
 refine ⟨rfl,?_,?_⟩
 ·exact Lib.BuilderAt.put (T:=95) (e:=5) hB aG (bs':=bs++Lib.strCells s) (by simpa [Lib.strCells_length] using hown') (by decide)
 ·exact (aE.grown hgrow (by have:=aE.size;omega) (fun k hk=>(hown.lt k hk).1)).setCell (p:=⟨b,1,none⟩) hB _
/-- A builder of a block of one's own, holding these letters. -/
def BIs (b:Nat) (s:q0a) (w:World):Prop:=Lib.IsBuilder 95 5 b b (Lib.strCells s) w
/-- Its two blocks. -/
theorem BIs.two {b:Nat} {s:q0a} {w:World} (h:BIs b s w):∃ p v,w.heap[b]? = some (.cells #[p,v] 95 (0,0))∧∀ k,v.ownBlock = some k → ∃ cs,w.heap[k]? = some (.cells cs 5 (0,0)):=by
 have key:∀ p,Lib.BuilderAt 95 5 b b p (Lib.strCells s) w → ∃ p v,w.heap[b]? = some (.cells #[p,v] 95 (0,0))∧∀ k,v.ownBlock = some k → ∃ cs,w.heap[k]? = some (.cells cs 5 (0,0)):=by
  rintro p ⟨_,v,hb,hown,_⟩;refine ⟨p,v,hb,fun k hk=>?_⟩;rcases hown.2 with ⟨rfl,_⟩ | ⟨g,cap,cur,rfl,_,hg,_⟩
  ·simp [Value.ownBlock] at hk
  ·simp only [Value.ownBlock,Option.some.injEq] at hk;subst hk;exact ⟨cur,hg⟩
 rcases h with h | h
 ·exact key _ h
 ·exact key _ h
theorem BIs.of {b:Nat} {s:q0a} {w w':World} (h:BIs b s w) (hk:∀ (k:Nat) (cs:Array Value) (T:TypeId),w.heap[k]? = some (Obj.cells cs T (0,0)) → T = 95∨T = 5 → w'.heap[k]? = w.heap[k]?):BIs b s w':=by
 have key:∀ p,Lib.BuilderAt 95 5 b b p (Lib.strCells s) w → Lib.BuilderAt 95 5 b b p (Lib.strCells s) w':=by
  rintro p ⟨hB,v,hb,hown,hne⟩;refine ⟨hB,v,(hk _ _ _ hb (.inl rfl)).trans hb,⟨hown.1,?_⟩,hne⟩;rcases hown.2 with hn | ⟨g,cap,cur,rfl,h1,hg,h2,h3,h4,h5⟩
  ·exact .inl hn
  ·exact .inr ⟨g,cap,cur,rfl,h1,(hk _ _ _ hg (.inr rfl)).trans hg,h2,h3,h4,h5⟩
 exact h.imp (key _) (key _)
theorem q6T {w:World} {k:Nat} {o:Obj} (h:w.heap[k]? = some o):k < w.heap.size:=(Array.getElem?_eq_some_iff.1 h).1
theorem BIs.below {b:Nat} {s:q0a} {w w':World} (h:BIs b s w) (hb:Below w.heap.size w w'):BIs b s w':=h.of fun k cs T hc _=>hb.block k (q6T hc)
theorem BIs.alloc {b:Nat} {s:q0a} {w:World} (h:BIs b s w) (o:Obj):BIs b s (w.alloc o):=h.of fun k cs T hc _=>Lib.alloc_old w o k (q6T hc)
theorem BIs.drew {b:Nat} {s:q0a} {w:World} (h:BIs b s w):BIs b s w.drew:=h
theorem BIs.drewN {b:Nat} {s:q0a} {w:World} (h:BIs b s w) (n:Nat):BIs b s (w.drewN n):=h
/-- Growth of a row of another type. -/
theorem BIs.grown {b:Nat} {s:q0a} {w w':World} {row:Option Nat} (h:BIs b s w) (hg:w.grownBy w' row) (hr:∀ (k:Nat) (cs:Array Value) (T:TypeId),w.heap[k]? = some (Obj.cells cs T (0,0)) → T = 95∨T = 5 → row≠some k):BIs b s w':=
 h.of fun k cs T hc ht=>hg.block k (q6T hc) (fun e=>hr k cs T hc ht e.symm)
theorem BIs.lt {b:Nat} {s:q0a} {w:World} (h:BIs b s w):b < w.heap.size:=by
 obtain ⟨p,v,hb,_⟩:=h.two;exact q6T hb
theorem BIs.fresh (w:World):BIs w.heap.size ⟨#[]⟩ (w.alloc (.cells #[.pointer none,.slice none 0 0] 95)):=Lib.fresh_isBuilder 95 5 w
theorem q7c (a b:q0a):Lib.strCells (a++b) = Lib.strCells a++Lib.strCells b:=by
 unfold Lib.strCells;simp
/-- WriteString. -/
theorem BIs.write {b:Nat} {o s:q0a} {w:World} (h:BIs b o w) (hlen:o.size + s.size≤140737488355328) :
  Calls prog 53 #[.pointer (some ⟨b,0,none⟩),.string s] w fun e w'=>e = .returned (.tuple #[iv s.size,.nilIface])∧BIs b (o++s) w'∧Below b w w':=by
 refine (q7B b b _ s w h (by rw [Lib.strCells_length];exact hlen) (Nat.le_of_lt h.lt)).mono ?_;rintro e w' ⟨rfl,h1,h2⟩;refine ⟨rfl,.inr ?_,h2⟩;rw [q7c];exact h1
/-- String. -/
theorem BIs.string {b:Nat} {o:q0a} {w:World} (h:BIs b o w):Calls prog 57 #[.pointer (some ⟨b,0,none⟩)] w fun e w'=>e = .returned (.string o)∧Below b w w':=by
 have h':Lib.IsBuilder 95 5 b b (Lib.byteCells o.data.toList) w:=h;refine (Tryd.Builder_String_any b b o.data.toList w h' (Nat.le_of_lt h.lt)).mono ?_;rintro e w' ⟨rfl,h1⟩;exact ⟨by cases o;simp,h1⟩
section
variable {P:Program} {ops:Array Oper} {Q:Exit → Act → World → Prop}
/-- A call of a closure that lies in a slot, in a plain region. -/
theorem v0A {t : Tmp} {rest : List Oper} {oi : Oper} {a : Act} {w : World} (N : Option Tmp) (hd : oi.dst = N) (hg : oi.guard = none) {f : FuncId} {fn : Func} {xs : Array Operand} {ts : Array TypeId} (cap : Array Value) (hf : P.funcs[f]? = some fn) (hname : (fn.name == "runtime.NumGoroutine") = false) (hb : fn.body.isSome = true) (args : Array Value)
  (hop:oi.op = .call {callee:=.value (.tmp t),args:=xs,argTypes:=ts}) (hargs:xs.map a.eval++cap = args) (hv:a.eval (.tmp t) = .func (.func f) #[] cap)
  (h:Calls P f args w fun e w'=>∃ v,e = .returned v∧wpList P ops Q rest (a.put N v) w'):wpList P ops Q (oi :: rest) a w:=by
 refine wpList_plain hg fun K hK=>?_;have he:=q7t hf hname hb args w;have hrun:(execOp a.eval oi).run P w = .ok (.enter f args) w:=by
  unfold execOp;simp [hop,resolve,Deferred.ofValue,invoke,hv,hargs,he]
 unfold Oper.wp;rw [hrun,Oper.upon_enter];refine h.mono fun e w'' hh=>?_;obtain ⟨v,rfl,hk⟩:=hh;subst hd;exact hK _ _ hk
/-- .. in a region that draws. -/
theorem v2L {t : Tmp} {oi : Oper} {N : Option Tmp} {a : Act} {w : World} {K : Act → World → Prop} {f : FuncId} {fn : Func} {xs : Array Operand} {ts : Array TypeId} (cap : Array Value) (hf : P.funcs[f]? = some fn) (hname : (fn.name == "runtime.NumGoroutine") = false) (hb : fn.body.isSome = true) (args : Array Value)
  (hw:Region.wanted oi (yielded ops a.tmps) = true) (hN:oi.dst = N) (hop:oi.op = .call {callee:=.value (.tmp t),args:=xs,argTypes:=ts}) (hargs:xs.map a.eval++cap = args) (hv:a.eval (.tmp t) = .func (.func f) #[] cap)
  (h:Calls P f args w fun e w'=>∃ v,e = .returned v∧K (a.put N v) w'):if Region.wanted oi (yielded ops a.tmps) = true then Oper.wp P oi a w K Q else K (a.put N undef) w:=by
 refine call_ f args hw hN ?_ h;have he:=q7t hf hname hb args w;unfold execOp;simp [hop,resolve,Deferred.ofValue,invoke,hv,hargs,he]
end
/-- The line of an item. -/
def itm (u:q0a):q0a:=((⟨#[32,32]⟩:q0a)++u)++(⟨#[32,59,10]⟩:q0a)
theorem q4B (u:q0a):(itm u).size = u.size + 5:=by
 unfold itm;rw [ByteArray.size_append,ByteArray.size_append];show 2 + u.size + 3 = _;omega
theorem q5V (b:Nat) (o u:q0a) (A0:Option Addr) (c0:Nat) (l0:List q0a) (w:World) (aA:Kd.C Kd.string w A0 l0.length l0) (aC:l0.length≤c0) (hB:BIs b o w) (hu:q3W.f l0 (⟨#[32]⟩:q0a) = some u) (hz:o.size + u.size + 5≤140737488355328) :
  Calls prog 52 #[sl A0 l0 c0,.pointer (some ⟨b,0,none⟩)] w fun e w'=>e = .returned (.tuple #[])∧BIs b (o++itm u) w'∧Below b w w':=by
 have aD:=am aA;have aE:=am aC;have A2:=am hu;have HS:=am hB;clear aA aC hu hB;have c3:2 + u.size≤9223372036854775807:=by omega
 have c3b0:=q0c c3;have c3b1:decide (2 + u.size≤9223372036854775807) = true:=q0w c3;have c3b2:(9223372036854775807 < 2 + u.size) = False:=eq_false (q2l.2 c3);have c4:((⟨#[32,32]⟩:q0a)++u).size + 3≤9223372036854775807:=by rw [ByteArray.size_append];show 2 + u.size + 3≤_;omega
 have c4b0:=q0c c4;have c4b1:decide (((⟨#[32,32]⟩:q0a)++u).size + 3≤9223372036854775807) = true:=q0w c4;have c4b2:(9223372036854775807 < ((⟨#[32,32]⟩:q0a)++u).size + 3) = False:=eq_false (q2l.2 c4);have c4b3:=c4b2;simp only [ByteArray.size_append,bs1,bs2] at c4b3;have hlt:=HS.out.lt;go_enter func52,ntmps52;go_wp2_with (first|((with_reducible refine gc 54 ?_);refine q6b (some 4) rfl rfl func54 X4 rfl #[sl A0 l0 c0,.string ⟨#[32]⟩] rfl X69 ?_;(with_reducible refine (q3W.calls _ _ l0 (⟨#[32]⟩:q0a) u _ ?side1 ?side2 A2.out).mono ?_);(case side1=>exact X19);(case side2=>exact aE.out);rintro e w2 ⟨rfl,hb⟩;refine ⟨_,rfl,?_⟩;have HB:=am hb;have aG:=am (HS.out.below hb);clear hb)|((with_reducible refine gc 53 ?_);refine q6b (some 7) rfl rfl func53 X4 rfl #[.pointer (some ⟨b,0,none⟩),.string (itm u)] rfl X69 ?_;(with_reducible refine (aG.out.write (s:=itm u) ?side3).mono ?_);(case side3=>rw [q4B];omega);rintro e w3 ⟨rfl,hi,hb⟩;refine ⟨_,rfl,?_⟩))
 go_end0
 exact ⟨rfl,hi,⟨hb.os.trans HB.out.os,hb.tape.trans HB.out.tape,hb.output.trans HB.out.output,q0k HB.out.size hb.size,fun k hk=>(hb.block k hk).trans (HB.out.block k (by omega))⟩⟩
/-- An item's line put behind what stands, unless it grows too great. -/
def put1 (o:q0a) (ws:List q0a) (K:q0a → Option (q0a × Int)):Option (q0a × Int):=
 (q3W.f ws (⟨#[32]⟩:q0a)).bind fun u=>if o.size + u.size + 5≤1000000000000 then K (o++itm u) else none
mutual
def q0R.l0:Nat → q0a → Int → List (S86) → List (S88) → List (List q0a) → Int → q0a → Int → List (S25) → Option (q0a × Int)
 | 0,_,_,_,_,_,_,_,_,_=>none
 | k + 1,o,i,l1,l2,l3,a4,a5,a6,l7=>if i < (l1.length:Int) then (if 0≤i then ((q1O.f k ((q1e l1 i).f1.f0) ((q1e l1 i).f1.f1) ((q1e l1 i).f1.f2) ((q1e l1 i).f1.f3)).bind fun t=>(if t.length < 1000000000000 then put1 o ([(⟨#[102,111,111,116]⟩:q0a),(q1e l1 i).f0,(⟨#[61]⟩:q0a)]++t) (fun o'=>q0R.l0 k o' (wrap64 (i + 1)) l1 l2 l3 a4 a5 a6 l7) else none)) else none) else q0R.l1 k o 0 l1 l2 l3 a4 a5 a6 l7
def q0R.l1:Nat → q0a → Int → List (S86) → List (S88) → List (List q0a) → Int → q0a → Int → List (S25) → Option (q0a × Int)
 | 0,_,_,_,_,_,_,_,_,_=>none
 | k + 1,o,i,l1,l2,l3,a4,a5,a6,l7=>if i < (l2.length:Int) then (if 0≤i then ((q1U.f k (q2p l2 i).f1).bind fun s=>(q1U.f k (q2p l2 i).f2).bind fun t=>put1 o [(⟨#[99,111,117,110,116]⟩:q0a),(q2p l2 i).f0,s,t] (fun o'=>q0R.l1 k o' (wrap64 (i + 1)) l1 l2 l3 a4 a5 a6 l7)) else none) else ((q1O.f k a4 a5 a6 l7).bind fun t=>(if t.length < 1000000000000 then put1 o ([(⟨#[108,105,110,101]⟩:q0a),(⟨#[61]⟩:q0a)]++t) (fun o'=>q0R.l2 k o' 0 l1 l2 l3 a4 a5 a6 l7) else none))
def q0R.l2:Nat → q0a → Int → List (S86) → List (S88) → List (List q0a) → Int → q0a → Int → List (S25) → Option (q0a × Int)
 | 0,_,_,_,_,_,_,_,_,_=>none
 | k + 1,o,i,l1,l2,l3,a4,a5,a6,l7=>if i < (l3.length:Int) then (if 0≤i then (if (q2M l3 i).length < 1000000000000 then put1 o ([(⟨#[115,111,109,101]⟩:q0a)]++q2M l3 i) (fun o'=>q0R.l2 k o' (wrap64 (i + 1)) l1 l2 l3 a4 a5 a6 l7) else none) else none) else (if o.size + 2≤1000000000000 then some (o++(⟨#[125,10]⟩:q0a),0) else none)
end
def q0R.f (k:Nat) (a0:q0a) (l1:List (S86)) (l2:List (S88)) (l3:List (List q0a)) (a4:Int) (a5:q0a) (a6:Int) (l7:List (S25)):Option (q0a × Int):=
 (q0D.f k a0 l1 l2 l3 a4 a5 a6 l7).bind fun t=>if t = 0 then (if a0.size≤1000000000000 then q0R.l0 k (((⟨#[109,101,116,114,101,32]⟩:q0a)++a0)++(⟨#[32,123,10]⟩:q0a)) 0 l1 l2 l3 a4 a5 a6 l7 else none) else some ((⟨#[]⟩:q0a),t)
theorem q7Z {o:q0a} {ws:List q0a} {K K2:q0a → Option (q0a × Int)} (h:∀ o2,LeO (K o2) (K2 o2)):LeO (put1 o ws K) (put1 o ws K2):=by
 unfold put1;exact LeO.bind (LeO.refl _) (fun u=>LeO.ite (h _) (LeO.none _))
theorem q0R.mono_l:∀ k,(∀ o i l1 l2 l3 a4 a5 a6 l7,LeO (q0R.l0 k o i l1 l2 l3 a4 a5 a6 l7) (q0R.l0 (k + 1) o i l1 l2 l3 a4 a5 a6 l7))∧(∀ o i l1 l2 l3 a4 a5 a6 l7,LeO (q0R.l1 k o i l1 l2 l3 a4 a5 a6 l7) (q0R.l1 (k + 1) o i l1 l2 l3 a4 a5 a6 l7))∧(∀ o i l1 l2 l3 a4 a5 a6 l7,LeO (q0R.l2 k o i l1 l2 l3 a4 a5 a6 l7) (q0R.l2 (k + 1) o i l1 l2 l3 a4 a5 a6 l7))
 | 0=>⟨fun _ _ _ _ _ _ _ _ _ r h=>by simp [q0R.l0] at h,fun _ _ _ _ _ _ _ _ _ r h=>by simp [q0R.l1] at h,fun _ _ _ _ _ _ _ _ _ r h=>by simp [q0R.l2] at h⟩
 | k + 1=>by
  obtain ⟨aA,aC,aD⟩:=q0R.mono_l k;refine ⟨?_,?_,?_⟩
  ·intro o i l1 l2 l3 a4 a5 a6 l7;rw [q0R.l0,q0R.l0];exact LeO.ite (LeO.ite (LeO.bind (q1O.mono _ _ _ _ _) (fun t=>LeO.ite (q7Z (fun o2=>aA _ _ _ _ _ _ _ _ _)) (LeO.none _))) (LeO.none _)) (aC _ _ _ _ _ _ _ _ _)
  ·intro o i l1 l2 l3 a4 a5 a6 l7;rw [q0R.l1,q0R.l1];exact LeO.ite (LeO.ite (LeO.bind (q1U.mono _ _) (fun s=>LeO.bind (q1U.mono _ _) (fun t=>q7Z (fun o2=>aC _ _ _ _ _ _ _ _ _)))) (LeO.none _)) (LeO.bind (q1O.mono _ _ _ _ _) (fun t=>LeO.ite (q7Z (fun o2=>aD _ _ _ _ _ _ _ _ _)) (LeO.none _)))
  ·intro o i l1 l2 l3 a4 a5 a6 l7;rw [q0R.l2,q0R.l2];exact LeO.ite (LeO.ite (LeO.ite (q7Z (fun o2=>aD _ _ _ _ _ _ _ _ _)) (LeO.none _)) (LeO.none _)) (LeO.refl _)
theorem q0R.mono:∀ a0 l1 l2 l3 a4 a5 a6 l7 k,LeO (q0R.f k a0 l1 l2 l3 a4 a5 a6 l7) (q0R.f (k + 1) a0 l1 l2 l3 a4 a5 a6 l7):=by
 intro a0 l1 l2 l3 a4 a5 a6 l7 k;unfold q0R.f;exact LeO.bind (q0D.mono _ _ _ _ _ _ _ _ _) (fun t=>LeO.ite (LeO.ite ((q0R.mono_l k).1 _ _ _ _ _ _ _ _ _) (LeO.none _)) (LeO.refl _))
/-- What stands while metre.Format writes: the argument's block, the builder, all below. -/
structure Fm (w:World) (gm b:Nat) (cs:Array Value) (o:q0a) (w1:World):Prop where
 bm:w1.heap[gm]? = some (.cells cs 44 (0,0))
 is:BIs b o w1
 bl:Below w.heap.size w w1
 gw:w.heap.size≤gm
 gb:gm < b
section
variable {w w1 w2:World} {gm b:Nat} {cs:Array Value} {o o':q0a}
theorem Fm.below (h:Fm w gm b cs o w1) (hb:Below w1.heap.size w1 w2):Fm w gm b cs o w2:=⟨q3h h.bm hb,h.is.below hb,q5R h.bl hb,h.gw,h.gb⟩
theorem Fm.drew (h:Fm w gm b cs o w1):Fm w gm b cs o w1.drew:=⟨q1b h.bm,h.is.drew,q0l h.bl,h.gw,h.gb⟩
theorem Fm.item (h:Fm w gm b cs o w1) (hi:BIs b o' w2) (hb:Below b w1 w2):Fm w gm b cs o' w2:=
 ⟨(hb.block gm h.gb).trans h.bm,hi,⟨hb.os.trans h.bl.os,hb.tape.trans h.bl.tape,hb.output.trans h.bl.output,q0k h.bl.size hb.size,fun k hk=>(hb.block k (by have:=h.gw;have:=h.gb;omega)).trans (h.bl.block k hk)⟩,h.gw,h.gb⟩
theorem Fm.last (h:Fm w gm b cs o w1) (hb:Below b w1 w2):Below w.heap.size w w2:=⟨hb.os.trans h.bl.os,hb.tape.trans h.bl.tape,hb.output.trans h.bl.output,q0k h.bl.size hb.size,fun k hk=>(hb.block k (by have:=h.gw;have:=h.gb;omega)).trans (h.bl.block k hk)⟩
theorem Fm.grown {row:Option Nat} (h:Fm w gm b cs o w1) (hg:w1.grownBy w2 row) (hb:Below w.heap.size w w2) (hr:∀ (k:Nat) (cs:Array Value) (T:TypeId),w1.heap[k]? = some (Obj.cells cs T (0,0)) → T = 95∨T = 5∨T = 44 → some k≠row):Fm w gm b cs o w2:=
 ⟨q4T h.bm hg (hr _ _ _ h.bm (.inr (.inr rfl))),h.is.grown hg (fun k cs T hc ht=>(hr k cs T hc (ht.imp id .inl)).symm),hb,h.gw,h.gb⟩
end

def q0R.T10:Bool × List (List Nat × List Nat):=(true,[([],[]),([],[]),([1],[1]),([2],[2]),([],[]),([4],[4]),([5],[5]),([3,6,6],[3,6]),([0,7,7],[0,7])])
def q0R.B10:List Nat:=[0,0,2,6,0,16,48,126,255]
theorem q0R.tab10:rtab .any (q5m Tryd.f18 10) = q0R.T10:=by kernel_rfl
theorem q0R.bits10:q3G q0R.T10.2 q0R.B10 = true:=by kernel_rfl
def q0R.T15:Bool × List (List Nat × List Nat):=(true,[([],[]),([],[]),([1],[1]),([],[]),([3],[3]),([4],[4]),([],[]),([6],[6]),([7,5],[7]),([2,5,8],[2,5,8]),([0,9,8],[0,9])])
def q0R.B15:List Nat:=[0,0,2,0,8,24,0,64,248,510,1023]
theorem q0R.tab15:rtab .any (q5m Tryd.f18 15) = q0R.T15:=by kernel_rfl
theorem q0R.bits15:q3G q0R.T15.2 q0R.B15 = true:=by kernel_rfl
theorem q0R.calls (k:Nat) (a0:q0a) (A1:Option Addr) (c1:Nat) (l1:List (S86)) (A2:Option Addr) (c2:Nat) (l2:List (S88)) (A3:Option Addr) (c3:Nat) (l3:List (List q0a)) (a4:Int) (a5:q0a) (a6:Int) (A7:Option Addr) (c7:Nat) (l7:List (S25)) (r1:q0a) (r2:Int) (w:World) (aA:Kd.C k86 w A1 l1.length l1) (aC:l1.length≤c1) (aD:Kd.C k88 w A2 l2.length l2) (aE:l2.length≤c2) (aG:Kd.C (Kd.slice 9 Kd.string) w A3 l3.length l3) (aH:l3.length≤c3) (aI:Kd.C k25 w A7 l7.length l7) (aJ:l7.length≤c7) (h:q0R.f k a0 l1 l2 l3 a4 a5 a6 l7 = some (r1,r2)) :
  Calls prog 18 #[.agg #[.string a0,sl A1 l1 c1,sl A2 l2 c2,sl A3 l3 c3,iv a4,.string a5,iv a6,sl A7 l7 c7]] w fun e w'=>e = .returned (.tuple #[.string r1,iv r2])∧Below w.heap.size w w':=by
 have hu44:=underlying44;have hu25:=underlying25;have hu86:=underlying86;have hu88:=underlying88;have aK:=am aA;have aM:=am aC;have aQ:=am aD;have aT:=am aE;have aU:=am aG;have aW:=am aH;have aX:=am aI;have aY:=am aJ;clear aA aC aD aE aG aH aI aJ;have HB:=am (q0i w.heap.size w);unfold q0R.f at h;obtain ⟨t,B0,H⟩:=Option.bind_eq_some_iff.mp h;clear h;have BV:=am B0;clear B0;by_cases ct:t = 0
 ·subst ct;rw [if_pos rfl] at H;by_cases cz:a0.size≤1000000000000
  ·rw [if_pos cz] at H;have d1:6 + a0.size≤9223372036854775807:=by omega
   have d1b0:=q0c d1;have d1b2:(9223372036854775807 < 6 + a0.size) = False:=eq_false (q2l.2 d1);have d2:((⟨#[109,101,116,114,101,32]⟩:q0a)++a0).size + 3≤9223372036854775807:=by rw [ByteArray.size_append];show 6 + a0.size + 3≤_;omega
   have d2b0:=q0c d2;have d2b2:(9223372036854775807 < ((⟨#[109,101,116,114,101,32]⟩:q0a)++a0).size + 3) = False:=eq_false (q2l.2 d2);have bs6:(⟨#[109,101,116,114,101,32]⟩:q0a).size = 6:=rfl;have d2b3:=d2b2;simp only [ByteArray.size_append,bs6] at d2b3;obtain ⟨o0,aZ⟩:∃ o,o = (((⟨#[109,101,116,114,101,32]⟩:q0a)++a0)++(⟨#[32,123,10]⟩:q0a)):=⟨_,rfl⟩;have oz:o0.size = a0.size + 9:=by rw [aZ,ByteArray.size_append,ByteArray.size_append,bs6];show 6 + a0.size + 3 = _;omega
   rw [← aZ] at H;have No:=am aZ;have H':=am H;clear H aZ;go_enter func18,ntmps18;go_wp2_with (first|((with_reducible refine gd 1 ?_);refine be 1 #[.string a0,sl A1 l1 c1,sl A2 l2 c2,sl A3 l3 c3,iv a4,.string a5,iv a6,sl A7 l7 c7] 44 ?_;intro gm hg w1 hbox hb;have GW:=sG (w:=w) hg X6;replace HB:=bS X6 hb;have BM:=am hbox;clear hb hbox hg;obtain ⟨bA,bB,bC,bD,bE,bF,bG,bH,-⟩:=bc8 BM)|((with_reducible refine gc 19 ?_);refine q6b (some 14) rfl rfl func19 X4 rfl #[.agg #[.string a0,sl A1 l1 c1,sl A2 l2 c2,sl A3 l3 c3,iv a4,.string a5,iv a6,sl A7 l7 c7]] rfl X69 ?_;(with_reducible refine (q0D.calls k a0 _ _ l1 _ _ l2 _ _ l3 a4 a5 a6 _ _ l7 0 _ ?side1 ?side2 ?side3 ?side4 ?side5 ?side6 ?side7 ?side8 BV.out).mono ?_);(case side1=>exact (X15 aK HB));(case side2=>exact aM.out);(case side3=>exact (X15 aQ HB));(case side4=>exact aT.out);(case side5=>exact (X15 aU HB));(case side6=>exact aW.out);(case side7=>exact (X15 aX HB));(case side8=>exact aY.out);rintro e w2 ⟨rfl,hb⟩;refine ⟨_,rfl,?_⟩;have bI:=am (q3h (X9 BM) hb);have bJ:=bS X6 hb;clear HB BM;have BM:=bI;have HB:=bJ;clear bI bJ hb;obtain ⟨bA,bB,bC,bD,bE,bF,bG,bH,-⟩:=bc8 BM)|((with_reducible refine gd 5 ?_);refine be 5 #[.pointer none,.slice none 0 0] 95 ?_;intro b hg w3 hbox hb;have bI:q0j (Fm w gm b #[.string a0,sl A1 l1 c1,sl A2 l2 c2,sl A3 l3 c3,iv a4,.string a5,iv a6,sl A7 l7 c7] ⟨#[]⟩ w3):=am ⟨q3h (X9 BM) hb,.inl ⟨q0f _,.slice none 0 0,hbox,World.ownsRow_nil _ _ _ _,by simp [Value.ownBlock]⟩,q5R X6 hb,GW.out,by rw [hg];exact q3V (X9 BM)⟩;have FM:=bI;clear bI hb hbox hg HB BM;obtain ⟨bA,bB,bC,bD,bE,bF,bG,bH,-⟩:=bc8 (am FM.out.bm))|((with_reducible refine gc 53 ?_);refine q6b (some 23) rfl rfl func53 X4 rfl #[.pointer (some ⟨b,0,none⟩),.string o0] rfl (by (try simp only [List.map_toArray,List.map_cons,List.map_nil]);first | done | rfl|(rw [No.out];rfl)) ?_;(with_reducible refine (FM.out.is.write (s:=o0) ?side1).mono ?_);(case side1=>show 0 + o0.size≤_;omega);rintro e w4 ⟨rfl,hi,hb⟩;refine ⟨_,rfl,?_⟩;have bI:q0j (Fm w gm b #[.string a0,sl A1 l1 c1,sl A2 l2 c2,sl A3 l3 c3,iv a4,.string a5,iv a6,sl A7 l7 c7] o0 w4):=am (FM.out.item (by have e_:(⟨#[]⟩:q0a)++o0 = o0:=ByteArray.empty_append;rw [e_] at hi;exact hi) hb);clear FM;have FM:=bI;clear bI hi hb;obtain ⟨bA,bB,bC,bD,bE,bF,bG,bH,-⟩:=bc8 (am FM.out.bm)))
   go_loopg [27] k (fun kq bK w'=>∃ (o:q0a) (i:Int),bK = iv i∧q0j (q0R.l0 kq o i l1 l2 l3 a4 a5 a6 l7 = some (r1,r2))∧q0j (kq≤k)∧q0j (Fm w gm b #[.string a0,sl A1 l1 c1,sl A2 l2 c2,sl A3 l3 c3,iv a4,.string a5,iv a6,sl A7 l7 c7] o w'))
   case atStart=>exact ⟨o0,0,rfl,H',⟨q0f _⟩,⟨FM.out⟩⟩
   case round=>
    clear H' FM BV No bA bB bC bD bE bF bG bH d1 d1b0 d1b2 d2 d2b0 d2b2 d2b3 oz cz bs6;obtain ⟨o,i,rfl,HA,bL,FM⟩:=hrel;cases gk with
    | zero=>exact absurd HA.out (by simp [q0R.l0])
    | succ k1=>
     have H:=HA.out;clear HA;simp only [q0R.l0] at H;by_cases ci:i < (l1.length:Int)
     ·rw [if_pos ci] at H;have cib:decide (i < (l1.length:Int)) = true:=q0w ci;by_cases cj:0≤i
      rotate_left
      ·rw [if_neg cj] at H;exact absurd H (by simp)
      rw [if_pos cj] at H;have cjb:decide (0≤i) = true:=q0w cj;obtain ⟨t,B0,H⟩:=Option.bind_eq_some_iff.mp H;have BW:=am B0;clear B0;by_cases ctl:t.length < 1000000000000
      rotate_left
      ·rw [if_neg ctl] at H;exact absurd H (by simp)
      rw [if_pos ctl] at H;have LT:=am ctl;clear ctl;unfold put1 at H;obtain ⟨hd,h_hd⟩:∃ y_:List q0a,y_ = [(⟨#[102,111,111,116]⟩:q0a),(q1e l1 i).f0,(⟨#[61]⟩:q0a)]:=⟨_,rfl⟩;rw [← h_hd] at H;have Nhd:=am h_hd;clear h_hd;obtain ⟨ws,h_ws⟩:∃ y_:List q0a,y_ = hd++t:=⟨_,rfl⟩;rw [← h_ws] at H;have Nws:=am h_ws;clear h_ws;obtain ⟨u,B0,H⟩:=Option.bind_eq_some_iff.mp H;have BJ:=am B0;clear B0;by_cases cu:o.size + u.size + 5≤1000000000000
      rotate_left
      ·rw [if_neg cu] at H;exact absurd H (by simp)
      rw [if_pos cu] at H;have LU:=am cu;clear cu;have H':=am H;clear H;obtain ⟨ad,Ak,ck,e1,bM,bN,bO,bP,bQ,hlk,hik⟩:=q6N aK.out i cj ci;cases e1;replace bM:=(FM.out.bl.cell (q0J w _ bM)).trans bM;replace bN:=(FM.out.bl.cell (q0J w _ bN)).trans bN;replace bO:=(FM.out.bl.cell (q0J w _ bO)).trans bO;replace bP:=(FM.out.bl.cell (q0J w _ bP)).trans bP;replace bQ:=(FM.out.bl.cell (q0J w _ bQ)).trans bQ;have HRk:=am hik;have HCk:=am hlk;clear hik hlk;replace cj:=q0c cj;replace ci:=q0c ci;try go_wp2_with (first|((with_reducible refine gd 8 ?_);refine be 8 #[.string (⟨#[]⟩:q0a),iv 0,.string (⟨#[]⟩:q0a),iv 0,.slice none 0 0] 86 ?_;intro gf hg w5 hbox hb;have GF:=am hg;have BF:=am hbox;have HN:=am hb;clear hb hbox hg;obtain ⟨bR,bT,bU,hcf_3,hcf_4,-⟩:=bc5 BF;have bV:=q0B BF.out 0;have bW:=q0B BF.out 1;have bX:=q0B BF.out 2;have hff_3:=q0B BF.out 3;have hff_4:=q0B BF.out 4))
      have hge:wr.heap.size≤gf:=q1d GF.out.symm;have bI:q0j (Fm w gm b #[.string a0,sl (some ad) l1 c1,sl A2 l2 c2,sl A3 l3 c3,iv a4,.string a5,iv a6,sl A7 l7 c7] o (((((w5.setCell ⟨gf,0,none⟩ (.string ((q1e l1 i).f0))).setCell ⟨gf,1,none⟩ (iv ((q1e l1 i).f1.f0))).setCell ⟨gf,2,none⟩ (.string ((q1e l1 i).f1.f1))).setCell ⟨gf,3,none⟩ (iv ((q1e l1 i).f1.f2))).setCell ⟨gf,4,none⟩ (sl Ak ((q1e l1 i).f1.f3) ck))):=⟨FM.out.below (((((HN.out.setCell (p:=⟨gf,0,none⟩) hge (.string ((q1e l1 i).f0))).setCell (p:=⟨gf,1,none⟩) hge (iv ((q1e l1 i).f1.f0))).setCell (p:=⟨gf,2,none⟩) hge (.string ((q1e l1 i).f1.f1))).setCell (p:=⟨gf,3,none⟩) hge (iv ((q1e l1 i).f1.f2))).setCell (p:=⟨gf,4,none⟩) hge (sl Ak ((q1e l1 i).f1.f3) ck))⟩;have bJ:q0j ((((((w5.setCell ⟨gf,0,none⟩ (.string ((q1e l1 i).f0))).setCell ⟨gf,1,none⟩ (iv ((q1e l1 i).f1.f0))).setCell ⟨gf,2,none⟩ (.string ((q1e l1 i).f1.f1))).setCell ⟨gf,3,none⟩ (iv ((q1e l1 i).f1.f2))).setCell ⟨gf,4,none⟩ (sl Ak ((q1e l1 i).f1.f3) ck)).heap[gf]? = some (.cells #[.string ((q1e l1 i).f0),iv ((q1e l1 i).f1.f0),.string ((q1e l1 i).f1.f1),iv ((q1e l1 i).f1.f2),sl Ak ((q1e l1 i).f1.f3) ck] 86 (0,0))):=⟨by refine q2x (cs:=#[.string ((q1e l1 i).f0),iv ((q1e l1 i).f1.f0),.string ((q1e l1 i).f1.f1),iv ((q1e l1 i).f1.f2),.slice none 0 0]) ?_ 4 _ rfl;refine q2x (cs:=#[.string ((q1e l1 i).f0),iv ((q1e l1 i).f1.f0),.string ((q1e l1 i).f1.f1),iv 0,.slice none 0 0]) ?_ 3 _ rfl;refine q2x (cs:=#[.string ((q1e l1 i).f0),iv ((q1e l1 i).f1.f0),.string (⟨#[]⟩:q0a),iv 0,.slice none 0 0]) ?_ 2 _ rfl;refine q2x (cs:=#[.string ((q1e l1 i).f0),iv 0,.string (⟨#[]⟩:q0a),iv 0,.slice none 0 0]) ?_ 1 _ rfl;refine q2x (cs:=#[.string (⟨#[]⟩:q0a),iv 0,.string (⟨#[]⟩:q0a),iv 0,.slice none 0 0]) ?_ 0 _ rfl;exact BF.out⟩;generalize (((((w5.setCell ⟨gf,0,none⟩ (.string ((q1e l1 i).f0))).setCell ⟨gf,1,none⟩ (iv ((q1e l1 i).f1.f0))).setCell ⟨gf,2,none⟩ (.string ((q1e l1 i).f1.f1))).setCell ⟨gf,3,none⟩ (iv ((q1e l1 i).f1.f2))).setCell ⟨gf,4,none⟩ (sl Ak ((q1e l1 i).f1.f3) ck)) = w6 at bI bJ ⊢
      clear FM BF HN hge GF;have FM:=am bI.out.drew;have BF:=am (q1b bJ.out);clear bI bJ;refine q4o (n:=9) (S:=fun w'=>dd5 w' gf (.string ((q1e l1 i).f0)) (iv ((q1e l1 i).f1.f0)) (.string ((q1e l1 i).f1.f1)) (iv ((q1e l1 i).f1.f2)) (sl Ak ((q1e l1 i).f1.f3) ck)) (ds:=[8]) (lb 9 0) X4 rfl rfl (e5 BF) (fun hHeld=>?_);refine q3u q0R.tab10 q0R.bits10 (fun HT_ HW_=>?_);generalize w6.drew = w7 at FM BF hHeld ⊢
      refine pu 0 (some 31) (lb 9 1) HT_ ?_;refine pu 1 (some 32) (lb 9 3) HT_ ?_;refine pu 4 (some 35) (lb 9 19) HT_ ?_;refine tk 2 (some 33) (lb 9 23) HT_ HW_ hHeld ?_;refine tk 5 (some 36) (lb 9 55) HT_ HW_ hHeld ?_;refine v0l (σ:=Value × Value) 2 (lb 9 127) (fun s_=>[(34,s_.1),(37,s_.2)]) (fun s_ w'=>(dd5 w' gf (.string ((q1e l1 i).f0)) (iv ((q1e l1 i).f1.f0)) (.string ((q1e l1 i).f1.f1)) (iv ((q1e l1 i).f1.f2)) (sl Ak ((q1e l1 i).f1.f3) ck))∧Kd.R Kd.string 9 w' w.heap.size (fun k_=>nO k_ s_.2) s_.1 hd∧Kd.R Kd.string 9 w' w.heap.size (fun k_=>nO k_ s_.1) s_.2 t∧Fm w gm b #[.string a0,sl (some ad) l1 c1,sl A2 l2 c2,sl A3 l3 c3,iv a4,.string a5,iv a6,sl A7 l7 c7] o w'∧w'.heap[gf]? = some (.cells #[.string ((q1e l1 i).f0),iv ((q1e l1 i).f1.f0),.string ((q1e l1 i).f1.f1),iv ((q1e l1 i).f1.f2),sl Ak ((q1e l1 i).f1.f3) ck] 86 (0,0))) ?_ ?_;rotate_left
      ·intro hCont;refine two_ (i:=3) (j:=6) (Ni:=some 34) (Nj:=some 37) (lb 9 63) (lb 9 119) rfl rfl rfl rfl (q7u HT_.out X4) (by decide) (by decide) (fun K hK=>?_) (fun K hK=>?_)
       ·skip
        refine q2h Kd.string _ 9 ?hg (N:=34) ?hd (xs:=([(⟨#[102,111,111,116]⟩:q0a),(q1e l1 i).f0,(⟨#[61]⟩:q0a)]:List q0a)) (inner:=[.string ((⟨#[102,111,111,116]⟩:q0a)),.string ((q1e l1 i).f0),.string ((⟨#[61]⟩:q0a))]) (ok:=fun _=>True) (okp:=fun _=>True) ?hr ?hp (fun _ hk=>hk) trivial (q0i _ _) (q0f _) (by simp) ?_;(case hd=>rfl);(case hg=>rfl);(case hr=>exact X35);(case hp=>exact rp);intro v1 w8 ho hb hg_ hnew_;clear hg_ hnew_;(first | rw [← Nhd.out] at ho|(simp only [Int.reduceToNat] at ho;rw [← Nhd.out] at ho));have bY:=am (q0H ho (q1c FM.out.bl));replace FM:=am (FM.out.below hb);replace BF:=am (q3h BF.out hb);clear hb ho;refine hK.out _ _ (e5 BF) (fun hHeld=>?_);clear hK K;refine q3f (a':=?_) ?_ ?_;rotate_left
        ·exact pA (some 34)
        refine oo 6 (some 37) (lb 9 127) HT_ (fun K hK=>?_);refine q9I func55 X4 rfl #[.agg #[iv ((q1e l1 i).f1.f0),.string ((q1e l1 i).f1.f1),iv ((q1e l1 i).f1.f2),sl Ak ((q1e l1 i).f1.f3) ck]] (by rfl) rfl rfl X69 ?_;with_reducible refine (q1O.calls k1 ((q1e l1 i).f1.f0) ((q1e l1 i).f1.f1) ((q1e l1 i).f1.f2) _ _ ((q1e l1 i).f1.f3) t _ ?side1 ?side2 BW.out).mono ?_
        (case side1=>exact q0r HRk.out FM.out.bl);(case side2=>exact HCk.out);rintro e w9 ⟨v2,rfl,ho,hb⟩;refine ⟨_,rfl,?_⟩;have bZ:=am (q0H (q2A ho (q1F bY.out)) (q1c FM.out.bl));replace bY:=am (q2m bY.out (q0x ho) hb);replace FM:=am (FM.out.below hb);replace BF:=am (q3h BF.out hb);clear hb ho;refine hK.out _ _ (e5 BF) (fun hHeld=>?_);clear hK K;refine q3f (a':=?_) ?_ ?_;rotate_left
        ·exact pA (some 37)
        exact q3f (by simp only [q4E,Act.put,List.setIfInBounds_toArray,List.set_cons_zero,List.set_cons_succ]) (hCont (v1,v2) _ ⟨hHeld,q0n bY.out (fun _ hk=>hk.2),q0n bZ.out (fun _ hk=>hk.2),FM.out,BF.out⟩)
       ·skip
        refine q9I func55 X4 rfl #[.agg #[iv ((q1e l1 i).f1.f0),.string ((q1e l1 i).f1.f1),iv ((q1e l1 i).f1.f2),sl Ak ((q1e l1 i).f1.f3) ck]] (by rfl) rfl rfl X69 ?_;with_reducible refine (q1O.calls k1 ((q1e l1 i).f1.f0) ((q1e l1 i).f1.f1) ((q1e l1 i).f1.f2) _ _ ((q1e l1 i).f1.f3) t _ ?side1 ?side2 BW.out).mono ?_
        (case side1=>exact q0r HRk.out FM.out.bl);(case side2=>exact HCk.out);rintro e w8 ⟨v2,rfl,ho,hb⟩;refine ⟨_,rfl,?_⟩;have bZ:=am (q0H ho (q1c FM.out.bl));replace FM:=am (FM.out.below hb);replace BF:=am (q3h BF.out hb);clear hb ho;refine hK.out _ _ (e5 BF) (fun hHeld=>?_);clear hK K;refine q3f (a':=?_) ?_ ?_;rotate_left
        ·exact pA (some 37)
        refine oo 3 (some 34) (lb 9 127) HT_ (fun K hK=>?_);refine q2h Kd.string _ 9 ?hg (N:=34) ?hd (xs:=([(⟨#[102,111,111,116]⟩:q0a),(q1e l1 i).f0,(⟨#[61]⟩:q0a)]:List q0a)) (inner:=[.string ((⟨#[102,111,111,116]⟩:q0a)),.string ((q1e l1 i).f0),.string ((⟨#[61]⟩:q0a))]) (ok:=fun _=>True) (okp:=fun _=>True) ?hr ?hp (fun _ hk=>hk) trivial (q0i _ _) (q0f _) (by simp) ?_;(case hd=>rfl);(case hg=>rfl);(case hr=>exact X35);(case hp=>exact rp);intro v1 w9 ho hb hg_ hnew_;clear hg_ hnew_;(first | rw [← Nhd.out] at ho|(simp only [Int.reduceToNat] at ho;rw [← Nhd.out] at ho));have bY:=am (q0H (q2A ho (q1F bZ.out)) (q1c FM.out.bl));replace bZ:=am (q2m bZ.out (q0x ho) hb);replace FM:=am (FM.out.below hb);replace BF:=am (q3h BF.out hb);clear hb ho;refine hK.out _ _ (e5 BF) (fun hHeld=>?_);clear hK K;refine q3f (a':=?_) ?_ ?_;rotate_left
        ·exact pA (some 34)
        exact q3f (by simp only [q4E,Act.put,List.setIfInBounds_toArray,List.set_cons_zero,List.set_cons_succ]) (hCont (v1,v2) _ ⟨hHeld,q0n bY.out (fun _ hk=>hk.2),q0n bZ.out (fun _ hk=>hk.2),FM.out,BF.out⟩)
      rintro ⟨v1,v2⟩ cA ⟨hHeld,cC,cD,cE,cF⟩;clear FM BF;have bY:=am cC;have bZ:=am cD;have FM:=am cE;have BF:=am cF;clear cC cD cE cF;dsimp only at bY bZ
      obtain ⟨Ao,co,eo⟩:=q0I bZ.out;subst eo;refine q3f (a':=?_) ?_ ?_;rotate_left
      ·simp only [q4E,Act.put,List.setIfInBounds_toArray,List.set_cons_zero,List.set_cons_succ];rfl
      refine oo 7 (some 38) (lb 9 255) HT_ (fun K hK=>?_);refine q2i Kd.string (w0:=w) w.heap.size (by rfl) (.tmp 34) (.tmp 37) 39 9 (.string ⟨#[]⟩) 16 rfl underlying39 q4K rfl (by decide) (by omega) v1 hd t _ _ _ (fun k_=>nO k_ (sl Ao t co)) (fun _=>False) rfl rfl ?aO ?aR (fun _ _ h=>h) (fun _ h=>h.elim) ?aF ?aB ?aS ?aL ?_;(case aR=>exact (q0Y bZ.out).2.2);(case aB=>exact FM.out.bl);(case aF=>exact (fun k_ hk=>q1y (q1F bZ.out) k_ hk));(case aO=>exact bY.out);(case aS=>exact (q1c FM.out.bl));(case aL=>have h_:=LT.out;have e_:hd.length = 3:=(by rw [Nhd.out];rfl);omega);intro v3 w11 ho hb hg hat;rw [← Nws.out] at ho;have bI:=am (FM.out.grown hg hb (fun k_ cs_ T_ hc ht=>q2Z bY.out hc X106));have bJ:=am (q4T BF.out hg (q2Z bY.out BF.out (by decide)));have cG:=am (ho);clear FM BF bY bZ;have FM:=bI;have BF:=bJ;have cH:=cG;clear bI bJ cG ho hb hg hat;obtain ⟨Ap,cp,ep⟩:=q0I cH.out;subst ep;refine hK.out _ _ (e5 BF) (fun hHeld=>?_);clear hK K;refine q3f (a':=?_) ?_ ?_;rotate_left
      ·exact pA (some 38)
      refine q6P (i:=8) (N:=some 39) (lb 9 511) rfl rfl (q5u HT_.out X4) (by decide) (fun K hK=>?_);refine v2L (t:=31) #[.pointer (some ⟨b,0,none⟩)] func52 X4 rfl #[sl Ap ws cp,.pointer (some ⟨b,0,none⟩)] (by rfl) rfl rfl X107 (by rfl) ?_;with_reducible refine (q5V b o u _ _ ws _ ?side1 ?side2 FM.out.is BJ.out ?side3).mono ?_
      (case side1=>exact (q0Y cH.out).2.2);(case side2=>exact (q0Y cH.out).2.1);(case side3=>have h_:=LU.out;omega);rintro e cI ⟨rfl,hi,hb⟩;refine ⟨_,rfl,?_⟩;replace FM:=am (FM.out.item hi hb);clear BF cH hi hb;refine hK.out _ _ ?_;clear hK K;refine q5c (q3Z HT_.out X4) ?_;try go_wp2
      go_roundg k1
      case measure=>have:=bL.out;omega
      case rel=>exact ⟨o++itm u,wrap64 (i + 1),X7,H',⟨by have:=bL.out;omega⟩,⟨FM.out⟩⟩
     ·rw [if_neg ci] at H;have cib:decide (i < (l1.length:Int)) = false:=q0S ci;have H':=am H;clear H;obtain ⟨bA,bB,bC,bD,bE,bF,bG,bH,-⟩:=bc8 (am FM.out.bm);try go_wp2
      go_loopg [44] k1 (fun kq cJ w'=>∃ (o:q0a) (i:Int),cJ = iv i∧q0j (q0R.l1 kq o i l1 l2 l3 a4 a5 a6 l7 = some (r1,r2))∧q0j (kq≤k1)∧q0j (Fm w gm b #[.string a0,sl A1 l1 c1,sl A2 l2 c2,sl A3 l3 c3,iv a4,.string a5,iv a6,sl A7 l7 c7] o w'))
      case atStart=>exact ⟨o,0,rfl,H',⟨q0f _⟩,⟨FM.out⟩⟩
      case round=>
       clear H' FM bA bB bC bD bE bF bG bH bL cib ci;obtain ⟨o,i,rfl,HA,cK,FM⟩:=hrel;cases gk with
       | zero=>exact absurd HA.out (by simp [q0R.l1])
       | succ k2=>
        have H:=HA.out;clear HA;simp only [q0R.l1] at H;by_cases ci:i < (l2.length:Int)
        ·rw [if_pos ci] at H;have cib:decide (i < (l2.length:Int)) = true:=q0w ci;by_cases cj:0≤i
         rotate_left
         ·rw [if_neg cj] at H;exact absurd H (by simp)
         rw [if_pos cj] at H;have cjb:decide (0≤i) = true:=q0w cj;obtain ⟨s,B0,H⟩:=Option.bind_eq_some_iff.mp H;have BS:=am B0;clear B0;obtain ⟨t,B0,H⟩:=Option.bind_eq_some_iff.mp H;have BT:=am B0;clear B0;unfold put1 at H;obtain ⟨ws,h_ws⟩:∃ y_:List q0a,y_ = [(⟨#[99,111,117,110,116]⟩:q0a),(q2p l2 i).f0,s,t]:=⟨_,rfl⟩;rw [← h_ws] at H;have Nws:=am h_ws;clear h_ws;obtain ⟨u,B0,H⟩:=Option.bind_eq_some_iff.mp H;have BJ:=am B0;clear B0;by_cases cu:o.size + u.size + 5≤1000000000000
         rotate_left
         ·rw [if_neg cu] at H;exact absurd H (by simp)
         rw [if_pos cu] at H;have LU:=am cu;clear cu;have H':=am H;clear H;obtain ⟨ad,e1,bM,bN,bO⟩:=q6M aQ.out i cj ci;cases e1;replace bM:=(FM.out.bl.cell (q0J w _ bM)).trans bM;replace bN:=(FM.out.bl.cell (q0J w _ bN)).trans bN;replace bO:=(FM.out.bl.cell (q0J w _ bO)).trans bO;replace cj:=q0c cj;replace ci:=q0c ci;try go_wp2_with (first|((with_reducible refine gd 10 ?_);refine be 10 #[.string (⟨#[]⟩:q0a),iv 0,iv 0] 88 ?_;intro gf hg w5 hbox hb;have GF:=am hg;have BF:=am hbox;have HN:=am hb;clear hb hbox hg;obtain ⟨bR,bT,bU,-⟩:=bc3 BF;have bV:=q0B BF.out 0;have bW:=q0B BF.out 1;have bX:=q0B BF.out 2))
         have hge:wr.heap.size≤gf:=q1d GF.out.symm;have bI:q0j (Fm w gm b #[.string a0,sl A1 l1 c1,sl (some ad) l2 c2,sl A3 l3 c3,iv a4,.string a5,iv a6,sl A7 l7 c7] o (((w5.setCell ⟨gf,0,none⟩ (.string ((q2p l2 i).f0))).setCell ⟨gf,1,none⟩ (iv ((q2p l2 i).f1))).setCell ⟨gf,2,none⟩ (iv ((q2p l2 i).f2)))):=⟨FM.out.below (((HN.out.setCell (p:=⟨gf,0,none⟩) hge (.string ((q2p l2 i).f0))).setCell (p:=⟨gf,1,none⟩) hge (iv ((q2p l2 i).f1))).setCell (p:=⟨gf,2,none⟩) hge (iv ((q2p l2 i).f2)))⟩;have bJ:q0j ((((w5.setCell ⟨gf,0,none⟩ (.string ((q2p l2 i).f0))).setCell ⟨gf,1,none⟩ (iv ((q2p l2 i).f1))).setCell ⟨gf,2,none⟩ (iv ((q2p l2 i).f2))).heap[gf]? = some (.cells #[.string ((q2p l2 i).f0),iv ((q2p l2 i).f1),iv ((q2p l2 i).f2)] 88 (0,0))):=⟨by refine q2x (cs:=#[.string ((q2p l2 i).f0),iv ((q2p l2 i).f1),iv 0]) ?_ 2 _ rfl;refine q2x (cs:=#[.string ((q2p l2 i).f0),iv 0,iv 0]) ?_ 1 _ rfl;refine q2x (cs:=#[.string (⟨#[]⟩:q0a),iv 0,iv 0]) ?_ 0 _ rfl;exact BF.out⟩;generalize (((w5.setCell ⟨gf,0,none⟩ (.string ((q2p l2 i).f0))).setCell ⟨gf,1,none⟩ (iv ((q2p l2 i).f1))).setCell ⟨gf,2,none⟩ (iv ((q2p l2 i).f2))) = w6 at bI bJ ⊢
         clear FM BF HN hge GF;have FM:=am bI.out.drew;have BF:=am (q1b bJ.out);clear bI bJ;refine q4o (n:=11) (S:=fun w'=>dd3 w' gf (.string ((q2p l2 i).f0)) (iv ((q2p l2 i).f1)) (iv ((q2p l2 i).f2))) (ds:=[10]) (lb 11 0) X4 rfl rfl (e3 BF) (fun hHeld=>?_);refine q3u q0R.tab15 q0R.bits15 (fun HT_ HW_=>?_);generalize w6.drew = w7 at FM BF hHeld ⊢
         refine pu 0 (some 48) (lb 11 1) HT_ ?_;refine pu 1 (some 49) (lb 11 3) HT_ ?_;refine pu 3 (some 51) (lb 11 11) HT_ ?_;refine pu 6 (some 54) (lb 11 75) HT_ ?_;refine tk 2 (some 50) (lb 11 79) HT_ HW_ hHeld ?_;refine tk 4 (some 52) (lb 11 95) HT_ HW_ hHeld ?_;refine tk 7 (some 55) (lb 11 223) HT_ HW_ hHeld ?_;refine oo 5 (some 53) (lb 11 255) HT_ (fun K hK=>?_);refine q9I func56 X4 rfl #[iv ((q2p l2 i).f1)] (by rfl) rfl rfl X69 ?_;with_reducible refine (q1U.calls k2 ((q2p l2 i).f1) s _ BS.out).mono ?_
         rintro e w8 ⟨rfl,hb⟩;refine ⟨_,rfl,?_⟩;replace FM:=am (FM.out.below hb);replace BF:=am (q3h BF.out hb);clear hb;refine hK.out _ _ (e3 BF) (fun hHeld=>?_);clear hK K;refine q3f (a':=?_) ?_ ?_;rotate_left
         ·exact pA (some 53)
         refine oo 8 (some 56) (lb 11 511) HT_ (fun K hK=>?_);refine q9I func56 X4 rfl #[iv ((q2p l2 i).f2)] (by rfl) rfl rfl X69 ?_;with_reducible refine (q1U.calls k2 ((q2p l2 i).f2) t _ BT.out).mono ?_
         rintro e w9 ⟨rfl,hb⟩;refine ⟨_,rfl,?_⟩;replace FM:=am (FM.out.below hb);replace BF:=am (q3h BF.out hb);clear hb;refine hK.out _ _ (e3 BF) (fun hHeld=>?_);clear hK K;refine q3f (a':=?_) ?_ ?_;rotate_left
         ·exact pA (some 56)
         refine oo 9 (some 57) (lb 11 1023) HT_ (fun K hK=>?_);refine q2h Kd.string _ 9 ?hg (N:=57) ?hd (xs:=([(⟨#[99,111,117,110,116]⟩:q0a),(q2p l2 i).f0,s,t]:List q0a)) (inner:=[.string ((⟨#[99,111,117,110,116]⟩:q0a)),.string ((q2p l2 i).f0),.string (s),.string (t)]) (ok:=fun _=>True) (okp:=fun _=>True) ?hr ?hp (fun _ hk=>hk) trivial (q0i _ _) (q0f _) (by simp) ?_;(case hd=>rfl);(case hg=>rfl);(case hr=>exact X35);(case hp=>exact rp);intro v1 cA ho hb hg_ hnew_;clear hg_ hnew_;(first | rw [← Nws.out] at ho|(simp only [Int.reduceToNat] at ho;rw [← Nws.out] at ho));have bI:=am (FM.out.below hb);have bJ:=am (q3h BF.out hb);have cH:=am (q0H ho (q1c FM.out.bl));clear FM BF hb ho;have FM:=bI;have BF:=bJ;clear bI bJ;obtain ⟨Ap,cp,ep⟩:=q0I cH.out;subst ep;refine hK.out _ _ (e3 BF) (fun hHeld=>?_);clear hK K;refine q3f (a':=?_) ?_ ?_;rotate_left
         ·exact pA (some 57)
         refine q6P (i:=10) (N:=some 58) (lb 11 2047) rfl rfl (q5u HT_.out X4) (by decide) (fun K hK=>?_);refine v2L (t:=48) #[.pointer (some ⟨b,0,none⟩)] func52 X4 rfl #[sl Ap ws cp,.pointer (some ⟨b,0,none⟩)] (by rfl) rfl rfl X107 (by rfl) ?_;with_reducible refine (q5V b o u _ _ ws _ ?side1 ?side2 FM.out.is BJ.out ?side3).mono ?_
         (case side1=>exact (q0Y cH.out).2.2);(case side2=>exact (q0Y cH.out).2.1);(case side3=>have h_:=LU.out;omega);rintro e cI ⟨rfl,hi,hb⟩;refine ⟨_,rfl,?_⟩;replace FM:=am (FM.out.item hi hb);clear BF cH hi hb;refine hK.out _ _ ?_;clear hK K;refine q5c (q3Z HT_.out X4) ?_;try go_wp2
         go_roundg k2
         case measure=>have:=cK.out;omega
         case rel=>exact ⟨o++itm u,wrap64 (i + 1),X7,H',⟨by have:=cK.out;omega⟩,⟨FM.out⟩⟩
        ·rw [if_neg ci] at H;have cib:decide (i < (l2.length:Int)) = false:=q0S ci;obtain ⟨t,B0,H⟩:=Option.bind_eq_some_iff.mp H;have BW:=am B0;clear B0;by_cases ctl:t.length < 1000000000000
         rotate_left
         ·rw [if_neg ctl] at H;exact absurd H (by simp)
         rw [if_pos ctl] at H;have LT:=am ctl;clear ctl;unfold put1 at H;obtain ⟨hd,h_hd⟩:∃ y_:List q0a,y_ = [(⟨#[108,105,110,101]⟩:q0a),(⟨#[61]⟩:q0a)]:=⟨_,rfl⟩;rw [← h_hd] at H;have Nhd:=am h_hd;clear h_hd;obtain ⟨ws,h_ws⟩:∃ y_:List q0a,y_ = hd++t:=⟨_,rfl⟩;rw [← h_ws] at H;have Nws:=am h_ws;clear h_ws;obtain ⟨u,B0,H⟩:=Option.bind_eq_some_iff.mp H;have BJ:=am B0;clear B0;by_cases cu:o.size + u.size + 5≤1000000000000
         rotate_left
         ·rw [if_neg cu] at H;exact absurd H (by simp)
         rw [if_pos cu] at H;have LU:=am cu;clear cu;have H':=am H;clear H;obtain ⟨bA,bB,bC,bD,bE,bF,bG,bH,-⟩:=bc8 (am FM.out.bm);go_wp2_with (first|((with_reducible refine gd 61 ?_);refine q2j Kd.string _ 9 ?hg (N:=61) ?hd (xs:=([(⟨#[108,105,110,101]⟩:q0a),(⟨#[61]⟩:q0a)]:List q0a)) (inner:=[.string ((⟨#[108,105,110,101]⟩:q0a)),.string ((⟨#[61]⟩:q0a))]) (ok:=fun _=>True) (okp:=fun _=>True) ?hr ?hp (fun _ hk=>hk) trivial (q0i _ _) (q0f _) (by simp) ?_;(case hd=>rfl);(case hg=>rfl);(case hr=>exact X35);(case hp=>exact rp);intro v1 w6 ho hb hg_ hnew_;clear hg_ hnew_;(first | rw [← Nhd.out] at ho|(simp only [Int.reduceToNat] at ho;rw [← Nhd.out] at ho));have bY:=am (q0H ho (q1c FM.out.bl));replace FM:=am (FM.out.below hb);clear hb ho;obtain ⟨bA,bB,bC,bD,bE,bF,bG,bH,-⟩:=bc8 (am FM.out.bm))|((with_reducible refine gc 55 ?_);refine q6b (some 64) rfl rfl func55 X4 rfl #[.agg #[iv a4,.string a5,iv a6,sl A7 l7 c7]] rfl X69 ?_;(with_reducible refine (q1O.calls k2 a4 a5 a6 _ _ l7 t _ ?side1 ?side2 BW.out).mono ?_);(case side1=>exact q0r aX.out FM.out.bl);(case side2=>exact aY.out);rintro e w7 ⟨v2,rfl,ho,hb⟩;refine ⟨_,rfl,?_⟩;have bJ:=am (q2m bY.out (q0x ho) hb);have cG:=am (q0H (q2A ho (q1F bY.out)) (q1c FM.out.bl));have bI:=am (FM.out.below hb);clear hb ho bY;have bY:=bJ;have bZ:=cG;clear bJ cG;clear FM;have FM:=bI;clear bI;obtain ⟨Ao,co,eo⟩:=q0I bZ.out;subst eo;obtain ⟨bA,bB,bC,bD,bE,bF,bG,bH,-⟩:=bc8 (am FM.out.bm))|((with_reducible refine q1J (b:=.append) (xs:=#[.tmp 61,.tmp 64]) rfl ?_);at_builtin;refine q3e Kd.string (w0:=w) w.heap.size rfl (.tmp 61) (.tmp 64) 39 9 (.string ⟨#[]⟩) 16 rfl underlying39 q4K rfl (by decide) (by omega) v1 hd (t) _ _ _ (fun k_=>nO k_ (sl Ao t co)) (fun _=>False) rfl rfl ?aO ?aR (fun _ _ h=>h) (fun _ h=>h.elim) ?aF ?aB ?aS ?aL ?_;(case aR=>exact (q0Y bZ.out).2.2);(case aB=>exact FM.out.bl);(case aF=>exact (fun k_ hk=>q1y (q1F bZ.out) k_ hk));(case aO=>exact (q0n bY.out (fun _ hk=>hk.2)));(case aS=>exact (q1c FM.out.bl));(case aL=>have h_:=LT.out;have e_:hd.length = 2:=(by rw [Nhd.out];rfl);omega);intro v3 w8 ho hb hg hat;rw [← Nws.out] at ho;have bI:=am (FM.out.grown hg hb (fun k_ cs_ T_ hc ht=>q2Z bY.out hc X106));have cH:=am ho;clear ho hb hg hat;clear FM;have FM:=bI;clear bI;obtain ⟨Ap,cp,ep⟩:=q0I cH.out;subst ep;obtain ⟨bA,bB,bC,bD,bE,bF,bG,bH,-⟩:=bc8 (am FM.out.bm))|((with_reducible refine q4F (t:=60) rfl ?_);refine v0A (some 66) rfl rfl #[.pointer (some ⟨b,0,none⟩)] func52 X4 rfl #[sl Ap ws cp,.pointer (some ⟨b,0,none⟩)] rfl X107 (by rfl) ?_;(with_reducible refine (q5V b o u _ _ ws _ ?side1 ?side2 FM.out.is BJ.out ?side3).mono ?_);(case side1=>exact (q0Y cH.out).2.2);(case side2=>exact (q0Y cH.out).2.1);(case side3=>have h_:=LU.out;omega);rintro e w9 ⟨rfl,hi,hb⟩;refine ⟨_,rfl,?_⟩;replace FM:=am (FM.out.item hi hb);clear hi hb;obtain ⟨bA,bB,bC,bD,bE,bF,bG,bH,-⟩:=bc8 (am FM.out.bm)))
         go_loopg [70] k2 (fun kq cL w'=>∃ (o:q0a) (i:Int),cL = iv i∧q0j (q0R.l2 kq o i l1 l2 l3 a4 a5 a6 l7 = some (r1,r2))∧q0j (kq≤k2)∧q0j (Fm w gm b #[.string a0,sl A1 l1 c1,sl A2 l2 c2,sl A3 l3 c3,iv a4,.string a5,iv a6,sl A7 l7 c7] o w'))
         case atStart=>exact ⟨o++itm u,0,rfl,H',⟨q0f _⟩,⟨FM.out⟩⟩
         case round=>
          clear H' FM bA bB bC bD bE bF bG bH cK cib ci BW BJ LT LU Nhd Nws bY bZ cH;obtain ⟨o,i,rfl,HA,cM,FM⟩:=hrel;cases gk with
          | zero=>exact absurd HA.out (by simp [q0R.l2])
          | succ k3=>
           have H:=HA.out;clear HA;simp only [q0R.l2] at H;by_cases ci:i < (l3.length:Int)
           ·rw [if_pos ci] at H;have cib:decide (i < (l3.length:Int)) = true:=q0w ci;by_cases cj:0≤i
            rotate_left
            ·rw [if_neg cj] at H;exact absurd H (by simp)
            rw [if_pos cj] at H;have cjb:decide (0≤i) = true:=q0w cj;by_cases ctl:(q2M l3 i).length < 1000000000000
            rotate_left
            ·rw [if_neg ctl] at H;exact absurd H (by simp)
            rw [if_pos ctl] at H;have LT:=am ctl;clear ctl;unfold put1 at H;obtain ⟨hd,h_hd⟩:∃ y_:List q0a,y_ = [(⟨#[115,111,109,101]⟩:q0a)]:=⟨_,rfl⟩;rw [← h_hd] at H;have Nhd:=am h_hd;clear h_hd;obtain ⟨ws,h_ws⟩:∃ y_:List q0a,y_ = hd++q2M l3 i:=⟨_,rfl⟩;rw [← h_ws] at H;have Nws:=am h_ws;clear h_ws;obtain ⟨u,B0,H⟩:=Option.bind_eq_some_iff.mp H;have BJ:=am B0;clear B0;by_cases cu:o.size + u.size + 5≤1000000000000
            rotate_left
            ·rw [if_neg cu] at H;exact absurd H (by simp)
            rw [if_pos cu] at H;have LU:=am cu;clear cu;have H':=am H;clear H;obtain ⟨ad,Al,cl,e1,bM,hll,hil⟩:=q5Y aU.out i cj ci;cases e1;replace bM:=(FM.out.bl.cell (q0J w _ bM)).trans bM;have HRl:=am hil;have HCl:=am hll;clear hil hll;replace cj:=q0c cj;replace ci:=q0c ci;try go_wp2_with (first|((with_reducible refine gd 75 ?_);refine q2j Kd.string _ 9 ?hg (N:=75) ?hd (xs:=([(⟨#[115,111,109,101]⟩:q0a)]:List q0a)) (inner:=[.string ((⟨#[115,111,109,101]⟩:q0a))]) (ok:=fun _=>True) (okp:=fun _=>True) ?hr ?hp (fun _ hk=>hk) trivial (q0i _ _) (q0f _) (by simp) ?_;(case hd=>rfl);(case hg=>rfl);(case hr=>exact X35);(case hp=>exact rp);intro v1 w6 ho hb hg_ hnew_;clear hg_ hnew_;(first | rw [← Nhd.out] at ho|(simp only [Int.reduceToNat] at ho;rw [← Nhd.out] at ho));have bY:=am (q0H ho (q1c FM.out.bl));replace FM:=am (FM.out.below hb);clear hb ho;obtain ⟨bA,bB,bC,bD,bE,bF,bG,bH,-⟩:=bc8 (am FM.out.bm))|((with_reducible refine q1J (b:=.append) (xs:=#[.tmp 75,.tmp 76]) rfl ?_);at_builtin;refine q3e Kd.string (w0:=w) w.heap.size rfl (.tmp 75) (.tmp 76) 39 9 (.string ⟨#[]⟩) 16 rfl underlying39 q4K rfl (by decide) (by omega) v1 hd (q2M l3 i) _ _ _ (fun _=>True) (fun _=>False) rfl rfl ?aO ?aR (fun _ _ h=>h) (fun _ h=>h.elim) ?aF ?aB ?aS ?aL ?_;(case aR=>exact (q0r HRl.out FM.out.bl));(case aB=>exact FM.out.bl);(case aF=>exact (fun _ _=>trivial));(case aO=>exact (q0n bY.out (fun _ hk=>trivial)));(case aS=>exact (q1c FM.out.bl));(case aL=>have h_:=LT.out;have e_:hd.length = 1:=(by rw [Nhd.out];rfl);omega);intro v3 w8 ho hb hg hat;rw [← Nws.out] at ho;have bI:=am (FM.out.grown hg hb (fun k_ cs_ T_ hc ht=>q2Z bY.out hc X106));have cH:=am ho;clear ho hb hg hat;clear FM;have FM:=bI;clear bI;obtain ⟨Ap,cp,ep⟩:=q0I cH.out;subst ep;obtain ⟨bA,bB,bC,bD,bE,bF,bG,bH,-⟩:=bc8 (am FM.out.bm))|((with_reducible refine q4F (t:=74) rfl ?_);refine v0A (some 78) rfl rfl #[.pointer (some ⟨b,0,none⟩)] func52 X4 rfl #[sl Ap ws cp,.pointer (some ⟨b,0,none⟩)] rfl X107 (by rfl) ?_;(with_reducible refine (q5V b o u _ _ ws _ ?side1 ?side2 FM.out.is BJ.out ?side3).mono ?_);(case side1=>exact (q0Y cH.out).2.2);(case side2=>exact (q0Y cH.out).2.1);(case side3=>have h_:=LU.out;omega);rintro e w9 ⟨rfl,hi,hb⟩;refine ⟨_,rfl,?_⟩;replace FM:=am (FM.out.item hi hb);clear hi hb;obtain ⟨bA,bB,bC,bD,bE,bF,bG,bH,-⟩:=bc8 (am FM.out.bm)))
            go_roundg k3
            case measure=>have:=cM.out;omega
            case rel=>exact ⟨o++itm u,wrap64 (i + 1),X7,H',⟨by have:=cM.out;omega⟩,⟨FM.out⟩⟩
           ·rw [if_neg ci] at H;have cib:decide (i < (l3.length:Int)) = false:=q0S ci;by_cases cu:o.size + 2≤1000000000000
            rotate_left
            ·rw [if_neg cu] at H;exact absurd H (by simp)
            rw [if_pos cu] at H;have LU:=am cu;clear cu;obtain ⟨rfl,rfl⟩:=Prod.mk.inj (q0d H);obtain ⟨bA,bB,bC,bD,bE,bF,bG,bH,-⟩:=bc8 (am FM.out.bm);go_wp2_with (first|((with_reducible refine gc 53 ?_);refine q6b (some 80) rfl rfl func53 X4 rfl #[.pointer (some ⟨b,0,none⟩),.string ⟨#[125,10]⟩] rfl X69 ?_;(with_reducible refine (FM.out.is.write (s:=⟨#[125,10]⟩) ?side1).mono ?_);(case side1=>have h_:=LU.out;show o.size + 2≤_;omega);rintro e w6 ⟨rfl,hi,hb⟩;refine ⟨_,rfl,?_⟩;replace FM:=am (FM.out.item hi hb);clear hi hb)|((with_reducible refine gc 57 ?_);refine q6b (some 81) rfl rfl func57 X4 rfl #[.pointer (some ⟨b,0,none⟩)] rfl X69 ?_;(with_reducible refine (FM.out.is.string).mono ?_);rintro e w7 ⟨rfl,hb⟩;refine ⟨_,rfl,?_⟩;have HE:=am (FM.out.last hb);clear hb))
            go_ret2
            exact ⟨by first | rfl|(simp;done),HE.out⟩
  ·rw [if_neg cz] at H;exact absurd H (by simp)
 ·rw [if_neg ct] at H;have ctb:(t == 0) = false:=beq_eq_false_iff_ne.mpr ct;have ctc:(t != 0) = true:=bne_iff_ne.mpr ct;obtain ⟨rfl,rfl⟩:=Prod.mk.inj (q0d H);go_enter func18,ntmps18;go_wp2_with (first|((with_reducible refine gd 1 ?_);refine be 1 #[.string a0,sl A1 l1 c1,sl A2 l2 c2,sl A3 l3 c3,iv a4,.string a5,iv a6,sl A7 l7 c7] 44 ?_;intro gm hg w1 hbox hb;have GW:=sG (w:=w) hg X6;replace HB:=bS X6 hb;have BM:=am hbox;clear hb hbox hg;obtain ⟨bA,bB,bC,bD,bE,bF,bG,bH,-⟩:=bc8 BM)|((with_reducible refine gc 19 ?_);refine q6b (some 14) rfl rfl func19 X4 rfl #[.agg #[.string a0,sl A1 l1 c1,sl A2 l2 c2,sl A3 l3 c3,iv a4,.string a5,iv a6,sl A7 l7 c7]] rfl X69 ?_;(with_reducible refine (q0D.calls k a0 _ _ l1 _ _ l2 _ _ l3 a4 a5 a6 _ _ l7 t _ ?side1 ?side2 ?side3 ?side4 ?side5 ?side6 ?side7 ?side8 BV.out).mono ?_);(case side1=>exact (X15 aK HB));(case side2=>exact aM.out);(case side3=>exact (X15 aQ HB));(case side4=>exact aT.out);(case side5=>exact (X15 aU HB));(case side6=>exact aW.out);(case side7=>exact (X15 aX HB));(case side8=>exact aY.out);rintro e w2 ⟨rfl,hb⟩;refine ⟨_,rfl,?_⟩;have bI:=am (q3h (X9 BM) hb);have bJ:=bS X6 hb;clear HB BM;have BM:=bI;have HB:=bJ;clear bI bJ hb;obtain ⟨bA,bB,bC,bD,bE,bF,bG,bH,-⟩:=bc8 BM))
  go_ret2
  exact ⟨X7,X6⟩
mutual
def q1u.l0:Nat → Int → Int → Int → q0a → Int → List (S25) → Option (Int)
 | 0,_,_,_,_,_,_=>none
 | k + 1,x1,x5,aA,aC,aD,aE=>if x5 < (aE.length:Int) then (if x1≥0 then (if 0≤x5 then ((q1u.f k ((q0A aE x5).f0) ((q0A aE x5).f1) ((q0A aE x5).f2) ((q0A aE x5).f3) x1).bind fun aG=>(q1u.l0 k aG (wrap64 (x5 + 1)) aA aC aD aE)) else (none)) else (some x1)) else (some x1)
def q1u.f:Nat → Int → q0a → Int → List (S25) → Int → Option (Int)
 | 0,_,_,_,_,_=>none
 | k + 1,aA,aC,aD,aE,a1=>q1u.l0 k (wrap64 ((wrap64 (a1 - 1)) - (wrap64 ((aC.size:Int) / 40)))) 0 aA aC aD aE
end
theorem q1u.mono_l:∀ k,(∀ y0 y1 y2 y3 y4,LeO (q1u.f k y0 y1 y2 y3 y4) (q1u.f (k + 1) y0 y1 y2 y3 y4))∧(∀ y0 y1 y2 y3 y4 y5,LeO (q1u.l0 k y0 y1 y2 y3 y4 y5) (q1u.l0 (k + 1) y0 y1 y2 y3 y4 y5))
 | 0=>⟨fun _ _ _ _ _ r h=>by simp [q1u.f] at h,fun _ _ _ _ _ _ r h=>by simp [q1u.l0] at h⟩
 | k + 1=>by
  obtain ⟨aA,aC⟩:=q1u.mono_l k;refine ⟨?_,?_⟩
  ·intro y0 y1 y2 y3 y4;unfold q1u.f;exact X68
  ·intro y0 y1 y2 y3 y4 y5;unfold q1u.l0;exact X68
theorem q1u.mono:∀ a0 a1 a2 a3 a4 k,LeO (q1u.f k a0 a1 a2 a3 a4) (q1u.f (k + 1) a0 a1 a2 a3 a4):=by
 intro a0 a1 a2 a3 a4 k;obtain ⟨aA,ih1⟩:=q1u.mono_l k;exact aA a0 a1 a2 a3 a4
theorem q1u.calls (k:Nat):∀ (aA:Int) (aC:q0a) (aD:Int) (aE:Option Addr) (aG:Nat) (aH:List (S25)) (a1:Int) (r:Int) (w:World) (aI:Kd.C k25 w aE aH.length aH) (aJ:aH.length≤aG) (h:q1u.f k aA aC aD aH a1 = some r),
  Calls prog 62 #[.agg #[iv aA,.string aC,iv aD,sl aE aH aG],iv a1] w fun e w'=>e = .returned (iv r)∧Below w.heap.size w w':=by
 induction k using Nat.strongRecOn with
 | _ k ih=>
 intro aA aC aD aE aG aH a1 r w aI aJ h;cases k with
 | zero=>exact absurd h (by simp [q1u.f])
 | succ k=>
 simp only [q1u.f] at h;have hu25:=underlying25;have aK:=am aI;have HC0_3:=am aJ;clear aI aJ;have HB:=am (q0i w.heap.size w);have H:(q1u.l0 k (wrap64 ((wrap64 (a1 - 1)) - (wrap64 ((aC.size:Int) / 40)))) 0 aA aC aD aH) = some r:=h;clear h;have H':=am H;clear H;go_enter func62,ntmps62;go_wp2_with (first|((with_reducible refine gd 2 ?_);refine be 2 #[iv aA,.string aC,iv aD,sl aE aH aG] 25 ?_;intro aM hg w3 hbox hb;have aQ:=am (hbox);have GW752:=sG (w:=w) hg X6;have aT:=sG (w:=w) hg X6;replace HB:=bS X6 hb;clear hb hbox hg;have Z4:=bc4 aQ))
 go_loopg [1,5] k (fun kq v1 v5 w'=>∃ (aU:Int) (aW:Int),v1 = iv aU∧v5 = iv aW∧q0j (q1u.l0 kq aU aW aA aC aD aH = some r)∧q0j (kq≤k)∧q0j (w'.heap[aM]? = some (.cells #[iv aA,.string aC,iv aD,(sl aE aH aG)] 25 (0,0)))∧q0j (Below w.heap.size w w'))
 case atStart=>exact ⟨(wrap64 ((wrap64 (a1 - 1)) - (wrap64 ((aC.size:Int) / 40)))),(0),X7,X7,H',⟨q0f _⟩,⟨(X9 aQ)⟩,⟨(X10 HB aT)⟩⟩
 case round=>
  clear H';(try clear p2 Z4);obtain ⟨aU,aW,rfl,rfl,HA,aX,aQ,HB⟩:=hrel;cases gk with
  | zero=>exact absurd HA.out (by simp [q1u.l0])
  | succ k1=>
   have H:=HA.out;clear HA;simp only [q1u.l0] at H;by_cases c5:aW < (aH.length:Int)
   ·rw [if_pos c5] at H;have c5b0:=dT c5;clear c5;by_cases c6:aU≥0
    ·rw [if_pos c6] at H;have c6b0:decide (0≤aU) = true:=q0w c6;clear c6;by_cases c7:0≤aW
     ·rw [if_pos c7] at H;have c7b0:=dT c7;clear c7;obtain ⟨aY,A8,H⟩:=oA H;(try dsimp only at H);have H':=am H;clear H;have Z9:=bc4 aQ;have bA:0≤(aW:Int):=q0b X12;have bB:aW < (aH.length:Int):=q0b X12;obtain ⟨ad753,bC,bD,e753,bE,bF,bG,bH,bI,bJ⟩:=q4w aK.out aW bA bB;cases e753;replace bE:=cB HB bE;replace bF:=cB HB bF;replace bG:=cB HB bG;replace bH:=cB HB bH;have bK:=am bJ;have bL:=am bI;clear bJ bI;replace bA:=q0c bA;replace bB:=q0c bB;go_wp2_with (first|((with_reducible refine gc 62 ?_);refine gL (some 30) func62 #[.agg #[iv ((q0A aH aW).f0),.string ((q0A aH aW).f1),iv ((q0A aH aW).f2),sl bC ((q0A aH aW).f3) bD],iv aU] ?_;(with_reducible refine (ih k1 X112 ((q0A aH aW).f0) ((q0A aH aW).f1) ((q0A aH aW).f2) _ _ ((q0A aH aW).f3) aU aY _ ?side1 ?side2 A8.out).mono ?_);(case side1=>exact (X15 bK HB));(case side2=>exact bL.out);rintro e w10 ⟨rfl,hb⟩;refine ⟨_,rfl,?_⟩;replace aQ:=kB aQ hb;replace HB:=bS (X10 HB aT) hb;clear hb))
      go_roundg k1
      case measure=>have:=aX.out;omega
      case rel=>exact ⟨(aY),(wrap64 (aW + 1)),X7,X7,H',⟨X112⟩,⟨(X9 aQ)⟩,⟨(X10 HB aT)⟩⟩
     ·exact iN c7 H
    ·rw [if_neg c6] at H;have c6b0:decide (0≤aU) = false:=q0S c6;clear c6;obtain rfl:=q0d H;have Z11:=bc4 aQ;go_wp2
     go_ret
     exact ⟨X11,(X10 HB aT)⟩
   ·rw [if_neg c5] at H;have c5b0:=dF c5;clear c5;obtain rfl:=q0d H;have Z12:=bc4 aQ;go_wp2
    go_ret
    exact ⟨X11,(X10 HB aT)⟩
mutual
def q1B.j0:Nat → Bool → q0a → List (S86) → List (S88) → List (List q0a) → Int → q0a → Int → List (S25) → Option (Bool)
 | 0,_,_,_,_,_,_,_,_,_=>none
 | k + 1,aA,aC,aD,aE,aG,aH,aI,aJ,aK=>if aA = true then (some false) else (q1B.l0 k 260 0 aC aD aE aG aH aI aJ aK)
def q1B.j2:Nat → Int → q0a → List (S86) → List (S88) → List (List q0a) → Int → q0a → Int → List (S25) → Option (Bool)
 | 0,_,_,_,_,_,_,_,_,_=>none
 | k + 1,x3,aA,aC,aD,aE,aG,aH,aI,aJ=>q1B.l1 k x3 0 aA aC aD aE aG aH aI aJ
def q1B.l1:Nat → Int → Int → q0a → List (S86) → List (S88) → List (List q0a) → Int → q0a → Int → List (S25) → Option (Bool)
 | 0,_,_,_,_,_,_,_,_,_,_=>none
 | k + 1,x3,x5,aA,aC,aD,aE,aG,aH,aI,aJ=>if x5 < (aE.length:Int) then (if 0≤x5 then (if ((q2M aE x5).length:Int) > 10 then (some false) else (q1B.l1 k x3 (wrap64 (x5 + 1)) aA aC aD aE aG aH aI aJ)) else (none)) else (if x3≥0 then ((q1u.f k aG aH aI aJ x3).bind fun aK=>(some (decide (aK≥0)))) else (some false))
def q1B.l0:Nat → Int → Int → q0a → List (S86) → List (S88) → List (List q0a) → Int → q0a → Int → List (S25) → Option (Bool)
 | 0,_,_,_,_,_,_,_,_,_,_=>none
 | k + 1,x3,x4,aA,aC,aD,aE,aG,aH,aI,aJ=>if x4 < (aC.length:Int) then (if x3≥0 then (if 0≤x4 then ((q1u.f k ((q1e aC x4).f1.f0) ((q1e aC x4).f1.f1) ((q1e aC x4).f1.f2) ((q1e aC x4).f1.f3) (wrap64 ((wrap64 (x3 - 1)) - (wrap64 ((((q1e aC x4).f0).size:Int) / 40))))).bind fun aK=>(q1B.l0 k aK (wrap64 (x4 + 1)) aA aC aD aE aG aH aI aJ)) else (none)) else (q1B.j2 k x3 aA aC aD aE aG aH aI aJ)) else (q1B.j2 k x3 aA aC aD aE aG aH aI aJ)
end
def q1B.f (k:Nat) (aA:q0a) (aC:List (S86)) (aD:List (S88)) (aE:List (List q0a)) (aG:Int) (aH:q0a) (aI:Int) (aJ:List (S25)):Option (Bool):=if (aA.size:Int) > 60 then (q1B.j0 k true aA aC aD aE aG aH aI aJ) else (if (aC.length:Int) > 25 then (q1B.j0 k true aA aC aD aE aG aH aI aJ) else (if (aD.length:Int) > 6 then (q1B.j0 k true aA aC aD aE aG aH aI aJ) else (q1B.j0 k (decide ((aE.length:Int) > 6)) aA aC aD aE aG aH aI aJ)))
theorem q1B.mono_l:∀ k,(∀ y0 y1 y2 y3 y4 y5 y6 y7 y8,LeO (q1B.j0 k y0 y1 y2 y3 y4 y5 y6 y7 y8) (q1B.j0 (k + 1) y0 y1 y2 y3 y4 y5 y6 y7 y8))∧(∀ y0 y1 y2 y3 y4 y5 y6 y7 y8,LeO (q1B.j2 k y0 y1 y2 y3 y4 y5 y6 y7 y8) (q1B.j2 (k + 1) y0 y1 y2 y3 y4 y5 y6 y7 y8))∧(∀ y0 y1 y2 y3 y4 y5 y6 y7 y8 y9,LeO (q1B.l1 k y0 y1 y2 y3 y4 y5 y6 y7 y8 y9) (q1B.l1 (k + 1) y0 y1 y2 y3 y4 y5 y6 y7 y8 y9))∧(∀ y0 y1 y2 y3 y4 y5 y6 y7 y8 y9,LeO (q1B.l0 k y0 y1 y2 y3 y4 y5 y6 y7 y8 y9) (q1B.l0 (k + 1) y0 y1 y2 y3 y4 y5 y6 y7 y8 y9))
 | 0=>⟨fun _ _ _ _ _ _ _ _ _ r h=>by simp [q1B.j0] at h,fun _ _ _ _ _ _ _ _ _ r h=>by simp [q1B.j2] at h,fun _ _ _ _ _ _ _ _ _ _ r h=>by simp [q1B.l1] at h,fun _ _ _ _ _ _ _ _ _ _ r h=>by simp [q1B.l0] at h⟩
 | k + 1=>by
  obtain ⟨aA,aC,aD,aE⟩:=q1B.mono_l k;refine ⟨?_,?_,?_,?_⟩
  ·intro y0 y1 y2 y3 y4 y5 y6 y7 y8;unfold q1B.j0;exact X113
  ·intro y0 y1 y2 y3 y4 y5 y6 y7 y8;unfold q1B.j2;exact X113
  ·intro y0 y1 y2 y3 y4 y5 y6 y7 y8 y9;unfold q1B.l1;exact X113
  ·intro y0 y1 y2 y3 y4 y5 y6 y7 y8 y9;unfold q1B.l0;exact X113
theorem q1B.mono:∀ a0 a1 a2 a3 a4 a5 a6 a7 k,LeO (q1B.f k a0 a1 a2 a3 a4 a5 a6 a7) (q1B.f (k + 1) a0 a1 a2 a3 a4 a5 a6 a7):=by
 intro a0 a1 a2 a3 a4 a5 a6 a7 k;obtain ⟨aA,aC,aD,aE⟩:=q1B.mono_l k;unfold q1B.f;exact X113
mutual
def q2b.l0:Nat → List (S25) → Int → Int → Int → q0a → Int → List (S25) → Option (Int × q0a × Int × (List (S25)))
 | 0,_,_,_,_,_,_,_=>none
 | k + 1,aA,aC,aD,aE,aG,aH,aI=>if aD < aC then (if 0≤aD then (if aD < (aA.length:Int) then ((q2b.f k ((q0A aA aD).f0) ((q0A aA aD).f1) ((q0A aA aD).f2) ((q0A aA aD).f3)).bind fun aJ=>(if aI.length < 2513169434916 then (q2b.l0 k aA aC (wrap64 (aD + 1)) aE aG aH (aI++[(⟨aJ.1,aJ.2.1,aJ.2.2.1,aJ.2.2.2⟩:S25)])) else (none))) else (none)) else (none)) else (some (aE,aG,aH,aI))
def q2b.f:Nat → Int → q0a → Int → List (S25) → Option (Int × q0a × Int × (List (S25)))
 | 0,_,_,_,_=>none
 | k + 1,aA,aC,aD,aE=>q2b.l0 k aE (aE.length:Int) 0 aA aC aD ([]:List (S25))
end
theorem q2b.mono_l:∀ k,(∀ y0 y1 y2 y3,LeO (q2b.f k y0 y1 y2 y3) (q2b.f (k + 1) y0 y1 y2 y3))∧(∀ y0 y1 y2 y3 y4 y5 y6,LeO (q2b.l0 k y0 y1 y2 y3 y4 y5 y6) (q2b.l0 (k + 1) y0 y1 y2 y3 y4 y5 y6))
 | 0=>⟨fun _ _ _ _ r h=>by simp [q2b.f] at h,fun _ _ _ _ _ _ _ r h=>by simp [q2b.l0] at h⟩
 | k + 1=>by
  obtain ⟨aA,aC⟩:=q2b.mono_l k;refine ⟨?_,?_⟩
  ·intro y0 y1 y2 y3;unfold q2b.f;exact X68
  ·intro y0 y1 y2 y3 y4 y5 y6;unfold q2b.l0;exact X68
theorem q2b.mono:∀ a0 a1 a2 a3 k,LeO (q2b.f k a0 a1 a2 a3) (q2b.f (k + 1) a0 a1 a2 a3):=by
 intro a0 a1 a2 a3 k;obtain ⟨aA,ih1⟩:=q2b.mono_l k;exact aA a0 a1 a2 a3
def q9m.f (l0:List S88):Option (List S88):=if l0.length≤1048576 then some l0 else none
def q5e.f (l0:List q0a):Option (List q0a):=if l0.length≤1048576 then some l0 else none
end Go.Proofs.YtmffocankommaaaDoor.J
