/- Printed walks: what each function of the program computes. Condition: the Lean function gives a value. -/
import Derived.Test.YtmffocankommaaaGreatDoorDYZed
import Derived.Test.YtmffocankommaaaGreatDoorDx5
import Derived.Test.YtmffocankommaaaGreatDoorDx30
import Derived.Test.YtmffocankommaaaGreatDoorDx13
import Derived.Test.YtmffocankommaaaGreatDoorDx15
import Derived.Test.YtmffocankommaaaGreatDoorDx18
namespace Go.Proofs.YtmffocankommaaaGreatDoor.P
open Go.RowKit Go.Proofs.YtmffocankommaaaGreatDoorW.PrintWords Go.Proofs.YtmffocankommaaaGreatDoorW.PrintLast Go.Proofs.YtmffocankommaaaGreatDoorW.PrintMore Go.Proofs.YtmffocankommaaaGreatDoorY Go.Proofs.YtmffocankommaaaGreatDoorS Go.Proofs.YtmffocankommaaaGreatDoorS _root_.Go.Proofs.Tryz
attribute [local go_sem] q2U q3x q3u q3V q3S q3i q3f q3v q3w
set_option linter.unusedVariables false
set_option maxHeartbeats 8000000
set_option maxRecDepth 100000
set_option linter.unusedSimpArgs false
attribute [local go_sem high] eqA70
mutual
def q0D.j0:Nat→Bool→q0b→List (S68)→List (S70)→List (List q0b)→Int→q0b→Int→List (S28)→q0b→List (S68)→List (S70)→List (List q0b)→Int→q0b→Int→List (S28)→Option (Bool)
 | 0,_,_,_,_,_,_,_,_,_,_,_,_,_,_,_,_,_=>none
 | k+1,aA,aC,aD,aE,aG,aH,aI,aJ,aK,aM,aQ,aT,aU,aW,aX,aY,aZ=>if aA=true then (none) else (q0D.l0 k 0 aC aD aE aG aH aI aJ aK aM aQ aT aU aW aX aY aZ)
def q0D.l0:Nat→Int→q0b→List (S68)→List (S70)→List (List q0b)→Int→q0b→Int→List (S28)→q0b→List (S68)→List (S70)→List (List q0b)→Int→q0b→Int→List (S28)→Option (Bool)
 | 0,_,_,_,_,_,_,_,_,_,_,_,_,_,_,_,_,_=>none
 | k+1,x5,aA,aC,aD,aE,aG,aH,aI,aJ,aK,aM,aQ,aT,aU,aW,aX,aY=>if x5<(aC.length:Int) then (if 0≤x5 then (if x5<(aM.length:Int) then (if ((q1F aC x5).f0).toList=((q1F aM x5).f0).toList then ((q0Z.f k ((q1F aC x5).f1.f0) ((q1F aC x5).f1.f1) ((q1F aC x5).f1.f2) ((q1F aC x5).f1.f3) ((q1F aM x5).f1.f0) ((q1F aM x5).f1.f1) ((q1F aM x5).f1.f2) ((q1F aM x5).f1.f3)).bind fun aZ=>(if aZ=true then (q0D.l0 k (wrap64 (x5+1)) aA aC aD aE aG aH aI aJ aK aM aQ aT aU aW aX aY) else (none))) else (none)) else (none)) else (none)) else (q0D.l1 k 0 aA aC aD aE aG aH aI aJ aK aM aQ aT aU aW aX aY)
def q0D.l1:Nat→Int→q0b→List (S68)→List (S70)→List (List q0b)→Int→q0b→Int→List (S28)→q0b→List (S68)→List (S70)→List (List q0b)→Int→q0b→Int→List (S28)→Option (Bool)
 | 0,_,_,_,_,_,_,_,_,_,_,_,_,_,_,_,_,_=>none
 | k+1,x6,aA,aC,aD,aE,aG,aH,aI,aJ,aK,aM,aQ,aT,aU,aW,aX,aY=>if x6<(aD.length:Int) then (if 0≤x6 then (if x6<(aQ.length:Int) then (if (!((((q2K aD x6).f0).toList) == (((q2K aQ x6).f0).toList)) || (!(((q2K aD x6).f1) == ((q2K aQ x6).f1)) || (!(((q2K aD x6).f2) == ((q2K aQ x6).f2)))))=true then (none) else (q0D.l1 k (wrap64 (x6+1)) aA aC aD aE aG aH aI aJ aK aM aQ aT aU aW aX aY)) else (none)) else (none)) else (q0D.l2 k 0 aA aC aD aE aG aH aI aJ aK aM aQ aT aU aW aX aY)
def q0D.l2:Nat→Int→q0b→List (S68)→List (S70)→List (List q0b)→Int→q0b→Int→List (S28)→q0b→List (S68)→List (S70)→List (List q0b)→Int→q0b→Int→List (S28)→Option (Bool)
 | 0,_,_,_,_,_,_,_,_,_,_,_,_,_,_,_,_,_=>none
 | k+1,x7,aA,aC,aD,aE,aG,aH,aI,aJ,aK,aM,aQ,aT,aU,aW,aX,aY=>if x7<(aE.length:Int) then (if 0≤x7 then (if x7<(aT.length:Int) then ((q2O.f k (q2Y aE x7) (q2Y aT x7)).bind fun aZ=>(if aZ=true then (q0D.l2 k (wrap64 (x7+1)) aA aC aD aE aG aH aI aJ aK aM aQ aT aU aW aX aY) else (none))) else (none)) else (none)) else (some true)
end
def q0D.f (k:Nat) (aA:q0b) (aC:List (S68)) (aD:List (S70)) (aE:List (List q0b)) (aG:Int) (aH:q0b) (aI:Int) (aJ:List (S28)) (aK:q0b) (aM:List (S68)) (aQ:List (S70)) (aT:List (List q0b)) (aU:Int) (aW:q0b) (aX:Int) (aY:List (S28)):Option (Bool):=if aA.toList=aK.toList then (if (aC.length:Int)=(aM.length:Int) then (if (aD.length:Int)=(aQ.length:Int) then (if (aE.length:Int)=(aT.length:Int) then ((q0Z.f k aG aH aI aJ aU aW aX aY).bind fun aZ=>(q0D.j0 k (!aZ) aA aC aD aE aG aH aI aJ aK aM aQ aT aU aW aX aY)) else (q0D.j0 k true aA aC aD aE aG aH aI aJ aK aM aQ aT aU aW aX aY)) else (q0D.j0 k true aA aC aD aE aG aH aI aJ aK aM aQ aT aU aW aX aY)) else (q0D.j0 k true aA aC aD aE aG aH aI aJ aK aM aQ aT aU aW aX aY)) else (q0D.j0 k true aA aC aD aE aG aH aI aJ aK aM aQ aT aU aW aX aY)
def q0D.T6:Bool × List (List Nat × List Nat):=(true,[([],[]),([0],[0]),([],[]),([1,2],[1,2]),([3],[3]),([4],[4]),([],[]),([6],[6]),([],[]),([7,8],[7,8]),([9],[9]),([10],[10]),([5,11],[5,11]),([12],[12]),([13],[13]),([14,13],[13,14]),([13],[13]),([15,16,13],[13,15,16]),([17,13],[13,17]),([18,13],[13,18]),([13],[13]),([20,13],[13,20]),([13],[13]),([21,22,13],[13,21,22]),([23,13],[13,23]),([24,13],[13,24]),([19,25,13,13],[13,19,25]),([26,13],[13,26]),([13,27],[13,27])])
def q0D.B6:List Nat:=[0,1,0,7,15,31,0,64,0,448,960,1984,4095,8191,16383,32767,16383,131071,262143,524287,16383,1064959,16383,7356415,15745023,32522239,67108863,134217727,268435455]
theorem q0D.tab6:rtab .any (q5Z Tryz.f8 6)=q0D.T6:=by kernel_rfl
theorem q0D.bits6:q4i q0D.T6.2 q0D.B6=true:=by kernel_rfl
def q0D.T11:Bool × List (List Nat × List Nat):=(true,[([],[]),([0],[0]),([],[]),([1,2],[1,2]),([3],[3]),([],[]),([5],[5]),([],[]),([6,7],[6,7]),([8],[8]),([4,9],[4,9])])
def q0D.B11:List Nat:=[0,1,0,7,15,0,32,0,224,480,1023]
theorem q0D.tab11:rtab .any (q5Z Tryz.f8 11)=q0D.T11:=by kernel_rfl
theorem q0D.bits11:q4i q0D.T11.2 q0D.B11=true:=by kernel_rfl
def q0D.T16:Bool × List (List Nat × List Nat):=(true,[([],[]),([0],[0]),([],[]),([1,2],[1,2]),([3],[3]),([],[]),([5],[5]),([],[]),([6,7],[6,7]),([8],[8]),([4,9],[4,9]),([10],[10])])
def q0D.B16:List Nat:=[0,1,0,7,15,0,32,0,224,480,1023,2047]
theorem q0D.tab16:rtab .any (q5Z Tryz.f8 16)=q0D.T16:=by kernel_rfl
theorem q0D.bits16:q4i q0D.T16.2 q0D.B16=true:=by kernel_rfl
theorem q0D.calls (k:Nat) (aA:q0b) (aC:Option Addr) (aD:Nat) (aE:List (S68)) (aG:Option Addr) (aH:Nat) (aI:List (S70)) (aJ:Option Addr) (aK:Nat) (aM:List (List q0b)) (aQ:Int) (aT:q0b) (aU:Int) (aW:Option Addr) (aX:Nat) (aY:List (S28)) (aZ:q0b) (bA:Option Addr) (bB:Nat) (bC:List (S68)) (bD:Option Addr) (bE:Nat) (bF:List (S70)) (bG:Option Addr) (bH:Nat) (bI:List (List q0b)) (bJ:Int) (bK:q0b) (bL:Int) (bM:Option Addr) (bN:Nat) (bO:List (S28)) (r:Bool) (w:World) (bP:Kd.C k68 w aC aE.length aE) (bQ:aE.length≤aD) (bR:Kd.C k70 w aG aI.length aI) (bT:aI.length≤aH) (bU:Kd.C (Kd.slice 9 Kd.string) w aJ aM.length aM) (bV:aM.length≤aK) (bW:Kd.C k28 w aW aY.length aY) (bX:aY.length≤aX) (bY:Kd.C k68 w bA bC.length bC) (bZ:bC.length≤bB) (cA:Kd.C k70 w bD bF.length bF) (cC:bF.length≤bE) (cD:Kd.C (Kd.slice 9 Kd.string) w bG bI.length bI) (cE:bI.length≤bH) (cF:Kd.C k28 w bM bO.length bO) (cG:bO.length≤bN) (h:q0D.f k aA aE aI aM aQ aT aU aY aZ bC bF bI bJ bK bL bO=some r) :
  Calls prog 8 #[.agg #[.string aA,sl aC aE aD,sl aG aI aH,sl aJ aM aK,iv aQ,.string aT,iv aU,sl aW aY aX],.agg #[.string aZ,sl bA bC bB,sl bD bF bE,sl bG bI bH,iv bJ,.string bK,iv bL,sl bM bO bN]] w fun e w'=>e=.returned (.bool r)∧Below w.heap.size w w':=by
 have hu30:=underlying30;have hu28:=underlying28;have hu70:=underlying70;have cH:=am bP;have HC0_1:=am bQ;clear bP bQ;have cI:=am bR;have HC0_2:=am bT;clear bR bT;have cJ:=am bU;have HC0_3:=am bV;clear bU bV;have cK:=am bW;have cL:=am bX;clear bW bX;have cM:=am bY;have HC1_1:=am bZ;clear bY bZ;have cN:=am cA;have HC1_2:=am cC;clear cA cC;have cO:=am cD;have HC1_3:=am cE;clear cD cE;have cP:=am cF;have cQ:=am cG;clear cF cG;have HB:=am (q0r w.heap.size w);have H:=h;clear h;unfold q0D.f at H;have cR:=am H;clear H;go_enter func8,ntmps8;go_upto_region 1 with (first|((with_reducible refine gd 2 ?_);(try (refine q2p (by rfl) ?_;dsimp only));refine be 2 #[.string aA,sl aC aE aD,sl aG aI aH,sl aJ aM aK,iv aQ,.string aT,iv aU,sl aW aY aX] 30 ?_;intro cS hg w4 hbox hb;have cT:=am (hbox);have GW1146:=sG (w:=w) hg X6;have cU:=sG (w:=w) hg X6;replace HB:=bS X6 hb;clear hb hbox hg)|((with_reducible refine gd 3 ?_);(try (refine q2p (by rfl) ?_;dsimp only));refine be 3 #[.string aZ,sl bA bC bB,sl bD bF bE,sl bG bI bH,iv bJ,.string bK,iv bL,sl bM bO bN] 30 ?_;intro cV hg w5 hbox hb;have cX:=am (hbox);have GW1147:=sG (w:=w) hg (X10 HB cU);have cY:=sG (w:=w) hg (X10 HB cU);replace HB:=bS (X10 HB cU) hb;have cZ:=nLT hg cT;have dA:=nGT hg cT;replace cT:=kB cT hb;clear hb hbox hg))
 (try simp only[Act.put,List.setIfInBounds_toArray,List.set_cons_zero,List.set_cons_succ]);go_cut [47] (fun dB wc=>∃ (kq:Nat) (dC:Bool),dB=.bool dC∧q0i (q0D.j0 kq dC aA aE aI aM aQ aT aU aY aZ bC bF bI bJ bK bL bO=some r)∧q0i (kq≤k)∧q0i (wc.heap[cS]?=some (.cells #[.string aA,(sl aC aE aD),(sl aG aI aH),(sl aJ aM aK),iv aQ,.string aT,iv aU,(sl aW aY aX)] 30 (0,0)))∧q0i (wc.heap[cV]?=some (.cells #[.string aZ,(sl bA bC bB),(sl bD bF bE),(sl bG bI bH),iv bJ,.string bK,iv bL,(sl bM bO bN)] 30 (0,0)))∧q0i (Below w.heap.size w wc))
 case first=>
  have H:=cR.out;clear cR;by_cases c6:aA.toList=aZ.toList
  ·rw[if_pos c6]at H;have AA:=eT c6;have AE:=eF c6;clear c6;(first|rw[AA]|(simp only[q4g,q4q];rw[AA])|skip);by_cases c7:(aE.length:Int)=(bC.length:Int)
   ·rw[if_pos c7]at H;have AF:=eT c7;have AG:=eF c7;have AH:(aE.length == bC.length)=true:=by first|simpa using c7|(simp at c7 ⊢;omega)
    clear c7;by_cases c8:(aI.length:Int)=(bF.length:Int)
    ·rw[if_pos c8]at H;have AI:=eT c8;have AJ:=eF c8;have AK:(aI.length == bF.length)=true:=by first|simpa using c8|(simp at c8 ⊢;omega)
     clear c8;by_cases c9:(aM.length:Int)=(bI.length:Int)
     ·rw[if_pos c9]at H;have AL:=eT c9;have AM:=eF c9;have AN:(aM.length == bI.length)=true:=by first|simpa using c9|(simp at c9 ⊢;omega)
      clear c9;obtain⟨dD,dG,H⟩:=oA H;(try dsimp only at H);have H':=am H;clear H;have BD:=cZ.out;have BE:=dA.out;have dH:=bc8 cT;have dI:=bc8 cX;go_wp2_with (first|(go_at_call 20;(with_reducible refine(q0Z.calls k aQ aT aU _ _ aY bJ bK bL _ _ bO dD _ ?side1 ?side2 ?side3 ?side4 dG.out).mono ?_);(case side1=>exact cW (q0Y cK.out HB.out));(case side2=>exact cL.out);(case side3=>exact cW (q0Y cP.out HB.out));(case side4=>exact cQ.out);rintro e w14 ⟨rfl,hb⟩;replace cT:=kB cT hb;replace cX:=kB cX hb;replace HB:=bS (X17 HB cU cY) hb;clear hb))
      go_meet
      case rel=>exact⟨_,(!dD),X7,H',⟨X8⟩,⟨(X9 cT)⟩,⟨(X9 cX)⟩,⟨(X17 HB cU cY)⟩⟩
     ·rw[if_neg c9]at H;have AL:=nF c9;have AM:=nT c9;have AN:(aM.length == bI.length)=false:=by first|simpa using c9|(simp at c9 ⊢;omega)
      have H':=am H;clear H;have BG:=cZ.out;have BH:=dA.out;have dJ:=bc8 cT;have dK:=bc8 cX;go_wp2
      go_meet
      case rel=>exact⟨_,(true),X7,H',⟨X8⟩,⟨(X9 cT)⟩,⟨(X9 cX)⟩,⟨(X17 HB cU cY)⟩⟩
    ·rw[if_neg c8]at H;have AI:=nF c8;have AJ:=nT c8;have AK:(aI.length == bF.length)=false:=by first|simpa using c8|(simp at c8 ⊢;omega)
     have H':=am H;clear H;have BI:=cZ.out;have BK:=dA.out;have dL:=bc8 cT;have dM:=bc8 cX;go_wp2
     go_meet
     case rel=>exact⟨_,(true),X7,H',⟨X8⟩,⟨(X9 cT)⟩,⟨(X9 cX)⟩,⟨(X17 HB cU cY)⟩⟩
   ·rw[if_neg c7]at H;have AF:=nF c7;have AG:=nT c7;have AH:(aE.length == bC.length)=false:=by first|simpa using c7|(simp at c7 ⊢;omega)
    have H':=am H;clear H;have BL:=cZ.out;have BN:=dA.out;have dN:=bc8 cT;have dO:=bc8 cX;go_wp2
    go_meet
    case rel=>exact⟨_,(true),X7,H',⟨X8⟩,⟨(X9 cT)⟩,⟨(X9 cX)⟩,⟨(X17 HB cU cY)⟩⟩
  ·rw[if_neg c6]at H;have AA:=nF c6;have AE:=nT c6;(first|rw[AA]|(simp only[q4g,q4q];rw[AA])|skip);have H':=am H;clear H;have BO:=cZ.out;have BP:=dA.out;have dP:=bc8 cT;have dQ:=bc8 cX;go_wp2
   go_meet
   case rel=>exact⟨_,(true),X7,H',⟨X8⟩,⟨(X9 cT)⟩,⟨(X9 cX)⟩,⟨(X17 HB cU cY)⟩⟩
 case rest=>
  clear cR;(try clear c1 c2 p2 c6 AA AE c7 AF AG AH c8 AI AJ AK c9 AL AM AN dR dS dU dV dW dH dI dJ dK dL dM dN dO dP dQ);obtain⟨kq,dC,rfl,HA,dX,cT,cX,HB⟩:=hcut;cases kq with
  | zero=>exact absurd HA.out (by simp [q0D.j0])
  | succ dY=>
   have H:=HA.out;clear HA;simp only[q0D.j0]at H;by_cases dZ:dC=true
   ·subst dZ;replace H:=tP H;exact absurd H (by simp)
   ·replace dZ:=fI dZ;subst dZ;replace H:=tN H;have H':=am H;clear H;go_wp2
    go_loopg [5] dY (fun kq v5 w'=>∃ (eA:Int),v5=iv eA∧q0i (q0D.l0 kq eA aA aE aI aM aQ aT aU aY aZ bC bF bI bJ bK bL bO=some r)∧q0i (kq≤dY)∧q0i (w'.heap[cS]?=some (.cells #[.string aA,(sl aC aE aD),(sl aG aI aH),(sl aJ aM aK),iv aQ,.string aT,iv aU,(sl aW aY aX)] 30 (0,0)))∧q0i (w'.heap[cV]?=some (.cells #[.string aZ,(sl bA bC bB),(sl bD bF bE),(sl bG bI bH),iv bJ,.string bK,iv bL,(sl bM bO bN)] 30 (0,0)))∧q0i (Below w.heap.size w w'))
    case atStart=>exact⟨(0),X7,H',⟨q0f _⟩,⟨(X9 cT)⟩,⟨(X9 cX)⟩,⟨(X17 HB cU cY)⟩⟩
    case round=>
     clear H';(try clear c1 c2);(try clear p2 p2);(try clear c6 AA AE c7 AF AG AH c8 AI AJ AK c9 AL AM AN dR dS dU dV dW dZ dH dI dJ dK dL dM dN dO dP dQ);obtain⟨eA,rfl,HA,eB,cT,cX,HB⟩:=hrel;cases gk with
     | zero=>exact absurd HA.out (by simp [q0D.l0])
     | succ k2=>
      have H:=HA.out;clear HA;simp only[q0D.l0]at H;by_cases eC:eA<(aE.length:Int)
      ·rw[if_pos eC]at H;have AB:=dT eC;clear eC;by_cases eD:0≤eA
       ·rw[if_pos eD]at H;have AO:=dT eD;clear eD;by_cases eE:eA<(bC.length:Int)
        ·rw[if_pos eE]at H;have AP:=dT eE;clear eE;by_cases eG:((q1F aE eA).f0).toList=((q1F bC eA).f0).toList
         ·rw[if_pos eG]at H;have AC:=eT eG;have AD:=eF eG;clear eG;obtain⟨eH,eJ,H⟩:=oA H;(try dsimp only at H);by_cases eK:eH=true
          ·subst eK;replace H:=tP H;have H':=am H;clear H;have BQ:=cZ.out;have BR:=dA.out;have eL:=bc8 cT;try go_wp2
           replace cT:=am (q0B cT.out);replace cX:=am (q0B cX.out);replace HB:=am (q1U HB.out);have eM:0≤(eA:Int):=q0a X16;have eN:eA<(aE.length:Int):=q0a X16;obtain⟨eO,eP,eQ,AR,eR,eS,eU,eV,eW,eX,eY⟩:=q5E cH.out eA eM eN;have eZ:=eW;have fA:=eV;have fB:=eU;have fC:=eS;have fD:=eR;cases AR;replace eR:=cB HB eR;replace eS:=cB HB eS;replace eU:=cB HB eU;replace eV:=cB HB eV;replace eW:=cB HB eW;have fE:=am eY;have HC1149_4:=am eX;clear eY eX;replace eM:=q0c eM;replace eN:=q0c eN;have fF:0≤(eA:Int):=q0a X16;have fG:eA<(bC.length:Int):=q0a X16;obtain⟨fH,fJ,fK,AS,fL,fM,fN,fO,fP,fQ,fR⟩:=q5E cM.out eA fF fG;have fS:=fP;have fT:=fO;have fU:=fN;have fV:=fM;have fW:=fL;cases AS;replace fL:=cB HB fL;replace fM:=cB HB fM;replace fN:=cB HB fN;replace fO:=cB HB fO;replace fP:=cB HB fP;have fX:=am fR;have HC1150_4:=am fQ;clear fR fQ;replace fF:=q0c fF;replace fG:=q0c fG;have fY:0≤(eA:Int):=q0a X16;have fZ:eA<(aE.length:Int):=q0a X16;obtain⟨gA,A1151_4,c1151_4,AT,gB,gC,gD,gE,gF,gG,gH⟩:=q5E cH.out eA fY fZ;have gI:=gF;have gJ:=gE;have gK:=gD;have gM:=gC;have gN:=gB;obtain rfl:eO=gA:=(by injection AT);replace gB:=cB HB gB;replace gC:=cB HB gC;replace gD:=cB HB gD;replace gE:=cB HB gE;replace gF:=cB HB gF;have gP:=am gH;have gQ:=am gG;clear gH gG;replace fY:=q0c fY;replace fZ:=q0c fZ;have ea_:=q0d (eW.symm.trans gF);injection ea_ with ea_ en_ ec_;subst ea_;subst ec_;clear en_;have gR:0≤(eA:Int):=q0a X16;have gS:eA<(bC.length:Int):=q0a X16;obtain⟨gT,A1152_4,c1152_4,AU,gU,gV,gW,gX,gY,gZ,hA⟩:=q5E cM.out eA gR gS;have hD:=gY;have hE:=gX;have hF:=gW;have hG:=gV;have hH:=gU;obtain rfl:fH=gT:=(by injection AU);replace gU:=cB HB gU;replace gV:=cB HB gV;replace gW:=cB HB gW;replace gX:=cB HB gX;replace gY:=cB HB gY;have hJ:=am hA;have hL:=am gZ;clear hA gZ;replace gR:=q0c gR;replace gS:=q0c gS;have ea_:=q0d (fP.symm.trans gY);injection ea_ with ea_ en_ ec_;subst ea_;subst ec_;clear en_;refine q4P (n:=29) (S:=fun w'=>cc8 w' cS (.string aA) (sl (some eO) aE aD) (sl aG aI aH) (sl aJ aM aK) (iv aQ) (.string aT) (iv aU) (sl aW aY aX) (cc8 w' cV (.string aZ) (sl (some fH) bC bB) (sl bD bF bE) (sl bG bI bH) (iv bJ) (.string bK) (iv bL) (sl bM bO bN) (w'.cell? (eO.add ((eA).toNat*5))=some (.string ((q1F aE eA).f0))∧w'.cell? ⟨(eO.add ((eA).toNat*5)).block,(eO.add ((eA).toNat*5)).off+1,none⟩=some (iv ((q1F aE eA).f1.f0))∧w'.cell? ⟨(eO.add ((eA).toNat*5)).block,(eO.add ((eA).toNat*5)).off+2,none⟩=some (.string ((q1F aE eA).f1.f1))∧w'.cell? ⟨(eO.add ((eA).toNat*5)).block,(eO.add ((eA).toNat*5)).off+3,none⟩=some (iv ((q1F aE eA).f1.f2))∧w'.cell? ⟨(eO.add ((eA).toNat*5)).block,(eO.add ((eA).toNat*5)).off+4,none⟩=some (sl eP ((q1F aE eA).f1.f3) eQ)∧w'.cell? (fH.add ((eA).toNat*5))=some (.string ((q1F bC eA).f0))∧w'.cell? ⟨(fH.add ((eA).toNat*5)).block,(fH.add ((eA).toNat*5)).off+1,none⟩=some (iv ((q1F bC eA).f1.f0))∧w'.cell? ⟨(fH.add ((eA).toNat*5)).block,(fH.add ((eA).toNat*5)).off+2,none⟩=some (.string ((q1F bC eA).f1.f1))∧w'.cell? ⟨(fH.add ((eA).toNat*5)).block,(fH.add ((eA).toNat*5)).off+3,none⟩=some (iv ((q1F bC eA).f1.f2))∧w'.cell? ⟨(fH.add ((eA).toNat*5)).block,(fH.add ((eA).toNat*5)).off+4,none⟩=some (sl fJ ((q1F bC eA).f1.f3) fK)∧w'.cell? (eO.add ((eA).toNat*5))=some (.string ((q1F aE eA).f0))∧w'.cell? ⟨(eO.add ((eA).toNat*5)).block,(eO.add ((eA).toNat*5)).off+1,none⟩=some (iv ((q1F aE eA).f1.f0))∧w'.cell? ⟨(eO.add ((eA).toNat*5)).block,(eO.add ((eA).toNat*5)).off+2,none⟩=some (.string ((q1F aE eA).f1.f1))∧w'.cell? ⟨(eO.add ((eA).toNat*5)).block,(eO.add ((eA).toNat*5)).off+3,none⟩=some (iv ((q1F aE eA).f1.f2))∧w'.cell? ⟨(eO.add ((eA).toNat*5)).block,(eO.add ((eA).toNat*5)).off+4,none⟩=some (sl eP ((q1F aE eA).f1.f3) eQ)∧w'.cell? (fH.add ((eA).toNat*5))=some (.string ((q1F bC eA).f0))∧w'.cell? ⟨(fH.add ((eA).toNat*5)).block,(fH.add ((eA).toNat*5)).off+1,none⟩=some (iv ((q1F bC eA).f1.f0))∧w'.cell? ⟨(fH.add ((eA).toNat*5)).block,(fH.add ((eA).toNat*5)).off+2,none⟩=some (.string ((q1F bC eA).f1.f1))∧w'.cell? ⟨(fH.add ((eA).toNat*5)).block,(fH.add ((eA).toNat*5)).off+3,none⟩=some (iv ((q1F bC eA).f1.f2))∧w'.cell? ⟨(fH.add ((eA).toNat*5)).block,(fH.add ((eA).toNat*5)).off+4,none⟩=some (sl fJ ((q1F bC eA).f1.f3) fK)))) (ds:=[]) (lb 29 0) X4 rfl rfl (b8 cT (b8 cX ⟨(q0s HB.out fD),(q0s HB.out fC),(q0s HB.out fB),(q0s HB.out fA),(q0s HB.out eZ),(q0s HB.out fW),(q0s HB.out fV),(q0s HB.out fU),(q0s HB.out fT),(q0s HB.out fS),(q0s HB.out gN),(q0s HB.out gM),(q0s HB.out gK),(q0s HB.out gJ),(q0s HB.out gI),(q0s HB.out hH),(q0s HB.out hG),(q0s HB.out hF),(q0s HB.out hE),(q0s HB.out hD)⟩)) (fun hHeld=>?_);refine q3W q0D.tab6 q0D.bits6 (fun HT_ HW_=>?_);generalize wr.drew=w36 at cT cX HB fE fX gP hJ eR eS eU eV eW fL fM fN fO fP gB gC gD gE gF gU gV gW gX gY hHeld ⊢
           refine pu 0 (some 55) (lb 29 1) HT_ ?_;refine pu 2 (some 57) (lb 29 5) HT_ ?_;refine pu 6 (some 61) (lb 29 69) HT_ ?_;refine pu 8 (some 63) (lb 29 325) HT_ ?_;refine tk 1 (some 56) (lb 29 327) HT_ HW_ hHeld ?_;refine pu 3 (some 58) (lb 29 335) HT_ ?_;refine pu 4 (some 59) (lb 29 351) HT_ ?_;refine tk 5 (some 60) (lb 29 383) HT_ HW_ hHeld ?_;refine tk 7 (some 62) (lb 29 511) HT_ HW_ hHeld ?_;refine pu 9 (some 64) (lb 29 1023) HT_ ?_;refine pu 10 (some 65) (lb 29 2047) HT_ ?_;refine tk 11 (some 66) (lb 29 4095) HT_ HW_ hHeld ?_;refine pu 12 (some 67) (lb 29 8191) HT_ ?_;refine pu 13 (some 68) (lb 29 16383) HT_ ?_;refine pu 14 (some 69) (lb 29 32767) HT_ ?_;refine pu 16 (some 71) (lb 29 98303) HT_ ?_;refine pu 20 (some 75) (lb 29 1146879) HT_ ?_;refine pu 22 (some 77) (lb 29 5341183) HT_ ?_;refine tk 15 (some 70) (lb 29 5373951) HT_ HW_ hHeld ?_;refine pu 17 (some 72) (lb 29 5505023) HT_ ?_;refine pu 18 (some 73) (lb 29 5767167) HT_ ?_;refine tk 19 (some 74) (lb 29 6291455) HT_ HW_ hHeld ?_;refine tk 21 (some 76) (lb 29 8388607) HT_ HW_ hHeld ?_;refine pu 23 (some 78) (lb 29 16777215) HT_ ?_;refine pu 24 (some 79) (lb 29 33554431) HT_ ?_;refine tk 25 (some 80) (lb 29 67108863) HT_ HW_ hHeld ?_;refine oo 26 (some 81) (lb 29 134217727) HT_ (fun K hK=>?_);refine gO func20 #[.agg #[iv ((q1F aE eA).f1.f0),.string ((q1F aE eA).f1.f1),iv ((q1F aE eA).f1.f2),sl eP ((q1F aE eA).f1.f3) eQ],.agg #[iv ((q1F bC eA).f1.f0),.string ((q1F bC eA).f1.f1),iv ((q1F bC eA).f1.f2),sl fJ ((q1F bC eA).f1.f3) fK]] ?_;with_reducible refine(q0Z.calls k2 ((q1F aE eA).f1.f0) ((q1F aE eA).f1.f1) ((q1F aE eA).f1.f2) _ _ ((q1F aE eA).f1.f3) ((q1F bC eA).f1.f0) ((q1F bC eA).f1.f1) ((q1F bC eA).f1.f2) _ _ ((q1F bC eA).f1.f3) true _ ?side1 ?side2 ?side3 ?side4 eJ.out).mono ?_
           (case side1=>exact cW (q0Y gP.out HB.out));(case side2=>exact gQ.out);(case side3=>exact cW (q0Y hJ.out HB.out));(case side4=>exact hL.out);rintro e w37 ⟨rfl,hb⟩;refine⟨_,rfl,?_⟩;replace cT:=kB cT hb;replace cX:=kB cX hb;replace HB:=bS (X17 HB cU cY) hb;(try clear hb hb2 hk hi);refine hK.out _ _ (b8 cT (b8 cX ⟨(q0s HB.out fD),(q0s HB.out fC),(q0s HB.out fB),(q0s HB.out fA),(q0s HB.out eZ),(q0s HB.out fW),(q0s HB.out fV),(q0s HB.out fU),(q0s HB.out fT),(q0s HB.out fS),(q0s HB.out gN),(q0s HB.out gM),(q0s HB.out gK),(q0s HB.out gJ),(q0s HB.out gI),(q0s HB.out hH),(q0s HB.out hG),(q0s HB.out hF),(q0s HB.out hE),(q0s HB.out hD)⟩)) (fun hHeld=>?_);clear hK K;refine q5f (a':=?_) ?_ ?_;rotate_left
           ·exact pA (some 81)
           refine pu 27 (some 82) (lb 29 268435455) HT_ ?_;refine pu 28 (some 83) (lb 29 536870911) HT_ ?_;refine q5N (q4z HT_.out X4) ?_;try go_wp2
           go_roundg k2
           case measure=>have:=dX.out;have:=eB.out;omega
           case rel=>exact⟨(wrap64 (eA+1)),X7,H',⟨by have:=dX.out;have:=eB.out;omega⟩,⟨(X9 cT)⟩,⟨(X9 cX)⟩,⟨(X17 HB cU cY)⟩⟩
          ·replace eK:=fI eK;subst eK;replace H:=tN H;exact absurd H (by simp)
         ·rw[if_neg eG]at H;have AC:=nF eG;have AD:=nT eG;exact absurd H (by simp)
        ·exact iN eE H
       ·exact iN eD H
      ·rw[if_neg eC]at H;have AB:=dF eC;clear eC;have H':=am H;clear H;have BU:=cZ.out;have BX:=dA.out;have hM:=bc8 cT;go_wp2
       go_loopg [6] k2 (fun kq v6 w'=>∃ (hO:Int),v6=iv hO∧q0i (q0D.l1 kq hO aA aE aI aM aQ aT aU aY aZ bC bF bI bJ bK bL bO=some r)∧q0i (kq≤k2)∧q0i (w'.heap[cS]?=some (.cells #[.string aA,(sl aC aE aD),(sl aG aI aH),(sl aJ aM aK),iv aQ,.string aT,iv aU,(sl aW aY aX)] 30 (0,0)))∧q0i (w'.heap[cV]?=some (.cells #[.string aZ,(sl bA bC bB),(sl bD bF bE),(sl bG bI bH),iv bJ,.string bK,iv bL,(sl bM bO bN)] 30 (0,0)))∧q0i (Below w.heap.size w w'))
       case atStart=>exact⟨(0),X7,H',⟨q0f _⟩,⟨(X9 cT)⟩,⟨(X9 cX)⟩,⟨(X17 HB cU cY)⟩⟩
       case round=>
        clear H';(try clear c1 p1 q1 hP c2);(try clear p2 p2);(try clear c3 p6 dR hU hV hX hY eC AB eD AO eE AP eG AC AD eK hZ iA dJ dK dL dM dN dO dP dQ eL hM dH dI eR eS eU eV eW fL fM fN fO fP gB gC gD gE gF gU gV gW gX gY eM fF fY gR eN fG fZ gS);obtain⟨hO,rfl,HA,iB,cT,cX,HB⟩:=hrel;cases gk with
        | zero=>exact absurd HA.out (by simp [q0D.l1])
        | succ k3=>
         have H:=HA.out;clear HA;simp only[q0D.l1]at H;by_cases iC:hO<(aI.length:Int)
         ·rw[if_pos iC]at H;have AQ:=dT iC;clear iC;by_cases iD:0≤hO
          ·rw[if_pos iD]at H;have AV:=dT iD;clear iD;by_cases iE:hO<(bF.length:Int)
           ·rw[if_pos iE]at H;have AW:=dT iE;clear iE;by_cases iF:(!((((q2K aI hO).f0).toList) == (((q2K bF hO).f0).toList)) || (!(((q2K aI hO).f1) == ((q2K bF hO).f1)) || (!(((q2K aI hO).f2) == ((q2K bF hO).f2)))))=true
            ·exact iP iF H
            ·rw[if_neg iF]at H;have AX:(!((((q2K aI hO).f0).toList) == (((q2K bF hO).f0).toList)) || (!(((q2K aI hO).f1) == ((q2K bF hO).f1)) || (!(((q2K aI hO).f2) == ((q2K bF hO).f2)))))=false:=by simpa using iF
             clear iF;have H':=am H;clear H;have BY:=cZ.out;have BZ:=dA.out;have iG:=bc8 cT;try go_wp2
             replace cT:=am (q0B cT.out);replace cX:=am (q0B cX.out);replace HB:=am (q1U HB.out);have iH:0≤(hO:Int):=q0a X16;have iI:hO<(aI.length:Int):=q0a X16;obtain⟨iJ,AY,iK,iL,iM⟩:=q5K cI.out hO iH iI;have iO:=iM;have iQ:=iL;have iR:=iK;cases AY;replace iK:=cB HB iK;replace iL:=cB HB iL;replace iM:=cB HB iM;replace iH:=q0c iH;replace iI:=q0c iI;have iS:0≤(hO:Int):=q0a X16;have iT:hO<(bF.length:Int):=q0a X16;obtain⟨iU,AZ,iV,iW,iX⟩:=q5K cN.out hO iS iT;have iY:=iX;have iZ:=iW;have jA:=iV;cases AZ;replace iV:=cB HB iV;replace iW:=cB HB iW;replace iX:=cB HB iX;replace iS:=q0c iS;replace iT:=q0c iT;refine q4P (n:=11) (S:=fun w'=>cc8 w' cS (.string aA) (sl aC aE aD) (sl (some iJ) aI aH) (sl aJ aM aK) (iv aQ) (.string aT) (iv aU) (sl aW aY aX) (cc8 w' cV (.string aZ) (sl bA bC bB) (sl (some iU) bF bE) (sl bG bI bH) (iv bJ) (.string bK) (iv bL) (sl bM bO bN) (w'.cell? (iJ.add ((hO).toNat*3))=some (.string ((q2K aI hO).f0))∧w'.cell? ⟨(iJ.add ((hO).toNat*3)).block,(iJ.add ((hO).toNat*3)).off+1,none⟩=some (iv ((q2K aI hO).f1))∧w'.cell? ⟨(iJ.add ((hO).toNat*3)).block,(iJ.add ((hO).toNat*3)).off+2,none⟩=some (iv ((q2K aI hO).f2))∧w'.cell? (iU.add ((hO).toNat*3))=some (.string ((q2K bF hO).f0))∧w'.cell? ⟨(iU.add ((hO).toNat*3)).block,(iU.add ((hO).toNat*3)).off+1,none⟩=some (iv ((q2K bF hO).f1))∧w'.cell? ⟨(iU.add ((hO).toNat*3)).block,(iU.add ((hO).toNat*3)).off+2,none⟩=some (iv ((q2K bF hO).f2))))) (ds:=[]) (lb 11 0) X4 rfl rfl (b8 cT (b8 cX ⟨(q0s HB.out iR),(q0s HB.out iQ),(q0s HB.out iO),(q0s HB.out jA),(q0s HB.out iZ),(q0s HB.out iY)⟩)) (fun hHeld=>?_);refine q3W q0D.tab11 q0D.bits11 (fun HT_ HW_=>?_);generalize wr.drew=w46 at cT cX HB iK iL iM iV iW iX hHeld ⊢
             refine pu 0 (some 91) (lb 11 1) HT_ ?_;refine pu 2 (some 93) (lb 11 5) HT_ ?_;refine pu 5 (some 96) (lb 11 37) HT_ ?_;refine pu 7 (some 98) (lb 11 165) HT_ ?_;refine tk 1 (some 92) (lb 11 167) HT_ HW_ hHeld ?_;refine pu 3 (some 94) (lb 11 175) HT_ ?_;refine tk 4 (some 95) (lb 11 191) HT_ HW_ hHeld ?_;refine tk 6 (some 97) (lb 11 255) HT_ HW_ hHeld ?_;refine pu 8 (some 99) (lb 11 511) HT_ ?_;refine tk 9 (some 100) (lb 11 1023) HT_ HW_ hHeld ?_;refine pu 10 (some 101) (lb 11 2047) HT_ ?_;refine q5N (q4z HT_.out X4) ?_;try go_wp2
             go_roundg k3
             case measure=>have:=dX.out;have:=eB.out;have:=iB.out;omega
             case rel=>exact⟨(wrap64 (hO+1)),X7,H',⟨by have:=dX.out;have:=eB.out;have:=iB.out;omega⟩,⟨(X9 cT)⟩,⟨(X9 cX)⟩,⟨(X17 HB cU cY)⟩⟩
           ·exact iN iE H
          ·exact iN iD H
         ·rw[if_neg iC]at H;have AQ:=dF iC;clear iC;have H':=am H;clear H;have CA:=cZ.out;have CB:=dA.out;have jB:=bc8 cT;go_wp2
          go_loopg [7] k3 (fun kq v7 w'=>∃ (jC:Int),v7=iv jC∧q0i (q0D.l2 kq jC aA aE aI aM aQ aT aU aY aZ bC bF bI bJ bK bL bO=some r)∧q0i (kq≤k3)∧q0i (w'.heap[cS]?=some (.cells #[.string aA,(sl aC aE aD),(sl aG aI aH),(sl aJ aM aK),iv aQ,.string aT,iv aU,(sl aW aY aX)] 30 (0,0)))∧q0i (w'.heap[cV]?=some (.cells #[.string aZ,(sl bA bC bB),(sl bD bF bE),(sl bG bI bH),iv bJ,.string bK,iv bL,(sl bM bO bN)] 30 (0,0)))∧q0i (Below w.heap.size w w'))
          case atStart=>exact⟨(0),X7,H',⟨q0f _⟩,⟨(X9 cT)⟩,⟨(X9 cX)⟩,⟨(X17 HB cU cY)⟩⟩
          case round=>
           clear H';(try clear c1);(try clear p1 p1);(try clear q1 q1);(try clear hP c2);(try clear p2 p2);(try clear c3 c4);(try clear p6 p6);(try clear dR);(try clear hU hU);(try clear hV hV);(try clear hX hY eC AB eD AO eE AP eG AC AD eK hZ iA iC AQ iD AV iE AW iF AX c44 c47 dJ dK dL dM dN dO dP dQ eL hM iG jB dH dI eR eS eU eV eW fL fM fN fO fP gB gC gD gE gF gU gV gW gX gY iK iL iM iV iW iX eM fF fY gR iH iS eN fG fZ gS iI iT);obtain⟨jC,rfl,HA,jD,cT,cX,HB⟩:=hrel;cases gk with
           | zero=>exact absurd HA.out (by simp [q0D.l2])
           | succ k4=>
            have H:=HA.out;clear HA;simp only[q0D.l2]at H;by_cases jE:jC<(aM.length:Int)
            ·rw[if_pos jE]at H;have BA:=dT jE;clear jE;by_cases jF:0≤jC
             ·rw[if_pos jF]at H;have CC:=dT jF;clear jF;by_cases jG:jC<(bI.length:Int)
              ·rw[if_pos jG]at H;have CD:=dT jG;clear jG;obtain⟨jH,jJ,H⟩:=oA H;(try dsimp only at H);by_cases jK:jH=true
               ·subst jK;replace H:=tP H;have H':=am H;clear H;have CE:=cZ.out;have CF:=dA.out;have Z55:=bc8 cT;try go_wp2
                replace cT:=am (q0B cT.out);replace cX:=am (q0B cX.out);replace HB:=am (q1U HB.out);have jL:0≤(jC:Int):=q0a X16;have jM:jC<(aM.length:Int):=q0a X16;obtain⟨jN,jO,jP,BB,jQ,jR,jS⟩:=q5o cJ.out jC jL jM;have jT:=jQ;cases BB;replace jQ:=cB HB jQ;have jU:=am jS;have jV:=am jR;clear jS jR;replace jL:=q0c jL;replace jM:=q0c jM;have jW:0≤(jC:Int):=q0a X16;have jX:jC<(bI.length:Int):=q0a X16;obtain⟨jY,jZ,kA,BC,kC,kD,kE⟩:=q5o cO.out jC jW jX;have kF:=kC;cases BC;replace kC:=cB HB kC;have kH:=am kE;have kI:=am kD;clear kE kD;replace jW:=q0c jW;replace jX:=q0c jX;refine q4P (n:=12) (S:=fun w'=>cc8 w' cS (.string aA) (sl aC aE aD) (sl aG aI aH) (sl (some jN) aM aK) (iv aQ) (.string aT) (iv aU) (sl aW aY aX) (cc8 w' cV (.string aZ) (sl bA bC bB) (sl bD bF bE) (sl (some jY) bI bH) (iv bJ) (.string bK) (iv bL) (sl bM bO bN) (w'.cell? (jN.add (jC).toNat)=some (sl jO (q2Y aM jC) jP)∧w'.cell? (jY.add (jC).toNat)=some (sl jZ (q2Y bI jC) kA)))) (ds:=[]) (lb 12 0) X4 rfl rfl (b8 cT (b8 cX ⟨(q0s HB.out jT),(q0s HB.out kF)⟩)) (fun hHeld=>?_);refine q3W q0D.tab16 q0D.bits16 (fun HT_ HW_=>?_);generalize wr.drew=w56 at cT cX HB jU kH jQ kC hHeld ⊢
                refine pu 0 (some 109) (lb 12 1) HT_ ?_;refine pu 2 (some 111) (lb 12 5) HT_ ?_;refine pu 5 (some 114) (lb 12 37) HT_ ?_;refine pu 7 (some 116) (lb 12 165) HT_ ?_;refine tk 1 (some 110) (lb 12 167) HT_ HW_ hHeld ?_;refine pu 3 (some 112) (lb 12 175) HT_ ?_;refine tk 4 (some 113) (lb 12 191) HT_ HW_ hHeld ?_;refine tk 6 (some 115) (lb 12 255) HT_ HW_ hHeld ?_;refine pu 8 (some 117) (lb 12 511) HT_ ?_;refine tk 9 (some 118) (lb 12 1023) HT_ HW_ hHeld ?_;refine oo 10 (some 119) (lb 12 2047) HT_ (fun K hK=>?_);refine gO func30 #[sl jO (q2Y aM jC) jP,sl jZ (q2Y bI jC) kA] ?_;with_reducible refine(q2O.calls k4 _ _ (q2Y aM jC) _ _ (q2Y bI jC) true _ ?side1 ?side2 ?side3 ?side4 jJ.out).mono ?_
                (case side1=>exact cW (q0Y jU.out HB.out));(case side2=>exact jV.out);(case side3=>exact cW (q0Y kH.out HB.out));(case side4=>exact kI.out);rintro e w' ⟨rfl,⟨nd,rfl⟩⟩;refine⟨_,rfl,?_⟩;refine hK.out _ _ (b8 cT (b8 cX ⟨(q0s HB.out jT),(q0s HB.out kF)⟩)) (fun hHeld=>?_);clear hK K;refine q5f (a':=?_) ?_ ?_;rotate_left
                ·exact pA (some 119)
                refine pu 11 (some 120) (lb 12 4095) HT_ ?_;refine q5N (q4z HT_.out X4) ?_;try go_wp2
                go_roundg k4
                case measure=>have:=dX.out;have:=eB.out;have:=iB.out;have:=jD.out;omega
                case rel=>exact⟨(wrap64 (jC+1)),X7,H',⟨by have:=dX.out;have:=eB.out;have:=iB.out;have:=jD.out;omega⟩,⟨(X9 cT)⟩,⟨(X9 cX)⟩,⟨(X17 HB cU cY)⟩⟩
               ·replace jK:=fI jK;subst jK;replace H:=tN H;exact absurd H (by simp)
              ·exact iN jG H
             ·exact iN jF H
            ·rw[if_neg jE]at H;have BA:=dF jE;clear jE;obtain rfl:=q0d H;have CG:=cZ.out;have CH:=dA.out;have Z58:=bc8 cT;go_wp2
             go_ret
             exact⟨X11,(X17 HB cU cY)⟩
set_option maxHeartbeats 1000000 in
/-- q5B at a builder that has been used: nothing turns. -/
theorem q6P (b:Nat) (w:World) (h0:w.cell? ⟨b,0,none⟩=some (.pointer (some ⟨b,0,none⟩))) :
  Calls prog 69 #[.pointer (some ⟨b,0,none⟩)] w fun e w'=>e=.returned (.tuple #[])∧w'=w:=by
 obtain⟨j,hj,_⟩:=Option.map_eq_some_iff.1 (show(Tryz.prog.info? 74).map (·.size)=some 2 by kernel_rfl);have u71:=run_underlying underlying71;have u74:=run_underlying underlying74;have u115:=run_underlying underlying115;go_enter func69,ntmps69;go_wp2
 rw[Lib.run_neq_ptr_same w _ underlying71 hj];go_wp2
 go_end0
 exact⟨rfl,rfl⟩
set_option maxHeartbeats 1000000 in
/-- q5B at a fresh builder: it stores its own address. -/
theorem q6F (b:Nat) (w:World) (h0:w.cell? ⟨b,0,none⟩=some (.pointer none)) (hsh:w.shape? b=some (74,2)) (hfz:w.frozen? ⟨b,0,none⟩=false) :
  Calls prog 69 #[.pointer (some ⟨b,0,none⟩)] w fun e w'=>e=.returned (.tuple #[])∧w'=w.setCell ⟨b,0,none⟩ (.pointer (some ⟨b,0,none⟩)):=by
 obtain⟨j,hj,hjs⟩:=Option.map_eq_some_iff.1 (show(Tryz.prog.info? 74).map (·.size)=some 2 by kernel_rfl);have u71:=run_underlying underlying71;have u74:=run_underlying underlying74;have u115:=run_underlying underlying115;go_enter func69,ntmps69;go_wp2
 rw[Lib.run_to_unsafe w ⟨b,0,none⟩ underlying71 underlying115 hj (by rw[hjs];decide) hsh (Nat.zero_lt_succ 1)];simp only[Result.andThen];rw[Oper.upon_value];go_wp2
 rw[run_callFunc_extern func96 X4 X4 X4 (e:=Extern.AbiNoEscape.same) X4];rw[Lib.run_noEscape];simp only[Result.andThen];rw[Oper.upon_value];go_wp2
 rw[Lib.run_from_unsafe w ⟨b,0,none⟩ underlying115 underlying71 hj hsh X4];simp only[Result.andThen];rw[Oper.upon_value];go_wp2
 go_end0
 exact⟨rfl,rfl⟩
/-- q5B: behind it the builder is used; its bytes are as they were. -/
theorem q5B (B b:Nat) (bs:List Value) (w:World) (h:Lib.IsBuilder 74 5 B b bs w) :
  Calls prog 69 #[.pointer (some ⟨b,0,none⟩)] w fun e w'=>e=.returned (.tuple #[])∧(Lib.BuilderAt 74 5 B b (.pointer (some ⟨b,0,none⟩)) bs w'∧Below B w w'):=by
 rcases h with h|h
 ·refine(q6F b w h.cell0 h.shape h.frozen0).mono ?_;rintro e w' ⟨rfl,rfl⟩;exact⟨rfl,h.used _,(q0r B w).setCell (p:=⟨b,0,none⟩) h.1 _⟩
 ·refine(q6P b w h.cell0).mono ?_;rintro e w' ⟨rfl,rfl⟩;exact⟨rfl,h,q0r B _⟩
theorem q8O:∃ i0,Tryz.prog.info? 5=some i0∧i0.zero=some (.int .u8 0)∧i0.size=1∧i0.bytes=1:=by
 obtain⟨i,hi,h⟩:=Option.map_eq_some_iff.1 (show(Tryz.prog.info? 5).map (fun i=>(i.zero,i.size,i.bytes))=some (some (.int .u8 0),1,1) by kernel_rfl);injection h with h1 h2;injection h2 with h2 h3;exact⟨i,hi,h1,h2,h3⟩
set_option maxHeartbeats 1000000 in
/-- WriteString puts the letters behind what the builder holds. -/
theorem q7O (B b:Nat) (bs:List Value) (s:q0b) (w:World) (h:Lib.IsBuilder 74 5 B b bs w) (hlen:bs.length+s.size≤140737488355328) (hBw:B≤w.heap.size) :
  Calls prog 32 #[.pointer (some ⟨b,0,none⟩),.string s] w fun e w'=>e=.returned (.tuple #[iv s.size,.nilIface])∧(Lib.BuilderAt 74 5 B b (.pointer (some ⟨b,0,none⟩)) (bs++Lib.strCells s) w'∧Below B w w'):=by
 obtain⟨i0,hi,aA,aC,aD⟩:=q8O;have u71:=run_underlying underlying71;have u74:=run_underlying underlying74;have u72:=run_underlying underlying72;have u9:=run_underlying underlying9;have u5:=run_underlying underlying5;have ecc:∀ args w,(callFunc 69 args).run prog w=.ok (.enter 69 args) w:=enters_of func69 X4 rfl;go_enter func32,ntmps32;go_wp2_with (go_at_fn 69;refine(q5B B b bs _ h).mono ?_)
 rintro e w1 ⟨rfl,h1,aE⟩;obtain⟨hB,v,hbk,hown,hne⟩:=h1;have c0:w1.cell? ⟨b,0,none⟩=some (.pointer (some ⟨b,0,none⟩)):=by rw[Lib.cell_of_heap hbk];rfl
 have c1:w1.cell? ⟨b,1,none⟩=some v:=by rw[Lib.cell_of_heap hbk];rfl
 go_wp2_with (at_builtin;refine Lib.wpList_append_own_string _ rfl _ _ 72 9 rfl B 5 i0 underlying72 underlying9 hi aA aC aD _ _ _ rfl hown s rfl ?c3 ?c4 ?c5 ?_)
 case c3=>unfold maxLen;omega
 case c4=>omega
 case c5=>have:=aE.size;omega
 intro v' w2 hown' hgrow _;have hlt:b<w1.heap.size:=by
  rcases Nat.lt_or_ge b w1.heap.size with h'|h'
  ·exact h'
  ·simp [Array.getElem?_eq_none h']at hbk
 have aG:w2.heap[b]?=some (.cells #[.pointer (some ⟨b,0,none⟩),v] 74 (0,0)):=by
  rw[hgrow.block b hlt (fun e=>hne e.symm)];exact hbk
 have d0:w2.cell? ⟨b,0,none⟩=some (.pointer (some ⟨b,0,none⟩)):=by rw[Lib.cell_of_heap aG];rfl
 have d1:w2.cell? ⟨b,1,none⟩=some v:=by rw[Lib.cell_of_heap aG];rfl
 have f1:w2.frozen? ⟨b,1,none⟩=false:=Lib.frozen_of_heap aG 1;obtain⟨ao,n',cap,rfl⟩:∃ ao n' cap,v'=.slice ao n' cap:=by
  rcases hown'.2 with ⟨hv,_⟩|⟨g,cap,cur,hv,_⟩
  ·exact⟨_,_,_,hv⟩
  ·exact⟨_,_,_,hv⟩
 go_wp2
 go_ret2
 refine⟨rfl,?_,?_⟩
 ·exact Lib.BuilderAt.put (T:=74) (e:=5) hB aG (bs':=bs++Lib.strCells s) (by simpa [Lib.strCells_length] using hown') (by decide)
 ·exact(aE.grown hgrow (by have:=aE.size;omega) (fun k hk=>(hown.lt k hk).1)).setCell (p:=⟨b,1,none⟩) hB _
/-- A builder of a block of one's own, holding these letters. -/
def BIs (b:Nat) (s:q0b) (w:World):Prop:=Lib.IsBuilder 74 5 b b (Lib.strCells s) w
/-- Its two blocks. -/
theorem BIs.two {b:Nat} {s:q0b} {w:World} (h:BIs b s w):∃ p v,w.heap[b]?=some (.cells #[p,v] 74 (0,0))∧∀ k,v.ownBlock=some k→∃ cs,w.heap[k]?=some (.cells cs 5 (0,0)):=by
 have key:∀ p,Lib.BuilderAt 74 5 b b p (Lib.strCells s) w→∃ p v,w.heap[b]?=some (.cells #[p,v] 74 (0,0))∧∀ k,v.ownBlock=some k→∃ cs,w.heap[k]?=some (.cells cs 5 (0,0)):=by
  rintro p ⟨_,v,hb,hown,_⟩;refine⟨p,v,hb,fun k hk=>?_⟩;rcases hown.2 with ⟨rfl,_⟩|⟨g,cap,cur,rfl,_,hg,_⟩
  ·simp [Value.ownBlock]at hk
  ·simp only[Value.ownBlock,Option.some.injEq]at hk;subst hk;exact⟨cur,hg⟩
 rcases h with h|h
 ·exact key _ h
 ·exact key _ h
theorem BIs.of {b:Nat} {s:q0b} {w w':World} (h:BIs b s w) (hk:∀ (k:Nat) (cs:Array Value) (T:TypeId),w.heap[k]?=some (Obj.cells cs T (0,0))→T=74∨T=5→w'.heap[k]?=w.heap[k]?):BIs b s w':=by
 have key:∀ p,Lib.BuilderAt 74 5 b b p (Lib.strCells s) w→Lib.BuilderAt 74 5 b b p (Lib.strCells s) w':=by
  rintro p ⟨hB,v,hb,hown,hne⟩;refine⟨hB,v,(hk _ _ _ hb (.inl rfl)).trans hb,⟨hown.1,?_⟩,hne⟩;rcases hown.2 with hn|⟨g,cap,cur,rfl,h1,hg,h2,h3,h4,h5⟩
  ·exact .inl hn
  ·exact .inr ⟨g,cap,cur,rfl,h1,(hk _ _ _ hg (.inr rfl)).trans hg,h2,h3,h4,h5⟩
 exact h.imp (key _) (key _)
theorem q7b {w:World} {k:Nat} {o:Obj} (h:w.heap[k]?=some o):k<w.heap.size:=(Array.getElem?_eq_some_iff.1 h).1
theorem BIs.below {b:Nat} {s:q0b} {w w':World} (h:BIs b s w) (hb:Below w.heap.size w w'):BIs b s w':=h.of fun k cs T hc _=>hb.block k (q7b hc)
theorem BIs.alloc {b:Nat} {s:q0b} {w:World} (h:BIs b s w) (o:Obj):BIs b s (w.alloc o):=h.of fun k cs T hc _=>Lib.alloc_old w o k (q7b hc)
theorem BIs.drew {b:Nat} {s:q0b} {w:World} (h:BIs b s w):BIs b s w.drew:=h
theorem BIs.drewN {b:Nat} {s:q0b} {w:World} (h:BIs b s w) (n:Nat):BIs b s (w.drewN n):=h
/-- Growth of a row of another type. -/
theorem BIs.grown {b:Nat} {s:q0b} {w w':World} {row:Option Nat} (h:BIs b s w) (hg:w.grownBy w' row) (hr:∀ (k:Nat) (cs:Array Value) (T:TypeId),w.heap[k]?=some (Obj.cells cs T (0,0))→T=74∨T=5→row≠some k):BIs b s w':=
 h.of fun k cs T hc ht=>hg.block k (q7b hc) (fun e=>hr k cs T hc ht e.symm)
theorem BIs.lt {b:Nat} {s:q0b} {w:World} (h:BIs b s w):b<w.heap.size:=by
 obtain⟨p,v,hb,_⟩:=h.two;exact q7b hb
theorem BIs.fresh (w:World):BIs w.heap.size ⟨#[]⟩ (w.alloc (.cells #[.pointer none,.slice none 0 0] 74)):=Lib.fresh_isBuilder 74 5 w
theorem q7o (a b:q0b):Lib.strCells (a++b)=Lib.strCells a++Lib.strCells b:=by
 unfold Lib.strCells;simp
/-- WriteString. -/
theorem BIs.write {b:Nat} {o s:q0b} {w:World} (h:BIs b o w) (hlen:o.size+s.size≤140737488355328) :
  Calls prog 32 #[.pointer (some ⟨b,0,none⟩),.string s] w fun e w'=>e=.returned (.tuple #[iv s.size,.nilIface])∧BIs b (o++s) w'∧Below b w w':=by
 refine(q7O b b _ s w h (by rw[Lib.strCells_length];exact hlen) (Nat.le_of_lt h.lt)).mono ?_;rintro e w' ⟨rfl,h1,h2⟩;refine⟨rfl,.inr ?_,h2⟩;rw[q7o];exact h1
/-- String. -/
theorem BIs.string {b:Nat} {o:q0b} {w:World} (h:BIs b o w):Calls prog 36 #[.pointer (some ⟨b,0,none⟩)] w fun e w'=>e=.returned (.string o)∧Below b w w':=by
 have h':Lib.IsBuilder 74 5 b b (Lib.byteCells o.data.toList) w:=h;refine(Tryz.Builder_String_any b b o.data.toList w h' (Nat.le_of_lt h.lt)).mono ?_;rintro e w' ⟨rfl,h1⟩;exact⟨by cases o;simp,h1⟩
section
variable {P:Program} {ops:Array Oper} {Q:Exit→Act→World→Prop}
/-- A call of a closure that lies in a slot, in a plain region. -/
theorem v0v {t : Tmp} {rest : List Oper} {oi : Oper} {a : Act} {w : World} (N : Option Tmp) (hd : oi.dst = N) (hg : oi.guard = none) {f : FuncId} {fn : Func} {xs : Array Operand} {ts : Array TypeId} (cap : Array Value) (hf : P.funcs[f]? = some fn) (hname : (fn.name == "runtime.NumGoroutine") = false) (hb : fn.body.isSome = true) (args : Array Value)
  (hop:oi.op=.call {callee:=.value (.tmp t),args:=xs,argTypes:=ts}) (hargs:xs.map a.eval++cap=args) (hv:a.eval (.tmp t)=.func (.func f) #[] cap)
  (h:Calls P f args w fun e w'=>∃ v,e=.returned v∧wpList P ops Q rest (a.put N v) w'):wpList P ops Q (oi::rest) a w:=by
 refine wpList_plain hg fun K hK=>?_;have he:=q7x hf hname hb args w;have hrun:(execOp a.eval oi).run P w=.ok (.enter f args) w:=by
  unfold execOp;simp [hop,resolve,Deferred.ofValue,invoke,hv,hargs,he]
 unfold Oper.wp;rw[hrun,Oper.upon_enter];refine h.mono fun e w'' hh=>?_;obtain⟨v,rfl,hk⟩:=hh;subst hd;exact hK _ _ hk
/-- .. in a region that draws. -/
theorem v2C {t : Tmp} {oi : Oper} {N : Option Tmp} {a : Act} {w : World} {K : Act → World → Prop} {f : FuncId} {fn : Func} {xs : Array Operand} {ts : Array TypeId} (cap : Array Value) (hf : P.funcs[f]? = some fn) (hname : (fn.name == "runtime.NumGoroutine") = false) (hb : fn.body.isSome = true) (args : Array Value)
  (hw:Region.wanted oi (yielded ops a.tmps)=true) (hN:oi.dst=N) (hop:oi.op=.call {callee:=.value (.tmp t),args:=xs,argTypes:=ts}) (hargs:xs.map a.eval++cap=args) (hv:a.eval (.tmp t)=.func (.func f) #[] cap)
  (h:Calls P f args w fun e w'=>∃ v,e=.returned v∧K (a.put N v) w'):if Region.wanted oi (yielded ops a.tmps)=true then Oper.wp P oi a w K Q else K (a.put N undef) w:=by
 refine call_ f args hw hN ?_ h;have he:=q7x hf hname hb args w;unfold execOp;simp [hop,resolve,Deferred.ofValue,invoke,hv,hargs,he]
end
/-- The line of an item. -/
def itm (u:q0b):q0b:=((⟨#[32,32]⟩:q0b)++u)++(⟨#[32,59,10]⟩:q0b)
theorem q5C (u:q0b):(itm u).size=u.size+5:=by
 unfold itm;rw[ByteArray.size_append,ByteArray.size_append];show 2+u.size+3=_;omega
theorem q6c (b:Nat) (o u:q0b) (A0:Option Addr) (c0:Nat) (l0:List q0b) (w:World) (aA:Kd.C Kd.string w A0 l0.length l0) (aC:l0.length≤c0) (hB:BIs b o w) (hu:q4o.f l0 (⟨#[32]⟩:q0b)=some u) (hz:o.size+u.size+5≤140737488355328) :
  Calls prog 31 #[sl A0 l0 c0,.pointer (some ⟨b,0,none⟩)] w fun e w'=>e=.returned (.tuple #[])∧BIs b (o++itm u) w'∧Below b w w':=by
 have aD:=am aA;have aE:=am aC;have A2:=am hu;have HS:=am hB;clear aA aC hu hB;have c3:2+u.size≤9223372036854775807:=by omega
 have c3b0:=q0c c3;have c3b1:decide (2+u.size≤9223372036854775807)=true:=q0p c3;have c3b2:(9223372036854775807<2+u.size)=False:=eq_false (q1D.2 c3);have c4:((⟨#[32,32]⟩:q0b)++u).size+3≤9223372036854775807:=by rw[ByteArray.size_append];show 2+u.size+3≤_;omega
 have c4b0:=q0c c4;have c4b1:decide (((⟨#[32,32]⟩:q0b)++u).size+3≤9223372036854775807)=true:=q0p c4;have c4b2:(9223372036854775807<((⟨#[32,32]⟩:q0b)++u).size+3)=False:=eq_false (q1D.2 c4);have c4b3:=c4b2;simp only[ByteArray.size_append,bs1,bs2]at c4b3;have hlt:=HS.out.lt;go_enter func31,ntmps31;go_wp2_with (first|((with_reducible refine gc 33 ?_);refine q5A (some 4) rfl rfl func33 X4 rfl #[sl A0 l0 c0,.string ⟨#[32]⟩] rfl X62 ?_;(with_reducible refine(q4o.calls _ _ l0 (⟨#[32]⟩:q0b) u _ ?side1 ?side2 A2.out).mono ?_);(case side1=>exact X21);(case side2=>exact aE.out);rintro e w2 ⟨rfl,hb⟩;refine⟨_,rfl,?_⟩;have HB:=am hb;have aG:=am (HS.out.below hb);clear hb)|((with_reducible refine gc 32 ?_);refine q5A (some 7) rfl rfl func32 X4 rfl #[.pointer (some ⟨b,0,none⟩),.string (itm u)] rfl X62 ?_;(with_reducible refine(aG.out.write (s:=itm u) ?side3).mono ?_);(case side3=>rw[q5C];omega);rintro e w3 ⟨rfl,hi,hb⟩;refine⟨_,rfl,?_⟩))
 go_end0
 exact⟨rfl,hi,⟨hb.os.trans HB.out.os,hb.tape.trans HB.out.tape,hb.output.trans HB.out.output,q0m HB.out.size hb.size,fun k hk=>(hb.block k hk).trans (HB.out.block k (by omega))⟩⟩
/-- An item's line put behind what stands, unless it grows too great. -/
def put1 (o:q0b) (ws:List q0b) (K:q0b→Option (q0b × Int)):Option (q0b × Int):=
 (q4o.f ws (⟨#[32]⟩:q0b)).bind fun u=>if o.size+u.size+5≤1000000000000 then K (o++itm u) else none
mutual
def q1Q.l0:Nat→q0b→Int→List (S68)→List (S70)→List (List q0b)→Int→q0b→Int→List (S28)→Option (q0b × Int)
 | 0,_,_,_,_,_,_,_,_,_=>none
 | k+1,o,i,l1,l2,l3,a4,a5,a6,l7=>if i<(l1.length:Int) then (if 0≤i then ((q2C.f k ((q1F l1 i).f1.f0) ((q1F l1 i).f1.f1) ((q1F l1 i).f1.f2) ((q1F l1 i).f1.f3)).bind fun t=>(if t.length<1000000000000 then put1 o ([(⟨#[102,111,111,116]⟩:q0b),(q1F l1 i).f0,(⟨#[61]⟩:q0b)]++t) (fun o'=>q1Q.l0 k o' (wrap64 (i+1)) l1 l2 l3 a4 a5 a6 l7) else none)) else none) else q1Q.l1 k o 0 l1 l2 l3 a4 a5 a6 l7
def q1Q.l1:Nat→q0b→Int→List (S68)→List (S70)→List (List q0b)→Int→q0b→Int→List (S28)→Option (q0b × Int)
 | 0,_,_,_,_,_,_,_,_,_=>none
 | k+1,o,i,l1,l2,l3,a4,a5,a6,l7=>if i<(l2.length:Int) then (if 0≤i then ((q2J.f k (q2K l2 i).f1).bind fun s=>(q2J.f k (q2K l2 i).f2).bind fun t=>put1 o [(⟨#[99,111,117,110,116]⟩:q0b),(q2K l2 i).f0,s,t] (fun o'=>q1Q.l1 k o' (wrap64 (i+1)) l1 l2 l3 a4 a5 a6 l7)) else none) else ((q2C.f k a4 a5 a6 l7).bind fun t=>(if t.length<1000000000000 then put1 o ([(⟨#[108,105,110,101]⟩:q0b),(⟨#[61]⟩:q0b)]++t) (fun o'=>q1Q.l2 k o' 0 l1 l2 l3 a4 a5 a6 l7) else none))
def q1Q.l2:Nat→q0b→Int→List (S68)→List (S70)→List (List q0b)→Int→q0b→Int→List (S28)→Option (q0b × Int)
 | 0,_,_,_,_,_,_,_,_,_=>none
 | k+1,o,i,l1,l2,l3,a4,a5,a6,l7=>if i<(l3.length:Int) then (if 0≤i then (if (q2Y l3 i).length<1000000000000 then put1 o ([(⟨#[115,111,109,101]⟩:q0b)]++q2Y l3 i) (fun o'=>q1Q.l2 k o' (wrap64 (i+1)) l1 l2 l3 a4 a5 a6 l7) else none) else none) else (if o.size+2≤1000000000000 then some (o++(⟨#[125,10]⟩:q0b),0) else none)
end
def q1Q.f (k:Nat) (a0:q0b) (l1:List (S68)) (l2:List (S70)) (l3:List (List q0b)) (a4:Int) (a5:q0b) (a6:Int) (l7:List (S28)):Option (q0b × Int):=
 (q1j.f k a0 l1 l2 l3 a4 a5 a6 l7).bind fun t=>if t=0 then (if a0.size≤1000000000000 then q1Q.l0 k (((⟨#[109,101,116,114,101,32]⟩:q0b)++a0)++(⟨#[32,123,10]⟩:q0b)) 0 l1 l2 l3 a4 a5 a6 l7 else none) else some ((⟨#[]⟩:q0b),t)
/-- What stands while metre.Format writes: the argument's block, the builder, all below. -/
structure Fm (w:World) (gm b:Nat) (cs:Array Value) (o:q0b) (w1:World):Prop where
 bm:w1.heap[gm]?=some (.cells cs 30 (0,0))
 is:BIs b o w1
 bl:Below w.heap.size w w1
 gw:w.heap.size≤gm
 gb:gm<b
section
variable {w w1 w2:World} {gm b:Nat} {cs:Array Value} {o o':q0b}
theorem Fm.below (h:Fm w gm b cs o w1) (hb:Below w1.heap.size w1 w2):Fm w gm b cs o w2:=⟨q4s h.bm hb,h.is.below hb,q6J h.bl hb,h.gw,h.gb⟩
theorem Fm.drew (h:Fm w gm b cs o w1):Fm w gm b cs o w1.drew:=⟨q0B h.bm,h.is.drew,q1U h.bl,h.gw,h.gb⟩
theorem Fm.item (h:Fm w gm b cs o w1) (hi:BIs b o' w2) (hb:Below b w1 w2):Fm w gm b cs o' w2:=
 ⟨(hb.block gm h.gb).trans h.bm,hi,⟨hb.os.trans h.bl.os,hb.tape.trans h.bl.tape,hb.output.trans h.bl.output,q0m h.bl.size hb.size,fun k hk=>(hb.block k (by have:=h.gw;have:=h.gb;omega)).trans (h.bl.block k hk)⟩,h.gw,h.gb⟩
theorem Fm.last (h:Fm w gm b cs o w1) (hb:Below b w1 w2):Below w.heap.size w w2:=⟨hb.os.trans h.bl.os,hb.tape.trans h.bl.tape,hb.output.trans h.bl.output,q0m h.bl.size hb.size,fun k hk=>(hb.block k (by have:=h.gw;have:=h.gb;omega)).trans (h.bl.block k hk)⟩
theorem Fm.grown {row:Option Nat} (h:Fm w gm b cs o w1) (hg:w1.grownBy w2 row) (hb:Below w.heap.size w w2) (hr:∀ (k:Nat) (cs:Array Value) (T:TypeId),w1.heap[k]?=some (Obj.cells cs T (0,0))→T=74∨T=5∨T=30→some k≠row):Fm w gm b cs o w2:=
 ⟨q4T h.bm hg (hr _ _ _ h.bm (.inr (.inr rfl))),h.is.grown hg (fun k cs T hc ht=>(hr k cs T hc (ht.imp id .inl)).symm),hb,h.gw,h.gb⟩
end

def q1Q.T10:Bool × List (List Nat × List Nat):=(true,[([],[]),([],[]),([1],[1]),([2],[2]),([],[]),([4],[4]),([5],[5]),([3,6,6],[3,6]),([0,7,7],[0,7])])
def q1Q.B10:List Nat:=[0,0,2,6,0,16,48,126,255]
theorem q1Q.tab10:rtab .any (q5Z Tryz.f9 10)=q1Q.T10:=by kernel_rfl
theorem q1Q.bits10:q4i q1Q.T10.2 q1Q.B10=true:=by kernel_rfl
def q1Q.T15:Bool × List (List Nat × List Nat):=(true,[([],[]),([],[]),([1],[1]),([],[]),([3],[3]),([4],[4]),([],[]),([6],[6]),([7,5],[7]),([2,5,8],[2,5,8]),([0,9,8],[0,9])])
def q1Q.B15:List Nat:=[0,0,2,0,8,24,0,64,248,510,1023]
theorem q1Q.tab15:rtab .any (q5Z Tryz.f9 15)=q1Q.T15:=by kernel_rfl
theorem q1Q.bits15:q4i q1Q.T15.2 q1Q.B15=true:=by kernel_rfl
theorem q1Q.calls (k:Nat) (a0:q0b) (A1:Option Addr) (c1:Nat) (l1:List (S68)) (A2:Option Addr) (c2:Nat) (l2:List (S70)) (A3:Option Addr) (c3:Nat) (l3:List (List q0b)) (a4:Int) (a5:q0b) (a6:Int) (A7:Option Addr) (c7:Nat) (l7:List (S28)) (r1:q0b) (r2:Int) (w:World) (aA:Kd.C k68 w A1 l1.length l1) (aC:l1.length≤c1) (aD:Kd.C k70 w A2 l2.length l2) (aE:l2.length≤c2) (aG:Kd.C (Kd.slice 9 Kd.string) w A3 l3.length l3) (aH:l3.length≤c3) (aI:Kd.C k28 w A7 l7.length l7) (aJ:l7.length≤c7) (h:q1Q.f k a0 l1 l2 l3 a4 a5 a6 l7=some (r1,r2)) :
  Calls prog 9 #[.agg #[.string a0,sl A1 l1 c1,sl A2 l2 c2,sl A3 l3 c3,iv a4,.string a5,iv a6,sl A7 l7 c7]] w fun e w'=>e=.returned (.tuple #[.string r1,iv r2])∧Below w.heap.size w w':=by
 have hu30:=underlying30;have hu28:=underlying28;have hu68:=underlying68;have hu70:=underlying70;have aK:=am aA;have aM:=am aC;have aQ:=am aD;have aT:=am aE;have aU:=am aG;have aW:=am aH;have aX:=am aI;have aY:=am aJ;clear aA aC aD aE aG aH aI aJ;have HB:=am (q0r w.heap.size w);unfold q1Q.f at h;obtain⟨t,B0,H⟩:=Option.bind_eq_some_iff.mp h;clear h;have BV:=am B0;clear B0;by_cases ct:t=0
 ·subst ct;rw[if_pos rfl]at H;by_cases cz:a0.size≤1000000000000
  ·rw[if_pos cz]at H;have d1:6+a0.size≤9223372036854775807:=by omega
   have d1b0:=q0c d1;have d1b2:(9223372036854775807<6+a0.size)=False:=eq_false (q1D.2 d1);have d2:((⟨#[109,101,116,114,101,32]⟩:q0b)++a0).size+3≤9223372036854775807:=by rw[ByteArray.size_append];show 6+a0.size+3≤_;omega
   have d2b0:=q0c d2;have d2b2:(9223372036854775807<((⟨#[109,101,116,114,101,32]⟩:q0b)++a0).size+3)=False:=eq_false (q1D.2 d2);have bs6:(⟨#[109,101,116,114,101,32]⟩:q0b).size=6:=rfl;have d2b3:=d2b2;simp only[ByteArray.size_append,bs6]at d2b3;obtain⟨o0,aZ⟩:∃ o,o=(((⟨#[109,101,116,114,101,32]⟩:q0b)++a0)++(⟨#[32,123,10]⟩:q0b)):=⟨_,rfl⟩;have oz:o0.size=a0.size+9:=by rw[aZ,ByteArray.size_append,ByteArray.size_append,bs6];show 6+a0.size+3=_;omega
   rw[← aZ]at H;have No:=am aZ;have H':=am H;clear H aZ;go_enter func9,ntmps9;go_wp2_with (first|((with_reducible refine gd 1 ?_);refine be 1 #[.string a0,sl A1 l1 c1,sl A2 l2 c2,sl A3 l3 c3,iv a4,.string a5,iv a6,sl A7 l7 c7] 30 ?_;intro gm hg w1 hbox hb;have GW:=sG (w:=w) hg X6;replace HB:=bS X6 hb;have BM:=am hbox;clear hb hbox hg;obtain⟨bA,bB,bC,bD,bE,bF,bG,bH,-⟩:=bc8 BM)|((with_reducible refine gc 26 ?_);refine q5A (some 14) rfl rfl func26 X4 rfl #[.agg #[.string a0,sl A1 l1 c1,sl A2 l2 c2,sl A3 l3 c3,iv a4,.string a5,iv a6,sl A7 l7 c7]] rfl X62 ?_;(with_reducible refine(q1j.calls k a0 _ _ l1 _ _ l2 _ _ l3 a4 a5 a6 _ _ l7 0 _ ?side1 ?side2 ?side3 ?side4 ?side5 ?side6 ?side7 ?side8 BV.out).mono ?_);(case side1=>exact(X12 aK HB));(case side2=>exact aM.out);(case side3=>exact(X12 aQ HB));(case side4=>exact aT.out);(case side5=>exact(X12 aU HB));(case side6=>exact aW.out);(case side7=>exact(X12 aX HB));(case side8=>exact aY.out);rintro e w2 ⟨rfl,hb⟩;refine⟨_,rfl,?_⟩;have bI:=am (q4s (X9 BM) hb);have bJ:=bS X6 hb;clear HB BM;have BM:=bI;have HB:=bJ;clear bI bJ hb;obtain⟨bA,bB,bC,bD,bE,bF,bG,bH,-⟩:=bc8 BM)|((with_reducible refine gd 5 ?_);refine be 5 #[.pointer none,.slice none 0 0] 74 ?_;intro b hg w3 hbox hb;have bI:q0i (Fm w gm b #[.string a0,sl A1 l1 c1,sl A2 l2 c2,sl A3 l3 c3,iv a4,.string a5,iv a6,sl A7 l7 c7] ⟨#[]⟩ w3):=am ⟨q4s (X9 BM) hb,.inl ⟨q0f _,.slice none 0 0,hbox,World.ownsRow_nil _ _ _ _,by simp [Value.ownBlock]⟩,q6J X6 hb,GW.out,by rw[hg];exact q4N (X9 BM)⟩;have FM:=bI;clear bI hb hbox hg HB BM;obtain⟨bA,bB,bC,bD,bE,bF,bG,bH,-⟩:=bc8 (am FM.out.bm))|((with_reducible refine gc 32 ?_);refine q5A (some 23) rfl rfl func32 X4 rfl #[.pointer (some ⟨b,0,none⟩),.string o0] rfl (by (try simp only[List.map_toArray,List.map_cons,List.map_nil]);first|done|rfl|(rw[No.out];rfl)) ?_;(with_reducible refine(FM.out.is.write (s:=o0) ?side1).mono ?_);(case side1=>show 0+o0.size≤_;omega);rintro e w4 ⟨rfl,hi,hb⟩;refine⟨_,rfl,?_⟩;have bI:q0i (Fm w gm b #[.string a0,sl A1 l1 c1,sl A2 l2 c2,sl A3 l3 c3,iv a4,.string a5,iv a6,sl A7 l7 c7] o0 w4):=am (FM.out.item (by have e_:eBb++o0=o0:=ByteArray.empty_append;rw[e_]at hi;exact hi) hb);clear FM;have FM:=bI;clear bI hi hb;obtain⟨bA,bB,bC,bD,bE,bF,bG,bH,-⟩:=bc8 (am FM.out.bm)))
   go_loopg [27] k (fun kq bK w'=>∃ (o:q0b) (i:Int),bK=iv i∧q0i (q1Q.l0 kq o i l1 l2 l3 a4 a5 a6 l7=some (r1,r2))∧q0i (kq≤k)∧q0i (Fm w gm b #[.string a0,sl A1 l1 c1,sl A2 l2 c2,sl A3 l3 c3,iv a4,.string a5,iv a6,sl A7 l7 c7] o w'))
   case atStart=>exact⟨o0,0,rfl,H',⟨q0f _⟩,⟨FM.out⟩⟩
   case round=>
    clear H' FM BV No bA bB bC bD bE bF bG bH d1 d1b0 d1b2 d2 d2b0 d2b2 d2b3 oz cz bs6;obtain⟨o,i,rfl,HA,bL,FM⟩:=hrel;cases gk with
    | zero=>exact absurd HA.out (by simp [q1Q.l0])
    | succ k1=>
     have H:=HA.out;clear HA;simp only[q1Q.l0]at H;by_cases ci:i<(l1.length:Int)
     ·rw[if_pos ci]at H;have cib:decide (i<(l1.length:Int))=true:=q0p ci;by_cases cj:0≤i
      rotate_left
      ·rw[if_neg cj]at H;exact absurd H (by simp)
      rw[if_pos cj]at H;have cjb:decide (0≤i)=true:=q0p cj;obtain⟨t,B0,H⟩:=Option.bind_eq_some_iff.mp H;have BW:=am B0;clear B0;by_cases ctl:t.length<1000000000000
      rotate_left
      ·rw[if_neg ctl]at H;exact absurd H (by simp)
      rw[if_pos ctl]at H;have LT:=am ctl;clear ctl;unfold put1 at H;obtain⟨hd,h_hd⟩:∃ y_:List q0b,y_=[(⟨#[102,111,111,116]⟩:q0b),(q1F l1 i).f0,(⟨#[61]⟩:q0b)]:=⟨_,rfl⟩;rw[← h_hd]at H;have Nhd:=am h_hd;clear h_hd;obtain⟨ws,h_ws⟩:∃ y_:List q0b,y_=hd++t:=⟨_,rfl⟩;rw[← h_ws]at H;have Nws:=am h_ws;clear h_ws;obtain⟨u,B0,H⟩:=Option.bind_eq_some_iff.mp H;have BJ:=am B0;clear B0;by_cases cu:o.size+u.size+5≤1000000000000
      rotate_left
      ·rw[if_neg cu]at H;exact absurd H (by simp)
      rw[if_pos cu]at H;have LU:=am cu;clear cu;have H':=am H;clear H;obtain⟨ad,Ak,ck,e1,bM,bN,bO,bP,bQ,hlk,hik⟩:=q5E aK.out i cj ci;cases e1;replace bM:=(FM.out.bl.cell (q0x w _ bM)).trans bM;replace bN:=(FM.out.bl.cell (q0x w _ bN)).trans bN;replace bO:=(FM.out.bl.cell (q0x w _ bO)).trans bO;replace bP:=(FM.out.bl.cell (q0x w _ bP)).trans bP;replace bQ:=(FM.out.bl.cell (q0x w _ bQ)).trans bQ;have HRk:=am hik;have HCk:=am hlk;clear hik hlk;replace cj:=q0c cj;replace ci:=q0c ci;try go_wp2_with (first|((with_reducible refine gd 8 ?_);refine be 8 #[.string eBb,iv 0,.string eBb,iv 0,.slice none 0 0] 68 ?_;intro gf hg w5 hbox hb;have GF:=am hg;have BF:=am hbox;have HN:=am hb;clear hb hbox hg;obtain⟨bR,bT,bU,hcf_3,hcf_4,-⟩:=bc5 BF;have bV:=q1m BF.out 0;have bW:=q1m BF.out 1;have bX:=q1m BF.out 2;have hff_3:=q1m BF.out 3;have hff_4:=q1m BF.out 4))
      have hge:wr.heap.size≤gf:=q0w GF.out.symm;have bI:q0i (Fm w gm b #[.string a0,sl (some ad) l1 c1,sl A2 l2 c2,sl A3 l3 c3,iv a4,.string a5,iv a6,sl A7 l7 c7] o (((((w5.setCell ⟨gf,0,none⟩ (.string ((q1F l1 i).f0))).setCell ⟨gf,1,none⟩ (iv ((q1F l1 i).f1.f0))).setCell ⟨gf,2,none⟩ (.string ((q1F l1 i).f1.f1))).setCell ⟨gf,3,none⟩ (iv ((q1F l1 i).f1.f2))).setCell ⟨gf,4,none⟩ (sl Ak ((q1F l1 i).f1.f3) ck))):=⟨FM.out.below (((((HN.out.setCell (p:=⟨gf,0,none⟩) hge (.string ((q1F l1 i).f0))).setCell (p:=⟨gf,1,none⟩) hge (iv ((q1F l1 i).f1.f0))).setCell (p:=⟨gf,2,none⟩) hge (.string ((q1F l1 i).f1.f1))).setCell (p:=⟨gf,3,none⟩) hge (iv ((q1F l1 i).f1.f2))).setCell (p:=⟨gf,4,none⟩) hge (sl Ak ((q1F l1 i).f1.f3) ck))⟩;have bJ:q0i ((((((w5.setCell ⟨gf,0,none⟩ (.string ((q1F l1 i).f0))).setCell ⟨gf,1,none⟩ (iv ((q1F l1 i).f1.f0))).setCell ⟨gf,2,none⟩ (.string ((q1F l1 i).f1.f1))).setCell ⟨gf,3,none⟩ (iv ((q1F l1 i).f1.f2))).setCell ⟨gf,4,none⟩ (sl Ak ((q1F l1 i).f1.f3) ck)).heap[gf]?=some (.cells #[.string ((q1F l1 i).f0),iv ((q1F l1 i).f1.f0),.string ((q1F l1 i).f1.f1),iv ((q1F l1 i).f1.f2),sl Ak ((q1F l1 i).f1.f3) ck] 68 (0,0))):=⟨by refine q1T (cs:=#[.string ((q1F l1 i).f0),iv ((q1F l1 i).f1.f0),.string ((q1F l1 i).f1.f1),iv ((q1F l1 i).f1.f2),.slice none 0 0]) ?_ 4 _ rfl;refine q1T (cs:=#[.string ((q1F l1 i).f0),iv ((q1F l1 i).f1.f0),.string ((q1F l1 i).f1.f1),iv 0,.slice none 0 0]) ?_ 3 _ rfl;refine q1T (cs:=#[.string ((q1F l1 i).f0),iv ((q1F l1 i).f1.f0),.string eBb,iv 0,.slice none 0 0]) ?_ 2 _ rfl;refine q1T (cs:=#[.string ((q1F l1 i).f0),iv 0,.string eBb,iv 0,.slice none 0 0]) ?_ 1 _ rfl;refine q1T (cs:=#[.string eBb,iv 0,.string eBb,iv 0,.slice none 0 0]) ?_ 0 _ rfl;exact BF.out⟩;generalize (((((w5.setCell ⟨gf,0,none⟩ (.string ((q1F l1 i).f0))).setCell ⟨gf,1,none⟩ (iv ((q1F l1 i).f1.f0))).setCell ⟨gf,2,none⟩ (.string ((q1F l1 i).f1.f1))).setCell ⟨gf,3,none⟩ (iv ((q1F l1 i).f1.f2))).setCell ⟨gf,4,none⟩ (sl Ak ((q1F l1 i).f1.f3) ck))=w6 at bI bJ ⊢
      clear FM BF HN hge GF;have FM:=am bI.out.drew;have BF:=am (q0B bJ.out);clear bI bJ;refine q4P (n:=9) (S:=fun w'=>dd5 w' gf (.string ((q1F l1 i).f0)) (iv ((q1F l1 i).f1.f0)) (.string ((q1F l1 i).f1.f1)) (iv ((q1F l1 i).f1.f2)) (sl Ak ((q1F l1 i).f1.f3) ck)) (ds:=[8]) (lb 9 0) X4 rfl rfl (e5 BF) (fun hHeld=>?_);refine q3W q1Q.tab10 q1Q.bits10 (fun HT_ HW_=>?_);generalize w6.drew=w7 at FM BF hHeld ⊢
      refine pu 0 (some 31) (lb 9 1) HT_ ?_;refine pu 1 (some 32) (lb 9 3) HT_ ?_;refine pu 4 (some 35) (lb 9 19) HT_ ?_;refine tk 2 (some 33) (lb 9 23) HT_ HW_ hHeld ?_;refine tk 5 (some 36) (lb 9 55) HT_ HW_ hHeld ?_;refine join_ (σ:=Value × Value) 2 (lb 9 127) (fun s_=>[(34,s_.1),(37,s_.2)]) (fun s_ w'=>(dd5 w' gf (.string ((q1F l1 i).f0)) (iv ((q1F l1 i).f1.f0)) (.string ((q1F l1 i).f1.f1)) (iv ((q1F l1 i).f1.f2)) (sl Ak ((q1F l1 i).f1.f3) ck))∧Kd.R Kd.string 9 w' w.heap.size (fun k_=>nO k_ s_.2) s_.1 hd∧Kd.R Kd.string 9 w' w.heap.size (fun k_=>nO k_ s_.1) s_.2 t∧Fm w gm b #[.string a0,sl (some ad) l1 c1,sl A2 l2 c2,sl A3 l3 c3,iv a4,.string a5,iv a6,sl A7 l7 c7] o w'∧w'.heap[gf]?=some (.cells #[.string ((q1F l1 i).f0),iv ((q1F l1 i).f1.f0),.string ((q1F l1 i).f1.f1),iv ((q1F l1 i).f1.f2),sl Ak ((q1F l1 i).f1.f3) ck] 68 (0,0))) ?_ ?_;rotate_left
      ·intro hCont;refine two_ (i:=3) (j:=6) (Ni:=some 34) (Nj:=some 37) (lb 9 63) (lb 9 119) rfl rfl rfl rfl (v2w HT_.out X4) (by decide) (by decide) (fun K hK=>?_) (fun K hK=>?_)
       ·skip
        refine q4b Kd.string _ 9 ?hg (N:=34) ?hd (xs:=([(⟨#[102,111,111,116]⟩:q0b),(q1F l1 i).f0,(⟨#[61]⟩:q0b)]:List q0b)) (inner:=[.string ((⟨#[102,111,111,116]⟩:q0b)),.string ((q1F l1 i).f0),.string ((⟨#[61]⟩:q0b))]) (ok:=fun _=>True) (okp:=fun _=>True) ?hr ?hp (fun _ hk=>hk) trivial (q0r _ _) (q0f _) (by simp) ?_;(case hd=>rfl);(case hg=>rfl);(case hr=>exact X70);(case hp=>exact rp);intro v1 w8 ho hb hg_ hnew_;clear hg_ hnew_;(first|rw[← Nhd.out]at ho|(simp only[Int.reduceToNat]at ho;rw[← Nhd.out]at ho));have bY:=am (q1p ho (q1H FM.out.bl));replace FM:=am (FM.out.below hb);replace BF:=am (q4s BF.out hb);clear hb ho;refine hK.out _ _ (e5 BF) (fun hHeld=>?_);clear hK K;refine q5f (a':=?_) ?_ ?_;rotate_left
        ·exact pA (some 34)
        refine oo 6 (some 37) (lb 9 127) HT_ (fun K hK=>?_);refine q9u func34 X4 rfl #[.agg #[iv ((q1F l1 i).f1.f0),.string ((q1F l1 i).f1.f1),iv ((q1F l1 i).f1.f2),sl Ak ((q1F l1 i).f1.f3) ck]] (by rfl) rfl rfl X62 ?_;with_reducible refine(q2C.calls k1 ((q1F l1 i).f1.f0) ((q1F l1 i).f1.f1) ((q1F l1 i).f1.f2) _ _ ((q1F l1 i).f1.f3) t _ ?side1 ?side2 BW.out).mono ?_
        (case side1=>exact q0Y HRk.out FM.out.bl);(case side2=>exact HCk.out);rintro e w9 ⟨v2,rfl,ho,hb⟩;refine⟨_,rfl,?_⟩;have bZ:=am (q1p (q3s ho (q2h bY.out)) (q1H FM.out.bl));replace bY:=am (q3e bY.out (q0C ho) hb);replace FM:=am (FM.out.below hb);replace BF:=am (q4s BF.out hb);clear hb ho;refine hK.out _ _ (e5 BF) (fun hHeld=>?_);clear hK K;refine q5f (a':=?_) ?_ ?_;rotate_left
        ·exact pA (some 37)
        exact q5f (by simp only[q6q,Act.put,List.setIfInBounds_toArray,List.set_cons_zero,List.set_cons_succ]) (hCont (v1,v2) _ ⟨hHeld,q0j bY.out (fun _ hk=>hk.2),q0j bZ.out (fun _ hk=>hk.2),FM.out,BF.out⟩)
       ·skip
        refine q9u func34 X4 rfl #[.agg #[iv ((q1F l1 i).f1.f0),.string ((q1F l1 i).f1.f1),iv ((q1F l1 i).f1.f2),sl Ak ((q1F l1 i).f1.f3) ck]] (by rfl) rfl rfl X62 ?_;with_reducible refine(q2C.calls k1 ((q1F l1 i).f1.f0) ((q1F l1 i).f1.f1) ((q1F l1 i).f1.f2) _ _ ((q1F l1 i).f1.f3) t _ ?side1 ?side2 BW.out).mono ?_
        (case side1=>exact q0Y HRk.out FM.out.bl);(case side2=>exact HCk.out);rintro e w8 ⟨v2,rfl,ho,hb⟩;refine⟨_,rfl,?_⟩;have bZ:=am (q1p ho (q1H FM.out.bl));replace FM:=am (FM.out.below hb);replace BF:=am (q4s BF.out hb);clear hb ho;refine hK.out _ _ (e5 BF) (fun hHeld=>?_);clear hK K;refine q5f (a':=?_) ?_ ?_;rotate_left
        ·exact pA (some 37)
        refine oo 3 (some 34) (lb 9 127) HT_ (fun K hK=>?_);refine q4b Kd.string _ 9 ?hg (N:=34) ?hd (xs:=([(⟨#[102,111,111,116]⟩:q0b),(q1F l1 i).f0,(⟨#[61]⟩:q0b)]:List q0b)) (inner:=[.string ((⟨#[102,111,111,116]⟩:q0b)),.string ((q1F l1 i).f0),.string ((⟨#[61]⟩:q0b))]) (ok:=fun _=>True) (okp:=fun _=>True) ?hr ?hp (fun _ hk=>hk) trivial (q0r _ _) (q0f _) (by simp) ?_;(case hd=>rfl);(case hg=>rfl);(case hr=>exact X70);(case hp=>exact rp);intro v1 w9 ho hb hg_ hnew_;clear hg_ hnew_;(first|rw[← Nhd.out]at ho|(simp only[Int.reduceToNat]at ho;rw[← Nhd.out]at ho));have bY:=am (q1p (q3s ho (q2h bZ.out)) (q1H FM.out.bl));replace bZ:=am (q3e bZ.out (q0C ho) hb);replace FM:=am (FM.out.below hb);replace BF:=am (q4s BF.out hb);clear hb ho;refine hK.out _ _ (e5 BF) (fun hHeld=>?_);clear hK K;refine q5f (a':=?_) ?_ ?_;rotate_left
        ·exact pA (some 34)
        exact q5f (by simp only[q6q,Act.put,List.setIfInBounds_toArray,List.set_cons_zero,List.set_cons_succ]) (hCont (v1,v2) _ ⟨hHeld,q0j bY.out (fun _ hk=>hk.2),q0j bZ.out (fun _ hk=>hk.2),FM.out,BF.out⟩)
      rintro⟨v1,v2⟩ cA ⟨hHeld,cC,cD,cE,cF⟩;clear FM BF;have bY:=am cC;have bZ:=am cD;have FM:=am cE;have BF:=am cF;clear cC cD cE cF;dsimp only at bY bZ
      obtain⟨Ao,co,eo⟩:=q1I bZ.out;subst eo;refine q5f (a':=?_) ?_ ?_;rotate_left
      ·simp only[q6q,Act.put,List.setIfInBounds_toArray,List.set_cons_zero,List.set_cons_succ];rfl
      refine oo 7 (some 38) (lb 9 255) HT_ (fun K hK=>?_);refine Kd.R_append_rows_step Kd.string (w0:=w) w.heap.size (by rfl) (.tmp 34) (.tmp 37) 43 9 (.string ⟨#[]⟩) 16 rfl underlying43 q6v rfl (by decide) (by omega) v1 hd t _ _ _ (fun k_=>nO k_ (sl Ao t co)) (fun _=>False) rfl rfl ?aO ?aR (fun _ _ h=>h) (fun _ h=>h.elim) ?aF ?aB ?aS ?aL ?_;(case aR=>exact(q0R bZ.out).2.2);(case aB=>exact FM.out.bl);(case aF=>exact(fun k_ hk=>q0K (q2h bZ.out) k_ hk));(case aO=>exact bY.out);(case aS=>exact(q1H FM.out.bl));(case aL=>have h_:=LT.out;have e_:hd.length=3:=(by rw[Nhd.out];rfl);omega);intro v3 w11 ho hb hg hat;rw[← Nws.out]at ho;have bI:=am (FM.out.grown hg hb (fun k_ cs_ T_ hc ht=>q3a bY.out hc X223));have bJ:=am (q4T BF.out hg (q3a bY.out BF.out (by decide)));have cG:=am (ho);clear FM BF bY bZ;have FM:=bI;have BF:=bJ;have cH:=cG;clear bI bJ cG ho hb hg hat;obtain⟨Ap,cp,ep⟩:=q1I cH.out;subst ep;refine hK.out _ _ (e5 BF) (fun hHeld=>?_);clear hK K;refine q5f (a':=?_) ?_ ?_;rotate_left
      ·exact pA (some 38)
      refine v1Y (i:=8) (N:=some 39) (lb 9 511) rfl rfl (q8W HT_.out X4) (by decide) (fun K hK=>?_);refine v2C (t:=31) #[.pointer (some ⟨b,0,none⟩)] func31 X4 rfl #[sl Ap ws cp,.pointer (some ⟨b,0,none⟩)] (by rfl) rfl rfl X224 (by rfl) ?_;with_reducible refine(q6c b o u _ _ ws _ ?side1 ?side2 FM.out.is BJ.out ?side3).mono ?_
      (case side1=>exact(q0R cH.out).2.2);(case side2=>exact(q0R cH.out).2.1);(case side3=>have h_:=LU.out;omega);rintro e cI ⟨rfl,hi,hb⟩;refine⟨_,rfl,?_⟩;replace FM:=am (FM.out.item hi hb);clear BF cH hi hb;refine hK.out _ _ ?_;clear hK K;refine q5N (q4z HT_.out X4) ?_;try go_wp2
      go_roundg k1
      case measure=>have:=bL.out;omega
      case rel=>exact⟨o++itm u,wrap64 (i+1),X7,H',⟨by have:=bL.out;omega⟩,⟨FM.out⟩⟩
     ·rw[if_neg ci]at H;have cib:decide (i<(l1.length:Int))=false:=q0z ci;have H':=am H;clear H;obtain⟨bA,bB,bC,bD,bE,bF,bG,bH,-⟩:=bc8 (am FM.out.bm);try go_wp2
      go_loopg [44] k1 (fun kq cJ w'=>∃ (o:q0b) (i:Int),cJ=iv i∧q0i (q1Q.l1 kq o i l1 l2 l3 a4 a5 a6 l7=some (r1,r2))∧q0i (kq≤k1)∧q0i (Fm w gm b #[.string a0,sl A1 l1 c1,sl A2 l2 c2,sl A3 l3 c3,iv a4,.string a5,iv a6,sl A7 l7 c7] o w'))
      case atStart=>exact⟨o,0,rfl,H',⟨q0f _⟩,⟨FM.out⟩⟩
      case round=>
       clear H' FM bA bB bC bD bE bF bG bH bL cib ci;obtain⟨o,i,rfl,HA,cK,FM⟩:=hrel;cases gk with
       | zero=>exact absurd HA.out (by simp [q1Q.l1])
       | succ k2=>
        have H:=HA.out;clear HA;simp only[q1Q.l1]at H;by_cases ci:i<(l2.length:Int)
        ·rw[if_pos ci]at H;have cib:decide (i<(l2.length:Int))=true:=q0p ci;by_cases cj:0≤i
         rotate_left
         ·rw[if_neg cj]at H;exact absurd H (by simp)
         rw[if_pos cj]at H;have cjb:decide (0≤i)=true:=q0p cj;obtain⟨s,B0,H⟩:=Option.bind_eq_some_iff.mp H;have BS:=am B0;clear B0;obtain⟨t,B0,H⟩:=Option.bind_eq_some_iff.mp H;have BT:=am B0;clear B0;unfold put1 at H;obtain⟨ws,h_ws⟩:∃ y_:List q0b,y_=[(⟨#[99,111,117,110,116]⟩:q0b),(q2K l2 i).f0,s,t]:=⟨_,rfl⟩;rw[← h_ws]at H;have Nws:=am h_ws;clear h_ws;obtain⟨u,B0,H⟩:=Option.bind_eq_some_iff.mp H;have BJ:=am B0;clear B0;by_cases cu:o.size+u.size+5≤1000000000000
         rotate_left
         ·rw[if_neg cu]at H;exact absurd H (by simp)
         rw[if_pos cu]at H;have LU:=am cu;clear cu;have H':=am H;clear H;obtain⟨ad,e1,bM,bN,bO⟩:=q5K aQ.out i cj ci;cases e1;replace bM:=(FM.out.bl.cell (q0x w _ bM)).trans bM;replace bN:=(FM.out.bl.cell (q0x w _ bN)).trans bN;replace bO:=(FM.out.bl.cell (q0x w _ bO)).trans bO;replace cj:=q0c cj;replace ci:=q0c ci;try go_wp2_with (first|((with_reducible refine gd 10 ?_);refine be 10 #[.string eBb,iv 0,iv 0] 70 ?_;intro gf hg w5 hbox hb;have GF:=am hg;have BF:=am hbox;have HN:=am hb;clear hb hbox hg;obtain⟨bR,bT,bU,-⟩:=bc3 BF;have bV:=q1m BF.out 0;have bW:=q1m BF.out 1;have bX:=q1m BF.out 2))
         have hge:wr.heap.size≤gf:=q0w GF.out.symm;have bI:q0i (Fm w gm b #[.string a0,sl A1 l1 c1,sl (some ad) l2 c2,sl A3 l3 c3,iv a4,.string a5,iv a6,sl A7 l7 c7] o (((w5.setCell ⟨gf,0,none⟩ (.string ((q2K l2 i).f0))).setCell ⟨gf,1,none⟩ (iv ((q2K l2 i).f1))).setCell ⟨gf,2,none⟩ (iv ((q2K l2 i).f2)))):=⟨FM.out.below (((HN.out.setCell (p:=⟨gf,0,none⟩) hge (.string ((q2K l2 i).f0))).setCell (p:=⟨gf,1,none⟩) hge (iv ((q2K l2 i).f1))).setCell (p:=⟨gf,2,none⟩) hge (iv ((q2K l2 i).f2)))⟩;have bJ:q0i ((((w5.setCell ⟨gf,0,none⟩ (.string ((q2K l2 i).f0))).setCell ⟨gf,1,none⟩ (iv ((q2K l2 i).f1))).setCell ⟨gf,2,none⟩ (iv ((q2K l2 i).f2))).heap[gf]?=some (.cells #[.string ((q2K l2 i).f0),iv ((q2K l2 i).f1),iv ((q2K l2 i).f2)] 70 (0,0))):=⟨by refine q1T (cs:=#[.string ((q2K l2 i).f0),iv ((q2K l2 i).f1),iv 0]) ?_ 2 _ rfl;refine q1T (cs:=#[.string ((q2K l2 i).f0),iv 0,iv 0]) ?_ 1 _ rfl;refine q1T (cs:=#[.string eBb,iv 0,iv 0]) ?_ 0 _ rfl;exact BF.out⟩;generalize (((w5.setCell ⟨gf,0,none⟩ (.string ((q2K l2 i).f0))).setCell ⟨gf,1,none⟩ (iv ((q2K l2 i).f1))).setCell ⟨gf,2,none⟩ (iv ((q2K l2 i).f2)))=w6 at bI bJ ⊢
         clear FM BF HN hge GF;have FM:=am bI.out.drew;have BF:=am (q0B bJ.out);clear bI bJ;refine q4P (n:=11) (S:=fun w'=>dd3 w' gf (.string ((q2K l2 i).f0)) (iv ((q2K l2 i).f1)) (iv ((q2K l2 i).f2))) (ds:=[10]) (lb 11 0) X4 rfl rfl (e3 BF) (fun hHeld=>?_);refine q3W q1Q.tab15 q1Q.bits15 (fun HT_ HW_=>?_);generalize w6.drew=w7 at FM BF hHeld ⊢
         refine pu 0 (some 48) (lb 11 1) HT_ ?_;refine pu 1 (some 49) (lb 11 3) HT_ ?_;refine pu 3 (some 51) (lb 11 11) HT_ ?_;refine pu 6 (some 54) (lb 11 75) HT_ ?_;refine tk 2 (some 50) (lb 11 79) HT_ HW_ hHeld ?_;refine tk 4 (some 52) (lb 11 95) HT_ HW_ hHeld ?_;refine tk 7 (some 55) (lb 11 223) HT_ HW_ hHeld ?_;refine oo 5 (some 53) (lb 11 255) HT_ (fun K hK=>?_);refine q9u func35 X4 rfl #[iv ((q2K l2 i).f1)] (by rfl) rfl rfl X62 ?_;with_reducible refine(q2J.calls k2 ((q2K l2 i).f1) s _ BS.out).mono ?_
         rintro e w8 ⟨rfl,hb⟩;refine⟨_,rfl,?_⟩;replace FM:=am (FM.out.below hb);replace BF:=am (q4s BF.out hb);clear hb;refine hK.out _ _ (e3 BF) (fun hHeld=>?_);clear hK K;refine q5f (a':=?_) ?_ ?_;rotate_left
         ·exact pA (some 53)
         refine oo 8 (some 56) (lb 11 511) HT_ (fun K hK=>?_);refine q9u func35 X4 rfl #[iv ((q2K l2 i).f2)] (by rfl) rfl rfl X62 ?_;with_reducible refine(q2J.calls k2 ((q2K l2 i).f2) t _ BT.out).mono ?_
         rintro e w9 ⟨rfl,hb⟩;refine⟨_,rfl,?_⟩;replace FM:=am (FM.out.below hb);replace BF:=am (q4s BF.out hb);clear hb;refine hK.out _ _ (e3 BF) (fun hHeld=>?_);clear hK K;refine q5f (a':=?_) ?_ ?_;rotate_left
         ·exact pA (some 56)
         refine oo 9 (some 57) (lb 11 1023) HT_ (fun K hK=>?_);refine q4b Kd.string _ 9 ?hg (N:=57) ?hd (xs:=([(⟨#[99,111,117,110,116]⟩:q0b),(q2K l2 i).f0,s,t]:List q0b)) (inner:=[.string ((⟨#[99,111,117,110,116]⟩:q0b)),.string ((q2K l2 i).f0),.string (s),.string (t)]) (ok:=fun _=>True) (okp:=fun _=>True) ?hr ?hp (fun _ hk=>hk) trivial (q0r _ _) (q0f _) (by simp) ?_;(case hd=>rfl);(case hg=>rfl);(case hr=>exact X70);(case hp=>exact rp);intro v1 cA ho hb hg_ hnew_;clear hg_ hnew_;(first|rw[← Nws.out]at ho|(simp only[Int.reduceToNat]at ho;rw[← Nws.out]at ho));have bI:=am (FM.out.below hb);have bJ:=am (q4s BF.out hb);have cH:=am (q1p ho (q1H FM.out.bl));clear FM BF hb ho;have FM:=bI;have BF:=bJ;clear bI bJ;obtain⟨Ap,cp,ep⟩:=q1I cH.out;subst ep;refine hK.out _ _ (e3 BF) (fun hHeld=>?_);clear hK K;refine q5f (a':=?_) ?_ ?_;rotate_left
         ·exact pA (some 57)
         refine v1Y (i:=10) (N:=some 58) (lb 11 2047) rfl rfl (q8W HT_.out X4) (by decide) (fun K hK=>?_);refine v2C (t:=48) #[.pointer (some ⟨b,0,none⟩)] func31 X4 rfl #[sl Ap ws cp,.pointer (some ⟨b,0,none⟩)] (by rfl) rfl rfl X224 (by rfl) ?_;with_reducible refine(q6c b o u _ _ ws _ ?side1 ?side2 FM.out.is BJ.out ?side3).mono ?_
         (case side1=>exact(q0R cH.out).2.2);(case side2=>exact(q0R cH.out).2.1);(case side3=>have h_:=LU.out;omega);rintro e cI ⟨rfl,hi,hb⟩;refine⟨_,rfl,?_⟩;replace FM:=am (FM.out.item hi hb);clear BF cH hi hb;refine hK.out _ _ ?_;clear hK K;refine q5N (q4z HT_.out X4) ?_;try go_wp2
         go_roundg k2
         case measure=>have:=cK.out;omega
         case rel=>exact⟨o++itm u,wrap64 (i+1),X7,H',⟨by have:=cK.out;omega⟩,⟨FM.out⟩⟩
        ·rw[if_neg ci]at H;have cib:decide (i<(l2.length:Int))=false:=q0z ci;obtain⟨t,B0,H⟩:=Option.bind_eq_some_iff.mp H;have BW:=am B0;clear B0;by_cases ctl:t.length<1000000000000
         rotate_left
         ·rw[if_neg ctl]at H;exact absurd H (by simp)
         rw[if_pos ctl]at H;have LT:=am ctl;clear ctl;unfold put1 at H;obtain⟨hd,h_hd⟩:∃ y_:List q0b,y_=[(⟨#[108,105,110,101]⟩:q0b),(⟨#[61]⟩:q0b)]:=⟨_,rfl⟩;rw[← h_hd]at H;have Nhd:=am h_hd;clear h_hd;obtain⟨ws,h_ws⟩:∃ y_:List q0b,y_=hd++t:=⟨_,rfl⟩;rw[← h_ws]at H;have Nws:=am h_ws;clear h_ws;obtain⟨u,B0,H⟩:=Option.bind_eq_some_iff.mp H;have BJ:=am B0;clear B0;by_cases cu:o.size+u.size+5≤1000000000000
         rotate_left
         ·rw[if_neg cu]at H;exact absurd H (by simp)
         rw[if_pos cu]at H;have LU:=am cu;clear cu;have H':=am H;clear H;obtain⟨bA,bB,bC,bD,bE,bF,bG,bH,-⟩:=bc8 (am FM.out.bm);go_wp2_with (first|((with_reducible refine gd 61 ?_);refine q2R Kd.string _ 9 ?hg (N:=61) ?hd (xs:=([(⟨#[108,105,110,101]⟩:q0b),(⟨#[61]⟩:q0b)]:List q0b)) (inner:=[.string ((⟨#[108,105,110,101]⟩:q0b)),.string ((⟨#[61]⟩:q0b))]) (ok:=fun _=>True) (okp:=fun _=>True) ?hr ?hp (fun _ hk=>hk) trivial (q0r _ _) (q0f _) (by simp) ?_;(case hd=>rfl);(case hg=>rfl);(case hr=>exact X70);(case hp=>exact rp);intro v1 w6 ho hb hg_ hnew_;clear hg_ hnew_;(first|rw[← Nhd.out]at ho|(simp only[Int.reduceToNat]at ho;rw[← Nhd.out]at ho));have bY:=am (q1p ho (q1H FM.out.bl));replace FM:=am (FM.out.below hb);clear hb ho;obtain⟨bA,bB,bC,bD,bE,bF,bG,bH,-⟩:=bc8 (am FM.out.bm))|((with_reducible refine gc 34 ?_);refine q5A (some 64) rfl rfl func34 X4 rfl #[.agg #[iv a4,.string a5,iv a6,sl A7 l7 c7]] rfl X62 ?_;(with_reducible refine(q2C.calls k2 a4 a5 a6 _ _ l7 t _ ?side1 ?side2 BW.out).mono ?_);(case side1=>exact q0Y aX.out FM.out.bl);(case side2=>exact aY.out);rintro e w7 ⟨v2,rfl,ho,hb⟩;refine⟨_,rfl,?_⟩;have bJ:=am (q3e bY.out (q0C ho) hb);have cG:=am (q1p (q3s ho (q2h bY.out)) (q1H FM.out.bl));have bI:=am (FM.out.below hb);clear hb ho bY;have bY:=bJ;have bZ:=cG;clear bJ cG;clear FM;have FM:=bI;clear bI;obtain⟨Ao,co,eo⟩:=q1I bZ.out;subst eo;obtain⟨bA,bB,bC,bD,bE,bF,bG,bH,-⟩:=bc8 (am FM.out.bm))|((with_reducible refine q2S (b:=.append) (xs:=#[.tmp 61,.tmp 64]) rfl ?_);at_builtin;refine q3y Kd.string (w0:=w) w.heap.size rfl (.tmp 61) (.tmp 64) 43 9 (.string ⟨#[]⟩) 16 rfl underlying43 q6v rfl (by decide) (by omega) v1 hd (t) _ _ _ (fun k_=>nO k_ (sl Ao t co)) (fun _=>False) rfl rfl ?aO ?aR (fun _ _ h=>h) (fun _ h=>h.elim) ?aF ?aB ?aS ?aL ?_;(case aR=>exact(q0R bZ.out).2.2);(case aB=>exact FM.out.bl);(case aF=>exact(fun k_ hk=>q0K (q2h bZ.out) k_ hk));(case aO=>exact(q0j bY.out (fun _ hk=>hk.2)));(case aS=>exact(q1H FM.out.bl));(case aL=>have h_:=LT.out;have e_:hd.length=2:=(by rw[Nhd.out];rfl);omega);intro v3 w8 ho hb hg hat;rw[← Nws.out]at ho;have bI:=am (FM.out.grown hg hb (fun k_ cs_ T_ hc ht=>q3a bY.out hc X223));have cH:=am ho;clear ho hb hg hat;clear FM;have FM:=bI;clear bI;obtain⟨Ap,cp,ep⟩:=q1I cH.out;subst ep;obtain⟨bA,bB,bC,bD,bE,bF,bG,bH,-⟩:=bc8 (am FM.out.bm))|((with_reducible refine q4X (t:=60) rfl ?_);refine v0v (some 66) rfl rfl #[.pointer (some ⟨b,0,none⟩)] func31 X4 rfl #[sl Ap ws cp,.pointer (some ⟨b,0,none⟩)] rfl X224 (by rfl) ?_;(with_reducible refine(q6c b o u _ _ ws _ ?side1 ?side2 FM.out.is BJ.out ?side3).mono ?_);(case side1=>exact(q0R cH.out).2.2);(case side2=>exact(q0R cH.out).2.1);(case side3=>have h_:=LU.out;omega);rintro e w9 ⟨rfl,hi,hb⟩;refine⟨_,rfl,?_⟩;replace FM:=am (FM.out.item hi hb);clear hi hb;obtain⟨bA,bB,bC,bD,bE,bF,bG,bH,-⟩:=bc8 (am FM.out.bm)))
         go_loopg [70] k2 (fun kq cL w'=>∃ (o:q0b) (i:Int),cL=iv i∧q0i (q1Q.l2 kq o i l1 l2 l3 a4 a5 a6 l7=some (r1,r2))∧q0i (kq≤k2)∧q0i (Fm w gm b #[.string a0,sl A1 l1 c1,sl A2 l2 c2,sl A3 l3 c3,iv a4,.string a5,iv a6,sl A7 l7 c7] o w'))
         case atStart=>exact⟨o++itm u,0,rfl,H',⟨q0f _⟩,⟨FM.out⟩⟩
         case round=>
          clear H' FM bA bB bC bD bE bF bG bH cK cib ci BW BJ LT LU Nhd Nws bY bZ cH;obtain⟨o,i,rfl,HA,cM,FM⟩:=hrel;cases gk with
          | zero=>exact absurd HA.out (by simp [q1Q.l2])
          | succ k3=>
           have H:=HA.out;clear HA;simp only[q1Q.l2]at H;by_cases ci:i<(l3.length:Int)
           ·rw[if_pos ci]at H;have cib:decide (i<(l3.length:Int))=true:=q0p ci;by_cases cj:0≤i
            rotate_left
            ·rw[if_neg cj]at H;exact absurd H (by simp)
            rw[if_pos cj]at H;have cjb:decide (0≤i)=true:=q0p cj;by_cases ctl:(q2Y l3 i).length<1000000000000
            rotate_left
            ·rw[if_neg ctl]at H;exact absurd H (by simp)
            rw[if_pos ctl]at H;have LT:=am ctl;clear ctl;unfold put1 at H;obtain⟨hd,h_hd⟩:∃ y_:List q0b,y_=[(⟨#[115,111,109,101]⟩:q0b)]:=⟨_,rfl⟩;rw[← h_hd]at H;have Nhd:=am h_hd;clear h_hd;obtain⟨ws,h_ws⟩:∃ y_:List q0b,y_=hd++q2Y l3 i:=⟨_,rfl⟩;rw[← h_ws]at H;have Nws:=am h_ws;clear h_ws;obtain⟨u,B0,H⟩:=Option.bind_eq_some_iff.mp H;have BJ:=am B0;clear B0;by_cases cu:o.size+u.size+5≤1000000000000
            rotate_left
            ·rw[if_neg cu]at H;exact absurd H (by simp)
            rw[if_pos cu]at H;have LU:=am cu;clear cu;have H':=am H;clear H;obtain⟨ad,Al,cl,e1,bM,hll,hil⟩:=q5o aU.out i cj ci;cases e1;replace bM:=(FM.out.bl.cell (q0x w _ bM)).trans bM;have HRl:=am hil;have HCl:=am hll;clear hil hll;replace cj:=q0c cj;replace ci:=q0c ci;try go_wp2_with (first|((with_reducible refine gd 75 ?_);refine q2R Kd.string _ 9 ?hg (N:=75) ?hd (xs:=([(⟨#[115,111,109,101]⟩:q0b)]:List q0b)) (inner:=[.string ((⟨#[115,111,109,101]⟩:q0b))]) (ok:=fun _=>True) (okp:=fun _=>True) ?hr ?hp (fun _ hk=>hk) trivial (q0r _ _) (q0f _) (by simp) ?_;(case hd=>rfl);(case hg=>rfl);(case hr=>exact X70);(case hp=>exact rp);intro v1 w6 ho hb hg_ hnew_;clear hg_ hnew_;(first|rw[← Nhd.out]at ho|(simp only[Int.reduceToNat]at ho;rw[← Nhd.out]at ho));have bY:=am (q1p ho (q1H FM.out.bl));replace FM:=am (FM.out.below hb);clear hb ho;obtain⟨bA,bB,bC,bD,bE,bF,bG,bH,-⟩:=bc8 (am FM.out.bm))|((with_reducible refine q2S (b:=.append) (xs:=#[.tmp 75,.tmp 76]) rfl ?_);at_builtin;refine q3y Kd.string (w0:=w) w.heap.size rfl (.tmp 75) (.tmp 76) 43 9 (.string ⟨#[]⟩) 16 rfl underlying43 q6v rfl (by decide) (by omega) v1 hd (q2Y l3 i) _ _ _ (fun _=>True) (fun _=>False) rfl rfl ?aO ?aR (fun _ _ h=>h) (fun _ h=>h.elim) ?aF ?aB ?aS ?aL ?_;(case aR=>exact(q0Y HRl.out FM.out.bl));(case aB=>exact FM.out.bl);(case aF=>exact(fun _ _=>trivial));(case aO=>exact(q0j bY.out (fun _ hk=>trivial)));(case aS=>exact(q1H FM.out.bl));(case aL=>have h_:=LT.out;have e_:hd.length=1:=(by rw[Nhd.out];rfl);omega);intro v3 w8 ho hb hg hat;rw[← Nws.out]at ho;have bI:=am (FM.out.grown hg hb (fun k_ cs_ T_ hc ht=>q3a bY.out hc X223));have cH:=am ho;clear ho hb hg hat;clear FM;have FM:=bI;clear bI;obtain⟨Ap,cp,ep⟩:=q1I cH.out;subst ep;obtain⟨bA,bB,bC,bD,bE,bF,bG,bH,-⟩:=bc8 (am FM.out.bm))|((with_reducible refine q4X (t:=74) rfl ?_);refine v0v (some 78) rfl rfl #[.pointer (some ⟨b,0,none⟩)] func31 X4 rfl #[sl Ap ws cp,.pointer (some ⟨b,0,none⟩)] rfl X224 (by rfl) ?_;(with_reducible refine(q6c b o u _ _ ws _ ?side1 ?side2 FM.out.is BJ.out ?side3).mono ?_);(case side1=>exact(q0R cH.out).2.2);(case side2=>exact(q0R cH.out).2.1);(case side3=>have h_:=LU.out;omega);rintro e w9 ⟨rfl,hi,hb⟩;refine⟨_,rfl,?_⟩;replace FM:=am (FM.out.item hi hb);clear hi hb;obtain⟨bA,bB,bC,bD,bE,bF,bG,bH,-⟩:=bc8 (am FM.out.bm)))
            go_roundg k3
            case measure=>have:=cM.out;omega
            case rel=>exact⟨o++itm u,wrap64 (i+1),X7,H',⟨by have:=cM.out;omega⟩,⟨FM.out⟩⟩
           ·rw[if_neg ci]at H;have cib:decide (i<(l3.length:Int))=false:=q0z ci;by_cases cu:o.size+2≤1000000000000
            rotate_left
            ·rw[if_neg cu]at H;exact absurd H (by simp)
            rw[if_pos cu]at H;have LU:=am cu;clear cu;obtain⟨rfl,rfl⟩:=Prod.mk.inj (q0d H);obtain⟨bA,bB,bC,bD,bE,bF,bG,bH,-⟩:=bc8 (am FM.out.bm);go_wp2_with (first|((with_reducible refine gc 32 ?_);refine q5A (some 80) rfl rfl func32 X4 rfl #[.pointer (some ⟨b,0,none⟩),.string ⟨#[125,10]⟩] rfl X62 ?_;(with_reducible refine(FM.out.is.write (s:=⟨#[125,10]⟩) ?side1).mono ?_);(case side1=>have h_:=LU.out;show o.size+2≤_;omega);rintro e w6 ⟨rfl,hi,hb⟩;refine⟨_,rfl,?_⟩;replace FM:=am (FM.out.item hi hb);clear hi hb)|((with_reducible refine gc 36 ?_);refine q5A (some 81) rfl rfl func36 X4 rfl #[.pointer (some ⟨b,0,none⟩)] rfl X62 ?_;(with_reducible refine(FM.out.is.string).mono ?_);rintro e w7 ⟨rfl,hb⟩;refine⟨_,rfl,?_⟩;have HE:=am (FM.out.last hb);clear hb))
            go_ret2
            exact⟨by first|rfl|(simp;done),HE.out⟩
  ·rw[if_neg cz]at H;exact absurd H (by simp)
 ·rw[if_neg ct]at H;have ctb:(t == 0)=false:=beq_eq_false_iff_ne.mpr ct;have ctc:(t != 0)=true:=bne_iff_ne.mpr ct;obtain⟨rfl,rfl⟩:=Prod.mk.inj (q0d H);go_enter func9,ntmps9;go_wp2_with (first|((with_reducible refine gd 1 ?_);refine be 1 #[.string a0,sl A1 l1 c1,sl A2 l2 c2,sl A3 l3 c3,iv a4,.string a5,iv a6,sl A7 l7 c7] 30 ?_;intro gm hg w1 hbox hb;have GW:=sG (w:=w) hg X6;replace HB:=bS X6 hb;have BM:=am hbox;clear hb hbox hg;obtain⟨bA,bB,bC,bD,bE,bF,bG,bH,-⟩:=bc8 BM)|((with_reducible refine gc 26 ?_);refine q5A (some 14) rfl rfl func26 X4 rfl #[.agg #[.string a0,sl A1 l1 c1,sl A2 l2 c2,sl A3 l3 c3,iv a4,.string a5,iv a6,sl A7 l7 c7]] rfl X62 ?_;(with_reducible refine(q1j.calls k a0 _ _ l1 _ _ l2 _ _ l3 a4 a5 a6 _ _ l7 t _ ?side1 ?side2 ?side3 ?side4 ?side5 ?side6 ?side7 ?side8 BV.out).mono ?_);(case side1=>exact(X12 aK HB));(case side2=>exact aM.out);(case side3=>exact(X12 aQ HB));(case side4=>exact aT.out);(case side5=>exact(X12 aU HB));(case side6=>exact aW.out);(case side7=>exact(X12 aX HB));(case side8=>exact aY.out);rintro e w2 ⟨rfl,hb⟩;refine⟨_,rfl,?_⟩;have bI:=am (q4s (X9 BM) hb);have bJ:=bS X6 hb;clear HB BM;have BM:=bI;have HB:=bJ;clear bI bJ hb;obtain⟨bA,bB,bC,bD,bE,bF,bG,bH,-⟩:=bc8 BM))
  go_ret2
  exact⟨X7,X6⟩
end Go.Proofs.YtmffocankommaaaGreatDoor.P
