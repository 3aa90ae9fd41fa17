/- Printed walks: what each function of the program computes. Condition: the Lean function gives a value. -/
import Derived.Test.YtmffocankommaaaGreatDoorDYZed
import Derived.Test.YtmffocankommaaaGreatDoorDx5
import Derived.Test.YtmffocankommaaaGreatDoorDx26
import Derived.Test.YtmffocankommaaaGreatDoorDx18
import Derived.Test.YtmffocankommaaaGreatDoorDx21
namespace Go.Proofs.YtmffocankommaaaGreatDoor.P
open Go.RowKit Go.Proofs.YtmffocankommaaaGreatDoorW.PrintWords Go.Proofs.YtmffocankommaaaGreatDoorW.PrintLast Go.Proofs.YtmffocankommaaaGreatDoorW.PrintMore Go.Proofs.YtmffocankommaaaGreatDoorY Go.Proofs.YtmffocankommaaaGreatDoorS Go.Proofs.YtmffocankommaaaGreatDoorS _root_.Go.Proofs.Tryz
attribute [local go_sem] q2U q3x q3u q3V q3S q3i q3f q3v q3w
set_option linter.unusedVariables false
set_option maxHeartbeats 8000000
set_option maxRecDepth 100000
set_option linter.unusedSimpArgs false
mutual
def q1g.j0:Nat→Int→Bool→Int→q0b→Int→List (S28)→Option (Int)
 | 0,_,_,_,_,_,_=>none
 | k+1,x1,aA,aC,aD,aE,aG=>if aA=true then (some 2) else (if aE<0 then (q1g.j1 k x1 true aC aD aE aG) else (q1g.j1 k x1 (decide (aE > 9)) aC aD aE aG))
def q1g.j1:Nat→Int→Bool→Int→q0b→Int→List (S28)→Option (Int)
 | 0,_,_,_,_,_,_=>none
 | k+1,x1,aA,aC,aD,aE,aG=>if aA=true then (some 6) else (q1g.l0 k x1 0 aC aD aE aG)
def q1g.l0:Nat→Int→Int→Int→q0b→Int→List (S28)→Option (Int)
 | 0,_,_,_,_,_,_=>none
 | k+1,x1,x5,aA,aC,aD,aE=>if x5<(aE.length:Int) then (if 0≤x5 then ((q1g.f k ((q1o aE x5).f0) ((q1o aE x5).f1) ((q1o aE x5).f2) ((q1o aE x5).f3) (wrap64 (x1+1))).bind fun aG=>(if aG=0 then (q1g.l0 k x1 (wrap64 (x5+1)) aA aC aD aE) else (some aG))) else (none)) else (some 0)
def q1g.f:Nat→Int→q0b→Int→List (S28)→Int→Option (Int)
 | 0,_,_,_,_,_=>none
 | k+1,aA,aC,aD,aE,a1=>if a1 > 12 then (some 3) else ((q1y.f k aA aC aD aE).bind fun aG=>(if aG=true then (if aA=4 then ((q2x.f k aC).bind fun aH=>(q1g.j0 k a1 (!aH) aA aC aD aE)) else (if aA=11 then ((q2x.f k aC).bind fun aI=>(q1g.j0 k a1 (!aI) aA aC aD aE)) else (if aA=12 then ((q2x.f k aC).bind fun aJ=>(q1g.j0 k a1 (!aJ) aA aC aD aE)) else (q1g.j0 k a1 false aA aC aD aE)))) else (some 1)))
end
theorem q1g.calls (k:Nat):∀ (aA:Int) (aC:q0b) (aD:Int) (aE:Option Addr) (aG:Nat) (aH:List (S28)) (a1:Int) (r:Int) (w:World) (aI:Kd.C k28 w aE aH.length aH) (aJ:aH.length≤aG) (h:q1g.f k aA aC aD aH a1=some r),
  Calls prog 74 #[.agg #[iv aA,.string aC,iv aD,sl aE aH aG],iv a1] w fun e w'=>e=.returned (iv r)∧Below w.heap.size w w':=by
 induction k using Nat.strongRecOn with
 | _ k ih=>
 intro aA aC aD aE aG aH a1 r w aI aJ h;cases k with
 | zero=>exact absurd h (by simp [q1g.f])
 | succ k=>
 simp only[q1g.f]at h;have hu28:=underlying28;have aK:=am aI;have aM:=am aJ;clear aI aJ;have HB:=am (q0r w.heap.size w);have H:(if a1 > 12 then (some 3) else ((q1y.f k aA aC aD aH).bind fun aQ=>(if aQ=true then (if aA=4 then ((q2x.f k aC).bind fun aT=>(q1g.j0 k a1 (!aT) aA aC aD aH)) else (if aA=11 then ((q2x.f k aC).bind fun aU=>(q1g.j0 k a1 (!aU) aA aC aD aH)) else (if aA=12 then ((q2x.f k aC).bind fun aW=>(q1g.j0 k a1 (!aW) aA aC aD aH)) else (q1g.j0 k a1 false aA aC aD aH)))) else (some 1))))=some r:=h;clear h;by_cases c3:a1 > 12
 ·rw[if_pos c3]at H;have AH:decide (12<a1)=true:=q0p c3;clear c3;obtain rfl:=q0d H;go_enter func74,ntmps74;go_wp2_with (first|((with_reducible refine gd 2 ?_);refine be 2 #[iv aA,.string aC,iv aD,sl aE aH aG] 28 ?_;intro aX hg w4 hbox hb;have aY:=am (hbox);have aZ:=sG (w:=w) hg X6;have bA:=sG (w:=w) hg X6;replace HB:=bS X6 hb;clear hb hbox hg))
  go_ret
  exact⟨X11,(X10 HB bA)⟩
 ·rw[if_neg c3]at H;have AH:decide (12<a1)=false:=q0z c3;clear c3;obtain⟨aQ,A5,H⟩:=oA H;(try dsimp only at H);by_cases c6:aQ=true
  ·subst c6;replace H:=tP H;have bC:=am H;clear H;go_enter func74,ntmps74;go_upto_region 5 with (first|((with_reducible refine gd 2 ?_);refine be 2 #[iv aA,.string aC,iv aD,sl aE aH aG] 28 ?_;intro aX hg w8 hbox hb;have aY:=am (hbox);have aZ:=sG (w:=w) hg X6;have bA:=sG (w:=w) hg X6;replace HB:=bS X6 hb;clear hb hbox hg;have Z9:=bc4 aY)|((with_reducible refine gc 101 ?_);refine gCc (some 10) func101 (q1y.calls k aA aC aD _ _ aH true _ (X12 aK HB) aM.out A5.out) ?_;rintro w10 hb;replace aY:=kB aY hb;replace HB:=bS (X10 HB bA) hb;clear hb))
   (try simp only[Act.put,List.setIfInBounds_toArray,List.set_cons_zero,List.set_cons_succ]);go_cut [30] (fun bD wc=>∃ (kq:Nat) (bE:Bool),bD=.bool bE∧q0i (q1g.j0 kq a1 bE aA aC aD aH=some r)∧q0i (kq≤k)∧q0i (wc.heap[aX]?=some (.cells #[iv aA,.string aC,iv aD,(sl aE aH aG)] 28 (0,0)))∧q0i (Below w.heap.size w wc))
   case first=>
    have H:=bC.out;clear bC;by_cases bF:aA=4
    ·rw[if_pos bF]at H;have AA:=eT bF;have AC:=eF bF;clear bF;(first|rw[AA]|(simp only[q4g,q4q];rw[AA])|skip);obtain⟨aT,bH,H⟩:=oA H;(try dsimp only at H);have H':=am H;clear H;have bI:=bc4 aY;go_wp2_with (first|(go_at_call 68;(with_reducible refine(q2x.calls k aC aT _ bH.out).mono ?_);rintro e w' ⟨rfl,⟨nd,rfl⟩⟩))
     go_meet
     case rel=>exact⟨_,(!aT),X7,H',⟨X8⟩,⟨(X9 aY)⟩,⟨(X10 HB bA)⟩⟩
    ·rw[if_neg bF]at H;have AA:=nF bF;have AC:=nT bF;(first|rw[AA]|(simp only[q4g,q4q];rw[AA])|skip);by_cases bJ:aA=11
     ·rw[if_pos bJ]at H;have AD:=eT bJ;have AE:=eF bJ;clear bJ;obtain⟨aU,bL,H⟩:=oA H;(try dsimp only at H);have H':=am H;clear H;have bM:=bc4 aY;go_wp2_with (first|(go_at_call 68;(with_reducible refine(q2x.calls k aC aU _ bL.out).mono ?_);rintro e w' ⟨rfl,⟨nd,rfl⟩⟩))
      go_meet
      case rel=>exact⟨_,(!aU),X7,H',⟨X8⟩,⟨(X9 aY)⟩,⟨(X10 HB bA)⟩⟩
     ·rw[if_neg bJ]at H;have AD:=nF bJ;have AE:=nT bJ;by_cases bN:aA=12
      ·rw[if_pos bN]at H;have AF:=eT bN;have AG:=eF bN;clear bN;obtain⟨aW,bP,H⟩:=oA H;(try dsimp only at H);have H':=am H;clear H;have bQ:=bc4 aY;go_wp2_with (first|(go_at_call 68;(with_reducible refine(q2x.calls k aC aW _ bP.out).mono ?_);rintro e w' ⟨rfl,⟨nd,rfl⟩⟩))
       go_meet
       case rel=>exact⟨_,(!aW),X7,H',⟨X8⟩,⟨(X9 aY)⟩,⟨(X10 HB bA)⟩⟩
      ·rw[if_neg bN]at H;have AF:=nF bN;have AG:=nT bN;have H':=am H;clear H;have bR:=bc4 aY;go_wp2
       go_meet
       case rel=>exact⟨_,(false),X7,H',⟨X8⟩,⟨(X9 aY)⟩,⟨(X10 HB bA)⟩⟩
   case rest=>
    clear bC;(try clear c1 p2 c3 AH c6 c7 c10 bF AA AC bJ AD AE bN AF AG bI bM bQ bR Z9);obtain⟨kq,bE,rfl,HA,bT,aY,HB⟩:=hcut;cases kq with
    | zero=>exact absurd HA.out (by simp [q1g.j0])
    | succ bU=>
     have H:=HA.out;clear HA;simp only[q1g.j0]at H;by_cases bV:bE=true
     ·subst bV;replace H:=tP H;obtain rfl:=q0d H;go_wp2
      go_ret
      exact⟨X11,(X10 HB bA)⟩
     ·replace bV:=fI bV;subst bV;replace H:=tN H;have bW:=am H;clear H;go_upto_region 7 with (fail)
      go_cut [38] (fun bX wc=>∃ (kq:Nat) (bY:Bool),bX=.bool bY∧q0i (q1g.j1 kq a1 bY aA aC aD aH=some r)∧q0i (kq≤bU)∧q0i (wc.heap[aX]?=some (.cells #[iv aA,.string aC,iv aD,(sl aE aH aG)] 28 (0,0)))∧q0i (Below w.heap.size w wc))
      case first=>
       have H:=bW.out;clear bW;by_cases bZ:aD<0
       ·rw[if_pos bZ]at H;have AB:=dT bZ;clear bZ;(first|rw[AB]|(simp only[q4g,q4q];rw[AB])|skip);have H':=am H;clear H;have cA:=bc4 aY;go_wp2
        go_meet
        case rel=>exact⟨_,(true),X7,H',⟨by have:=bT.out;first|omega|exact q0f _⟩,⟨(X9 aY)⟩,⟨(X10 HB bA)⟩⟩
       ·rw[if_neg bZ]at H;have AB:=dF bZ;clear bZ;(first|rw[AB]|(simp only[q4g,q4q];rw[AB])|skip);have H':=am H;clear H;have cC:=bc4 aY;go_wp2
        go_meet
        case rel=>exact⟨_,(decide (aD > 9)),X7,H',⟨by have:=bT.out;first|omega|exact q0f _⟩,⟨(X9 aY)⟩,⟨(X10 HB bA)⟩⟩
      case rest=>
       clear bW;(try clear c1 c2);(try clear p2 p2);(try clear c3 AH c6 c7 c10 bF AA AC bJ AD AE bN AF AG bV bZ AB bI bM bQ bR cA cC Z9);obtain⟨kq,bY,rfl,HA,cD,aY,HB⟩:=hcut;cases kq with
       | zero=>exact absurd HA.out (by simp [q1g.j1])
       | succ cE=>
        have H:=HA.out;clear HA;simp only[q1g.j1]at H;by_cases cF:bY=true
        ·subst cF;replace H:=tP H;obtain rfl:=q0d H;go_wp2
         go_ret
         exact⟨X11,(X10 HB bA)⟩
        ·replace cF:=fI cF;subst cF;replace H:=tN H;have H':=am H;clear H;go_wp2
         go_loopg [5] cE (fun kq v5 w'=>∃ (cG:Int),v5=iv cG∧q0i (q1g.l0 kq a1 cG aA aC aD aH=some r)∧q0i (kq≤cE)∧q0i (w'.heap[aX]?=some (.cells #[iv aA,.string aC,iv aD,(sl aE aH aG)] 28 (0,0)))∧q0i (Below w.heap.size w w'))
         case atStart=>exact⟨(0),X7,H',⟨q0f _⟩,⟨(X9 aY)⟩,⟨(X10 HB bA)⟩⟩
         case round=>
          clear H';(try clear c1 c2);(try clear p2 p2);(try clear c3 AH c6 c7 c10 bF AA AC bJ AD AE bN AF AG bV bZ AB cF bI bM bQ bR cA cC Z9);obtain⟨cG,rfl,HA,cH,aY,HB⟩:=hrel;cases gk with
          | zero=>exact absurd HA.out (by simp [q1g.l0])
          | succ k3=>
           have H:=HA.out;clear HA;simp only[q1g.l0]at H;by_cases cI:cG<(aH.length:Int)
           ·rw[if_pos cI]at H;have AJ:=dT cI;clear cI;by_cases cJ:0≤cG
            ·rw[if_pos cJ]at H;have AM:=dT cJ;clear cJ;obtain⟨cK,cM,H⟩:=oA H;(try dsimp only at H);by_cases cN:cK=0
             ·rw[if_pos cN]at H;have AK:=eT cN;have AL:=eF cN;clear cN;have H':=am H;clear H;have Z31:=bc4 aY;have cO:0≤(cG:Int):=q0a X16;have cP:cG<(aH.length:Int):=q0a X16;obtain⟨cQ,cR,cS,AI,cT,cU,cV,cX,cY,cZ⟩:=q4K aK.out cG cO cP;cases AI;replace cT:=cB HB cT;replace cU:=cB HB cU;replace cV:=cB HB cV;replace cX:=cB HB cX;have dA:=am cZ;have dB:=am cY;clear cZ cY;replace cO:=q0c cO;replace cP:=q0c cP;go_wp2_with (first|((with_reducible refine gc 74 ?_);refine gCc (some 53) func74 (ih k3 (X91 bT cD cH) ((q1o aH cG).f0) ((q1o aH cG).f1) ((q1o aH cG).f2) _ _ ((q1o aH cG).f3) (wrap64 (a1+1)) cK _ (X12 dA HB) dB.out cM.out) ?_;rintro w32 hb;replace aY:=kB aY hb;replace HB:=bS (X10 HB bA) hb;clear hb))
              go_roundg k3
              case measure=>have:=bT.out;have:=cD.out;have:=cH.out;omega
              case rel=>exact⟨(wrap64 (cG+1)),X7,H',⟨(X91 bT cD cH)⟩,⟨(X9 aY)⟩,⟨(X10 HB bA)⟩⟩
             ·rw[if_neg cN]at H;have AK:=nF cN;have AL:=nT cN;obtain rfl:=q0d H;have Z33:=bc4 aY;have cO:0≤(cG:Int):=q0a X16;have cP:cG<(aH.length:Int):=q0a X16;obtain⟨cQ,cR,cS,AI,cT,cU,cV,cX,cY,cZ⟩:=q4K aK.out cG cO cP;cases AI;replace cT:=cB HB cT;replace cU:=cB HB cU;replace cV:=cB HB cV;replace cX:=cB HB cX;have dA:=am cZ;have dB:=am cY;clear cZ cY;replace cO:=q0c cO;replace cP:=q0c cP;go_wp2_with (first|((with_reducible refine gc 74 ?_);refine gCc (some 53) func74 (ih k3 (X91 bT cD cH) ((q1o aH cG).f0) ((q1o aH cG).f1) ((q1o aH cG).f2) _ _ ((q1o aH cG).f3) (wrap64 (a1+1)) cK _ (X12 dA HB) dB.out cM.out) ?_;rintro w34 hb;replace aY:=kB aY hb;replace HB:=bS (X10 HB bA) hb;clear hb))
              go_ret
              exact⟨X11,(X10 HB bA)⟩
            ·exact iN cJ H
           ·rw[if_neg cI]at H;have AJ:=dF cI;clear cI;obtain rfl:=q0d H;have Z35:=bc4 aY;go_wp2
            go_ret
            exact⟨X11,(X10 HB bA)⟩
  ·replace c6:=fI c6;subst c6;replace H:=tN H;obtain rfl:=q0d H;go_enter func74,ntmps74;go_wp2_with (first|((with_reducible refine gd 2 ?_);refine be 2 #[iv aA,.string aC,iv aD,sl aE aH aG] 28 ?_;intro aX hg w36 hbox hb;have aY:=am (hbox);have aZ:=sG (w:=w) hg X6;have bA:=sG (w:=w) hg X6;replace HB:=bS X6 hb;clear hb hbox hg;have Z37:=bc4 aY)|((with_reducible refine gc 101 ?_);refine gCc (some 10) func101 (q1y.calls k aA aC aD _ _ aH false _ (X12 aK HB) aM.out A5.out) ?_;rintro w38 hb;replace aY:=kB aY hb;replace HB:=bS (X10 HB bA) hb;clear hb))
   go_ret
   exact⟨X11,(X10 HB bA)⟩

def q3r.f (k:Nat) (aA:Int) (aC:q0b) (aD:Int) (aE:List (S28)):Option (Int):=(q1g.f k aA aC aD aE 1).bind fun aG=>(if aG=0 then ((q2r.f k aA aC aD aE).bind fun aH=>(if aH > 200 then (some 3) else (some 0))) else (some aG))
theorem q3r.calls (k:Nat) (aA:Int) (aC:q0b) (aD:Int) (aE:Option Addr) (aG:Nat) (aH:List (S28)) (r:Int) (w:World) (aI:Kd.C k28 w aE aH.length aH) (aJ:aH.length≤aG) (h:q3r.f k aA aC aD aH=some r) :
  Calls prog 39 #[.agg #[iv aA,.string aC,iv aD,sl aE aH aG]] w fun e w'=>e=.returned (iv r)∧Below w.heap.size w w':=by
 have hu28:=underlying28;have aK:=am aI;have aM:=am aJ;clear aI aJ;have HB:=am (q0r w.heap.size w);have H:=h;clear h;unfold q3r.f at H;obtain⟨aQ,A2,H⟩:=oA H;(try dsimp only at H);by_cases c3:aQ=0
 ·rw[if_pos c3]at H;have AA:=eT c3;have AB:=eF c3;clear c3;obtain⟨aU,A4,H⟩:=oA H;(try dsimp only at H);by_cases c5:aU > 200
  ·rw[if_pos c5]at H;have AC:decide (200<aU)=true:=q0p c5;clear c5;obtain rfl:=q0d H;go_enter func39,ntmps39;go_wp2_with (first|((with_reducible refine gd 1 ?_);refine be 1 #[iv aA,.string aC,iv aD,sl aE aH aG] 28 ?_;intro aX hg w6 hbox hb;have aY:=am (hbox);have aZ:=sG (w:=w) hg X6;have bA:=sG (w:=w) hg X6;replace HB:=bS X6 hb;clear hb hbox hg;have Z7:=bc4 aY)|((with_reducible refine gc 74 ?_);refine gCc (some 5) func74 (q1g.calls k aA aC aD _ _ aH 1 aQ _ (X12 aK HB) aM.out A2.out) ?_;rintro w8 hb;replace aY:=kB aY hb;replace HB:=bS (X10 HB bA) hb;clear hb;have Z9:=bc4 aY)|((with_reducible refine gc 15 ?_);refine gCc (some 10) func15 (q2r.calls k aA aC aD _ _ aH aU _ (X12 aK HB) aM.out A4.out) ?_;rintro w10 hb;replace aY:=kB aY hb;replace HB:=bS (X10 HB bA) hb;clear hb))
   go_ret
   exact⟨X11,(X10 HB bA)⟩
  ·rw[if_neg c5]at H;have AC:decide (200<aU)=false:=q0z c5;clear c5;obtain rfl:=q0d H;go_enter func39,ntmps39;go_wp2_with (first|((with_reducible refine gd 1 ?_);refine be 1 #[iv aA,.string aC,iv aD,sl aE aH aG] 28 ?_;intro aX hg w11 hbox hb;have aY:=am (hbox);have aZ:=sG (w:=w) hg X6;have bA:=sG (w:=w) hg X6;replace HB:=bS X6 hb;clear hb hbox hg;have Z12:=bc4 aY)|((with_reducible refine gc 74 ?_);refine gCc (some 5) func74 (q1g.calls k aA aC aD _ _ aH 1 aQ _ (X12 aK HB) aM.out A2.out) ?_;rintro w13 hb;replace aY:=kB aY hb;replace HB:=bS (X10 HB bA) hb;clear hb;have Z14:=bc4 aY)|((with_reducible refine gc 15 ?_);refine gCc (some 10) func15 (q2r.calls k aA aC aD _ _ aH aU _ (X12 aK HB) aM.out A4.out) ?_;rintro w15 hb;replace aY:=kB aY hb;replace HB:=bS (X10 HB bA) hb;clear hb))
   go_ret
   exact⟨X11,(X10 HB bA)⟩
 ·rw[if_neg c3]at H;have AA:=nF c3;have AB:=nT c3;obtain rfl:=q0d H;go_enter func39,ntmps39;go_wp2_with (first|((with_reducible refine gd 1 ?_);refine be 1 #[iv aA,.string aC,iv aD,sl aE aH aG] 28 ?_;intro aX hg w16 hbox hb;have aY:=am (hbox);have aZ:=sG (w:=w) hg X6;have bA:=sG (w:=w) hg X6;replace HB:=bS X6 hb;clear hb hbox hg;have Z17:=bc4 aY)|((with_reducible refine gc 74 ?_);refine gCc (some 5) func74 (q1g.calls k aA aC aD _ _ aH 1 aQ _ (X12 aK HB) aM.out A2.out) ?_;rintro w18 hb;replace aY:=kB aY hb;replace HB:=bS (X10 HB bA) hb;clear hb))
  go_ret
  exact⟨X11,(X10 HB bA)⟩
mutual
def q0I.j0:Nat→Bool→q0b→List (S68)→List (S70)→List (List q0b)→Int→q0b→Int→List (S28)→Option (Int)
 | 0,_,_,_,_,_,_,_,_,_=>none
 | k+1,aA,aC,aD,aE,aG,aH,aI,aJ,aK=>if aA=true then (some 3) else (q0I.l0 k 0 0 aC aD aE aG aH aI aJ aK)
def q0I.l0:Nat→Int→Int→q0b→List (S68)→List (S70)→List (List q0b)→Int→q0b→Int→List (S28)→Option (Int)
 | 0,_,_,_,_,_,_,_,_,_,_=>none
 | k+1,x3,x4,aA,aC,aD,aE,aG,aH,aI,aJ=>if x4<(aC.length:Int) then (if 0≤x4 then ((q2x.f k ((q1F aC x4).f0)).bind fun aK=>(if aK=true then ((q3r.f k ((q1F aC x4).f1.f0) ((q1F aC x4).f1.f1) ((q1F aC x4).f1.f2) ((q1F aC x4).f1.f3)).bind fun aM=>(if aM=0 then ((q2r.f k ((q1F aC x4).f1.f0) ((q1F aC x4).f1.f1) ((q1F aC x4).f1.f2) ((q1F aC x4).f1.f3)).bind fun aQ=>(q0I.l0 k (wrap64 (x3+aQ)) (wrap64 (x4+1)) aA aC aD aE aG aH aI aJ)) else (some aM))) else (some 2))) else (none)) else (q0I.l1 k x3 0 aA aC aD aE aG aH aI aJ)
def q0I.l1:Nat→Int→Int→q0b→List (S68)→List (S70)→List (List q0b)→Int→q0b→Int→List (S28)→Option (Int)
 | 0,_,_,_,_,_,_,_,_,_,_=>none
 | k+1,x3,x6,aA,aC,aD,aE,aG,aH,aI,aJ=>if x6<(aD.length:Int) then (if 0≤x6 then ((q2x.f k ((q2K aD x6).f0)).bind fun aK=>(if aK=true then (if ((q2K aD x6).f1)<0 then (some 6) else (if ((q2K aD x6).f2)<((q2K aD x6).f1) then (some 6) else (if ((q2K aD x6).f2) > 6 then (some 6) else (q0I.l1 k x3 (wrap64 (x6+1)) aA aC aD aE aG aH aI aJ)))) else (some 2))) else (none)) else (q0I.l2 k x3 0 aA aC aD aE aG aH aI aJ)
def q0I.l2:Nat→Int→Int→q0b→List (S68)→List (S70)→List (List q0b)→Int→q0b→Int→List (S28)→Option (Int)
 | 0,_,_,_,_,_,_,_,_,_,_=>none
 | k+1,x3,x8,aA,aC,aD,aE,aG,aH,aI,aJ=>if x8<(aE.length:Int) then (if 0≤x8 then (if ((q2Y aE x8).length:Int)=0 then (some 7) else (if ((q2Y aE x8).length:Int) > 6 then (some 3) else (q0I.l3 k x3 x8 0 aA aC aD aE aG aH aI aJ))) else (none)) else ((q3r.f k aG aH aI aJ).bind fun aK=>(if aK=0 then ((q2r.f k aG aH aI aJ).bind fun aM=>(if (wrap64 (x3+aM)) > 200 then (some 3) else (some 0))) else (some aK)))
def q0I.l3:Nat→Int→Int→Int→q0b→List (S68)→List (S70)→List (List q0b)→Int→q0b→Int→List (S28)→Option (Int)
 | 0,_,_,_,_,_,_,_,_,_,_,_=>none
 | k+1,x3,x8,x9,aA,aC,aD,aE,aG,aH,aI,aJ=>if 0≤x8 then (if x8<(aE.length:Int) then (if x9<((q2Y aE x8).length:Int) then (if 0≤x9 then ((q2x.f k (rdOf ByteArray.empty (q2Y aE x8) x9)).bind fun aK=>(if aK=true then (q0I.l3 k x3 x8 (wrap64 (x9+1)) aA aC aD aE aG aH aI aJ) else (some 2))) else (none)) else (q0I.l2 k x3 (wrap64 (x8+1)) aA aC aD aE aG aH aI aJ)) else (none)) else (none)
end
def q0I.f (k:Nat) (aA:q0b) (aC:List (S68)) (aD:List (S70)) (aE:List (List q0b)) (aG:Int) (aH:q0b) (aI:Int) (aJ:List (S28)):Option (Int):=(q3l.f k aA).bind fun aK=>(if aK=true then (if (aC.length:Int) > 20 then (q0I.j0 k true aA aC aD aE aG aH aI aJ) else (if (aD.length:Int) > 3 then (q0I.j0 k true aA aC aD aE aG aH aI aJ) else (q0I.j0 k (decide ((aE.length:Int) > 3)) aA aC aD aE aG aH aI aJ))) else (some 2))
theorem q0I.calls (k:Nat) (aA:q0b) (aC:Option Addr) (aD:Nat) (aE:List (S68)) (aG:Option Addr) (aH:Nat) (aI:List (S70)) (aJ:Option Addr) (aK:Nat) (aM:List (List q0b)) (aQ:Int) (aT:q0b) (aU:Int) (aW:Option Addr) (aX:Nat) (aY:List (S28)) (r:Int) (w:World) (aZ:Kd.C k68 w aC aE.length aE) (bA:aE.length≤aD) (bB:Kd.C k70 w aG aI.length aI) (bC:aI.length≤aH) (bD:Kd.C (Kd.slice 9 Kd.string) w aJ aM.length aM) (bE:aM.length≤aK) (bF:Kd.C k28 w aW aY.length aY) (bG:aY.length≤aX) (h:q0I.f k aA aE aI aM aQ aT aU aY=some r) :
  Calls prog 29 #[.agg #[.string aA,sl aC aE aD,sl aG aI aH,sl aJ aM aK,iv aQ,.string aT,iv aU,sl aW aY aX]] w fun e w'=>e=.returned (iv r)∧Below w.heap.size w w':=by
 have hu30:=underlying30;have hu28:=underlying28;have hu70:=underlying70;have bH:=am aZ;have HC0_1:=am bA;clear aZ bA;have bI:=am bB;have HC0_2:=am bC;clear bB bC;have bJ:=am bD;have HC0_3:=am bE;clear bD bE;have bK:=am bF;have bL:=am bG;clear bF bG;have HB:=am (q0r w.heap.size w);have H:=h;clear h;unfold q0I.f at H;obtain⟨bM,A2,H⟩:=oA H;(try dsimp only at H);by_cases c3:bM=true
 ·subst c3;replace H:=tP H;have bO:=am H;clear H;go_enter func29,ntmps29;go_upto_region 3 with (first|((with_reducible refine gd 1 ?_);(try (refine q2p (by rfl) ?_;dsimp only));refine be 1 #[.string aA,sl aC aE aD,sl aG aI aH,sl aJ aM aK,iv aQ,.string aT,iv aU,sl aW aY aX] 30 ?_;intro bP hg w5 hbox hb;have bQ:=am (hbox);have bR:=sG (w:=w) hg X6;have bT:=sG (w:=w) hg X6;replace HB:=bS X6 hb;clear hb hbox hg;have Z6:=bc8 bQ)|((with_reducible refine gc 67 ?_);refine gCc (some 13) func67 (q3l.calls k aA true _ A2.out) ?_;rintro w' ⟨nd,rfl⟩))
  (try simp only[Act.put,List.setIfInBounds_toArray,List.set_cons_zero,List.set_cons_succ]);go_cut [30] (fun bU wc=>∃ (kq:Nat) (bV:Bool),bU=.bool bV∧q0i (q0I.j0 kq bV aA aE aI aM aQ aT aU aY=some r)∧q0i (kq≤k)∧q0i (wc.heap[bP]?=some (.cells #[.string aA,(sl aC aE aD),(sl aG aI aH),(sl aJ aM aK),iv aQ,.string aT,iv aU,(sl aW aY aX)] 30 (0,0)))∧q0i (Below w.heap.size w wc))
  case first=>
   have H:=bO.out;clear bO;by_cases c7:(aE.length:Int) > 20
   ·rw[if_pos c7]at H;have AB:decide (20<(aE.length:Int))=true:=q0p c7;have AF:decide (20<aE.length)=true:=q0p (by omega);clear c7;(first|rw[AB]|(simp only[q4g,q4q];rw[AB])|skip);have H':=am H;clear H;have Z8:=bc8 bQ;go_wp2
    go_meet
    case rel=>exact⟨_,(true),X7,H',⟨X8⟩,⟨(X9 bQ)⟩,⟨(X10 HB bT)⟩⟩
   ·rw[if_neg c7]at H;have AB:decide (20<(aE.length:Int))=false:=q0z c7;have AF:decide (20<aE.length)=false:=q0z (by omega);clear c7;(first|rw[AB]|(simp only[q4g,q4q];rw[AB])|skip);by_cases c9:(aI.length:Int) > 3
    ·rw[if_pos c9]at H;have AG:decide (3<(aI.length:Int))=true:=q0p c9;have AH:decide (3<aI.length)=true:=q0p (by omega);clear c9;have H':=am H;clear H;have bW:=bc8 bQ;go_wp2
     go_meet
     case rel=>exact⟨_,(true),X7,H',⟨X8⟩,⟨(X9 bQ)⟩,⟨(X10 HB bT)⟩⟩
    ·rw[if_neg c9]at H;have AG:decide (3<(aI.length:Int))=false:=q0z c9;have AH:decide (3<aI.length)=false:=q0z (by omega);clear c9;have H':=am H;clear H;have bX:=bc8 bQ;go_wp2
     go_meet
     case rel=>exact⟨_,(decide ((aM.length:Int) > 3)),X7,H',⟨X8⟩,⟨(X9 bQ)⟩,⟨(X10 HB bT)⟩⟩
  case rest=>
   clear bO;(try clear c2 p2 c3 c6 c7 AB AF c9 AG AH bW bX Z6 Z8);obtain⟨kq,bV,rfl,HA,bY,bQ,HB⟩:=hcut;cases kq with
   | zero=>exact absurd HA.out (by simp [q0I.j0])
   | succ bZ=>
    have H:=HA.out;clear HA;simp only[q0I.j0]at H;by_cases cA:bV=true
    ·subst cA;replace H:=tP H;obtain rfl:=q0d H;go_wp2
     go_ret
     exact⟨X11,(X10 HB bT)⟩
    ·replace cA:=fI cA;subst cA;replace H:=tN H;have H':=am H;clear H;go_wp2
     go_loopg [3,4] bZ (fun kq v3 v4 w'=>∃ (cC:Int) (cD:Int),v3=iv cC∧v4=iv cD∧q0i (q0I.l0 kq cC cD aA aE aI aM aQ aT aU aY=some r)∧q0i (kq≤bZ)∧q0i (w'.heap[bP]?=some (.cells #[.string aA,(sl aC aE aD),(sl aG aI aH),(sl aJ aM aK),iv aQ,.string aT,iv aU,(sl aW aY aX)] 30 (0,0)))∧q0i (Below w.heap.size w w'))
     case atStart=>exact⟨(0),(0),X7,X7,H',⟨q0f _⟩,⟨(X9 bQ)⟩,⟨(X10 HB bT)⟩⟩
     case round=>
      clear H';(try clear c1 c2);(try clear p2 p2);(try clear c3 c6 c7 AB AF c9 AG AH cA bW bX Z6 Z8);obtain⟨cC,cD,rfl,rfl,HA,cE,bQ,HB⟩:=hrel;cases gk with
      | zero=>exact absurd HA.out (by simp [q0I.l0])
      | succ k2=>
       have H:=HA.out;clear HA;simp only[q0I.l0]at H;by_cases cF:cD<(aE.length:Int)
       ·rw[if_pos cF]at H;have AI:=dT cF;clear cF;by_cases cG:0≤cD
        ·rw[if_pos cG]at H;have AL:=dT cG;clear cG;obtain⟨cH,cJ,H⟩:=oA H;(try dsimp only at H);by_cases cK:cH=true
         ·subst cK;replace H:=tP H;obtain⟨cL,cN,H⟩:=oA H;(try dsimp only at H);by_cases cO:cL=0
          ·rw[if_pos cO]at H;have AJ:=eT cO;have AK:=eF cO;clear cO;obtain⟨cP,cR,H⟩:=oA H;(try dsimp only at H);have H':=am H;clear H;have cS:=bc8 bQ;have cT:0≤(cD:Int):=q0a X16;have cU:cD<(aE.length:Int):=q0a X16;obtain⟨cV,cX,cY,AC,cZ,dA,dB,dC,dD,dE,dG⟩:=q5E bH.out cD cT cU;cases AC;replace cZ:=cB HB cZ;replace dA:=cB HB dA;replace dB:=cB HB dB;replace dC:=cB HB dC;replace dD:=cB HB dD;have dH:=am dG;have dI:=am dE;clear dG dE;replace cT:=q0c cT;replace cU:=q0c cU;go_wp2_with (first|((with_reducible refine gc 68 ?_);refine gCc (some 44) func68 (q2x.calls k2 ((q1F aE cD).f0) true _ cJ.out) ?_;rintro w' ⟨nd,rfl⟩;have dJ:0≤(cD:Int):=q0a X16;have dK:cD<(aE.length:Int):=q0a X16;obtain⟨dL,dM,dN,AM,dO,dP,dQ,dR,dS,dU,dV⟩:=q5E bH.out cD dJ dK;obtain rfl:cV=dL:=(by injection AM);replace dO:=cB HB dO;replace dP:=cB HB dP;replace dQ:=cB HB dQ;replace dR:=cB HB dR;replace dS:=cB HB dS;have dW:=am dV;have dX:=am dU;clear dV dU;replace dJ:=q0c dJ;replace dK:=q0c dK;have ea_:=q0d (dD.symm.trans dS);injection ea_ with ea_ en_ ec_;subst ea_;subst ec_;clear en_)|((with_reducible refine gc 39 ?_);refine gCc (some 52) func39 (q3r.calls k2 ((q1F aE cD).f1.f0) ((q1F aE cD).f1.f1) ((q1F aE cD).f1.f2) _ _ ((q1F aE cD).f1.f3) cL _ X188 dX.out cN.out) ?_;rintro w21 hb;replace bQ:=kB bQ hb;replace HB:=bS (X10 HB bT) hb;clear hb;have dY:=bc8 bQ;have dZ:0≤(cD:Int):=q0a X16;have eA:cD<(aE.length:Int):=q0a X16;obtain⟨eB,eC,eD,BA,eE,eG,eH,eI,eJ,eK,eL⟩:=q5E bH.out cD dZ eA;obtain rfl:cV=eB:=(by injection BA);replace eE:=cB HB eE;replace eG:=cB HB eG;replace eH:=cB HB eH;replace eI:=cB HB eI;replace eJ:=cB HB eJ;have eM:=am eL;have eN:=am eK;clear eL eK;replace dZ:=q0c dZ;replace eA:=q0c eA)|((with_reducible refine gc 15 ?_);refine gCc (some 63) func15 (q2r.calls k2 ((q1F aE cD).f1.f0) ((q1F aE cD).f1.f1) ((q1F aE cD).f1.f2) _ _ ((q1F aE cD).f1.f3) cP _ (cW (q0Y eM.out HB.out)) eN.out cR.out) ?_;rintro w23 hb;replace bQ:=kB bQ hb;replace HB:=bS (X10 HB bT) hb;clear hb))
           go_roundg k2
           case measure=>have:=bY.out;have:=cE.out;omega
           case rel=>exact⟨(wrap64 (cC+cP)),(wrap64 (cD+1)),X7,X7,H',⟨by have:=bY.out;have:=cE.out;omega⟩,⟨(X9 bQ)⟩,⟨(X10 HB bT)⟩⟩
          ·rw[if_neg cO]at H;have AJ:=nF cO;have AK:=nT cO;obtain rfl:=q0d H;have eO:=bc8 bQ;have cT:0≤(cD:Int):=q0a X16;have cU:cD<(aE.length:Int):=q0a X16;obtain⟨cV,cX,cY,AC,cZ,dA,dB,dC,dD,dE,dG⟩:=q5E bH.out cD cT cU;cases AC;replace cZ:=cB HB cZ;replace dA:=cB HB dA;replace dB:=cB HB dB;replace dC:=cB HB dC;replace dD:=cB HB dD;have dH:=am dG;have dI:=am dE;clear dG dE;replace cT:=q0c cT;replace cU:=q0c cU;go_wp2_with (first|((with_reducible refine gc 68 ?_);refine gCc (some 44) func68 (q2x.calls k2 ((q1F aE cD).f0) true _ cJ.out) ?_;rintro w' ⟨nd,rfl⟩;have dJ:0≤(cD:Int):=q0a X16;have dK:cD<(aE.length:Int):=q0a X16;obtain⟨dL,dM,dN,AM,dO,dP,dQ,dR,dS,dU,dV⟩:=q5E bH.out cD dJ dK;obtain rfl:cV=dL:=(by injection AM);replace dO:=cB HB dO;replace dP:=cB HB dP;replace dQ:=cB HB dQ;replace dR:=cB HB dR;replace dS:=cB HB dS;have dW:=am dV;have dX:=am dU;clear dV dU;replace dJ:=q0c dJ;replace dK:=q0c dK;have ea_:=q0d (dD.symm.trans dS);injection ea_ with ea_ en_ ec_;subst ea_;subst ec_;clear en_)|((with_reducible refine gc 39 ?_);refine gCc (some 52) func39 (q3r.calls k2 ((q1F aE cD).f1.f0) ((q1F aE cD).f1.f1) ((q1F aE cD).f1.f2) _ _ ((q1F aE cD).f1.f3) cL _ X188 dX.out cN.out) ?_;rintro w25 hb;replace bQ:=kB bQ hb;replace HB:=bS (X10 HB bT) hb;clear hb))
           go_ret
           exact⟨X11,(X10 HB bT)⟩
         ·replace cK:=fI cK;subst cK;replace H:=tN H;obtain rfl:=q0d H;have eP:=bc8 bQ;have cT:0≤(cD:Int):=q0a X16;have cU:cD<(aE.length:Int):=q0a X16;obtain⟨cV,cX,cY,AC,cZ,dA,dB,dC,dD,dE,dG⟩:=q5E bH.out cD cT cU;cases AC;replace cZ:=cB HB cZ;replace dA:=cB HB dA;replace dB:=cB HB dB;replace dC:=cB HB dC;replace dD:=cB HB dD;have dH:=am dG;have dI:=am dE;clear dG dE;replace cT:=q0c cT;replace cU:=q0c cU;go_wp2_with (first|((with_reducible refine gc 68 ?_);refine gCc (some 44) func68 (q2x.calls k2 ((q1F aE cD).f0) false _ cJ.out) ?_;rintro w' ⟨nd,rfl⟩))
          go_ret
          exact⟨X11,(X10 HB bT)⟩
        ·exact iN cG H
       ·rw[if_neg cF]at H;have AI:=dF cF;clear cF;have H':=am H;clear H;have eQ:=bc8 bQ;go_wp2
        go_loopg [6] k2 (fun kq v6 w'=>∃ (eR:Int),v6=iv eR∧q0i (q0I.l1 kq cC eR aA aE aI aM aQ aT aU aY=some r)∧q0i (kq≤k2)∧q0i (w'.heap[bP]?=some (.cells #[.string aA,(sl aC aE aD),(sl aG aI aH),(sl aJ aM aK),iv aQ,.string aT,iv aU,(sl aW aY aX)] 30 (0,0)))∧q0i (Below w.heap.size w w'))
        case atStart=>exact⟨(0),X7,H',⟨q0f _⟩,⟨(X9 bQ)⟩,⟨(X10 HB bT)⟩⟩
        case round=>
         clear H';(try clear c1 p1 q1 eS c2);(try clear p2 p2);(try clear c3 c6 p6 c7 AB AF c9 AG AH eU eV eW eX cA cF AI cG AL eY cK cO AJ AK bW bX cS dY eO eP eQ Z6 Z8 cZ dA dB dC dD dO dP dQ dR dS eE eG eH eI eJ cT dJ dZ cU dK eA);obtain⟨eR,rfl,HA,eZ,bQ,HB⟩:=hrel;cases gk with
         | zero=>exact absurd HA.out (by simp [q0I.l1])
         | succ k3=>
          have H:=HA.out;clear HA;simp only[q0I.l1]at H;by_cases fA:eR<(aI.length:Int)
          ·rw[if_pos fA]at H;have AN:=dT fA;clear fA;by_cases fB:0≤eR
           ·rw[if_pos fB]at H;have AU:=dT fB;clear fB;obtain⟨fC,fE,H⟩:=oA H;(try dsimp only at H);by_cases fF:fC=true
            ·subst fF;replace H:=tP H;by_cases fG:((q2K aI eR).f1)<0
             ·rw[if_pos fG]at H;have AO:=dT fG;clear fG;obtain rfl:=q0d H;have fH:=bc8 bQ;have fJ:0≤(eR:Int):=q0a X16;have fK:eR<(aI.length:Int):=q0a X16;obtain⟨fL,AA,fM,fN,fO⟩:=q5K bI.out eR fJ fK;cases AA;replace fM:=cB HB fM;replace fN:=cB HB fN;replace fO:=cB HB fO;replace fJ:=q0c fJ;replace fK:=q0c fK;go_wp2_with (first|((with_reducible refine gd 7 ?_);(try (refine q2p (by rfl) ?_;dsimp only));refine be 7 #[.string eBb,iv 0,iv 0] 70 ?_;intro fP hg w34 hbox hb;have fQ:=am (hbox);have fR:=sG (w:=w) hg (X10 HB bT);have fS:=sG (w:=w) hg (X10 HB bT);replace HB:=bS (X10 HB bT) hb;have fT:=nLT hg bQ;have fU:=nGT hg bQ;replace bQ:=kB bQ hb;clear hb hbox hg;have BI:=fU.out;have BK:=fT.out;have fV:=bc3 fQ)|((with_reducible refine gc 68 ?_);refine gCc (some 79) func68 (q2x.calls k3 ((q2K aI eR).f0) true _ fE.out) ?_;rintro w' ⟨nd,rfl⟩))
              go_ret
              exact⟨X11,(X17 HB bT fS)⟩
             ·rw[if_neg fG]at H;have AO:=dF fG;clear fG;by_cases fW:((q2K aI eR).f2)<((q2K aI eR).f1)
              ·rw[if_pos fW]at H;have AP:=dT fW;clear fW;obtain rfl:=q0d H;have fX:=bc8 bQ;have fJ:0≤(eR:Int):=q0a X16;have fK:eR<(aI.length:Int):=q0a X16;obtain⟨fL,AA,fM,fN,fO⟩:=q5K bI.out eR fJ fK;cases AA;replace fM:=cB HB fM;replace fN:=cB HB fN;replace fO:=cB HB fO;replace fJ:=q0c fJ;replace fK:=q0c fK;go_wp2_with (first|((with_reducible refine gd 7 ?_);(try (refine q2p (by rfl) ?_;dsimp only));refine be 7 #[.string eBb,iv 0,iv 0] 70 ?_;intro fP hg w39 hbox hb;have fQ:=am (hbox);have fR:=sG (w:=w) hg (X10 HB bT);have fS:=sG (w:=w) hg (X10 HB bT);replace HB:=bS (X10 HB bT) hb;have fT:=nLT hg bQ;have fU:=nGT hg bQ;replace bQ:=kB bQ hb;clear hb hbox hg;have BL:=fU.out;have BN:=fT.out;have fY:=bc3 fQ)|((with_reducible refine gc 68 ?_);refine gCc (some 79) func68 (q2x.calls k3 ((q2K aI eR).f0) true _ fE.out) ?_;rintro w' ⟨nd,rfl⟩))
               go_ret
               exact⟨X11,(X17 HB bT fS)⟩
              ·rw[if_neg fW]at H;have AP:=dF fW;clear fW;by_cases fZ:((q2K aI eR).f2) > 6
               ·rw[if_pos fZ]at H;have AQ:decide (6<((q2K aI eR).f2))=true:=q0p fZ;clear fZ;obtain rfl:=q0d H;have gA:=bc8 bQ;have fJ:0≤(eR:Int):=q0a X16;have fK:eR<(aI.length:Int):=q0a X16;obtain⟨fL,AA,fM,fN,fO⟩:=q5K bI.out eR fJ fK;cases AA;replace fM:=cB HB fM;replace fN:=cB HB fN;replace fO:=cB HB fO;replace fJ:=q0c fJ;replace fK:=q0c fK;go_wp2_with (first|((with_reducible refine gd 7 ?_);(try (refine q2p (by rfl) ?_;dsimp only));refine be 7 #[.string eBb,iv 0,iv 0] 70 ?_;intro fP hg w44 hbox hb;have fQ:=am (hbox);have fR:=sG (w:=w) hg (X10 HB bT);have fS:=sG (w:=w) hg (X10 HB bT);replace HB:=bS (X10 HB bT) hb;have fT:=nLT hg bQ;have fU:=nGT hg bQ;replace bQ:=kB bQ hb;clear hb hbox hg;have BO:=fU.out;have BP:=fT.out;have gB:=bc3 fQ)|((with_reducible refine gc 68 ?_);refine gCc (some 79) func68 (q2x.calls k3 ((q2K aI eR).f0) true _ fE.out) ?_;rintro w' ⟨nd,rfl⟩))
                go_ret
                exact⟨X11,(X17 HB bT fS)⟩
               ·rw[if_neg fZ]at H;have AQ:decide (6<((q2K aI eR).f2))=false:=q0z fZ;clear fZ;have H':=am H;clear H;have gC:=bc8 bQ;have fJ:0≤(eR:Int):=q0a X16;have fK:eR<(aI.length:Int):=q0a X16;obtain⟨fL,AA,fM,fN,fO⟩:=q5K bI.out eR fJ fK;cases AA;replace fM:=cB HB fM;replace fN:=cB HB fN;replace fO:=cB HB fO;replace fJ:=q0c fJ;replace fK:=q0c fK;go_wp2_with (first|((with_reducible refine gd 7 ?_);(try (refine q2p (by rfl) ?_;dsimp only));refine be 7 #[.string eBb,iv 0,iv 0] 70 ?_;intro fP hg w48 hbox hb;have fQ:=am (hbox);have fR:=sG (w:=w) hg (X10 HB bT);have fS:=sG (w:=w) hg (X10 HB bT);replace HB:=bS (X10 HB bT) hb;have fT:=nLT hg bQ;have fU:=nGT hg bQ;replace bQ:=kB bQ hb;clear hb hbox hg;have BQ:=fU.out;have BR:=fT.out;have gD:=bc3 fQ)|((with_reducible refine gc 68 ?_);refine gCc (some 79) func68 (q2x.calls k3 ((q2K aI eR).f0) true _ fE.out) ?_;rintro w' ⟨nd,rfl⟩))
                go_roundg k3
                case measure=>have:=bY.out;have:=cE.out;have:=eZ.out;omega
                case rel=>exact⟨(wrap64 (eR+1)),X7,H',⟨by have:=bY.out;have:=cE.out;have:=eZ.out;omega⟩,⟨by (with_reducible repeat (first|refine q0A ?_ _|refine q0B ?_|refine q0v ?_ _));refine q1M ?_ fT.out _;(with_reducible repeat (first|refine q0A ?_ _|refine q0B ?_|refine q0v ?_ _));refine q1M ?_ fT.out _;(with_reducible repeat (first|refine q0A ?_ _|refine q0B ?_|refine q0v ?_ _));refine q1M ?_ fT.out _;(with_reducible repeat (first|refine q0A ?_ _|refine q0B ?_|refine q0v ?_ _));exact bQ.out⟩,⟨(X17 HB bT fS)⟩⟩
            ·replace fF:=fI fF;subst fF;replace H:=tN H;obtain rfl:=q0d H;have gE:=bc8 bQ;have fJ:0≤(eR:Int):=q0a X16;have fK:eR<(aI.length:Int):=q0a X16;obtain⟨fL,AA,fM,fN,fO⟩:=q5K bI.out eR fJ fK;cases AA;replace fM:=cB HB fM;replace fN:=cB HB fN;replace fO:=cB HB fO;replace fJ:=q0c fJ;replace fK:=q0c fK;go_wp2_with (first|((with_reducible refine gd 7 ?_);(try (refine q2p (by rfl) ?_;dsimp only));refine be 7 #[.string eBb,iv 0,iv 0] 70 ?_;intro fP hg w52 hbox hb;have fQ:=am (hbox);have fR:=sG (w:=w) hg (X10 HB bT);have fS:=sG (w:=w) hg (X10 HB bT);replace HB:=bS (X10 HB bT) hb;have fT:=nLT hg bQ;have fU:=nGT hg bQ;replace bQ:=kB bQ hb;clear hb hbox hg;have BU:=fU.out;have BX:=fT.out;have gF:=bc3 fQ)|((with_reducible refine gc 68 ?_);refine gCc (some 79) func68 (q2x.calls k3 ((q2K aI eR).f0) false _ fE.out) ?_;rintro w' ⟨nd,rfl⟩))
             go_ret
             exact⟨X11,(X17 HB bT fS)⟩
           ·exact iN fB H
          ·rw[if_neg fA]at H;have AN:=dF fA;clear fA;have H':=am H;clear H;have gG:=bc8 bQ;go_wp2
           go_loopg [8] k3 (fun kq v8 w'=>∃ (gH:Int),v8=iv gH∧q0i (q0I.l2 kq cC gH aA aE aI aM aQ aT aU aY=some r)∧q0i (kq≤k3)∧q0i (w'.heap[bP]?=some (.cells #[.string aA,(sl aC aE aD),(sl aG aI aH),(sl aJ aM aK),iv aQ,.string aT,iv aU,(sl aW aY aX)] 30 (0,0)))∧q0i (Below w.heap.size w w'))
           case atStart=>exact⟨(0),X7,H',⟨q0f _⟩,⟨(X9 bQ)⟩,⟨(X10 HB bT)⟩⟩
           case round=>
            clear H';(try clear c1);(try clear p1 p1);(try clear q1 q1);(try clear eS c2);(try clear p2 p2);(try clear c3 c4 c5 c6);(try clear p6 p6);(try clear c7 AB AF c9 AG AH eU);(try clear eV eV);(try clear eW eW);(try clear eX cA cF AI cG AL eY cK cO AJ AK fA AN fB AU fF fG AO gI fW AP gJ gK fZ AQ gM gN gP bW bX cS dY eO eP eQ fH fV fX fY gA gB gC gD gE gF gG Z6 Z8 cZ dA dB dC dD dO dP dQ dR dS eE eG eH eI eJ fM fN fO cT dJ dZ fJ cU dK eA fK);obtain⟨gH,rfl,HA,gQ,bQ,HB⟩:=hrel;cases gk with
            | zero=>exact absurd HA.out (by simp [q0I.l2])
            | succ k4=>
             have H:=HA.out;clear HA;simp only[q0I.l2]at H;by_cases gR:gH<(aM.length:Int)
             ·rw[if_pos gR]at H;have AV:=dT gR;clear gR;by_cases gS:0≤gH
              ·rw[if_pos gS]at H;have BB:=dT gS;clear gS;by_cases gT:((q2Y aM gH).length:Int)=0
               ·rw[if_pos gT]at H;have AW:=eT gT;have AX:=eF gT;clear gT;obtain rfl:=q0d H;have gU:=bc8 bQ;have gV:0≤(gH:Int):=q0a X16;have gW:gH<(aM.length:Int):=q0a X16;obtain⟨gX,gY,gZ,AD,hA,hD,hE⟩:=q5o bJ.out gH gV gW;cases AD;replace hA:=cB HB hA;have hF:=am hE;have hG:=am hD;clear hE hD;replace gV:=q0c gV;replace gW:=q0c gW;go_wp2
                go_ret
                exact⟨X11,(X10 HB bT)⟩
               ·rw[if_neg gT]at H;have AW:=nF gT;have AX:=nT gT;have BC : ¬ ((q2Y aM gH)=[]):=fun h_=>gT (by rw[h_];rfl);by_cases hH:((q2Y aM gH).length:Int) > 6
                ·rw[if_pos hH]at H;have AY:decide (6<((q2Y aM gH).length:Int))=true:=q0p hH;have AZ:decide (6<(q2Y aM gH).length)=true:=q0p (by omega);clear hH;obtain rfl:=q0d H;have hJ:=bc8 bQ;have gV:0≤(gH:Int):=q0a X16;have gW:gH<(aM.length:Int):=q0a X16;obtain⟨gX,gY,gZ,AD,hA,hD,hE⟩:=q5o bJ.out gH gV gW;cases AD;replace hA:=cB HB hA;have hF:=am hE;have hG:=am hD;clear hE hD;replace gV:=q0c gV;replace gW:=q0c gW;have hL:0≤(gH:Int):=q0a X16;have hM:gH<(aM.length:Int):=q0a X16;obtain⟨hO,hP,hU,AR,hV,hX,hY⟩:=q5o bJ.out gH hL hM;obtain rfl:gX=hO:=(by injection AR);replace hV:=cB HB hV;have hZ:=am hY;have iA:=am hX;clear hY hX;replace hL:=q0c hL;replace hM:=q0c hM;have ea_:=q0d (hA.symm.trans hV);injection ea_ with ea_ en_ ec_;subst ea_;subst ec_;clear en_;go_wp2
                 go_ret
                 exact⟨X11,(X10 HB bT)⟩
                ·rw[if_neg hH]at H;have AY:decide (6<((q2Y aM gH).length:Int))=false:=q0z hH;have AZ:decide (6<(q2Y aM gH).length)=false:=q0z (by omega);clear hH;have H':=am H;clear H;have iB:=bc8 bQ;have gV:0≤(gH:Int):=q0a X16;have gW:gH<(aM.length:Int):=q0a X16;obtain⟨gX,gY,gZ,AD,hA,hD,hE⟩:=q5o bJ.out gH gV gW;cases AD;replace hA:=cB HB hA;have hF:=am hE;have hG:=am hD;clear hE hD;replace gV:=q0c gV;replace gW:=q0c gW;have hL:0≤(gH:Int):=q0a X16;have hM:gH<(aM.length:Int):=q0a X16;obtain⟨hO,hP,hU,AR,hV,hX,hY⟩:=q5o bJ.out gH hL hM;obtain rfl:gX=hO:=(by injection AR);replace hV:=cB HB hV;have hZ:=am hY;have iA:=am hX;clear hY hX;replace hL:=q0c hL;replace hM:=q0c hM;have ea_:=q0d (hA.symm.trans hV);injection ea_ with ea_ en_ ec_;subst ea_;subst ec_;clear en_;go_wp2
                 go_loopg [9] k4 (fun kq v9 w'=>∃ (iC:Int),v9=iv iC∧q0i (q0I.l3 kq cC gH iC aA aE aI aM aQ aT aU aY=some r)∧q0i (kq≤k4)∧q0i (w'.heap[bP]?=some (.cells #[.string aA,(sl aC aE aD),(sl aG aI aH),(sl (some gX) aM aK),iv aQ,.string aT,iv aU,(sl aW aY aX)] 30 (0,0)))∧q0i (Below w.heap.size w w'))
                 case atStart=>exact⟨(0),X7,H',⟨q0f _⟩,⟨(X9 bQ)⟩,⟨(X10 HB bT)⟩⟩
                 case round=>
                  clear H';(try clear c1);(try clear p1 p1);(try clear q1 q1);(try clear eS c2);(try clear p2 p2);(try clear c3 c4 c5 c6);(try clear p6 p6);(try clear c7 AB AF c9 AG AH eU);(try clear eV eV);(try clear eW eW);(try clear eX cA cF AI cG AL eY cK cO AJ AK fA AN fB AU fF fG AO gI fW AP gJ gK fZ AQ gM gN gP gR AV gS BB gT AW AX BC hH AY AZ bW bX cS dY eO eP eQ fH fV fX fY gA gB gC gD gE gF gG gU hJ iB Z6 Z8 cZ dA dB dC dD dO dP dQ dR dS eE eG eH eI eJ fM fN fO hA hV cT dJ dZ fJ gV hL cU dK eA fK gW hM);obtain⟨iC,rfl,HA,iD,bQ,HB⟩:=hrel;cases gk with
                  | zero=>exact absurd HA.out (by simp [q0I.l3])
                  | succ k5=>
                   have H:=HA.out;clear HA;simp only[q0I.l3]at H;by_cases iE:0≤gH
                   ·rw[if_pos iE]at H;have BY:=dT iE;clear iE;by_cases iF:gH<(aM.length:Int)
                    ·rw[if_pos iF]at H;have BZ:=dT iF;clear iF;by_cases iG:iC<((q2Y aM gH).length:Int)
                     ·rw[if_pos iG]at H;have BD:=dT iG;clear iG;by_cases iH:0≤iC
                      ·rw[if_pos iH]at H;have CA:=dT iH;clear iH;obtain⟨iI,iK,H⟩:=oA H;(try dsimp only at H);by_cases iL:iI=true
                       ·subst iL;replace H:=tP H;have H':=am H;clear H;have Z69:=bc8 bQ;have iM:0≤(gH:Int):=q0a X16;have iO:gH<(aM.length:Int):=q0a X16;obtain⟨iQ,iR,iS,AE,iT,iU,iV⟩:=q5o bJ.out gH iM iO;obtain rfl:gX=iQ:=(by injection AE);replace iT:=cB HB iT;have iW:=am iV;have iX:=am iU;clear iV iU;replace iM:=q0c iM;replace iO:=q0c iO;have iY:0≤(gH:Int):=q0a X16;have iZ:gH<(aM.length:Int):=q0a X16;obtain⟨jA,jB,jC,AS,jD,jE,jF⟩:=q5o bJ.out gH iY iZ;obtain rfl:gX=jA:=(by injection AS);replace jD:=cB HB jD;have jG:=am jF;have jH:=am jE;clear jF jE;replace iY:=q0c iY;replace iZ:=q0c iZ;have ea_:=q0d (iT.symm.trans jD);injection ea_ with ea_ en_ ec_;subst ea_;subst ec_;clear en_;have jI:0≤(iC:Int):=q0a X16;have jJ:iC<((q2Y aM gH).length:Int):=q0a X16;obtain⟨jK,AT,jL⟩:=q3X jG.out iC jI jJ;cases AT;replace jL:=cB HB jL;replace jI:=q0c jI;replace jJ:=q0c jJ;go_wp2_with (first|((with_reducible refine gc 68 ?_);refine gCc (some 135) func68 (q2x.calls k5 (rdOf ByteArray.empty (q2Y aM gH) iC) true _ iK.out) ?_;rintro w' ⟨nd,rfl⟩))
                        go_roundg k5
                        case measure=>have:=bY.out;have:=cE.out;have:=eZ.out;have:=gQ.out;have:=iD.out;omega
                        case rel=>exact⟨(wrap64 (iC+1)),X7,H',⟨X190⟩,⟨(X9 bQ)⟩,⟨(X10 HB bT)⟩⟩
                       ·replace iL:=fI iL;subst iL;replace H:=tN H;obtain rfl:=q0d H;have Z70:=bc8 bQ;have iM:0≤(gH:Int):=q0a X16;have iO:gH<(aM.length:Int):=q0a X16;obtain⟨iQ,iR,iS,AE,iT,iU,iV⟩:=q5o bJ.out gH iM iO;obtain rfl:gX=iQ:=(by injection AE);replace iT:=cB HB iT;have iW:=am iV;have iX:=am iU;clear iV iU;replace iM:=q0c iM;replace iO:=q0c iO;have iY:0≤(gH:Int):=q0a X16;have iZ:gH<(aM.length:Int):=q0a X16;obtain⟨jA,jB,jC,AS,jD,jE,jF⟩:=q5o bJ.out gH iY iZ;obtain rfl:gX=jA:=(by injection AS);replace jD:=cB HB jD;have jG:=am jF;have jH:=am jE;clear jF jE;replace iY:=q0c iY;replace iZ:=q0c iZ;have ea_:=q0d (iT.symm.trans jD);injection ea_ with ea_ en_ ec_;subst ea_;subst ec_;clear en_;have jI:0≤(iC:Int):=q0a X16;have jJ:iC<((q2Y aM gH).length:Int):=q0a X16;obtain⟨jK,AT,jL⟩:=q3X jG.out iC jI jJ;cases AT;replace jL:=cB HB jL;replace jI:=q0c jI;replace jJ:=q0c jJ;go_wp2_with (first|((with_reducible refine gc 68 ?_);refine gCc (some 135) func68 (q2x.calls k5 (rdOf ByteArray.empty (q2Y aM gH) iC) false _ iK.out) ?_;rintro w' ⟨nd,rfl⟩))
                        go_ret
                        exact⟨X11,(X10 HB bT)⟩
                      ·exact iN iH H
                     ·rw[if_neg iG]at H;have BD:=dF iG;clear iG;have H':=am H;clear H;have Z71:=bc8 bQ;have iM:0≤(gH:Int):=q0a X16;have iO:gH<(aM.length:Int):=q0a X16;obtain⟨iQ,iR,iS,AE,iT,iU,iV⟩:=q5o bJ.out gH iM iO;obtain rfl:gX=iQ:=(by injection AE);replace iT:=cB HB iT;have iW:=am iV;have iX:=am iU;clear iV iU;replace iM:=q0c iM;replace iO:=q0c iO;go_wp2
                      go_roundg k5
                      case measure=>have:=bY.out;have:=cE.out;have:=eZ.out;have:=gQ.out;have:=iD.out;omega
                      case rel=>exact⟨(wrap64 (gH+1)),X7,H',⟨X190⟩,⟨(X9 bQ)⟩,⟨(X10 HB bT)⟩⟩
                    ·exact iN iF H
                   ·exact iN iE H
              ·exact iN gS H
             ·rw[if_neg gR]at H;have AV:=dF gR;clear gR;obtain⟨jM,jO,H⟩:=oA H;(try dsimp only at H);by_cases jP:jM=0
              ·rw[if_pos jP]at H;have BE:=eT jP;have BG:=eF jP;clear jP;obtain⟨jQ,jS,H⟩:=oA H;(try dsimp only at H);by_cases jT:(wrap64 (cC+jQ)) > 200
               ·rw[if_pos jT]at H;have BH:decide (200<(wrap64 (cC+jQ)))=true:=q0p jT;clear jT;obtain rfl:=q0d H;have Z76:=bc8 bQ;go_wp2_with (first|((with_reducible refine gc 39 ?_);refine gCc (some 139) func39 (q3r.calls k4 aQ aT aU _ _ aY jM _ (X12 bK HB) bL.out jO.out) ?_;rintro w77 hb;replace bQ:=kB bQ hb;replace HB:=bS (X10 HB bT) hb;clear hb;have Z78:=bc8 bQ)|((with_reducible refine gc 15 ?_);refine gCc (some 146) func15 (q2r.calls k4 aQ aT aU _ _ aY jQ _ (X12 bK HB) bL.out jS.out) ?_;rintro w79 hb;replace bQ:=kB bQ hb;replace HB:=bS (X10 HB bT) hb;clear hb))
                go_ret
                exact⟨X11,(X10 HB bT)⟩
               ·rw[if_neg jT]at H;have BH:decide (200<(wrap64 (cC+jQ)))=false:=q0z jT;clear jT;obtain rfl:=q0d H;have Z80:=bc8 bQ;go_wp2_with (first|((with_reducible refine gc 39 ?_);refine gCc (some 139) func39 (q3r.calls k4 aQ aT aU _ _ aY jM _ (X12 bK HB) bL.out jO.out) ?_;rintro w81 hb;replace bQ:=kB bQ hb;replace HB:=bS (X10 HB bT) hb;clear hb;have Z82:=bc8 bQ)|((with_reducible refine gc 15 ?_);refine gCc (some 146) func15 (q2r.calls k4 aQ aT aU _ _ aY jQ _ (X12 bK HB) bL.out jS.out) ?_;rintro w83 hb;replace bQ:=kB bQ hb;replace HB:=bS (X10 HB bT) hb;clear hb))
                go_ret
                exact⟨X11,(X10 HB bT)⟩
              ·rw[if_neg jP]at H;have BE:=nF jP;have BG:=nT jP;obtain rfl:=q0d H;have Z84:=bc8 bQ;go_wp2_with (first|((with_reducible refine gc 39 ?_);refine gCc (some 139) func39 (q3r.calls k4 aQ aT aU _ _ aY jM _ (X12 bK HB) bL.out jO.out) ?_;rintro w85 hb;replace bQ:=kB bQ hb;replace HB:=bS (X10 HB bT) hb;clear hb))
               go_ret
               exact⟨X11,(X10 HB bT)⟩
 ·replace c3:=fI c3;subst c3;replace H:=tN H;obtain rfl:=q0d H;go_enter func29,ntmps29;go_wp2_with (first|((with_reducible refine gd 1 ?_);(try (refine q2p (by rfl) ?_;dsimp only));refine be 1 #[.string aA,sl aC aE aD,sl aG aI aH,sl aJ aM aK,iv aQ,.string aT,iv aU,sl aW aY aX] 30 ?_;intro bP hg w86 hbox hb;have bQ:=am (hbox);have bR:=sG (w:=w) hg X6;have bT:=sG (w:=w) hg X6;replace HB:=bS X6 hb;clear hb hbox hg;have Z87:=bc8 bQ)|((with_reducible refine gc 67 ?_);refine gCc (some 13) func67 (q3l.calls k aA false _ A2.out) ?_;rintro w' ⟨nd,rfl⟩))
  go_ret
  exact⟨X11,(X10 HB bT)⟩
theorem v2j {wm W1 W2:World} {g:Nat} (h1:q2e wm W1 g none) (_:q2e W1 W2 g none):wm.heap.size≤W1.heap.size:=h1.1
def q1O.bad (l:List S61) (p:Int):Option (q0b × (List S68) × (List S70) × (List (List q0b)) × Int × q0b × Int × (List S28) × Int × Int):=if (l.length:Int)=0 then some ((⟨#[]⟩:q0b),([]:List S68),([]:List S70),([]:List (List q0b)),0,(⟨#[]⟩:q0b),0,([]:List S28),1,2) else if 0≤(mn p (wrap64 ((l.length:Int) - 1))) then (if (mn p (wrap64 ((l.length:Int) - 1)))<(l.length:Int) then some ((⟨#[]⟩:q0b),([]:List S68),([]:List S70),([]:List (List q0b)),0,(⟨#[]⟩:q0b),0,([]:List S28),(q2G l (mn p (wrap64 ((l.length:Int) - 1)))).f2,2) else none) else none
def q1O.f (k:Nat) (a0:q0b):Option (q0b × (List S68) × (List S70) × (List (List q0b)) × Int × q0b × Int × (List S28) × Int × Int):=(q2E.f k a0).bind fun t=>if t.2.2=0 then (q0l.f k t.1 0 false).bind fun m=>if m.2.2.2.2.2.2.2.2.2=true then q1O.bad t.1 m.2.2.2.2.2.2.2.2.1 else if m.2.2.2.2.2.2.2.2.1<(t.1.length:Int) then q1O.bad t.1 m.2.2.2.2.2.2.2.2.1 else (q0I.f k m.1 m.2.1 m.2.2.1 m.2.2.2.1 m.2.2.2.2.1 m.2.2.2.2.2.1 m.2.2.2.2.2.2.1 m.2.2.2.2.2.2.2.1).bind fun e=>if e=0 then some (m.1,m.2.1,m.2.2.1,m.2.2.2.1,m.2.2.2.2.1,m.2.2.2.2.2.1,m.2.2.2.2.2.2.1,m.2.2.2.2.2.2.2.1,0,0) else some ((⟨#[]⟩:q0b),([]:List S68),([]:List S70),([]:List (List q0b)),0,(⟨#[]⟩:q0b),0,([]:List S28),0,e) else some ((⟨#[]⟩:q0b),([]:List S68),([]:List S70),([]:List (List q0b)),0,(⟨#[]⟩:q0b),0,([]:List S28),t.2.1,t.2.2)
def q1O.T9:Bool × List (List Nat × List Nat):=(true,[([],[]),([],[]),([],[]),([2],[2]),([3],[3]),([4],[4]),([],[]),([6],[6]),([7],[7]),([5,8],[5,8]),([1,9],[1,9]),([10],[10]),([11],[11]),([0,0],[0]),([12,13,0,1,2,3,4,5,6,7,8,9,10,11,12,13],[12]),([14,0,1,2,3,4,5,6,7,8,9,10,11,12,13,14],[])])
def q1O.B9:List Nat:=[0,0,0,4,12,28,0,64,192,508,1022,2046,4094,1,16383,32767]
theorem q1O.tab9:rtab .any (q5Z Tryz.f7 9)=q1O.T9:=by kernel_rfl
theorem q1O.bits9:q4i q1O.T9.2 q1O.B9=true:=by kernel_rfl
theorem q1O.calls (k:Nat) (a0:q0b) (r1:q0b) (r2:List S68) (r3:List S70) (r4:List (List q0b)) (r5:Int) (r6:q0b) (r7:Int) (r8:List S28) (r9 aA:Int) (w:World) (h:q1O.f k a0=some (r1,r2,r3,r4,r5,r6,r7,r8,r9,aA)) :
  Calls prog 7 #[.string a0] w fun e w'=>∃ aC aD aE aG:Value,e=.returned (.tuple #[.agg #[.string r1,aC,aD,aE,iv r5,.string r6,iv r7,aG],iv r9,iv aA])∧Kd.N k68 68 w' w.heap.size (fun k_=>(w.heap.size≤k_)∧nO k_ aD∧nO k_ aE) aC r2∧Kd.R k70 70 w' w.heap.size (fun k_=>(w.heap.size≤k_)) aD r3∧Kd.N (Kd.slice 9 Kd.string) 43 w' w.heap.size (fun k_=>(w.heap.size≤k_)∧nO k_ aC∧nO k_ aD) aE r4∧Kd.V k28 28 w' w.heap.size (fun k_=>(w.heap.size≤k_)∧nO k_ aC∧nO k_ aD∧nO k_ aE) aG r8∧Below w.heap.size w w':=by
 have hu44:=underlying30;have hu70:=underlying65;have HB:=am (q0r w.heap.size w);unfold q1O.f at h;replace h:=Option.bind_eq_some_iff.mp h;obtain⟨⟨l,ln,er⟩,aH,h⟩:=h;have A2:=am aH;clear aH;(try simp only at h);go_enter func7,ntmps7;try go_wp2_with (first|((with_reducible refine gd 2 ?_);(try (refine q2p (by rfl) ?_;dsimp only));refine be 2 zMm 30 ?_;intro aI hg w1 hbox hb;have aJ:=am (hbox);have aK:=am ((X29:w.heap.size≤aI));replace HB:=bS X6 hb;clear hb hbox hg)|((with_reducible refine gc 27 ?_);refine gC1 (some 13) func27 (q2E.calls k a0 l ln _ _ A2.out) ?_;rintro vt w2 ⟨ho_,hb⟩;have htg_:=Kd.R_newB ho_ (show(_:World).heap[aI]?=some (.cells zMm 30 (0,0)) from by exact(X9 aJ));replace HB:=bS (X10 HB aK) hb;replace aJ:=kBg0 aJ hb;clear hb;obtain⟨At,ct,et⟩:=q1I ho_;subst et;have HT:=am (q0R ho_).2.2;have HTR:=am ho_;have HTG:=am (show ∀ W_,q2e w2 W_ aI none→Kd.C k61 W_ At l.length l from fun W_ hK_=>(q0R (q0W htg_ hK_ oKk)).2.2);clear htg_;clear ho_;obtain⟨Z3_2_0,aM⟩:=b8_0 aJ;obtain⟨Z3_2_1,aQ⟩:=b8_1 aJ;obtain⟨Z3_2_2,aT⟩:=b8_2 aJ;obtain⟨Z3_2_3,aU⟩:=b8_3 aJ;obtain⟨Z3_2_4,aW⟩:=b8_4 aJ;obtain⟨Z3_2_5,aX⟩:=b8_5 aJ;obtain⟨Z3_2_6,aY⟩:=b8_6 aJ;obtain⟨Z3_2_7,aZ⟩:=b8_7 aJ;refine q5g ?_))
 by_cases c1:er=0
 case neg=>
  rw[if_neg c1]at h;have c1b:(er != 0)=true:=bne_iff_ne.mpr c1;simp only[Option.some.injEq,Prod.mk.injEq]at h;obtain⟨rfl,rfl,rfl,rfl,rfl,rfl,rfl,rfl,rfl,rfl⟩:=h;refine on_ ?_;go_wp2
  refine bodyPost_ret (q2P rfl _ _ aI 30 zMm (0,0) _ rfl (show(_:World).heap[aI]?=some (.cells zMm 30 (0,0)) from by exact X32) underlying30 rfl X4) rfl ?_;exact⟨_,_,_,_,rfl,q2N _ _ _ _ _,q3D _ _ _ _ _,q2N _ _ _ _ _,q2q _ _ _ _ _,(X10 HB aK)⟩
 subst c1;rw[if_pos rfl]at h;replace h:=Option.bind_eq_some_iff.mp h;obtain⟨⟨m1,m2,m3,m4,m5,m6,m7,m8,p5,f5⟩,bA,h⟩:=h;have A3:=am bA;clear bA;(try simp only at h);refine on_ ?_;try go_wp2_with (first|((with_reducible refine gd 24 ?_);(try (refine q2p (by rfl) ?_;dsimp only));refine be 24 #[sl At l ct,iv 0,.bool false] 65 ?_;intro gp hg w4 hbox hb;have hst_:∃ bB:World,q1d bB w4 gp l 0 false∧Below bB.heap.size bB w4:=⟨_,⟨_,_,hbox,q0w hg.symm,X33⟩,hb⟩;obtain⟨w0,hi_,hs_⟩:=hst_;have HI:=am (hi_);have HS:=am (hs_);have GWp:=am ((X34:w.heap.size≤gp));replace HB:=bS (X10 HB aK) hb;have NB2_p:=am ((X35:aI≠gp));have bC:=am ((X36:gp≠aI));replace aJ:=kBg0 aJ hb;have htf_:∀ W_,q2e w4 W_ gp none→Kd.C k61 W_ At l.length l:=fun W_ hK_=>(q0R (q0W (q1t (q3U (X37:Kd.R k61 61 _ _ (fun _=>True) (sl At l ct) l) gp (q0w hg.symm)) hb) hK_ oKk)).2.2;clear hb hbox hg hi_ hs_;have hgl_:=am (q1d.lt HI.out);obtain⟨wm,hwm⟩:∃ wm:World,wm=w4:=⟨_,rfl⟩;have HM:=am (show q2e wm w4 gp none by rw[hwm];exact q2D _ _ _);have HMW:=am (show w.heap.size≤wm.heap.size by rw[hwm];exact(HB.out:Below w.heap.size w _).size);have bD:=am (show aI<wm.heap.size by rw[hwm];exact q4N aJ.out);have HTF:=am (show ∀ W_,q2e wm W_ gp none→Kd.C k61 W_ At l.length l by rw[hwm];exact htf_);clear hgl_ hwm htf_ HTR HT)|((with_reducible refine gc 28 ?_);refine gL (some 26) func28 #[.pointer (some ⟨gp,0,none⟩)] ?_;(with_reducible refine(q0l.calls k gp l 0 false m1 m2 m3 m4 m5 m6 m7 m8 p5 f5 w0 _ ?side1 ?side2 A3.out).mono ?_);(case side1=>exact(X124 HI bC));(case side2=>exact X192);rintro e w5 ⟨v1,v2,v3,v7,rfl,bE,bF,bG,bH,hi_,hs_,hk_⟩;refine⟨_,rfl,?_⟩;have hle_:=v2j (wm:=wm) X46 hk_;replace HB:=am (q4Y (X17 HB aK GWp) X192 hs_ hk_ GWp.out);replace HI:=am (hi_);replace HS:=am (hs_);replace aJ:=kKg1 aJ NB2_p hk_ NB2_p;replace HM:=am (q0e X46 hk_ (.inl rfl));obtain⟨bI,bJ,bK⟩:=q1h bE;subst bK;obtain⟨bL,bM,bN⟩:=q1I bF;subst bN;obtain⟨bO,bP,bQ⟩:=q1h bG;subst bQ;obtain⟨bR,bT,bU⟩:=q1R bH;subst bU;have bV:=am (q2s (q0o (ok':=fun k_=>(wm.heap.size≤k_)∧nO k_ (sl bL m3 bM)∧nO k_ (sl bO m4 bP)) bE (fun k_ hk_=>⟨q0m hle_ hk_.1,hk_.2⟩)) hle_);have bW:=am (q1p (q0j (ok':=fun k_=>(wm.heap.size≤k_)) bF (fun k_ hk_=>q0m hle_ hk_)) hle_);have bX:=am (q2s (q0o (ok':=fun k_=>(wm.heap.size≤k_)∧nO k_ (sl bI m2 bJ)∧nO k_ (sl bL m3 bM)) bG (fun k_ hk_=>⟨q0m hle_ hk_.1,hk_.2⟩)) hle_);have bY:=am (q2o (q0n (ok':=fun k_=>(wm.heap.size≤k_)∧nO k_ (sl bI m2 bJ)∧nO k_ (sl bL m3 bM)∧nO k_ (sl bO m4 bP)) bH (fun k_ hk_=>⟨q0m hle_ hk_.1,hk_.2⟩)) hle_);clear bE bF bG bH hi_ hs_ hk_ hle_)|((with_reducible refine gd 9 ?_);(try (refine q2p (by rfl) ?_;dsimp only));refine be 9 zMm 30 ?_;intro bZ hg w6 hbox hb;have cA:=am (hbox);have cC:=am ((X38:w.heap.size≤bZ));replace HB:=bS (X17 HB aK GWp) hb;have cD:=am ((X40:aI≠bZ));have cE:=am ((X41:bZ≠aI));replace aJ:=kBg1 aJ NB2_p hb;have cF:=am ((by rw[hg];exact q0S (q1d.lt (X124 HI bC)):gp≠bZ));have NB9_p:=am ((by rw[hg];exact q1r (q1d.lt (X124 HI bC)):bZ≠gp));have cG:=am ((by rw[hg];exact(X192:Below w0.heap.size w0 _).size:w0.heap.size≤bZ));replace HS:=bS X192 hb;replace HI:=am (q1d.below (X124 HI bC) hb);have cH:=am ((X45:wm.heap.size≤bZ));replace HM:=am (q0e X46 (q0M hb gp none) (.inl rfl));replace bV:=am (q0F (q1N (show Kd.N k68 68 _ wm.heap.size (fun k_=>(wm.heap.size≤k_)∧nO k_ (sl bL m3 bM)∧nO k_ (sl bO m4 bP)) (sl bI m2 bJ) m2 from by repeat (first|(with_reducible first|exact bV.out|apply Kd.N_alloc|apply Kd.N_drewN|apply q3m|refine q1q (p:=⟨aI,_,none⟩) ?_ (fun k_ hk_=>q1r (q0L bD.out hk_.1)) _)|exact bV.out)) bZ (q0w hg.symm)) hb);replace bW:=am (q1t (q3U (show Kd.R k70 70 _ wm.heap.size (fun k_=>(wm.heap.size≤k_)) (sl bL m3 bM) m3 from by repeat (first|(with_reducible first|exact bW.out|apply Kd.R_alloc|apply Kd.R_drewN|apply Kd.R_drew|refine q1W (p:=⟨aI,_,none⟩) ?_ (fun k_ hk_=>q1r (q0L bD.out hk_)) _)|exact bW.out)) bZ (q0w hg.symm)) hb);replace bX:=am (q0F (q1N (show Kd.N (Kd.slice 9 Kd.string) 43 _ wm.heap.size (fun k_=>(wm.heap.size≤k_)∧nO k_ (sl bI m2 bJ)∧nO k_ (sl bL m3 bM)) (sl bO m4 bP) m4 from by repeat (first|(with_reducible first|exact bX.out|apply Kd.N_alloc|apply Kd.N_drewN|apply q3m|refine q1q (p:=⟨aI,_,none⟩) ?_ (fun k_ hk_=>q1r (q0L bD.out hk_.1)) _)|exact bX.out)) bZ (q0w hg.symm)) hb);replace bY:=am (q0P (q1Z (show Kd.V k28 28 _ wm.heap.size (fun k_=>(wm.heap.size≤k_)∧nO k_ (sl bI m2 bJ)∧nO k_ (sl bL m3 bM)∧nO k_ (sl bO m4 bP)) (sl bR m8 bT) m8 from by repeat (first|(with_reducible first|exact bY.out|apply Kd.V_alloc|apply Kd.V_drewN|apply q3G|refine q1K (p:=⟨aI,_,none⟩) ?_ (fun k_ hk_=>q1r (q0L bD.out hk_.1)) _)|exact bY.out)) bZ (q0w hg.symm)) hb);clear hb hbox hg;obtain⟨Z7_2_0,cI⟩:=b8_0 aJ;obtain⟨Z7_2_1,cJ⟩:=b8_1 aJ;obtain⟨Z7_2_2,cK⟩:=b8_2 aJ;obtain⟨Z7_2_3,cL⟩:=b8_3 aJ;obtain⟨Z7_2_4,cM⟩:=b8_4 aJ;obtain⟨Z7_2_5,cN⟩:=b8_5 aJ;obtain⟨Z7_2_6,cO⟩:=b8_6 aJ;obtain⟨Z7_2_7,cP⟩:=b8_7 aJ;obtain⟨Z7_9_0,cQ⟩:=b8_0 cA;obtain⟨Z7_9_1,cR⟩:=b8_1 cA;obtain⟨Z7_9_2,cS⟩:=b8_2 cA;obtain⟨Z7_9_3,cT⟩:=b8_3 cA;obtain⟨Z7_9_4,cU⟩:=b8_4 cA;obtain⟨Z7_9_5,cV⟩:=b8_5 cA;obtain⟨Z7_9_6,cX⟩:=b8_6 cA;obtain⟨Z7_9_7,cY⟩:=b8_7 cA;obtain⟨_,_,dC,dD,dE,dG,dH,-⟩:=tS65 HI;have dI:=bC.out;have dJ:=NB2_p.out;have dK:=cF.out;have dL:=NB9_p.out;have dM:=cD.out;have dN:=cE.out;refine q5g ?_))
 cases f5 with
 | true=>
  rw[if_pos rfl]at h;unfold q1O.bad at h;by_cases c2:(l.length:Int)=0
  case pos=>
   rw[if_pos c2]at h;have c2b:((l.length:Int) == 0)=true:=beq_iff_eq.mpr c2;simp only[Option.some.injEq,Prod.mk.injEq]at h;obtain⟨rfl,rfl,rfl,rfl,rfl,rfl,rfl,rfl,rfl,rfl⟩:=h;refine on_ ?_;go_wp2
   refine bodyPost_ret (q2P rfl _ _ aI 30 zMm (0,0) _ rfl (show(_:World).heap[aI]?=some (.cells zMm 30 (0,0)) from by exact(X58 cD NB2_p aJ)) underlying30 rfl X4) rfl ?_;exact⟨_,_,_,_,rfl,q2N _ _ _ _ _,q3D _ _ _ _ _,q2N _ _ _ _ _,q2q _ _ _ _ _,(X49 HB aK cC GWp)⟩
  rw[if_neg c2]at h;have c2b:((l.length:Int) == 0)=false:=beq_eq_false_iff_ne.mpr c2;obtain⟨ji,hji⟩:∃ j_:Int,(mn p5 (wrap64 ((l.length:Int) - 1)))=j_:=⟨_,rfl⟩;simp only[hji]at h;have hji_:(if (wrap64 ((l.length:Int) - 1))<p5 then (wrap64 ((l.length:Int) - 1)) else p5)=ji:=hji;by_cases c5:0≤ji
  case neg=>rw[if_neg c5]at h;cases h
  rw[if_pos c5]at h;by_cases c6:ji<(l.length:Int)
  case neg=>rw[if_neg c6]at h;cases h
  rw[if_pos c6]at h;have AA:=dT c5;have AB:=dT c6;clear c5 c6;simp only[Option.some.injEq,Prod.mk.injEq]at h;obtain⟨rfl,rfl,rfl,rfl,rfl,rfl,rfl,rfl,rfl,rfl⟩:=h;refine on_ ?_;try go_wp2
  obtain⟨w8,dO⟩:∃ w8:World,w8=(q0q (q0q (q0q (q0q (q0q (q0q (q0q (q0q w6 ⟨bZ,0,none⟩ (.string m1)) ⟨bZ,1,none⟩ (sl bI m2 bJ)) ⟨bZ,2,none⟩ (sl bL m3 bM)) ⟨bZ,3,none⟩ (sl bO m4 bP)) ⟨bZ,4,none⟩ (iv m5)) ⟨bZ,5,none⟩ (.string m6)) ⟨bZ,6,none⟩ (iv m7)) ⟨bZ,7,none⟩ (sl bR m8 bT)):=⟨_,rfl⟩;replace aJ:=am (show w8.heap[aI]?=some (.cells zMm 30 (0,0)) from X195);replace HM:=am (show q2e wm w8 gp none from X196);replace HS:=am (show Below w0.heap.size w0 w8 from X197);replace HI:=am (show q1d w0 w8 gp l p5 true from X198);replace HB:=am (show Below w.heap.size w w8 from X199);clear aM aQ aT aU aW aX aY aZ cI cJ cK cL cM cN cO cP cQ cR cS cT cU cV cX cY dC dD dE dG dH dI dJ dK dL dM dN;unfold q0q at dO;rw[← dO];clear dO;replace aJ:=am (q0B aJ.out);replace HI:=am (q1d.drew HI.out);replace HM:=am (q3q HM.out);replace HS:=am (q1U HS.out);replace HB:=am (q1U HB.out);obtain⟨ASz,cSz,HGz,hgz,HSz⟩:=HI.out;have dP:=q7j HGz;have dQ:=q7F HGz;clear HGz hgz HSz;have dR:0≤(ji:Int):=q0a AA;have dS:ji<(l.length:Int):=q0a AB;obtain⟨ad,dU,dV,dW,dX⟩:=q5b (Kd.C_foot_now HTF.out HM.out) ji dR dS;cases dU;clear dV dW;have dY:=(show(⟨(ad.add (ji.toNat*3)).block,(ad.add (ji.toNat*3)).off+2,none⟩:Addr).block≠aI from X57);replace dR:=q0c dR;replace dS:=q0c dS;refine q4P (n:=16) (S:=fun w'=>w'.cell? ⟨gp,1,none⟩=some (iv p5)∧w'.cell? ⟨(ad.add (ji.toNat*3)).block,(ad.add (ji.toNat*3)).off+2,none⟩=some (iv ((q2G l ji).f2))) (ds:=[]) (lb 16 0) X4 rfl rfl ⟨dP.trans rfl,dX⟩ (fun hHeld=>?_);refine q3W q1O.tab9 q1O.bits9 (fun HT_ HW_=>?_);generalize hgen_:World.drew w8=w9 at aJ HI HM HS HB dP dQ dX hHeld ⊢
  clear hgen_;refine pu 0 (some 44) (lb 16 1) HT_ ?_;refine pu 1 (some 45) (lb 16 3) HT_ ?_;refine pu 2 (some 46) (lb 16 7) HT_ ?_;refine pu 3 (some 47) (lb 16 15) HT_ ?_;refine pu 4 (some 48) (lb 16 31) HT_ ?_;refine pu 6 (some 50) (lb 16 95) HT_ ?_;refine pu 7 (some 51) (lb 16 223) HT_ ?_;refine pu 8 (some 52) (lb 16 479) HT_ ?_;refine tk 5 (some 49) (lb 16 511) HT_ HW_ hHeld ?_;refine pu 9 (some 53) (lb 16 1023) HT_ ?_;refine pu 10 (some 54) (lb 16 2047) HT_ ?_;refine pu 11 (some 55) (lb 16 4095) HT_ ?_;refine tk 12 (some 56) (lb 16 8191) HT_ HW_ hHeld ?_;refine oo 13 none (lb 16 16383) HT_ (fun K hK=>?_);have dZ:w9.cell? ⟨aI,0,none⟩=some (.string eBb):=(q0X aJ.out 0).trans rfl;have eA:=q1m aJ.out 0;have eB:w9.cell? ⟨aI,1,none⟩=some (.slice none 0 0):=(q0X aJ.out 1).trans rfl;have eC:=q1m aJ.out 1;have eD:w9.cell? ⟨aI,2,none⟩=some (.slice none 0 0):=(q0X aJ.out 2).trans rfl;have eE:=q1m aJ.out 2;have eG:w9.cell? ⟨aI,3,none⟩=some (.slice none 0 0):=(q0X aJ.out 3).trans rfl;have eH:=q1m aJ.out 3;have eI:w9.cell? ⟨aI,4,none⟩=some (iv 0):=(q0X aJ.out 4).trans rfl;have eJ:=q1m aJ.out 4;have eK:w9.cell? ⟨aI,5,none⟩=some (.string eBb):=(q0X aJ.out 5).trans rfl;have eL:=q1m aJ.out 5;have eM:w9.cell? ⟨aI,6,none⟩=some (iv 0):=(q0X aJ.out 6).trans rfl;have eN:=q1m aJ.out 6;have eO:w9.cell? ⟨aI,7,none⟩=some (.slice none 0 0):=(q0X aJ.out 7).trans rfl;have eP:=q1m aJ.out 7;refine q7J (w1:=?_) (by rfl) rfl ?_ ?_;rotate_left
  ·go_simp;rfl
  refine hK.out _ _ ⟨(cf8 bC.out (hHeld.1)),(cf8 dY (hHeld.2))⟩ (fun hHeld=>?_);clear hK K;refine pu 14 (some 3) (lb 16 32767) HT_ ?_;refine pu 15 (some 4) (lb 16 65535) HT_ ?_;refine q5N (q4z HT_.out X4) ?_;try go_wp2
  refine bodyPost_ret (q2P rfl _ _ aI 30 zMm (0,0) _ rfl (show(_:World).heap[aI]?=some (.cells zMm 30 (0,0)) from by exact X200) underlying30 rfl X4) rfl ?_;exact⟨_,_,_,_,X59,q2N _ _ _ _ _,q3D _ _ _ _ _,q2N _ _ _ _ _,q2q _ _ _ _ _,(X17 HB aK GWp)⟩
 | false=>
  rw[if_neg (by decide)]at h;by_cases c3:p5<(l.length:Int)
  case pos=>
   rw[if_pos c3]at h;have c3b:=q0p c3;unfold q1O.bad at h;by_cases c2:(l.length:Int)=0
   case pos=>
    rw[if_pos c2]at h;have c2b:((l.length:Int) == 0)=true:=beq_iff_eq.mpr c2;simp only[Option.some.injEq,Prod.mk.injEq]at h;obtain⟨rfl,rfl,rfl,rfl,rfl,rfl,rfl,rfl,rfl,rfl⟩:=h;refine on_ ?_;go_wp2
    refine bodyPost_ret (q2P rfl _ _ aI 30 zMm (0,0) _ rfl (show(_:World).heap[aI]?=some (.cells zMm 30 (0,0)) from by exact(X58 cD NB2_p aJ)) underlying30 rfl X4) rfl ?_;exact⟨_,_,_,_,rfl,q2N _ _ _ _ _,q3D _ _ _ _ _,q2N _ _ _ _ _,q2q _ _ _ _ _,(X49 HB aK cC GWp)⟩
   rw[if_neg c2]at h;have c2b:((l.length:Int) == 0)=false:=beq_eq_false_iff_ne.mpr c2;obtain⟨ji,hji⟩:∃ j_:Int,(mn p5 (wrap64 ((l.length:Int) - 1)))=j_:=⟨_,rfl⟩;simp only[hji]at h;have hji_:(if (wrap64 ((l.length:Int) - 1))<p5 then (wrap64 ((l.length:Int) - 1)) else p5)=ji:=hji;by_cases c5:0≤ji
   case neg=>rw[if_neg c5]at h;cases h
   rw[if_pos c5]at h;by_cases c6:ji<(l.length:Int)
   case neg=>rw[if_neg c6]at h;cases h
   rw[if_pos c6]at h;have AA:=dT c5;have AB:=dT c6;clear c5 c6;simp only[Option.some.injEq,Prod.mk.injEq]at h;obtain⟨rfl,rfl,rfl,rfl,rfl,rfl,rfl,rfl,rfl,rfl⟩:=h;refine on_ ?_;try go_wp2
   obtain⟨w8,dO⟩:∃ w8:World,w8=(q0q (q0q (q0q (q0q (q0q (q0q (q0q (q0q w6 ⟨bZ,0,none⟩ (.string m1)) ⟨bZ,1,none⟩ (sl bI m2 bJ)) ⟨bZ,2,none⟩ (sl bL m3 bM)) ⟨bZ,3,none⟩ (sl bO m4 bP)) ⟨bZ,4,none⟩ (iv m5)) ⟨bZ,5,none⟩ (.string m6)) ⟨bZ,6,none⟩ (iv m7)) ⟨bZ,7,none⟩ (sl bR m8 bT)):=⟨_,rfl⟩;replace aJ:=am (show w8.heap[aI]?=some (.cells zMm 30 (0,0)) from X195);replace HM:=am (show q2e wm w8 gp none from X196);replace HS:=am (show Below w0.heap.size w0 w8 from X197);replace HI:=am (show q1d w0 w8 gp l p5 false from X198);replace HB:=am (show Below w.heap.size w w8 from X199);clear aM aQ aT aU aW aX aY aZ cI cJ cK cL cM cN cO cP cQ cR cS cT cU cV cX cY dC dD dE dG dH dI dJ dK dL dM dN;unfold q0q at dO;rw[← dO];clear dO;replace aJ:=am (q0B aJ.out);replace HI:=am (q1d.drew HI.out);replace HM:=am (q3q HM.out);replace HS:=am (q1U HS.out);replace HB:=am (q1U HB.out);obtain⟨ASz,cSz,HGz,hgz,HSz⟩:=HI.out;have dP:=q7j HGz;have dQ:=q7F HGz;clear HGz hgz HSz;have dR:0≤(ji:Int):=q0a AA;have dS:ji<(l.length:Int):=q0a AB;obtain⟨ad,dU,dV,dW,dX⟩:=q5b (Kd.C_foot_now HTF.out HM.out) ji dR dS;cases dU;clear dV dW;have dY:=(show(⟨(ad.add (ji.toNat*3)).block,(ad.add (ji.toNat*3)).off+2,none⟩:Addr).block≠aI from X57);replace dR:=q0c dR;replace dS:=q0c dS;refine q4P (n:=16) (S:=fun w'=>w'.cell? ⟨gp,1,none⟩=some (iv p5)∧w'.cell? ⟨(ad.add (ji.toNat*3)).block,(ad.add (ji.toNat*3)).off+2,none⟩=some (iv ((q2G l ji).f2))) (ds:=[]) (lb 16 0) X4 rfl rfl ⟨dP.trans rfl,dX⟩ (fun hHeld=>?_);refine q3W q1O.tab9 q1O.bits9 (fun HT_ HW_=>?_);generalize hgen_:World.drew w8=w9 at aJ HI HM HS HB dP dQ dX hHeld ⊢
   clear hgen_;refine pu 0 (some 44) (lb 16 1) HT_ ?_;refine pu 1 (some 45) (lb 16 3) HT_ ?_;refine pu 2 (some 46) (lb 16 7) HT_ ?_;refine pu 3 (some 47) (lb 16 15) HT_ ?_;refine pu 4 (some 48) (lb 16 31) HT_ ?_;refine pu 6 (some 50) (lb 16 95) HT_ ?_;refine pu 7 (some 51) (lb 16 223) HT_ ?_;refine pu 8 (some 52) (lb 16 479) HT_ ?_;refine tk 5 (some 49) (lb 16 511) HT_ HW_ hHeld ?_;refine pu 9 (some 53) (lb 16 1023) HT_ ?_;refine pu 10 (some 54) (lb 16 2047) HT_ ?_;refine pu 11 (some 55) (lb 16 4095) HT_ ?_;refine tk 12 (some 56) (lb 16 8191) HT_ HW_ hHeld ?_;refine oo 13 none (lb 16 16383) HT_ (fun K hK=>?_);have dZ:w9.cell? ⟨aI,0,none⟩=some (.string eBb):=(q0X aJ.out 0).trans rfl;have eA:=q1m aJ.out 0;have eB:w9.cell? ⟨aI,1,none⟩=some (.slice none 0 0):=(q0X aJ.out 1).trans rfl;have eC:=q1m aJ.out 1;have eD:w9.cell? ⟨aI,2,none⟩=some (.slice none 0 0):=(q0X aJ.out 2).trans rfl;have eE:=q1m aJ.out 2;have eG:w9.cell? ⟨aI,3,none⟩=some (.slice none 0 0):=(q0X aJ.out 3).trans rfl;have eH:=q1m aJ.out 3;have eI:w9.cell? ⟨aI,4,none⟩=some (iv 0):=(q0X aJ.out 4).trans rfl;have eJ:=q1m aJ.out 4;have eK:w9.cell? ⟨aI,5,none⟩=some (.string eBb):=(q0X aJ.out 5).trans rfl;have eL:=q1m aJ.out 5;have eM:w9.cell? ⟨aI,6,none⟩=some (iv 0):=(q0X aJ.out 6).trans rfl;have eN:=q1m aJ.out 6;have eO:w9.cell? ⟨aI,7,none⟩=some (.slice none 0 0):=(q0X aJ.out 7).trans rfl;have eP:=q1m aJ.out 7;refine q7J (w1:=?_) (by rfl) rfl ?_ ?_;rotate_left
   ·go_simp;rfl
   refine hK.out _ _ ⟨(cf8 bC.out (hHeld.1)),(cf8 dY (hHeld.2))⟩ (fun hHeld=>?_);clear hK K;refine pu 14 (some 3) (lb 16 32767) HT_ ?_;refine pu 15 (some 4) (lb 16 65535) HT_ ?_;refine q5N (q4z HT_.out X4) ?_;try go_wp2
   refine bodyPost_ret (q2P rfl _ _ aI 30 zMm (0,0) _ rfl (show(_:World).heap[aI]?=some (.cells zMm 30 (0,0)) from by exact X200) underlying30 rfl X4) rfl ?_;exact⟨_,_,_,_,X59,q2N _ _ _ _ _,q3D _ _ _ _ _,q2N _ _ _ _ _,q2q _ _ _ _ _,(X17 HB aK GWp)⟩
  rw[if_neg c3]at h;have c3b:=q0z c3;replace h:=Option.bind_eq_some_iff.mp h;obtain⟨e,eQ,h⟩:=h;have A9:=am eQ;clear eQ;(try simp only at h);refine on_ ?_;try go_wp2_with (first|((with_reducible refine gc 29 ?_);refine gCc (some 58) func29 (q0I.calls k m1 _ _ m2 _ _ m3 _ _ m4 m5 m6 m7 _ _ m8 _ _ ((q0N (show Kd.N k68 68 _ wm.heap.size (fun k_=>((wm.heap.size≤k_)∧nO k_ (sl bL m3 bM)∧nO k_ (sl bO m4 bP))∧k_≠bZ) (sl bI m2 bJ) m2 from by exact(X201 bV bD))).2.2) ((q0N (show Kd.N k68 68 _ wm.heap.size (fun k_=>((wm.heap.size≤k_)∧nO k_ (sl bL m3 bM)∧nO k_ (sl bO m4 bP))∧k_≠bZ) (sl bI m2 bJ) m2 from by exact(X201 bV bD))).2.1) ((q0R (show Kd.R k70 70 _ wm.heap.size (fun k_=>((wm.heap.size≤k_))∧k_≠bZ) (sl bL m3 bM) m3 from by exact X202)).2.2) ((q0R (show Kd.R k70 70 _ wm.heap.size (fun k_=>((wm.heap.size≤k_))∧k_≠bZ) (sl bL m3 bM) m3 from by exact X202)).2.1) ((q0N (show Kd.N (Kd.slice 9 Kd.string) 43 _ wm.heap.size (fun k_=>((wm.heap.size≤k_)∧nO k_ (sl bI m2 bJ)∧nO k_ (sl bL m3 bM))∧k_≠bZ) (sl bO m4 bP) m4 from by exact(X201 bX bD))).2.2) ((q0N (show Kd.N (Kd.slice 9 Kd.string) 43 _ wm.heap.size (fun k_=>((wm.heap.size≤k_)∧nO k_ (sl bI m2 bJ)∧nO k_ (sl bL m3 bM))∧k_≠bZ) (sl bO m4 bP) m4 from by exact(X201 bX bD))).2.1) ((q1a (show Kd.V k28 28 _ wm.heap.size (fun k_=>((wm.heap.size≤k_)∧nO k_ (sl bI m2 bJ)∧nO k_ (sl bL m3 bM)∧nO k_ (sl bO m4 bP))∧k_≠bZ) (sl bR m8 bT) m8 from by exact X204)).2.2) ((q1a (show Kd.V k28 28 _ wm.heap.size (fun k_=>((wm.heap.size≤k_)∧nO k_ (sl bI m2 bJ)∧nO k_ (sl bL m3 bM)∧nO k_ (sl bO m4 bP))∧k_≠bZ) (sl bR m8 bT) m8 from by exact X204)).2.1) A9.out) ?_;rintro w8 hb;replace HB:=bS (X49 HB aK cC GWp) hb;replace HS:=bS X205 hb;replace HI:=am (q1d.below X206 hb);replace aJ:=kBg2 aJ cD NB2_p hb;replace cA:=kBg2 cA cE NB9_p hb;replace HM:=am (q0e (X50 HM cH) (q0M hb gp none) (.inl rfl));replace bV:=am (q0F (show Kd.N k68 68 _ wm.heap.size (fun k_=>((wm.heap.size≤k_)∧nO k_ (sl bL m3 bM)∧nO k_ (sl bO m4 bP))∧k_≠bZ) (sl bI m2 bJ) m2 from by exact(X201 bV bD)) hb);replace bW:=am (q1t (show Kd.R k70 70 _ wm.heap.size (fun k_=>((wm.heap.size≤k_))∧k_≠bZ) (sl bL m3 bM) m3 from by exact X202) hb);replace bX:=am (q0F (show Kd.N (Kd.slice 9 Kd.string) 43 _ wm.heap.size (fun k_=>((wm.heap.size≤k_)∧nO k_ (sl bI m2 bJ)∧nO k_ (sl bL m3 bM))∧k_≠bZ) (sl bO m4 bP) m4 from by exact(X201 bX bD)) hb);replace bY:=am (q0P (show Kd.V k28 28 _ wm.heap.size (fun k_=>((wm.heap.size≤k_)∧nO k_ (sl bI m2 bJ)∧nO k_ (sl bL m3 bM)∧nO k_ (sl bO m4 bP))∧k_≠bZ) (sl bR m8 bT) m8 from by exact X204) hb);clear hb;obtain⟨Z9_2_0,Y9_2_0⟩:=b8_0 aJ;obtain⟨Z9_2_1,Y9_2_1⟩:=b8_1 aJ;obtain⟨Z9_2_2,Y9_2_2⟩:=b8_2 aJ;obtain⟨Z9_2_3,Y9_2_3⟩:=b8_3 aJ;obtain⟨Z9_2_4,Y9_2_4⟩:=b8_4 aJ;obtain⟨Z9_2_5,Y9_2_5⟩:=b8_5 aJ;obtain⟨Z9_2_6,Y9_2_6⟩:=b8_6 aJ;obtain⟨Z9_2_7,Y9_2_7⟩:=b8_7 aJ;obtain⟨Z9_9_0,Y9_9_0⟩:=b8_0 cA;obtain⟨Z9_9_1,Y9_9_1⟩:=b8_1 cA;obtain⟨Z9_9_2,Y9_9_2⟩:=b8_2 cA;obtain⟨Z9_9_3,Y9_9_3⟩:=b8_3 cA;obtain⟨Z9_9_4,Y9_9_4⟩:=b8_4 cA;obtain⟨Z9_9_5,Y9_9_5⟩:=b8_5 cA;obtain⟨Z9_9_6,Y9_9_6⟩:=b8_6 cA;obtain⟨Z9_9_7,Y9_9_7⟩:=b8_7 cA;obtain⟨_,_,_,_,_,_,_,-⟩:=tS65 HI;have hne9_2:=bC.out;have hnf9_2:=NB2_p.out;have hne9_9:=cF.out;have hnf9_9:=NB9_p.out;have hnn9_2_9:=cD.out;have hnn9_9_2:=cE.out;refine q5g ?_))
  by_cases c4:e=0
  case neg=>
   rw[if_neg c4]at h;have c4b:(e != 0)=true:=bne_iff_ne.mpr c4;simp only[Option.some.injEq,Prod.mk.injEq]at h;obtain⟨rfl,rfl,rfl,rfl,rfl,rfl,rfl,rfl,rfl,rfl⟩:=h;refine on_ ?_;go_wp2
   refine bodyPost_ret (q2P rfl _ _ aI 30 zMm (0,0) _ rfl (show(_:World).heap[aI]?=some (.cells zMm 30 (0,0)) from by exact(X58 cD NB2_p aJ)) underlying30 rfl X4) rfl ?_;exact⟨_,_,_,_,rfl,q2N _ _ _ _ _,q3D _ _ _ _ _,q2N _ _ _ _ _,q2q _ _ _ _ _,(X49 HB aK cC GWp)⟩
  subst c4;rw[if_pos rfl]at h;simp only[Option.some.injEq,Prod.mk.injEq]at h;obtain⟨rfl,rfl,rfl,rfl,rfl,rfl,rfl,rfl,rfl,rfl⟩:=h;refine on_ ?_;go_wp2
  refine bodyPost_ret (q2P rfl _ _ aI 30 #[.string m1,sl bI m2 bJ,sl bL m3 bM,sl bO m4 bP,iv m5,.string m6,iv m7,sl bR m8 bT] (0,0) _ rfl (show(_:World).heap[aI]?=some (.cells #[.string m1,sl bI m2 bJ,sl bL m3 bM,sl bO m4 bP,iv m5,.string m6,iv m7,sl bR m8 bT] 30 (0,0)) from by (with_reducible repeat (first|refine q0A ?_ _|refine q0B ?_|refine q0v ?_ _|refine q1M ?_ cD.out _|refine q1M ?_ NB2_p.out _));refine q1T (cs:=#[.string m1,sl bI m2 bJ,sl bL m3 bM,sl bO m4 bP,iv m5,.string m6,iv m7,.slice none 0 0]) ?_ 7 _ rfl;(with_reducible repeat (first|refine q0A ?_ _|refine q0B ?_|refine q0v ?_ _|refine q1M ?_ cD.out _|refine q1M ?_ NB2_p.out _));refine q1T (cs:=#[.string m1,sl bI m2 bJ,sl bL m3 bM,sl bO m4 bP,iv m5,.string m6,iv 0,.slice none 0 0]) ?_ 6 _ rfl;(with_reducible repeat (first|refine q0A ?_ _|refine q0B ?_|refine q0v ?_ _|refine q1M ?_ cD.out _|refine q1M ?_ NB2_p.out _));refine q1T (cs:=#[.string m1,sl bI m2 bJ,sl bL m3 bM,sl bO m4 bP,iv m5,.string eBb,iv 0,.slice none 0 0]) ?_ 5 _ rfl;(with_reducible repeat (first|refine q0A ?_ _|refine q0B ?_|refine q0v ?_ _|refine q1M ?_ cD.out _|refine q1M ?_ NB2_p.out _));refine q1T (cs:=#[.string m1,sl bI m2 bJ,sl bL m3 bM,sl bO m4 bP,iv 0,.string eBb,iv 0,.slice none 0 0]) ?_ 4 _ rfl;(with_reducible repeat (first|refine q0A ?_ _|refine q0B ?_|refine q0v ?_ _|refine q1M ?_ cD.out _|refine q1M ?_ NB2_p.out _));refine q1T (cs:=#[.string m1,sl bI m2 bJ,sl bL m3 bM,.slice none 0 0,iv 0,.string eBb,iv 0,.slice none 0 0]) ?_ 3 _ rfl;(with_reducible repeat (first|refine q0A ?_ _|refine q0B ?_|refine q0v ?_ _|refine q1M ?_ cD.out _|refine q1M ?_ NB2_p.out _));refine q1T (cs:=#[.string m1,sl bI m2 bJ,.slice none 0 0,.slice none 0 0,iv 0,.string eBb,iv 0,.slice none 0 0]) ?_ 2 _ rfl;(with_reducible repeat (first|refine q0A ?_ _|refine q0B ?_|refine q0v ?_ _|refine q1M ?_ cD.out _|refine q1M ?_ NB2_p.out _));refine q1T (cs:=#[.string m1,.slice none 0 0,.slice none 0 0,.slice none 0 0,iv 0,.string eBb,iv 0,.slice none 0 0]) ?_ 1 _ rfl;(with_reducible repeat (first|refine q0A ?_ _|refine q0B ?_|refine q0v ?_ _|refine q1M ?_ cD.out _|refine q1M ?_ NB2_p.out _));refine q1T (cs:=zMm) ?_ 0 _ rfl;(with_reducible repeat (first|refine q0A ?_ _|refine q0B ?_|refine q0v ?_ _|refine q1M ?_ cD.out _|refine q1M ?_ NB2_p.out _));exact aJ.out) underlying30 rfl X4) rfl ?_;exact⟨_,_,_,_,rfl,q2s (q0o (show Kd.N k68 68 _ wm.heap.size (fun k_=>((wm.heap.size≤k_)∧nO k_ (sl bL m3 bM)∧nO k_ (sl bO m4 bP))∧k_≠bZ) (sl bI m2 bJ) m2 from by exact(X201 bV bD)) (fun k_ hk_=>⟨q0m HMW.out hk_.1.1,hk_.1.2⟩)) HMW.out,q1p (q0j (show Kd.R k70 70 _ wm.heap.size (fun k_=>((wm.heap.size≤k_))∧k_≠bZ) (sl bL m3 bM) m3 from by exact X202) (fun k_ hk_=>q0m HMW.out hk_.1)) HMW.out,q2s (q0o (show Kd.N (Kd.slice 9 Kd.string) 43 _ wm.heap.size (fun k_=>((wm.heap.size≤k_)∧nO k_ (sl bI m2 bJ)∧nO k_ (sl bL m3 bM))∧k_≠bZ) (sl bO m4 bP) m4 from by exact(X201 bX bD)) (fun k_ hk_=>⟨q0m HMW.out hk_.1.1,hk_.1.2⟩)) HMW.out,q2o (q0n (show Kd.V k28 28 _ wm.heap.size (fun k_=>((wm.heap.size≤k_)∧nO k_ (sl bI m2 bJ)∧nO k_ (sl bL m3 bM)∧nO k_ (sl bO m4 bP))∧k_≠bZ) (sl bR m8 bT) m8 from by exact X204) (fun k_ hk_=>⟨q0m HMW.out hk_.1.1,hk_.1.2⟩)) HMW.out,(X49 HB aK cC GWp)⟩
mutual
def q0Z.j0:Nat→Bool→Int→q0b→Int→List (S28)→Int→q0b→Int→List (S28)→Option (Bool)
 | 0,_,_,_,_,_,_,_,_,_=>none
 | k+1,aA,aC,aD,aE,aG,aH,aI,aJ,aK=>if aA=true then (none) else (q0Z.l0 k 0 aC aD aE aG aH aI aJ aK)
def q0Z.l0:Nat→Int→Int→q0b→Int→List (S28)→Int→q0b→Int→List (S28)→Option (Bool)
 | 0,_,_,_,_,_,_,_,_,_=>none
 | k+1,x5,aA,aC,aD,aE,aG,aH,aI,aJ=>if x5<(aE.length:Int) then (if 0≤x5 then (if x5<(aJ.length:Int) then ((q0Z.f k ((q1o aE x5).f0) ((q1o aE x5).f1) ((q1o aE x5).f2) ((q1o aE x5).f3) ((q1o aJ x5).f0) ((q1o aJ x5).f1) ((q1o aJ x5).f2) ((q1o aJ x5).f3)).bind fun aK=>(if aK=true then (q0Z.l0 k (wrap64 (x5+1)) aA aC aD aE aG aH aI aJ) else (none))) else (none)) else (none)) else (some true)
def q0Z.f:Nat→Int→q0b→Int→List (S28)→Int→q0b→Int→List (S28)→Option (Bool)
 | 0,_,_,_,_,_,_,_,_=>none
 | k+1,aA,aC,aD,aE,aG,aH,aI,aJ=>if aA=aG then (if aC.toList=aH.toList then (if aD=aI then (q0Z.j0 k ((aE.length:Int) != (aJ.length:Int)) aA aC aD aE aG aH aI aJ) else (q0Z.j0 k true aA aC aD aE aG aH aI aJ)) else (q0Z.j0 k true aA aC aD aE aG aH aI aJ)) else (q0Z.j0 k true aA aC aD aE aG aH aI aJ)
end
def q0Z.T6:Bool × List (List Nat × List Nat):=(true,[([],[]),([0],[0]),([],[]),([1,2],[1,2]),([3],[3]),([],[]),([5],[5]),([],[]),([6,7],[6,7]),([8],[8]),([4,9],[4,9]),([10],[10])])
def q0Z.B6:List Nat:=[0,1,0,7,15,0,32,0,224,480,1023,2047]
theorem q0Z.tab6:rtab .any (q5Z Tryz.f20 6)=q0Z.T6:=by kernel_rfl
theorem q0Z.bits6:q4i q0Z.T6.2 q0Z.B6=true:=by kernel_rfl
theorem q0Z.calls (k:Nat):∀ (aA:Int) (aC:q0b) (aD:Int) (aE:Option Addr) (aG:Nat) (aH:List (S28)) (aI:Int) (aJ:q0b) (aK:Int) (aM:Option Addr) (aQ:Nat) (aT:List (S28)) (r:Bool) (w:World) (aU:Kd.C k28 w aE aH.length aH) (aW:aH.length≤aG) (aX:Kd.C k28 w aM aT.length aT) (aY:aT.length≤aQ) (h:q0Z.f k aA aC aD aH aI aJ aK aT=some r),
  Calls prog 20 #[.agg #[iv aA,.string aC,iv aD,sl aE aH aG],.agg #[iv aI,.string aJ,iv aK,sl aM aT aQ]] w fun e w'=>e=.returned (.bool r)∧Below w.heap.size w w':=by
 induction k using Nat.strongRecOn with
 | _ k ih=>
 intro aA aC aD aE aG aH aI aJ aK aM aQ aT r w aU aW aX aY h;cases k with
 | zero=>exact absurd h (by simp [q0Z.f])
 | succ k=>
 simp only[q0Z.f]at h;have hu28:=underlying28;have aZ:=am aU;have HC0_3:=am aW;clear aU aW;have bA:=am aX;have HC1_3:=am aY;clear aX aY;have HB:=am (q0r w.heap.size w);have H:(if aA=aI then (if aC.toList=aJ.toList then (if aD=aK then (q0Z.j0 k ((aH.length:Int) != (aT.length:Int)) aA aC aD aH aI aJ aK aT) else (q0Z.j0 k true aA aC aD aH aI aJ aK aT)) else (q0Z.j0 k true aA aC aD aH aI aJ aK aT)) else (q0Z.j0 k true aA aC aD aH aI aJ aK aT))=some r:=h;clear h;have bB:=am H;clear H;go_enter func20,ntmps20;go_upto_region 1 with (first|((with_reducible refine gd 2 ?_);(try (refine q2p (by rfl) ?_;dsimp only));refine be 2 #[iv aA,.string aC,iv aD,sl aE aH aG] 28 ?_;intro bC hg w4 hbox hb;have bD:=am (hbox);have GW1139:=sG (w:=w) hg X6;have bE:=sG (w:=w) hg X6;replace HB:=bS X6 hb;clear hb hbox hg)|((with_reducible refine gd 3 ?_);(try (refine q2p (by rfl) ?_;dsimp only));refine be 3 #[iv aI,.string aJ,iv aK,sl aM aT aQ] 28 ?_;intro bF hg w5 hbox hb;have bG:=am (hbox);have GW1140:=sG (w:=w) hg (X10 HB bE);have bH:=sG (w:=w) hg (X10 HB bE);replace HB:=bS (X10 HB bE) hb;have bI:=nLT hg bD;have bJ:=nGT hg bD;replace bD:=kB bD hb;clear hb hbox hg))
 (try simp only[Act.put,List.setIfInBounds_toArray,List.set_cons_zero,List.set_cons_succ]);go_cut [33] (fun bK wc=>∃ (kq:Nat) (bL:Bool),bK=.bool bL∧q0i (q0Z.j0 kq bL aA aC aD aH aI aJ aK aT=some r)∧q0i (kq≤k)∧q0i (wc.heap[bC]?=some (.cells #[iv aA,.string aC,iv aD,(sl aE aH aG)] 28 (0,0)))∧q0i (wc.heap[bF]?=some (.cells #[iv aI,.string aJ,iv aK,(sl aM aT aQ)] 28 (0,0)))∧q0i (Below w.heap.size w wc))
 case first=>
  have H:=bB.out;clear bB;by_cases c6:aA=aI
  ·rw[if_pos c6]at H;have AA:=eT c6;have AB:=eF c6;clear c6;(first|rw[AA]|(simp only[q4g,q4q];rw[AA])|skip);by_cases c7:aC.toList=aJ.toList
   ·rw[if_pos c7]at H;have AC:=eT c7;have AD:=eF c7;clear c7;by_cases c8:aD=aK
    ·rw[if_pos c8]at H;have AE:=eT c8;have AF:=eF c8;clear c8;have H':=am H;clear H;have AV:=bI.out;have AW:=bJ.out;have bM:=bc4 bD;have bN:=bc4 bG;go_wp2
     go_meet
     case rel=>exact⟨_,(((aH.length:Int) != (aT.length:Int))),X7,H',⟨X8⟩,⟨(X9 bD)⟩,⟨(X9 bG)⟩,⟨(X17 HB bE bH)⟩⟩
    ·rw[if_neg c8]at H;have AE:=nF c8;have AF:=nT c8;have H':=am H;clear H;have AJ:=bI.out;have AK:=bJ.out;have bO:=bc4 bD;have bP:=bc4 bG;go_wp2
     go_meet
     case rel=>exact⟨_,(true),X7,H',⟨X8⟩,⟨(X9 bD)⟩,⟨(X9 bG)⟩,⟨(X17 HB bE bH)⟩⟩
   ·rw[if_neg c7]at H;have AC:=nF c7;have AD:=nT c7;have H':=am H;clear H;have AL:=bI.out;have AM:=bJ.out;have bQ:=bc4 bD;have bR:=bc4 bG;go_wp2
    go_meet
    case rel=>exact⟨_,(true),X7,H',⟨X8⟩,⟨(X9 bD)⟩,⟨(X9 bG)⟩,⟨(X17 HB bE bH)⟩⟩
  ·rw[if_neg c6]at H;have AA:=nF c6;have AB:=nT c6;(first|rw[AA]|(simp only[q4g,q4q];rw[AA])|skip);have H':=am H;clear H;have AN:=bI.out;have AO:=bJ.out;have bT:=bc4 bD;have bU:=bc4 bG;go_wp2
   go_meet
   case rel=>exact⟨_,(true),X7,H',⟨X8⟩,⟨(X9 bD)⟩,⟨(X9 bG)⟩,⟨(X17 HB bE bH)⟩⟩
 case rest=>
  clear bB;(try clear c1 c2 p2 c6 AA AB c7 AC AD c8 AE AF c9 bV bW bX bY bM bN bO bP bQ bR bT bU);obtain⟨kq,bL,rfl,HA,bZ,bD,bG,HB⟩:=hcut;cases kq with
  | zero=>exact absurd HA.out (by simp [q0Z.j0])
  | succ cA=>
   have H:=HA.out;clear HA;simp only[q0Z.j0]at H;by_cases cC:bL=true
   ·subst cC;replace H:=tP H;exact absurd H (by simp)
   ·replace cC:=fI cC;subst cC;replace H:=tN H;have H':=am H;clear H;go_wp2
    go_loopg [5] cA (fun kq v5 w'=>∃ (cD:Int),v5=iv cD∧q0i (q0Z.l0 kq cD aA aC aD aH aI aJ aK aT=some r)∧q0i (kq≤cA)∧q0i (w'.heap[bC]?=some (.cells #[iv aA,.string aC,iv aD,(sl aE aH aG)] 28 (0,0)))∧q0i (w'.heap[bF]?=some (.cells #[iv aI,.string aJ,iv aK,(sl aM aT aQ)] 28 (0,0)))∧q0i (Below w.heap.size w w'))
    case atStart=>exact⟨(0),X7,H',⟨q0f _⟩,⟨(X9 bD)⟩,⟨(X9 bG)⟩,⟨(X17 HB bE bH)⟩⟩
    case round=>
     clear H';(try clear c1 c2);(try clear p2 p2);(try clear c6 AA AB c7 AC AD c8 AE AF c9 bV bW bX bY cC bM bN bO bP bQ bR bT bU);obtain⟨cD,rfl,HA,cE,bD,bG,HB⟩:=hrel;cases gk with
     | zero=>exact absurd HA.out (by simp [q0Z.l0])
     | succ k2=>
      have H:=HA.out;clear HA;simp only[q0Z.l0]at H;by_cases cF:cD<(aH.length:Int)
      ·rw[if_pos cF]at H;have AG:=dT cF;clear cF;by_cases cG:0≤cD
       ·rw[if_pos cG]at H;have AP:=dT cG;clear cG;by_cases cH:cD<(aT.length:Int)
        ·rw[if_pos cH]at H;have AQ:=dT cH;clear cH;obtain⟨cI,cK,H⟩:=oA H;(try dsimp only at H);by_cases cL:cI=true
         ·subst cL;replace H:=tP H;have H':=am H;clear H;have AR:=bI.out;have AS:=bJ.out;have Z28:=bc4 bD;try go_wp2
          replace bD:=am (q0B bD.out);replace bG:=am (q0B bG.out);replace HB:=am (q1U HB.out);have cM:0≤(cD:Int):=q0a X16;have cN:cD<(aH.length:Int):=q0a X16;obtain⟨cO,cP,cQ,AH,cR,cS,cT,cU,cV,cX⟩:=q4K aZ.out cD cM cN;have cY:=cU;have cZ:=cT;have dA:=cS;have dB:=cR;cases AH;replace cR:=cB HB cR;replace cS:=cB HB cS;replace cT:=cB HB cT;replace cU:=cB HB cU;have dC:=am cX;have dD:=am cV;clear cX cV;replace cM:=q0c cM;replace cN:=q0c cN;have dE:0≤(cD:Int):=q0a X16;have dG:cD<(aT.length:Int):=q0a X16;obtain⟨dH,dI,dJ,AI,dK,dL,dM,dN,dO,dP⟩:=q4K bA.out cD dE dG;have dQ:=dN;have dR:=dM;have dS:=dL;have dU:=dK;cases AI;replace dK:=cB HB dK;replace dL:=cB HB dL;replace dM:=cB HB dM;replace dN:=cB HB dN;have dV:=am dP;have dW:=am dO;clear dP dO;replace dE:=q0c dE;replace dG:=q0c dG;refine q4P (n:=12) (S:=fun w'=>cc4 w' bC (iv aA) (.string aC) (iv aD) (sl (some cO) aH aG) (cc4 w' bF (iv aI) (.string aJ) (iv aK) (sl (some dH) aT aQ) (w'.cell? (cO.add ((cD).toNat*4))=some (iv ((q1o aH cD).f0))∧w'.cell? ⟨(cO.add ((cD).toNat*4)).block,(cO.add ((cD).toNat*4)).off+1,none⟩=some (.string ((q1o aH cD).f1))∧w'.cell? ⟨(cO.add ((cD).toNat*4)).block,(cO.add ((cD).toNat*4)).off+2,none⟩=some (iv ((q1o aH cD).f2))∧w'.cell? ⟨(cO.add ((cD).toNat*4)).block,(cO.add ((cD).toNat*4)).off+3,none⟩=some (sl cP ((q1o aH cD).f3) cQ)∧w'.cell? (dH.add ((cD).toNat*4))=some (iv ((q1o aT cD).f0))∧w'.cell? ⟨(dH.add ((cD).toNat*4)).block,(dH.add ((cD).toNat*4)).off+1,none⟩=some (.string ((q1o aT cD).f1))∧w'.cell? ⟨(dH.add ((cD).toNat*4)).block,(dH.add ((cD).toNat*4)).off+2,none⟩=some (iv ((q1o aT cD).f2))∧w'.cell? ⟨(dH.add ((cD).toNat*4)).block,(dH.add ((cD).toNat*4)).off+3,none⟩=some (sl dI ((q1o aT cD).f3) dJ)))) (ds:=[]) (lb 12 0) X4 rfl rfl (b4 bD (b4 bG ⟨(q0s HB.out dB),(q0s HB.out dA),(q0s HB.out cZ),(q0s HB.out cY),(q0s HB.out dU),(q0s HB.out dS),(q0s HB.out dR),(q0s HB.out dQ)⟩)) (fun hHeld=>?_);refine q3W q0Z.tab6 q0Z.bits6 (fun HT_ HW_=>?_);generalize wr.drew=w29 at bD bG HB dC dV cR cS cT cU dK dL dM dN hHeld ⊢
          refine pu 0 (some 41) (lb 12 1) HT_ ?_;refine pu 2 (some 43) (lb 12 5) HT_ ?_;refine pu 5 (some 46) (lb 12 37) HT_ ?_;refine pu 7 (some 48) (lb 12 165) HT_ ?_;refine tk 1 (some 42) (lb 12 167) HT_ HW_ hHeld ?_;refine pu 3 (some 44) (lb 12 175) HT_ ?_;refine tk 4 (some 45) (lb 12 191) HT_ HW_ hHeld ?_;refine tk 6 (some 47) (lb 12 255) HT_ HW_ hHeld ?_;refine pu 8 (some 49) (lb 12 511) HT_ ?_;refine tk 9 (some 50) (lb 12 1023) HT_ HW_ hHeld ?_;refine oo 10 (some 51) (lb 12 2047) HT_ (fun K hK=>?_);refine gO func20 #[.agg #[iv ((q1o aH cD).f0),.string ((q1o aH cD).f1),iv ((q1o aH cD).f2),sl cP ((q1o aH cD).f3) cQ],.agg #[iv ((q1o aT cD).f0),.string ((q1o aT cD).f1),iv ((q1o aT cD).f2),sl dI ((q1o aT cD).f3) dJ]] ?_;with_reducible refine(ih k2 (by have:=bZ.out;have:=cE.out;omega) ((q1o aH cD).f0) ((q1o aH cD).f1) ((q1o aH cD).f2) _ _ ((q1o aH cD).f3) ((q1o aT cD).f0) ((q1o aT cD).f1) ((q1o aT cD).f2) _ _ ((q1o aT cD).f3) true _ ?side1 ?side2 ?side3 ?side4 cK.out).mono ?_
          (case side1=>exact cW (q0Y dC.out HB.out));(case side2=>exact dD.out);(case side3=>exact cW (q0Y dV.out HB.out));(case side4=>exact dW.out);rintro e w30 ⟨rfl,hb⟩;refine⟨_,rfl,?_⟩;replace bD:=kB bD hb;replace bG:=kB bG hb;replace HB:=bS (X17 HB bE bH) hb;(try clear hb hb2 hk hi);refine hK.out _ _ (b4 bD (b4 bG ⟨(q0s HB.out dB),(q0s HB.out dA),(q0s HB.out cZ),(q0s HB.out cY),(q0s HB.out dU),(q0s HB.out dS),(q0s HB.out dR),(q0s HB.out dQ)⟩)) (fun hHeld=>?_);clear hK K;refine q5f (a':=?_) ?_ ?_;rotate_left
          ·exact pA (some 51)
          refine pu 11 (some 52) (lb 12 4095) HT_ ?_;refine q5N (q4z HT_.out X4) ?_;try go_wp2
          go_roundg k2
          case measure=>have:=bZ.out;have:=cE.out;omega
          case rel=>exact⟨(wrap64 (cD+1)),X7,H',⟨by have:=bZ.out;have:=cE.out;omega⟩,⟨(X9 bD)⟩,⟨(X9 bG)⟩,⟨(X17 HB bE bH)⟩⟩
         ·replace cL:=fI cL;subst cL;replace H:=tN H;exact absurd H (by simp)
        ·exact iN cH H
       ·exact iN cG H
      ·rw[if_neg cF]at H;have AG:=dF cF;clear cF;obtain rfl:=q0d H;have AT:=bI.out;have AU:=bJ.out;have Z32:=bc4 bD;go_wp2
       go_ret
       exact⟨X11,(X17 HB bE bH)⟩

def q2O.l0:Nat→List q0b→List q0b→Int→Option (Bool)
 | 0,_,_,_=>none
 | k+1,x0,x1,x5=>if x5<(x0.length:Int) then (if 0≤x5 then (if x5<(x1.length:Int) then (if (rdOf ByteArray.empty x0 x5).toList=(rdOf ByteArray.empty x1 x5).toList then (q2O.l0 k x0 x1 (wrap64 (x5+1))) else (none)) else (none)) else (none)) else (some true)
def q2O.f (k:Nat) (l0:List q0b) (l1:List q0b):Option (Bool):=if (l0.length:Int)=(l1.length:Int) then (q2O.l0 k l0 l1 0) else (none)
theorem q2O.calls (k:Nat) (A0:Option Addr) (c0:Nat) (l0:List q0b) (A1:Option Addr) (c1:Nat) (l1:List q0b) (r:Bool) (w:World) (aA:Kd.C Kd.string w A0 l0.length l0) (aC:l0.length≤c0) (aD:Kd.C Kd.string w A1 l1.length l1) (aE:l1.length≤c1) (h:q2O.f k l0 l1=some r) :
  Calls prog 30 #[sl A0 l0 c0,sl A1 l1 c1] w fun e w'=>e=.returned (.bool r)∧q3t w w':=by
 have aG:=am aA;have HC0:=am aC;clear aA aC;have aH:=am aD;have HC1:=am aE;clear aD aE;have H:=h;clear h;unfold q2O.f at H;by_cases c3:(l0.length:Int)=(l1.length:Int)
 ·rw[if_pos c3]at H;have AC:=eT c3;have AD:=eF c3;have AE:(l0.length == l1.length)=true:=by first|simpa using c3|(simp at c3 ⊢;omega)
  clear c3;have H':=am H;clear H;go_enter func30,ntmps30;go_wp2
  repeat (go_quiet (fail);try go_wp2)
  go_loopg [5] k (fun kq v5 w'=>∃ (aI:Int),v5=iv aI∧q0i (q2O.l0 kq l0 l1 aI=some r)∧q0i (kq≤k)∧q3t w w')
  case atStart=>exact⟨(0),X7,H',⟨q0f _⟩,X18⟩
  case round=>
   clear H';(try clear c1 p2 c3 AC AD AE);obtain⟨aI,rfl,HA,aJ,⟨m1,rfl⟩⟩:=hrel;cases gk with
   | zero=>exact absurd HA.out (by simp [q2O.l0])
   | succ k1=>
    have H:=HA.out;clear HA;simp only[q2O.l0]at H;by_cases c4:aI<(l0.length:Int)
    ·rw[if_pos c4]at H;have AF:=dT c4;clear c4;by_cases c5:0≤aI
     ·rw[if_pos c5]at H;have AG:=dT c5;clear c5;by_cases c6:aI<(l1.length:Int)
      ·rw[if_pos c6]at H;have AH:=dT c6;clear c6;by_cases c7:(rdOf ByteArray.empty l0 aI).toList=(rdOf ByteArray.empty l1 aI).toList
       ·rw[if_pos c7]at H;have AI:=eT c7;have AJ:=eF c7;clear c7;have H':=am H;clear H;have aK:0≤(aI:Int):=q0a X16;have aM:aI<(l0.length:Int):=q0a X16;obtain⟨ad1144,AA,hx1144_0⟩:=q3X aG.out aI aK aM;cases AA;replace aK:=q0c aK;replace aM:=q0c aM;have aQ:0≤(aI:Int):=q0a X16;have aT:aI<(l1.length:Int):=q0a X16;obtain⟨ad1145,AB,hx1145_0⟩:=q3X aH.out aI aQ aT;cases AB;replace aQ:=q0c aQ;replace aT:=q0c aT;go_wp2
        repeat (go_quiet (fail);try go_wp2)
        go_roundg k1
        case measure=>have:=aJ.out;omega
        case rel=>exact⟨(wrap64 (aI+1)),X7,H',⟨by have:=aJ.out;omega⟩,X18⟩
       ·exact iN c7 H
      ·exact iN c6 H
     ·exact iN c5 H
    ·rw[if_neg c4]at H;have AF:=dF c4;clear c4;obtain rfl:=q0d H;go_wp2
     repeat (go_quiet (fail);try go_wp2)
     go_ret
     exact⟨X7,X18⟩
 ·exact iN c3 H
end Go.Proofs.YtmffocankommaaaGreatDoor.P
