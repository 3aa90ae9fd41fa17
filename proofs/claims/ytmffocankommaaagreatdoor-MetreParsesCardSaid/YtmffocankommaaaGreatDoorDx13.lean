/- Printed walks: what each function of the program computes. Condition: the Lean function gives a value. -/
import Derived.Test.YtmffocankommaaaGreatDoorDYZed
import Derived.Test.YtmffocankommaaaGreatDoorDx5
import Derived.Test.YtmffocankommaaaGreatDoorDx9
namespace Go.Proofs.YtmffocankommaaaGreatDoor.P
open Go.RowKit Go.Proofs.YtmffocankommaaaGreatDoorW.PrintWords Go.Proofs.YtmffocankommaaaGreatDoorW.PrintLast Go.Proofs.YtmffocankommaaaGreatDoorW.PrintMore Go.Proofs.YtmffocankommaaaGreatDoorY Go.Proofs.YtmffocankommaaaGreatDoorS Go.Proofs.YtmffocankommaaaGreatDoorS _root_.Go.Proofs.Tryz
attribute [local go_sem] q2U q3x q3u q3V q3S q3i q3f q3v q3w
set_option linter.unusedVariables false
set_option maxHeartbeats 8000000
set_option maxRecDepth 100000
set_option linter.unusedSimpArgs false
mutual
def q1P.j2:Nat→Int→q0b→Int→List (S28)→Option (Bool)
 | 0,_,_,_,_=>none
 | k+1,aA,x504001,x504002,aC=>if aA=5 then (if (aC.length:Int)=1 then (some false) else ((q4f.f k aC ()).bind fun aD=>(some (!aD)))) else (if aA=6 then (some (decide ((aC.length:Int)≥2))) else (if aA=7 then (some ((aC.length:Int) == 1)) else (if aA=8 then (some ((aC.length:Int) == 1)) else (if aA=12 then (some ((aC.length:Int) == 1)) else (some ((aC.length:Int) == 0))))))
def q1P.j0:Nat→Bool→Int→q0b→Int→List (S28)→Option (Bool)
 | 0,_,_,_,_,_=>none
 | k+1,x3,aA,aC,aD,aE=>if x3=true then (some false) else ((q4m.f aA).bind fun aG=>(if aG=true then (q1P.j1 k false aA aC aD aE) else (q1P.j1 k (aC.toList != ([]:List UInt8)) aA aC aD aE)))
def q1P.j1:Nat→Bool→Int→q0b→Int→List (S28)→Option (Bool)
 | 0,_,_,_,_,_=>none
 | k+1,aA,aC,aD,aE,aG=>if aA=true then (some false) else (if aC=7 then (q1P.j2 k aC aD aE aG) else (if aE=0 then (q1P.j2 k aC aD aE aG) else (some false)))
end
def q1P.f (k:Nat) (aA:Int) (aC:q0b) (aD:Int) (aE:List (S28)):Option (Bool):=if aA<1 then (q1P.j0 k true aA aC aD aE) else (q1P.j0 k (decide (aA > 12)) aA aC aD aE)
theorem q1P.mono_l:∀ k,(∀ y0 y1 y2 y3,LeO (q1P.j2 k y0 y1 y2 y3) (q1P.j2 (k+1) y0 y1 y2 y3))∧(∀ y0 y1 y2 y3 y4,LeO (q1P.j0 k y0 y1 y2 y3 y4) (q1P.j0 (k+1) y0 y1 y2 y3 y4))∧(∀ y0 y1 y2 y3 y4,LeO (q1P.j1 k y0 y1 y2 y3 y4) (q1P.j1 (k+1) y0 y1 y2 y3 y4))
 | 0=>⟨fun _ _ _ _ r h=>by simp [q1P.j2]at h,fun _ _ _ _ _ r h=>by simp [q1P.j0]at h,fun _ _ _ _ _ r h=>by simp [q1P.j1]at h⟩
 | k+1=>by
  obtain⟨aA,aC,aD⟩:=q1P.mono_l k;refine⟨?_,?_,?_⟩
  ·intro y0 y1 y2 y3;unfold q1P.j2;exact X5
  ·intro y0 y1 y2 y3 y4;unfold q1P.j0;exact X5
  ·intro y0 y1 y2 y3 y4;unfold q1P.j1;exact X5
theorem q1P.mono:∀ a0 a1 a2 a3 k,LeO (q1P.f k a0 a1 a2 a3) (q1P.f (k+1) a0 a1 a2 a3):=by
 intro a0 a1 a2 a3 k;obtain⟨aA,aC,aD⟩:=q1P.mono_l k;unfold q1P.f;exact X5
theorem q1P.calls (k:Nat) (aA:Int) (aC:q0b) (aD:Int) (aE:Option Addr) (aG:Nat) (aH:List (S28)) (r:Bool) (w:World) (aI:Kd.C k28 w aE aH.length aH) (aJ:aH.length≤aG) (h:q1P.f k aA aC aD aH=some r) :
  Calls prog 100 #[.agg #[iv aA,.string aC,iv aD,sl aE aH aG]] w fun e w'=>e=.returned (.bool r)∧Below w.heap.size w w':=by
 have hu28:=underlying28;have aK:=am aI;have aM:=am aJ;clear aI aJ;have HB:=am (q0r w.heap.size w);have H:=h;clear h;unfold q1P.f at H;have aQ:=am H;clear H;go_enter func100,ntmps100;go_upto_block 0 with (first|((with_reducible refine gd 1 ?_);refine be 1 #[iv aA,.string aC,iv aD,sl aE aH aG] 28 ?_;intro aT hg w3 hbox hb;have aU:=am (hbox);have GW503:=sG (w:=w) hg X6;have aW:=sG (w:=w) hg X6;replace HB:=bS X6 hb;clear hb hbox hg))
 (try simp only[Act.put,List.setIfInBounds_toArray,List.set_cons_zero,List.set_cons_succ]);go_cut [] (fun wc=>∃ (kq:Nat),q0i (q1P.j2 kq aA aC aD aH=some r)∧q0i (kq≤k)∧q0i (wc.heap[aT]?=some (.cells #[iv aA,.string aC,iv aD,(sl aE aH aG)] 28 (0,0)))∧q0i (Below w.heap.size w wc))
 case first=>
  have H:=aQ.out;clear aQ;have aX:=am H;clear H;go_upto_region 1 with (fail)
  go_cut [3] (fun v3 wc=>∃ (kq:Nat) (aY:Bool),v3=.bool aY∧q0i (q1P.j0 kq aY aA aC aD aH=some r)∧q0i (kq≤k)∧q0i (wc.heap[aT]?=some (.cells #[iv aA,.string aC,iv aD,(sl aE aH aG)] 28 (0,0)))∧q0i (Below w.heap.size w wc))
  case first=>
   have H:=aX.out;clear aX;by_cases c5:aA<1
   ·rw[if_pos c5]at H;have AA:=dT c5;clear c5;(first|rw[AA]|(simp only[q4g,q4q];rw[AA])|skip);have H':=am H;clear H;have Z6:=bc4 aU;go_wp2
    go_meet
    case rel=>exact⟨_,(true),X7,H',⟨X8⟩,⟨(X9 aU)⟩,⟨(X10 HB aW)⟩⟩
   ·rw[if_neg c5]at H;have AA:=dF c5;clear c5;(first|rw[AA]|(simp only[q4g,q4q];rw[AA])|skip);have H':=am H;clear H;have Z7:=bc4 aU;go_wp2
    go_meet
    case rel=>exact⟨_,(decide (aA > 12)),X7,H',⟨X8⟩,⟨(X9 aU)⟩,⟨(X10 HB aW)⟩⟩
  case rest=>
   clear aX;(try clear c1 p2 c5 AA Z6 Z7);obtain⟨kq,aY,rfl,HA,aZ,aU,HB⟩:=hcut;cases kq with
   | zero=>exact absurd HA.out (by simp [q1P.j0])
   | succ bA=>
    have H:=HA.out;clear HA;simp only[q1P.j0]at H;by_cases c8:aY=true
    ·subst c8;replace H:=tP H;obtain rfl:=q0d H;go_wp2
     go_ret
     exact⟨X11,(X10 HB aW)⟩
    ·replace c8:=fI c8;subst c8;replace H:=tN H;have bB:=am H;clear H;go_upto_region 3 with (fail)
     go_cut [12] (fun bC wc=>∃ (kq:Nat) (bD:Bool),bC=.bool bD∧q0i (q1P.j1 kq bD aA aC aD aH=some r)∧q0i (kq≤bA)∧q0i (wc.heap[aT]?=some (.cells #[iv aA,.string aC,iv aD,(sl aE aH aG)] 28 (0,0)))∧q0i (Below w.heap.size w wc))
     case first=>
      have H:=bB.out;clear bB;obtain⟨bE,bG,H⟩:=oA H;(try dsimp only at H);by_cases bH:bE=true
      ·subst bH;replace H:=tP H;have H':=am H;clear H;have bI:=bc4 aU;go_wp2_with (first|((with_reducible refine gc 76 ?_);refine gCc (some 15) func76 (q4m.calls aA true _ bG.out) ?_;rintro w' ⟨nd,rfl⟩))
       go_meet
       case rel=>exact⟨_,(false),X7,H',⟨by have:=aZ.out;first|omega|exact q0f _⟩,⟨(X9 aU)⟩,⟨(X10 HB aW)⟩⟩
      ·replace bH:=fI bH;subst bH;replace H:=tN H;have H':=am H;clear H;have bJ:=bc4 aU;go_wp2_with (first|((with_reducible refine gc 76 ?_);refine gCc (some 15) func76 (q4m.calls aA false _ bG.out) ?_;rintro w' ⟨nd,rfl⟩))
       go_meet
       case rel=>exact⟨_,((aC.toList != ([]:List UInt8))),X7,H',⟨by have:=aZ.out;first|omega|exact q0f _⟩,⟨(X9 aU)⟩,⟨(X10 HB aW)⟩⟩
     case rest=>
      clear bB;(try clear c1);(try clear p2 p2);(try clear c5 AA c7 c8 c10 bH bI bJ Z6 Z7);obtain⟨kq,bD,rfl,HA,bK,aU,HB⟩:=hcut;cases kq with
      | zero=>exact absurd HA.out (by simp [q1P.j1])
      | succ kj8=>
       have H:=HA.out;clear HA;simp only[q1P.j1]at H;by_cases bL:bD=true
       ·subst bL;replace H:=tP H;obtain rfl:=q0d H;go_wp2
        go_ret
        exact⟨X11,(X10 HB aW)⟩
       ·replace bL:=fI bL;subst bL;replace H:=tN H;by_cases bM:aA=7
        ·rw[if_pos bM]at H;have AB:=eT bM;have AC:=eF bM;clear bM;have H':=am H;clear H;have bN:=bc4 aU;go_wp2
         go_meet
         case rel=>exact⟨_,H',⟨by have:=aZ.out;have:=bK.out;first|omega|exact q0f _⟩,⟨(X9 aU)⟩,⟨(X10 HB aW)⟩⟩
        ·rw[if_neg bM]at H;have AB:=nF bM;have AC:=nT bM;by_cases bO:aD=0
         ·rw[if_pos bO]at H;have AD:=eT bO;have AE:=eF bO;clear bO;have H':=am H;clear H;have bP:=bc4 aU;go_wp2
          go_meet
          case rel=>exact⟨_,H',⟨by have:=aZ.out;have:=bK.out;first|omega|exact q0f _⟩,⟨(X9 aU)⟩,⟨(X10 HB aW)⟩⟩
         ·rw[if_neg bO]at H;have AD:=nF bO;have AE:=nT bO;obtain rfl:=q0d H;have bQ:=bc4 aU;go_wp2
          go_ret
          exact⟨X11,(X10 HB aW)⟩
 case rest=>
  clear aQ;(try clear c1);(try clear p2 p2);(try clear c5 AA c7 c8 c10 bH bL bM AB AC bO AD AE bI bJ bN bP bQ Z6 Z7);obtain⟨kq,HA,HJ1,aU,HB⟩:=hcut;cases kq with
  | zero=>exact absurd HA.out (by simp [q1P.j2])
  | succ bR=>
   have H:=HA.out;clear HA;simp only[q1P.j2]at H;by_cases bT:aA=5
   ·rw[if_pos bT]at H;have AF:=eT bT;have AG:=eF bT;clear bT;by_cases bU:(aH.length:Int)=1
    ·rw[if_pos bU]at H;have AH:=eT bU;have AI:=eF bU;clear bU;obtain rfl:=q0d H;have Z22:=bc4 aU;go_wp2
     go_ret
     exact⟨X11,(X10 HB aW)⟩
    ·rw[if_neg bU]at H;have AH:=nF bU;have AI:=nT bU;obtain⟨bV,bX,H⟩:=oA H;(try dsimp only at H);obtain rfl:=q0d H;have Z24:=bc4 aU;go_wp2_with (first|(go_at_call 123;(with_reducible refine(q4f.calls bR _ _ aH () bV _ ?side1 ?side2 bX.out).mono ?_);(case side1=>exact(X12 aK HB));(case side2=>exact aM.out);rintro e w25 ⟨rfl,hb⟩;replace aU:=kB aU hb;replace HB:=bS (X10 HB aW) hb;clear hb))
     go_ret
     exact⟨X11,(X10 HB aW)⟩
   ·rw[if_neg bT]at H;have AF:=nF bT;have AG:=nT bT;by_cases bY:aA=6
    ·rw[if_pos bY]at H;have AJ:=eT bY;have AK:=eF bY;clear bY;obtain rfl:=q0d H;have Z27:=bc4 aU;go_wp2
     go_ret
     exact⟨X11,(X10 HB aW)⟩
    ·rw[if_neg bY]at H;have AJ:=nF bY;have AK:=nT bY;by_cases bZ:aA=7
     ·rw[if_pos bZ]at H;have AL:=eT bZ;have AM:=eF bZ;clear bZ;obtain rfl:=q0d H;have Z29:=bc4 aU;go_wp2
      go_ret
      exact⟨X11,(X10 HB aW)⟩
     ·rw[if_neg bZ]at H;have AL:=nF bZ;have AM:=nT bZ;by_cases cA:aA=8
      ·rw[if_pos cA]at H;have AN:=eT cA;have AO:=eF cA;clear cA;obtain rfl:=q0d H;have Z31:=bc4 aU;go_wp2
       go_ret
       exact⟨X11,(X10 HB aW)⟩
      ·rw[if_neg cA]at H;have AN:=nF cA;have AO:=nT cA;by_cases cC:aA=12
       ·rw[if_pos cC]at H;have AP:=eT cC;have AQ:=eF cC;clear cC;obtain rfl:=q0d H;have Z33:=bc4 aU;go_wp2
        go_ret
        exact⟨X11,(X10 HB aW)⟩
       ·rw[if_neg cC]at H;have AP:=nF cC;have AQ:=nT cC;obtain rfl:=q0d H;have Z34:=bc4 aU;go_wp2
        go_ret
        exact⟨X11,(X10 HB aW)⟩
mutual
def q1x.j0:Nat→Int→Bool→Int→q0b→Int→List (S28)→Option (Int)
 | 0,_,_,_,_,_,_=>none
 | k+1,x1,aA,x507000,x507001,aC,aD=>if aA=true then (some 2) else (if aC<0 then (some 6) else (if aC > 9 then (some 6) else (q1x.l0 k x1 aD (aD.length:Int) 0)))
def q1x.l0:Nat→Int→List (S28)→Int→Int→Option (Int)
 | 0,_,_,_,_=>none
 | k+1,x1,aA,aC,aD=>if aD<aC then (if 0≤aD then (if aD<(aA.length:Int) then ((q1x.f k ((q1o aA aD).f0) ((q1o aA aD).f1) ((q1o aA aD).f2) ((q1o aA aD).f3) (wrap64 (x1+1))).bind fun aE=>(if aE=0 then (q1x.l0 k x1 aA aC (wrap64 (aD+1))) else (some aE))) else (none)) else (none)) else (some 0)
def q1x.f:Nat→Int→q0b→Int→List (S28)→Int→Option (Int)
 | 0,_,_,_,_,_=>none
 | k+1,aA,aC,aD,aE,a1=>if a1 > 12 then (some 3) else ((q1P.f k aA aC aD aE).bind fun aG=>(if aG=true then ((q4m.f aA).bind fun aH=>(if aH=true then ((q2z.f k aC).bind fun aI=>(q1x.j0 k a1 (!aI) aA aC aD aE)) else (q1x.j0 k a1 false aA aC aD aE))) else (some 1)))
end
theorem q1x.mono_l:∀ k,(∀ y0 y1 y2 y3 y4,LeO (q1x.f k y0 y1 y2 y3 y4) (q1x.f (k+1) y0 y1 y2 y3 y4))∧(∀ y0 y1 y2 y3 y4 y5,LeO (q1x.j0 k y0 y1 y2 y3 y4 y5) (q1x.j0 (k+1) y0 y1 y2 y3 y4 y5))∧(∀ y0 y1 y2 y3,LeO (q1x.l0 k y0 y1 y2 y3) (q1x.l0 (k+1) y0 y1 y2 y3))
 | 0=>⟨fun _ _ _ _ _ r h=>by simp [q1x.f]at h,fun _ _ _ _ _ _ r h=>by simp [q1x.j0]at h,fun _ _ _ _ r h=>by simp [q1x.l0]at h⟩
 | k+1=>by
  obtain⟨aA,aC,aD⟩:=q1x.mono_l k;refine⟨?_,?_,?_⟩
  ·intro y0 y1 y2 y3 y4;unfold q1x.f;exact X13
  ·intro y0 y1 y2 y3 y4 y5;unfold q1x.j0;exact X13
  ·intro y0 y1 y2 y3;unfold q1x.l0;exact X13
theorem q1x.mono:∀ a0 a1 a2 a3 a4 k,LeO (q1x.f k a0 a1 a2 a3 a4) (q1x.f (k+1) a0 a1 a2 a3 a4):=by
 intro a0 a1 a2 a3 a4 k;obtain⟨aA,ih1,ih2⟩:=q1x.mono_l k;exact aA a0 a1 a2 a3 a4
theorem q1x.calls (k:Nat):∀ (aA:Int) (aC:q0b) (aD:Int) (aE:Option Addr) (aG:Nat) (aH:List (S28)) (a1:Int) (r:Int) (w:World) (aI:Kd.C k28 w aE aH.length aH) (aJ:aH.length≤aG) (h:q1x.f k aA aC aD aH a1=some r),
  Calls prog 73 #[.agg #[iv aA,.string aC,iv aD,sl aE aH aG],iv a1] w fun e w'=>e=.returned (iv r)∧Below w.heap.size w w':=by
 induction k using Nat.strongRecOn with
 | _ k ih=>
 intro aA aC aD aE aG aH a1 r w aI aJ h;cases k with
 | zero=>exact absurd h (by simp [q1x.f])
 | succ k=>
 simp only[q1x.f]at h;have hu28:=underlying28;have aK:=am aI;have aM:=am aJ;clear aI aJ;have HB:=am (q0r w.heap.size w);have H:(if a1 > 12 then (some 3) else ((q1P.f k aA aC aD aH).bind fun aQ=>(if aQ=true then ((q4m.f aA).bind fun aT=>(if aT=true then ((q2z.f k aC).bind fun aU=>(q1x.j0 k a1 (!aU) aA aC aD aH)) else (q1x.j0 k a1 false aA aC aD aH))) else (some 1))))=some r:=h;clear h;by_cases c3:a1 > 12
 ·rw[if_pos c3]at H;have AA:decide (12<a1)=true:=q0p c3;clear c3;obtain rfl:=q0d H;go_enter func73,ntmps73;go_wp2_with (first|((with_reducible refine gd 2 ?_);refine be 2 #[iv aA,.string aC,iv aD,sl aE aH aG] 28 ?_;intro aW hg w4 hbox hb;have aX:=am (hbox);have aY:=sG (w:=w) hg X6;have aZ:=sG (w:=w) hg X6;replace HB:=bS X6 hb;clear hb hbox hg))
  go_ret
  exact⟨X11,(X10 HB aZ)⟩
 ·rw[if_neg c3]at H;have AA:decide (12<a1)=false:=q0z c3;clear c3;obtain⟨aQ,A5,H⟩:=oA H;(try dsimp only at H);by_cases c6:aQ=true
  ·subst c6;replace H:=tP H;have bB:=am H;clear H;go_enter func73,ntmps73;go_upto_region 5 with (first|((with_reducible refine gd 2 ?_);refine be 2 #[iv aA,.string aC,iv aD,sl aE aH aG] 28 ?_;intro aW hg w8 hbox hb;have aX:=am (hbox);have aY:=sG (w:=w) hg X6;have aZ:=sG (w:=w) hg X6;replace HB:=bS X6 hb;clear hb hbox hg;have Z9:=bc4 aX)|((with_reducible refine gc 100 ?_);refine gCc (some 13) func100 (q1P.calls k aA aC aD _ _ aH true _ (X12 aK HB) aM.out A5.out) ?_;rintro w10 hb;replace aX:=kB aX hb;replace HB:=bS (X10 HB aZ) hb;clear hb))
   (try simp only[Act.put,List.setIfInBounds_toArray,List.set_cons_zero,List.set_cons_succ]);go_cut [15] (fun bC wc=>∃ (kq:Nat) (bD:Bool),bC=.bool bD∧q0i (q1x.j0 kq a1 bD aA aC aD aH=some r)∧q0i (kq≤k)∧q0i (wc.heap[aW]?=some (.cells #[iv aA,.string aC,iv aD,(sl aE aH aG)] 28 (0,0)))∧q0i (Below w.heap.size w wc))
   case first=>
    have H:=bB.out;clear bB;obtain⟨aT,bF,H⟩:=oA H;(try dsimp only at H);by_cases bG:aT=true
    ·subst bG;replace H:=tP H;obtain⟨aU,bI,H⟩:=oA H;(try dsimp only at H);have H':=am H;clear H;have bJ:=bc4 aX;go_wp2_with (first|((with_reducible refine gc 76 ?_);refine gCc (some 18) func76 (q4m.calls aA true _ bF.out) ?_;rintro w' ⟨nd,rfl⟩)|(go_at_call 54;(with_reducible refine(q2z.calls k aC aU _ bI.out).mono ?_);rintro e w' ⟨rfl,⟨nd,rfl⟩⟩))
     go_meet
     case rel=>exact⟨_,(!aU),X7,H',⟨X8⟩,⟨(X9 aX)⟩,⟨(X10 HB aZ)⟩⟩
    ·replace bG:=fI bG;subst bG;replace H:=tN H;have H':=am H;clear H;have bK:=bc4 aX;go_wp2_with (first|((with_reducible refine gc 76 ?_);refine gCc (some 18) func76 (q4m.calls aA false _ bF.out) ?_;rintro w' ⟨nd,rfl⟩))
     go_meet
     case rel=>exact⟨_,(false),X7,H',⟨X8⟩,⟨(X9 aX)⟩,⟨(X10 HB aZ)⟩⟩
   case rest=>
    clear bB;(try clear c1 p2 c3 AA c6 c7 c10 bG bJ bK Z9);obtain⟨kq,bD,rfl,HA,bL,aX,HB⟩:=hcut;cases kq with
    | zero=>exact absurd HA.out (by simp [q1x.j0])
    | succ bM=>
     have H:=HA.out;clear HA;simp only[q1x.j0]at H;by_cases bN:bD=true
     ·subst bN;replace H:=tP H;obtain rfl:=q0d H;go_wp2
      go_ret
      exact⟨X11,(X10 HB aZ)⟩
     ·replace bN:=fI bN;subst bN;replace H:=tN H;by_cases bO:aD<0
      ·rw[if_pos bO]at H;have AC:=dT bO;clear bO;obtain rfl:=q0d H;have bP:=bc4 aX;go_wp2
       go_ret
       exact⟨X11,(X10 HB aZ)⟩
      ·rw[if_neg bO]at H;have AC:=dF bO;clear bO;by_cases bQ:aD > 9
       ·rw[if_pos bQ]at H;have AD:decide (9<aD)=true:=q0p bQ;clear bQ;obtain rfl:=q0d H;have bR:=bc4 aX;go_wp2
        go_ret
        exact⟨X11,(X10 HB aZ)⟩
       ·rw[if_neg bQ]at H;have AD:decide (9<aD)=false:=q0z bQ;clear bQ;have H':=am H;clear H;have bT:=bc4 aX;go_wp2
        go_loopg [37] bM (fun kq bU w'=>∃ (bV:Int),bU=iv bV∧q0i (q1x.l0 kq a1 aH (aH.length:Int) bV=some r)∧q0i (kq≤bM)∧q0i (w'.heap[aW]?=some (.cells #[iv aA,.string aC,iv aD,(sl aE aH aG)] 28 (0,0)))∧q0i (Below w.heap.size w w'))
        case atStart=>exact⟨(0),X7,H',⟨q0f _⟩,⟨(X9 aX)⟩,⟨(X10 HB aZ)⟩⟩
        case round=>
         clear H';(try clear c1);(try clear p2 p2);(try clear c3 AA c6 c7 c10 bG bN bO AC bQ AD bJ bK bP bR bT Z9);obtain⟨bV,rfl,HA,bW,aX,HB⟩:=hrel;cases gk with
         | zero=>exact absurd HA.out (by simp [q1x.l0])
         | succ k2=>
          have H:=HA.out;clear HA;simp only[q1x.l0]at H;by_cases bX:bV<(aH.length:Int)
          ·rw[if_pos bX]at H;have AE:=dT bX;clear bX;by_cases bY:0≤bV
           ·rw[if_pos bY]at H;have AH:=dT bY;clear bY;by_cases bZ:bV<(aH.length:Int)
            ·rw[if_pos bZ]at H;have AI:=dT bZ;clear bZ;obtain⟨cA,cD,H⟩:=oA H;(try dsimp only at H);by_cases cE:cA=0
             ·rw[if_pos cE]at H;have AF:=eT cE;have AG:=eF cE;clear cE;have H':=am H;clear H;have cF:0≤(bV:Int):=q0a X16;have cG:bV<(aH.length:Int):=q0a X16;obtain⟨cH,cI,cJ,AB,cK,cL,cM,cN,cO,cP⟩:=q4K aK.out bV cF cG;cases AB;replace cK:=cB HB cK;replace cL:=cB HB cL;replace cM:=cB HB cM;replace cN:=cB HB cN;have cQ:=am cP;have cR:=am cO;clear cP cO;replace cF:=q0c cF;replace cG:=q0c cG;go_wp2_with (first|((with_reducible refine gd 6 ?_);refine be 6 zNn 28 ?_;intro cS hg w27 hbox hb;have cT:=am (hbox);have cU:=sG (w:=w) hg (X10 HB aZ);have cV:=sG (w:=w) hg (X10 HB aZ);replace HB:=bS (X10 HB aZ) hb;have cX:=nLT hg aX;have cY:=nGT hg aX;replace aX:=kB aX hb;clear hb hbox hg;have AJ:=cY.out;have AK:=cX.out;have Z29:=bc4 cT)|((with_reducible refine gc 73 ?_);refine gCc (some 44) func73 (ih k2 (by have:=bL.out;have:=bW.out;omega) ((q1o aH bV).f0) ((q1o aH bV).f1) ((q1o aH bV).f2) _ _ ((q1o aH bV).f3) (wrap64 (a1+1)) cA _ (q0Y cQ.out (X17 HB aZ cV)) cR.out cD.out) ?_;rintro w30 hb;replace aX:=kBg1 aX cX hb;replace cT:=kBg0 cT hb;replace HB:=bS (X17 HB aZ cV) hb;clear hb))
              go_roundg k2
              case measure=>have:=bL.out;have:=bW.out;omega
              case rel=>exact⟨(wrap64 (bV+1)),X7,H',⟨by have:=bL.out;have:=bW.out;omega⟩,⟨(X9 aX)⟩,⟨(X17 HB aZ cV)⟩⟩
             ·rw[if_neg cE]at H;have AF:=nF cE;have AG:=nT cE;obtain rfl:=q0d H;have cF:0≤(bV:Int):=q0a X16;have cG:bV<(aH.length:Int):=q0a X16;obtain⟨cH,cI,cJ,AB,cK,cL,cM,cN,cO,cP⟩:=q4K aK.out bV cF cG;cases AB;replace cK:=cB HB cK;replace cL:=cB HB cL;replace cM:=cB HB cM;replace cN:=cB HB cN;have cQ:=am cP;have cR:=am cO;clear cP cO;replace cF:=q0c cF;replace cG:=q0c cG;go_wp2_with (first|((with_reducible refine gd 6 ?_);refine be 6 zNn 28 ?_;intro cS hg w31 hbox hb;have cT:=am (hbox);have cU:=sG (w:=w) hg (X10 HB aZ);have cV:=sG (w:=w) hg (X10 HB aZ);replace HB:=bS (X10 HB aZ) hb;have cX:=nLT hg aX;have cY:=nGT hg aX;replace aX:=kB aX hb;clear hb hbox hg;have AL:=cY.out;have AM:=cX.out;have Z33:=bc4 cT)|((with_reducible refine gc 73 ?_);refine gCc (some 44) func73 (ih k2 (by have:=bL.out;have:=bW.out;omega) ((q1o aH bV).f0) ((q1o aH bV).f1) ((q1o aH bV).f2) _ _ ((q1o aH bV).f3) (wrap64 (a1+1)) cA _ (q0Y cQ.out (X17 HB aZ cV)) cR.out cD.out) ?_;rintro w34 hb;replace aX:=kBg1 aX cX hb;replace cT:=kBg0 cT hb;replace HB:=bS (X17 HB aZ cV) hb;clear hb))
              go_ret
              exact⟨X11,(X17 HB aZ cV)⟩
            ·exact iN bZ H
           ·exact iN bY H
          ·rw[if_neg bX]at H;have AE:=dF bX;clear bX;obtain rfl:=q0d H;go_wp2
           go_ret
           exact⟨X11,(X10 HB aZ)⟩
  ·replace c6:=fI c6;subst c6;replace H:=tN H;obtain rfl:=q0d H;go_enter func73,ntmps73;go_wp2_with (first|((with_reducible refine gd 2 ?_);refine be 2 #[iv aA,.string aC,iv aD,sl aE aH aG] 28 ?_;intro aW hg w35 hbox hb;have aX:=am (hbox);have aY:=sG (w:=w) hg X6;have aZ:=sG (w:=w) hg X6;replace HB:=bS X6 hb;clear hb hbox hg;have Z36:=bc4 aX)|((with_reducible refine gc 100 ?_);refine gCc (some 13) func100 (q1P.calls k aA aC aD _ _ aH false _ (X12 aK HB) aM.out A5.out) ?_;rintro w37 hb;replace aX:=kB aX hb;replace HB:=bS (X10 HB aZ) hb;clear hb))
   go_ret
   exact⟨X11,(X10 HB aZ)⟩

def q3p.f (k:Nat) (aA:Int) (aC:q0b) (aD:Int) (aE:List (S28)):Option (Int):=(q1x.f k aA aC aD aE 1).bind fun aG=>(if aG=0 then ((q2w.f k aA aC aD aE).bind fun aH=>(if aH > 200 then (some 3) else (some 0))) else (some aG))
theorem q3p.mono:∀ a0 a1 a2 a3 k,LeO (q3p.f k a0 a1 a2 a3) (q3p.f (k+1) a0 a1 a2 a3):=by
 intro a0 a1 a2 a3 k;unfold q3p.f;exact(by repeat' (with_reducible first|apply q2w.mono|apply q1x.mono|exact LeO.refl _|exact LeO.none _|refine LeO.ite ?_ ?_|refine LeO.bind ?_ (fun _=>?_)))
theorem q3p.calls (k:Nat) (aA:Int) (aC:q0b) (aD:Int) (aE:Option Addr) (aG:Nat) (aH:List (S28)) (r:Int) (w:World) (aI:Kd.C k28 w aE aH.length aH) (aJ:aH.length≤aG) (h:q3p.f k aA aC aD aH=some r) :
  Calls prog 38 #[.agg #[iv aA,.string aC,iv aD,sl aE aH aG]] w fun e w'=>e=.returned (iv r)∧Below w.heap.size w w':=by
 have hu28:=underlying28;have aK:=am aI;have aM:=am aJ;clear aI aJ;have HB:=am (q0r w.heap.size w);have H:=h;clear h;unfold q3p.f at H;obtain⟨aQ,A2,H⟩:=oA H;(try dsimp only at H);go_enter func38,ntmps38;go_wp2_with (first|((with_reducible refine gd 1 ?_);refine be 1 #[iv aA,.string aC,iv aD,sl aE aH aG] 28 ?_;intro gb513 hg w6 hbox hb;have aU:=am (hbox);have GW513:=sG (w:=w) hg X6;have aW:=sG (w:=w) hg X6;replace HB:=bS X6 hb;clear hb hbox hg;have Z7:=bc4 aU;refine q5g ?_))
 by_cases c3:aQ=0
 ·rw[if_pos c3]at H;have AA:=eT c3;have AB:=eF c3;clear c3;obtain⟨aX,A4,H⟩:=oA H;(try dsimp only at H);refine on_ ?_;go_wp2_with (first|((with_reducible refine gc 73 ?_);refine gCc (some 5) func73 (q1x.calls k aA aC aD _ _ aH 1 aQ _ (X12 aK HB) aM.out A2.out) ?_;rintro w8 hb;replace aU:=kB aU hb;replace HB:=bS (X10 HB aW) hb;clear hb;have Z9:=bc4 aU)|((with_reducible refine gc 14 ?_);refine gCc (some 10) func14 (q2w.calls k aA aC aD _ _ aH aX _ (X12 aK HB) aM.out A4.out) ?_;rintro w10 hb;replace aU:=kB aU hb;replace HB:=bS (X10 HB aW) hb;clear hb;refine q5g ?_))
  by_cases c5:aX > 200
  ·rw[if_pos c5]at H;have AC:decide (200<aX)=true:=q0p c5;clear c5;obtain rfl:=q0d H;refine on_ ?_;go_wp2
   go_ret
   exact⟨X11,(X10 HB aW)⟩
  ·rw[if_neg c5]at H;have AC:decide (200<aX)=false:=q0z c5;clear c5;obtain rfl:=q0d H;refine on_ ?_;go_wp2
   go_ret
   exact⟨X11,(X10 HB aW)⟩
 ·rw[if_neg c3]at H;have AA:=nF c3;have AB:=nT c3;obtain rfl:=q0d H;refine on_ ?_;go_wp2_with (first|((with_reducible refine gc 73 ?_);refine gCc (some 5) func73 (q1x.calls k aA aC aD _ _ aH 1 aQ _ (X12 aK HB) aM.out A2.out) ?_;rintro w18 hb;replace aU:=kB aU hb;replace HB:=bS (X10 HB aW) hb;clear hb))
  go_ret
  exact⟨X11,(X10 HB aW)⟩

def q3T.f (k:Nat) (a0:q0b):Option (Bool):=(q2z.f k a0).bind fun aA=>(some (!aA))
theorem q3T.mono:∀ a0 k,LeO (q3T.f k a0) (q3T.f (k+1) a0):=by
 intro a0 k;unfold q3T.f;exact(by repeat' (with_reducible first|exact q2z.mono _ _|exact LeO.refl _|exact LeO.none _|refine LeO.ite ?_ ?_|refine LeO.bind ?_ (fun _=>?_)))
theorem q3T.calls (k:Nat) (a0:q0b) (r:Bool) (w:World) (h:q3T.f k a0=some r) :
  Calls prog 56 #[.string a0] w fun e w'=>e=.returned (.bool r)∧q3t w w':=by
 have H:=h;clear h;unfold q3T.f at H;obtain⟨aA,A2,H⟩:=oA H;(try dsimp only at H);obtain rfl:=q0d H;go_enter func56,ntmps56;go_wp2_with (first|((with_reducible refine gc 54 ?_);refine gCc (some 4) func54 (q2z.calls k a0 aA _ A2.out) ?_;rintro w' ⟨nd,rfl⟩))
 go_ret
 exact⟨X7,X18⟩

def q0Q.l0:Nat→List q0b→Int→Int→Option (Int)
 | 0,_,_,_=>none
 | k+1,x0,x7,x8=>if x8<x7 then (if 0≤x8 then (if x8<(x0.length:Int) then ((q3T.f k (rdOf ByteArray.empty x0 x8)).bind fun aA=>(if aA=true then (some x8) else (q0Q.l0 k x0 x7 (wrap64 (x8+1))))) else (none)) else (none)) else (some (-1))
def q0Q.f (k:Nat) (l0:List q0b) (a1:Unit):Option (Int):=q0Q.l0 k l0 (l0.length:Int) 0
theorem q0Q.mono_l:∀ k,(∀ y0 y1 y2,LeO (q0Q.l0 k y0 y1 y2) (q0Q.l0 (k+1) y0 y1 y2))
 | 0=>fun _ _ _ r h=>by simp [q0Q.l0]at h
 | k+1=>by
  have aA:=q0Q.mono_l k
  ·intro y0 y1 y2;unfold q0Q.l0;exact X19
theorem q0Q.mono:∀ a0 a1 k,LeO (q0Q.f k a0 a1) (q0Q.f (k+1) a0 a1):=by
 intro a0 a1 k;have aA:=q0Q.mono_l k;unfold q0Q.f;exact X19
theorem q0Q.calls (k:Nat) (A0:Option Addr) (c0:Nat) (l0:List q0b) (a1:Unit) (r:Int) (w:World) (aA:Kd.C Kd.string w A0 l0.length l0) (aC:l0.length≤c0) (h:q0Q.f k l0 a1=some r) :
  Calls prog 88 #[sl A0 l0 c0,.func (.func 56) #[] #[]] w fun e w'=>e=.returned (iv r)∧Below w.heap.size w w':=by
 have aD:=am aA;have HC0:=am aC;clear aA aC;have HB:=am (q0r w.heap.size w);have H:=h;clear h;unfold q0Q.f at H;have H':=am H;clear H;go_enter func88,ntmps88;go_wp2
 go_loopg [8] k (fun kq v8 w'=>∃ (aE:Int),v8=iv aE∧q0i (q0Q.l0 kq l0 (l0.length:Int) aE=some r)∧q0i (kq≤k)∧q0i (Below w.heap.size w w'))
 case atStart=>exact⟨(0),X7,H',⟨q0f _⟩,⟨X6⟩⟩
 case round=>
  clear H';(try clear p2);obtain⟨aE,rfl,HA,aG,HB⟩:=hrel;cases gk with
  | zero=>exact absurd HA.out (by simp [q0Q.l0])
  | succ k1=>
   have H:=HA.out;clear HA;simp only[q0Q.l0]at H;by_cases c3:aE<(l0.length:Int)
   ·rw[if_pos c3]at H;have AB:=dT c3;clear c3;by_cases c4:0≤aE
    ·rw[if_pos c4]at H;have AC:=dT c4;clear c4;by_cases c5:aE<(l0.length:Int)
     ·rw[if_pos c5]at H;have AD:=dT c5;clear c5;obtain⟨aH,A6,H⟩:=oA H;(try dsimp only at H);by_cases c7:aH=true
      ·subst c7;replace H:=tP H;obtain rfl:=q0d H;have aJ:0≤(aE:Int):=q0a X16;have aK:aE<(l0.length:Int):=q0a X16;obtain⟨aM,AA,aQ⟩:=q3X aD.out aE aJ aK;cases AA;replace aQ:=cB HB aQ;replace aJ:=q0c aJ;replace aK:=q0c aK;go_wp2_with (first|((with_reducible refine q4X (t:=11) rfl ?_);refine q8h (some 16) rfl rfl func56 X4 rfl #[.string (rdOf ByteArray.empty l0 aE)] rfl X20 ?_;(with_reducible refine(q3T.calls k1 (rdOf ByteArray.empty l0 aE) true _ A6.out).mono ?_);rintro e w' ⟨rfl,⟨nd,rfl⟩⟩;refine⟨_,rfl,?_⟩))
       go_ret
       exact⟨X11,X6⟩
      ·replace c7:=fI c7;subst c7;replace H:=tN H;have H':=am H;clear H;have aJ:0≤(aE:Int):=q0a X16;have aK:aE<(l0.length:Int):=q0a X16;obtain⟨aM,AA,aQ⟩:=q3X aD.out aE aJ aK;cases AA;replace aQ:=cB HB aQ;replace aJ:=q0c aJ;replace aK:=q0c aK;go_wp2_with (first|((with_reducible refine q4X (t:=11) rfl ?_);refine q8h (some 16) rfl rfl func56 X4 rfl #[.string (rdOf ByteArray.empty l0 aE)] rfl X20 ?_;(with_reducible refine(q3T.calls k1 (rdOf ByteArray.empty l0 aE) false _ A6.out).mono ?_);rintro e w' ⟨rfl,⟨nd,rfl⟩⟩;refine⟨_,rfl,?_⟩))
       go_roundg k1
       case measure=>have:=aG.out;omega
       case rel=>exact⟨(wrap64 (aE+1)),X7,H',⟨by have:=aG.out;omega⟩,⟨X6⟩⟩
     ·exact iN c5 H
    ·exact iN c4 H
   ·rw[if_neg c3]at H;have AB:=dF c3;clear c3;obtain rfl:=q0d H;go_wp2
    go_ret
    exact⟨X11,X6⟩

def q1L.f (k:Nat) (l0:List q0b) (a1:Unit):Option (Bool):=(q0Q.f k l0 a1).bind fun aA=>(some (decide (aA≥0)))
theorem q1L.mono:∀ a0 a1 k,LeO (q1L.f k a0 a1) (q1L.f (k+1) a0 a1):=by
 intro a0 a1 k;unfold q1L.f;exact(by repeat' (with_reducible first|exact q0Q.mono _ _ _|exact LeO.refl _|exact LeO.none _|refine LeO.ite ?_ ?_|refine LeO.bind ?_ (fun _=>?_)|apply q0Q.mono))
theorem q1L.calls (k:Nat) (A0:Option Addr) (c0:Nat) (l0:List q0b) (a1:Unit) (r:Bool) (w:World) (aA:Kd.C Kd.string w A0 l0.length l0) (aC:l0.length≤c0) (h:q1L.f k l0 a1=some r) :
  Calls prog 55 #[sl A0 l0 c0,.func (.func 56) #[] #[]] w fun e w'=>e=.returned (.bool r)∧Below w.heap.size w w':=by
 have aD:=am aA;have aE:=am aC;clear aA aC;have HB:=am (q0r w.heap.size w);have H:=h;clear h;unfold q1L.f at H;obtain⟨aG,A3,H⟩:=oA H;(try dsimp only at H);obtain rfl:=q0d H;go_enter func55,ntmps55;go_wp2_with (first|((with_reducible refine gc 88 ?_);refine gCc (some 7) func88 (q0Q.calls k _ _ l0 a1 aG _ X21 aE.out A3.out) ?_;rintro w4 hb;replace HB:=bS X6 hb;clear hb))
 go_ret
 exact⟨X11,X6⟩
mutual
def q1j.j0:Nat→Bool→q0b→List (S68)→List (S70)→List (List q0b)→Int→q0b→Int→List (S28)→Option (Int)
 | 0,_,_,_,_,_,_,_,_,_=>none
 | k+1,aA,aC,aD,aE,aG,aH,aI,aJ,aK=>if aA=true then (some 3) else (q1j.l0 k 0 aD (aD.length:Int) 0 aC aD aE aG aH aI aJ aK)
def q1j.l0:Nat→Int→List (S68)→Int→Int→q0b→List (S68)→List (S70)→List (List q0b)→Int→q0b→Int→List (S28)→Option (Int)
 | 0,_,_,_,_,_,_,_,_,_,_,_,_=>none
 | k+1,x3,aA,aC,aD,aE,aG,aH,aI,aJ,aK,aM,aQ=>if aD<aC then (if 0≤aD then (if aD<(aA.length:Int) then ((q2z.f k ((q1F aA aD).f0)).bind fun aT=>(if aT=true then ((q3p.f k ((q1F aA aD).f1.f0) ((q1F aA aD).f1.f1) ((q1F aA aD).f1.f2) ((q1F aA aD).f1.f3)).bind fun aU=>(if aU=0 then ((q2w.f k ((q1F aA aD).f1.f0) ((q1F aA aD).f1.f1) ((q1F aA aD).f1.f2) ((q1F aA aD).f1.f3)).bind fun aW=>(q1j.l0 k (wrap64 (x3+aW)) aA aC (wrap64 (aD+1)) aE aG aH aI aJ aK aM aQ)) else (some aU))) else (some 2))) else (none)) else (none)) else (q1j.l1 k x3 aH (aH.length:Int) 0 aE aG aH aI aJ aK aM aQ)
def q1j.l1:Nat→Int→List (S70)→Int→Int→q0b→List (S68)→List (S70)→List (List q0b)→Int→q0b→Int→List (S28)→Option (Int)
 | 0,_,_,_,_,_,_,_,_,_,_,_,_=>none
 | k+1,x3,aA,aC,aD,aE,aG,aH,aI,aJ,aK,aM,aQ=>if aD<aC then (if 0≤aD then (if aD<(aA.length:Int) then ((q2z.f k ((q2K aA aD).f0)).bind fun aT=>(if aT=true then (if ((q2K aA aD).f1)<0 then (some 6) else (if ((q2K aA aD).f1) > ((q2K aA aD).f2) then (some 6) else (if ((q2K aA aD).f2) > 6 then (some 6) else (q1j.l1 k x3 aA aC (wrap64 (aD+1)) aE aG aH aI aJ aK aM aQ)))) else (some 2))) else (none)) else (none)) else (q1j.l2 k x3 aI (aI.length:Int) 0 aE aG aH aI aJ aK aM aQ)
def q1j.l2:Nat→Int→List (List q0b)→Int→Int→q0b→List (S68)→List (S70)→List (List q0b)→Int→q0b→Int→List (S28)→Option (Int)
 | 0,_,_,_,_,_,_,_,_,_,_,_,_=>none
 | k+1,x3,aA,aC,aD,aE,aG,aH,aI,aJ,aK,aM,aQ=>if aD<aC then (if 0≤aD then (if aD<(aA.length:Int) then (if ((q2Y aA aD).length:Int)=0 then (some 7) else (if ((q2Y aA aD).length:Int) > 6 then (some 3) else ((q1L.f k (q2Y aA aD) ()).bind fun aT=>(if aT=true then (some 2) else (q1j.l2 k x3 aA aC (wrap64 (aD+1)) aE aG aH aI aJ aK aM aQ))))) else (none)) else (none)) else ((q3p.f k aJ aK aM aQ).bind fun aU=>(if aU=0 then ((q2w.f k aJ aK aM aQ).bind fun aW=>(if (wrap64 (x3+aW)) > 200 then (some 3) else (some 0))) else (some aU)))
end
def q1j.f (k:Nat) (aA:q0b) (aC:List (S68)) (aD:List (S70)) (aE:List (List q0b)) (aG:Int) (aH:q0b) (aI:Int) (aJ:List (S28)):Option (Int):=(q3b.f k aA).bind fun aK=>(if aK=true then (if (aC.length:Int) > 20 then (q1j.j0 k true aA aC aD aE aG aH aI aJ) else (if (aD.length:Int) > 3 then (q1j.j0 k true aA aC aD aE aG aH aI aJ) else (q1j.j0 k (decide ((aE.length:Int) > 3)) aA aC aD aE aG aH aI aJ))) else (some 2))
theorem q1j.mono_l:∀ k,(∀ y0 y1 y2 y3 y4 y5 y6 y7 y8,LeO (q1j.j0 k y0 y1 y2 y3 y4 y5 y6 y7 y8) (q1j.j0 (k+1) y0 y1 y2 y3 y4 y5 y6 y7 y8))∧(∀ y0 y1 y2 y3 y4 y5 y6 y7 y8 y9 aA aC,LeO (q1j.l0 k y0 y1 y2 y3 y4 y5 y6 y7 y8 y9 aA aC) (q1j.l0 (k+1) y0 y1 y2 y3 y4 y5 y6 y7 y8 y9 aA aC))∧(∀ y0 y1 y2 y3 y4 y5 y6 y7 y8 y9 aA aC,LeO (q1j.l1 k y0 y1 y2 y3 y4 y5 y6 y7 y8 y9 aA aC) (q1j.l1 (k+1) y0 y1 y2 y3 y4 y5 y6 y7 y8 y9 aA aC))∧(∀ y0 y1 y2 y3 y4 y5 y6 y7 y8 y9 aA aC,LeO (q1j.l2 k y0 y1 y2 y3 y4 y5 y6 y7 y8 y9 aA aC) (q1j.l2 (k+1) y0 y1 y2 y3 y4 y5 y6 y7 y8 y9 aA aC))
 | 0=>⟨fun _ _ _ _ _ _ _ _ _ r h=>by simp [q1j.j0]at h,fun _ _ _ _ _ _ _ _ _ _ _ _ r h=>by simp [q1j.l0]at h,fun _ _ _ _ _ _ _ _ _ _ _ _ r h=>by simp [q1j.l1]at h,fun _ _ _ _ _ _ _ _ _ _ _ _ r h=>by simp [q1j.l2]at h⟩
 | k+1=>by
  obtain⟨aD,aE,aG,aH⟩:=q1j.mono_l k;refine⟨?_,?_,?_,?_⟩
  ·intro y0 y1 y2 y3 y4 y5 y6 y7 y8;unfold q1j.j0;exact X22
  ·intro y0 y1 y2 y3 y4 y5 y6 y7 y8 y9 aA aC;unfold q1j.l0;exact X22
  ·intro y0 y1 y2 y3 y4 y5 y6 y7 y8 y9 aA aC;unfold q1j.l1;exact X22
  ·intro y0 y1 y2 y3 y4 y5 y6 y7 y8 y9 aA aC;unfold q1j.l2;exact X22
theorem q1j.mono:∀ a0 a1 a2 a3 a4 a5 a6 a7 k,LeO (q1j.f k a0 a1 a2 a3 a4 a5 a6 a7) (q1j.f (k+1) a0 a1 a2 a3 a4 a5 a6 a7):=by
 intro a0 a1 a2 a3 a4 a5 a6 a7 k;obtain⟨aA,aC,aD,aE⟩:=q1j.mono_l k;unfold q1j.f;exact(by repeat' (with_reducible first|apply aA|apply aC|apply aD|apply aE|apply q2w.mono|apply q3p.mono|exact q2z.mono _ _|exact q1L.mono _ _ _|exact q3b.mono _ _|exact LeO.refl _|exact LeO.none _|refine LeO.ite ?_ ?_|refine LeO.bind ?_ (fun _=>?_)|apply q1L.mono))
theorem q1j.calls (k:Nat) (aA:q0b) (aC:Option Addr) (aD:Nat) (aE:List (S68)) (aG:Option Addr) (aH:Nat) (aI:List (S70)) (aJ:Option Addr) (aK:Nat) (aM:List (List q0b)) (aQ:Int) (aT:q0b) (aU:Int) (aW:Option Addr) (aX:Nat) (aY:List (S28)) (r:Int) (w:World) (aZ:Kd.C k68 w aC aE.length aE) (bA:aE.length≤aD) (bB:Kd.C k70 w aG aI.length aI) (bC:aI.length≤aH) (bD:Kd.C (Kd.slice 9 Kd.string) w aJ aM.length aM) (bE:aM.length≤aK) (bF:Kd.C k28 w aW aY.length aY) (bG:aY.length≤aX) (h:q1j.f k aA aE aI aM aQ aT aU aY=some r) :
  Calls prog 26 #[.agg #[.string aA,sl aC aE aD,sl aG aI aH,sl aJ aM aK,iv aQ,.string aT,iv aU,sl aW aY aX]] w fun e w'=>e=.returned (iv r)∧Below w.heap.size w w':=by
 have hu30:=underlying30;have hu68:=underlying68;have hu28:=underlying28;have hu70:=underlying70;have bH:=am aZ;have HC0_1:=am bA;clear aZ bA;have bI:=am bB;have HC0_2:=am bC;clear bB bC;have bJ:=am bD;have HC0_3:=am bE;clear bD bE;have bK:=am bF;have bL:=am bG;clear bF bG;have HB:=am (q0r w.heap.size w);have H:=h;clear h;unfold q1j.f at H;obtain⟨bM,A2,H⟩:=oA H;(try dsimp only at H);by_cases c3:bM=true
 ·subst c3;replace H:=tP H;have bO:=am H;clear H;go_enter func26,ntmps26;go_upto_region 3 with (first|((with_reducible refine gd 1 ?_);(try (refine q2p (by rfl) ?_;dsimp only));refine be 1 #[.string aA,sl aC aE aD,sl aG aI aH,sl aJ aM aK,iv aQ,.string aT,iv aU,sl aW aY aX] 30 ?_;intro bP hg w5 hbox hb;have bQ:=am (hbox);have bR:=sG (w:=w) hg X6;have bT:=sG (w:=w) hg X6;replace HB:=bS X6 hb;clear hb hbox hg;have Z6:=bc8 bQ)|((with_reducible refine gc 53 ?_);refine gCc (some 14) func53 (q3b.calls k aA true _ A2.out) ?_;rintro w' ⟨nd,rfl⟩))
  (try simp only[Act.put,List.setIfInBounds_toArray,List.set_cons_zero,List.set_cons_succ]);go_cut [31] (fun bU wc=>∃ (kq:Nat) (bV:Bool),bU=.bool bV∧q0i (q1j.j0 kq bV aA aE aI aM aQ aT aU aY=some r)∧q0i (kq≤k)∧q0i (wc.heap[bP]?=some (.cells #[.string aA,(sl aC aE aD),(sl aG aI aH),(sl aJ aM aK),iv aQ,.string aT,iv aU,(sl aW aY aX)] 30 (0,0)))∧q0i (Below w.heap.size w wc))
  case first=>
   have H:=bO.out;clear bO;by_cases c7:(aE.length:Int) > 20
   ·rw[if_pos c7]at H;have AA:decide (20<(aE.length:Int))=true:=q0p c7;have AD:decide (20<aE.length)=true:=q0p (by omega);clear c7;(first|rw[AA]|(simp only[q4g,q4q];rw[AA])|skip);have H':=am H;clear H;have Z8:=bc8 bQ;go_wp2
    go_meet
    case rel=>exact⟨_,(true),X7,H',⟨X8⟩,⟨(X9 bQ)⟩,⟨(X10 HB bT)⟩⟩
   ·rw[if_neg c7]at H;have AA:decide (20<(aE.length:Int))=false:=q0z c7;have AD:decide (20<aE.length)=false:=q0z (by omega);clear c7;(first|rw[AA]|(simp only[q4g,q4q];rw[AA])|skip);by_cases c9:(aI.length:Int) > 3
    ·rw[if_pos c9]at H;have AE:decide (3<(aI.length:Int))=true:=q0p c9;have AF:decide (3<aI.length)=true:=q0p (by omega);clear c9;have H':=am H;clear H;have bW:=bc8 bQ;go_wp2
     go_meet
     case rel=>exact⟨_,(true),X7,H',⟨X8⟩,⟨(X9 bQ)⟩,⟨(X10 HB bT)⟩⟩
    ·rw[if_neg c9]at H;have AE:decide (3<(aI.length:Int))=false:=q0z c9;have AF:decide (3<aI.length)=false:=q0z (by omega);clear c9;have H':=am H;clear H;have bX:=bc8 bQ;go_wp2
     go_meet
     case rel=>exact⟨_,(decide ((aM.length:Int) > 3)),X7,H',⟨X8⟩,⟨(X9 bQ)⟩,⟨(X10 HB bT)⟩⟩
  case rest=>
   clear bO;(try clear c2 p2 c3 c5 c7 AA AD c9 AE AF bW bX Z6 Z8);obtain⟨kq,bV,rfl,HA,bY,bQ,HB⟩:=hcut;cases kq with
   | zero=>exact absurd HA.out (by simp [q1j.j0])
   | succ bZ=>
    have H:=HA.out;clear HA;simp only[q1j.j0]at H;by_cases cA:bV=true
    ·subst cA;replace H:=tP H;obtain rfl:=q0d H;go_wp2
     go_ret
     exact⟨X11,(X10 HB bT)⟩
    ·replace cA:=fI cA;subst cA;replace H:=tN H;have H':=am H;clear H;have cC:=bc8 bQ;go_wp2
     go_loopg [3,35] bZ (fun kq v3 cD w'=>∃ (cE:Int) (cF:Int),v3=iv cE∧cD=iv cF∧q0i (q1j.l0 kq cE aE (aE.length:Int) cF aA aE aI aM aQ aT aU aY=some r)∧q0i (kq≤bZ)∧q0i (w'.heap[bP]?=some (.cells #[.string aA,(sl aC aE aD),(sl aG aI aH),(sl aJ aM aK),iv aQ,.string aT,iv aU,(sl aW aY aX)] 30 (0,0)))∧q0i (Below w.heap.size w w'))
     case atStart=>exact⟨(0),(0),X7,X7,H',⟨q0f _⟩,⟨(X9 bQ)⟩,⟨(X10 HB bT)⟩⟩
     case round=>
      clear H';(try clear c1 c2);(try clear p2 p2);(try clear c3 c5 c7 AA AD c9 AE AF cA bW bX cC Z6 Z8);obtain⟨cE,cF,rfl,rfl,HA,cG,bQ,HB⟩:=hrel;cases gk with
      | zero=>exact absurd HA.out (by simp [q1j.l0])
      | succ k2=>
       have H:=HA.out;clear HA;simp only[q1j.l0]at H;by_cases cH:cF<(aE.length:Int)
       ·rw[if_pos cH]at H;have AH:=dT cH;clear cH;by_cases cI:0≤cF
        ·rw[if_pos cI]at H;have AK:=dT cI;clear cI;by_cases cJ:cF<(aE.length:Int)
         ·rw[if_pos cJ]at H;have AL:=dT cJ;clear cJ;obtain⟨cK,cM,H⟩:=oA H;(try dsimp only at H);by_cases cN:cK=true
          ·subst cN;replace H:=tP H;obtain⟨cO,cQ,H⟩:=oA H;(try dsimp only at H);by_cases cR:cO=0
           ·rw[if_pos cR]at H;have AI:=eT cR;have AJ:=eF cR;clear cR;obtain⟨cS,cU,H⟩:=oA H;(try dsimp only at H);have H':=am H;clear H;have cV:0≤(cF:Int):=q0a X16;have cX:cF<(aE.length:Int):=q0a X16;obtain⟨cY,cZ,dA,AG,dB,dC,dD,dE,dG,dH,dI⟩:=q5E bH.out cF cV cX;cases AG;replace dB:=cB HB dB;replace dC:=cB HB dC;replace dD:=cB HB dD;replace dE:=cB HB dE;replace dG:=cB HB dG;have dJ:=am dI;have dK:=am dH;clear dI dH;replace cV:=q0c cV;replace cX:=q0c cX;go_wp2_with (first|((with_reducible refine gd 5 ?_);(try (refine q2p (by rfl) ?_;dsimp only));refine be 5 #[.string eBb,iv 0,.string eBb,iv 0,.slice none 0 0] 68 ?_;intro dL hg w22 hbox hb;have dM:=am (hbox);have dN:=sG (w:=w) hg (X10 HB bT);have dO:=sG (w:=w) hg (X10 HB bT);replace HB:=bS (X10 HB bT) hb;have dP:=nLT hg bQ;have dQ:=nGT hg bQ;replace bQ:=kB bQ hb;clear hb hbox hg;have BA:=dQ.out;have BB:=dP.out;have dR:=bc5 dM)|((with_reducible refine gc 54 ?_);refine gCc (some 41) func54 (q2z.calls k2 ((q1F aE cF).f0) true _ cM.out) ?_;rintro w' ⟨nd,rfl⟩)|((with_reducible refine gc 38 ?_);refine gCc (some 45) func38 (q3p.calls k2 ((q1F aE cF).f1.f0) ((q1F aE cF).f1.f1) ((q1F aE cF).f1.f2) _ _ ((q1F aE cF).f1.f3) cO _ (q0Y dJ.out (X17 HB bT dO)) dK.out cQ.out) ?_;rintro w25 hb;replace bQ:=kBg1 bQ dP hb;replace dM:=kBg0 dM hb;replace HB:=bS (X17 HB bT dO) hb;clear hb;have dS:=bc5 dM)|((with_reducible refine gc 14 ?_);refine gCc (some 52) func14 (q2w.calls k2 ((q1F aE cF).f1.f0) ((q1F aE cF).f1.f1) ((q1F aE cF).f1.f2) _ _ ((q1F aE cF).f1.f3) cS _ (cW (q0Y dJ.out HB.out)) dK.out cU.out) ?_;rintro w27 hb;replace bQ:=kB bQ hb;replace dM:=kB dM hb;replace HB:=bS (X17 HB bT dO) hb;clear hb))
            go_roundg k2
            case measure=>have:=bY.out;have:=cG.out;omega
            case rel=>exact⟨(wrap64 (cE+cS)),(wrap64 (cF+1)),X7,X7,H',⟨by have:=bY.out;have:=cG.out;omega⟩,⟨(X9 bQ)⟩,⟨(X17 HB bT dO)⟩⟩
           ·rw[if_neg cR]at H;have AI:=nF cR;have AJ:=nT cR;obtain rfl:=q0d H;have cV:0≤(cF:Int):=q0a X16;have cX:cF<(aE.length:Int):=q0a X16;obtain⟨cY,cZ,dA,AG,dB,dC,dD,dE,dG,dH,dI⟩:=q5E bH.out cF cV cX;cases AG;replace dB:=cB HB dB;replace dC:=cB HB dC;replace dD:=cB HB dD;replace dE:=cB HB dE;replace dG:=cB HB dG;have dJ:=am dI;have dK:=am dH;clear dI dH;replace cV:=q0c cV;replace cX:=q0c cX;go_wp2_with (first|((with_reducible refine gd 5 ?_);(try (refine q2p (by rfl) ?_;dsimp only));refine be 5 #[.string eBb,iv 0,.string eBb,iv 0,.slice none 0 0] 68 ?_;intro dL hg w28 hbox hb;have dM:=am (hbox);have dN:=sG (w:=w) hg (X10 HB bT);have dO:=sG (w:=w) hg (X10 HB bT);replace HB:=bS (X10 HB bT) hb;have dP:=nLT hg bQ;have dQ:=nGT hg bQ;replace bQ:=kB bQ hb;clear hb hbox hg;have BC:=dQ.out;have BD:=dP.out;have dU:=bc5 dM)|((with_reducible refine gc 54 ?_);refine gCc (some 41) func54 (q2z.calls k2 ((q1F aE cF).f0) true _ cM.out) ?_;rintro w' ⟨nd,rfl⟩)|((with_reducible refine gc 38 ?_);refine gCc (some 45) func38 (q3p.calls k2 ((q1F aE cF).f1.f0) ((q1F aE cF).f1.f1) ((q1F aE cF).f1.f2) _ _ ((q1F aE cF).f1.f3) cO _ (q0Y dJ.out (X17 HB bT dO)) dK.out cQ.out) ?_;rintro w31 hb;replace bQ:=kBg1 bQ dP hb;replace dM:=kBg0 dM hb;replace HB:=bS (X17 HB bT dO) hb;clear hb))
            go_ret
            exact⟨X11,(X17 HB bT dO)⟩
          ·replace cN:=fI cN;subst cN;replace H:=tN H;obtain rfl:=q0d H;have cV:0≤(cF:Int):=q0a X16;have cX:cF<(aE.length:Int):=q0a X16;obtain⟨cY,cZ,dA,AG,dB,dC,dD,dE,dG,dH,dI⟩:=q5E bH.out cF cV cX;cases AG;replace dB:=cB HB dB;replace dC:=cB HB dC;replace dD:=cB HB dD;replace dE:=cB HB dE;replace dG:=cB HB dG;have dJ:=am dI;have dK:=am dH;clear dI dH;replace cV:=q0c cV;replace cX:=q0c cX;go_wp2_with (first|((with_reducible refine gd 5 ?_);(try (refine q2p (by rfl) ?_;dsimp only));refine be 5 #[.string eBb,iv 0,.string eBb,iv 0,.slice none 0 0] 68 ?_;intro dL hg w32 hbox hb;have dM:=am (hbox);have dN:=sG (w:=w) hg (X10 HB bT);have dO:=sG (w:=w) hg (X10 HB bT);replace HB:=bS (X10 HB bT) hb;have dP:=nLT hg bQ;have dQ:=nGT hg bQ;replace bQ:=kB bQ hb;clear hb hbox hg;have BE:=dQ.out;have BG:=dP.out;have dV:=bc5 dM)|((with_reducible refine gc 54 ?_);refine gCc (some 41) func54 (q2z.calls k2 ((q1F aE cF).f0) false _ cM.out) ?_;rintro w' ⟨nd,rfl⟩))
           go_ret
           exact⟨X11,(X17 HB bT dO)⟩
         ·exact iN cJ H
        ·exact iN cI H
       ·rw[if_neg cH]at H;have AH:=dF cH;clear cH;have H':=am H;clear H;have dW:=bc8 bQ;go_wp2
        go_loopg [58] k2 (fun kq dX w'=>∃ (dY:Int),dX=iv dY∧q0i (q1j.l1 kq cE aI (aI.length:Int) dY aA aE aI aM aQ aT aU aY=some r)∧q0i (kq≤k2)∧q0i (w'.heap[bP]?=some (.cells #[.string aA,(sl aC aE aD),(sl aG aI aH),(sl aJ aM aK),iv aQ,.string aT,iv aU,(sl aW aY aX)] 30 (0,0)))∧q0i (Below w.heap.size w w'))
        case atStart=>exact⟨(0),X7,H',⟨q0f _⟩,⟨(X9 bQ)⟩,⟨(X10 HB bT)⟩⟩
        case round=>
         clear H';(try clear c1 c2);(try clear p2 p2);(try clear c3 c5 p5 q5 dZ p6 c7 AA AD c9 AE AF cA cH AH cI AK cJ AL cN cR AI AJ eA eB eC eD bW bX cC dR dS dU dV dW Z6 Z8 dB dC dD dE dG cV cX);obtain⟨dY,rfl,HA,eE,bQ,HB⟩:=hrel;cases gk with
         | zero=>exact absurd HA.out (by simp [q1j.l1])
         | succ k3=>
          have H:=HA.out;clear HA;simp only[q1j.l1]at H;by_cases eG:dY<(aI.length:Int)
          ·rw[if_pos eG]at H;have AM:=dT eG;clear eG;by_cases eH:0≤dY
           ·rw[if_pos eH]at H;have AQ:=dT eH;clear eH;by_cases eI:dY<(aI.length:Int)
            ·rw[if_pos eI]at H;have AR:=dT eI;clear eI;obtain⟨eJ,eL,H⟩:=oA H;(try dsimp only at H);by_cases eM:eJ=true
             ·subst eM;replace H:=tP H;by_cases eN:((q2K aI dY).f1)<0
              ·rw[if_pos eN]at H;have AN:=dT eN;clear eN;obtain rfl:=q0d H;have eO:0≤(dY:Int):=q0a X16;have eP:dY<(aI.length:Int):=q0a X16;obtain⟨eQ,AB,eR,eS,eU⟩:=q5K bI.out dY eO eP;cases AB;replace eR:=cB HB eR;replace eS:=cB HB eS;replace eU:=cB HB eU;replace eO:=q0c eO;replace eP:=q0c eP;go_wp2_with (first|((with_reducible refine gd 8 ?_);(try (refine q2p (by rfl) ?_;dsimp only));refine be 8 #[.string eBb,iv 0,iv 0] 70 ?_;intro eV hg w42 hbox hb;have eW:=am (hbox);have eX:=sG (w:=w) hg (X10 HB bT);have eY:=sG (w:=w) hg (X10 HB bT);replace HB:=bS (X10 HB bT) hb;have eZ:=nLT hg bQ;have fA:=nGT hg bQ;replace bQ:=kB bQ hb;clear hb hbox hg;have BH:=fA.out;have BI:=eZ.out;have fB:=bc3 eW)|((with_reducible refine gc 54 ?_);refine gCc (some 64) func54 (q2z.calls k3 ((q2K aI dY).f0) true _ eL.out) ?_;rintro w' ⟨nd,rfl⟩))
               go_ret
               exact⟨X11,(X17 HB bT eY)⟩
              ·rw[if_neg eN]at H;have AN:=dF eN;clear eN;by_cases fC:((q2K aI dY).f1) > ((q2K aI dY).f2)
               ·rw[if_pos fC]at H;have AO:decide (((q2K aI dY).f2)<((q2K aI dY).f1))=true:=q0p fC;clear fC;obtain rfl:=q0d H;have eO:0≤(dY:Int):=q0a X16;have eP:dY<(aI.length:Int):=q0a X16;obtain⟨eQ,AB,eR,eS,eU⟩:=q5K bI.out dY eO eP;cases AB;replace eR:=cB HB eR;replace eS:=cB HB eS;replace eU:=cB HB eU;replace eO:=q0c eO;replace eP:=q0c eP;go_wp2_with (first|((with_reducible refine gd 8 ?_);(try (refine q2p (by rfl) ?_;dsimp only));refine be 8 #[.string eBb,iv 0,iv 0] 70 ?_;intro eV hg w46 hbox hb;have eW:=am (hbox);have eX:=sG (w:=w) hg (X10 HB bT);have eY:=sG (w:=w) hg (X10 HB bT);replace HB:=bS (X10 HB bT) hb;have eZ:=nLT hg bQ;have fA:=nGT hg bQ;replace bQ:=kB bQ hb;clear hb hbox hg;have BK:=fA.out;have BL:=eZ.out;have fD:=bc3 eW)|((with_reducible refine gc 54 ?_);refine gCc (some 64) func54 (q2z.calls k3 ((q2K aI dY).f0) true _ eL.out) ?_;rintro w' ⟨nd,rfl⟩))
                go_ret
                exact⟨X11,(X17 HB bT eY)⟩
               ·rw[if_neg fC]at H;have AO:decide (((q2K aI dY).f2)<((q2K aI dY).f1))=false:=q0z fC;clear fC;by_cases fE:((q2K aI dY).f2) > 6
                ·rw[if_pos fE]at H;have AP:decide (6<((q2K aI dY).f2))=true:=q0p fE;clear fE;obtain rfl:=q0d H;have eO:0≤(dY:Int):=q0a X16;have eP:dY<(aI.length:Int):=q0a X16;obtain⟨eQ,AB,eR,eS,eU⟩:=q5K bI.out dY eO eP;cases AB;replace eR:=cB HB eR;replace eS:=cB HB eS;replace eU:=cB HB eU;replace eO:=q0c eO;replace eP:=q0c eP;go_wp2_with (first|((with_reducible refine gd 8 ?_);(try (refine q2p (by rfl) ?_;dsimp only));refine be 8 #[.string eBb,iv 0,iv 0] 70 ?_;intro eV hg w50 hbox hb;have eW:=am (hbox);have eX:=sG (w:=w) hg (X10 HB bT);have eY:=sG (w:=w) hg (X10 HB bT);replace HB:=bS (X10 HB bT) hb;have eZ:=nLT hg bQ;have fA:=nGT hg bQ;replace bQ:=kB bQ hb;clear hb hbox hg;have BN:=fA.out;have BO:=eZ.out;have fF:=bc3 eW)|((with_reducible refine gc 54 ?_);refine gCc (some 64) func54 (q2z.calls k3 ((q2K aI dY).f0) true _ eL.out) ?_;rintro w' ⟨nd,rfl⟩))
                 go_ret
                 exact⟨X11,(X17 HB bT eY)⟩
                ·rw[if_neg fE]at H;have AP:decide (6<((q2K aI dY).f2))=false:=q0z fE;clear fE;have H':=am H;clear H;have eO:0≤(dY:Int):=q0a X16;have eP:dY<(aI.length:Int):=q0a X16;obtain⟨eQ,AB,eR,eS,eU⟩:=q5K bI.out dY eO eP;cases AB;replace eR:=cB HB eR;replace eS:=cB HB eS;replace eU:=cB HB eU;replace eO:=q0c eO;replace eP:=q0c eP;go_wp2_with (first|((with_reducible refine gd 8 ?_);(try (refine q2p (by rfl) ?_;dsimp only));refine be 8 #[.string eBb,iv 0,iv 0] 70 ?_;intro eV hg w53 hbox hb;have eW:=am (hbox);have eX:=sG (w:=w) hg (X10 HB bT);have eY:=sG (w:=w) hg (X10 HB bT);replace HB:=bS (X10 HB bT) hb;have eZ:=nLT hg bQ;have fA:=nGT hg bQ;replace bQ:=kB bQ hb;clear hb hbox hg;have BP:=fA.out;have BQ:=eZ.out;have fG:=bc3 eW)|((with_reducible refine gc 54 ?_);refine gCc (some 64) func54 (q2z.calls k3 ((q2K aI dY).f0) true _ eL.out) ?_;rintro w' ⟨nd,rfl⟩))
                 go_roundg k3
                 case measure=>have:=bY.out;have:=cG.out;have:=eE.out;omega
                 case rel=>exact⟨(wrap64 (dY+1)),X7,H',⟨by have:=bY.out;have:=cG.out;have:=eE.out;omega⟩,⟨by (with_reducible repeat (first|refine q0A ?_ _|refine q0B ?_|refine q0v ?_ _));refine q1M ?_ eZ.out _;(with_reducible repeat (first|refine q0A ?_ _|refine q0B ?_|refine q0v ?_ _));refine q1M ?_ eZ.out _;(with_reducible repeat (first|refine q0A ?_ _|refine q0B ?_|refine q0v ?_ _));refine q1M ?_ eZ.out _;(with_reducible repeat (first|refine q0A ?_ _|refine q0B ?_|refine q0v ?_ _));exact bQ.out⟩,⟨(X17 HB bT eY)⟩⟩
             ·replace eM:=fI eM;subst eM;replace H:=tN H;obtain rfl:=q0d H;have eO:0≤(dY:Int):=q0a X16;have eP:dY<(aI.length:Int):=q0a X16;obtain⟨eQ,AB,eR,eS,eU⟩:=q5K bI.out dY eO eP;cases AB;replace eR:=cB HB eR;replace eS:=cB HB eS;replace eU:=cB HB eU;replace eO:=q0c eO;replace eP:=q0c eP;go_wp2_with (first|((with_reducible refine gd 8 ?_);(try (refine q2p (by rfl) ?_;dsimp only));refine be 8 #[.string eBb,iv 0,iv 0] 70 ?_;intro eV hg w56 hbox hb;have eW:=am (hbox);have eX:=sG (w:=w) hg (X10 HB bT);have eY:=sG (w:=w) hg (X10 HB bT);replace HB:=bS (X10 HB bT) hb;have eZ:=nLT hg bQ;have fA:=nGT hg bQ;replace bQ:=kB bQ hb;clear hb hbox hg;have BR:=fA.out;have BU:=eZ.out;have fH:=bc3 eW)|((with_reducible refine gc 54 ?_);refine gCc (some 64) func54 (q2z.calls k3 ((q2K aI dY).f0) false _ eL.out) ?_;rintro w' ⟨nd,rfl⟩))
              go_ret
              exact⟨X11,(X17 HB bT eY)⟩
            ·exact iN eI H
           ·exact iN eH H
          ·rw[if_neg eG]at H;have AM:=dF eG;clear eG;have H':=am H;clear H;have fJ:=bc8 bQ;go_wp2
           go_loopg [85] k3 (fun kq fK w'=>∃ (fL:Int),fK=iv fL∧q0i (q1j.l2 kq cE aM (aM.length:Int) fL aA aE aI aM aQ aT aU aY=some r)∧q0i (kq≤k3)∧q0i (w'.heap[bP]?=some (.cells #[.string aA,(sl aC aE aD),(sl aG aI aH),(sl aJ aM aK),iv aQ,.string aT,iv aU,(sl aW aY aX)] 30 (0,0)))∧q0i (Below w.heap.size w w'))
           case atStart=>exact⟨(0),X7,H',⟨q0f _⟩,⟨(X9 bQ)⟩,⟨(X10 HB bT)⟩⟩
           case round=>
            clear H';(try clear c1 c2);(try clear p2 p2);(try clear c3 c4 c5);(try clear p5 p5);(try clear q5 q5);(try clear dZ);(try clear p6 p6);(try clear c7 AA AD c9 AE AF cA cH AH cI AK cJ AL cN cR AI AJ eA eB eC eD eG AM eH AQ eI AR eM eN AN c43 fC AO c47 fE AP c51 c52 p52 q52 hx52 c54 c57 bW bX cC dR dS dU dV dW fB fD fF fG fH fJ Z6 Z8 dB dC dD dE dG eR eS eU cV eO cX eP);obtain⟨fL,rfl,HA,fM,bQ,HB⟩:=hrel;cases gk with
            | zero=>exact absurd HA.out (by simp [q1j.l2])
            | succ k4=>
             have H:=HA.out;clear HA;simp only[q1j.l2]at H;by_cases fN:fL<(aM.length:Int)
             ·rw[if_pos fN]at H;have AS:=dT fN;clear fN;by_cases fO:0≤fL
              ·rw[if_pos fO]at H;have BX:=dT fO;clear fO;by_cases fP:fL<(aM.length:Int)
               ·rw[if_pos fP]at H;have BY:=dT fP;clear fP;by_cases fQ:((q2Y aM fL).length:Int)=0
                ·rw[if_pos fQ]at H;have AT:=eT fQ;have AU:=eF fQ;clear fQ;obtain rfl:=q0d H;have fR:0≤(fL:Int):=q0a X16;have fS:fL<(aM.length:Int):=q0a X16;obtain⟨fT,fU,fV,AC,fW,fX,fY⟩:=q5o bJ.out fL fR fS;cases AC;replace fW:=cB HB fW;have fZ:=am fY;have gA:=am fX;clear fY fX;replace fR:=q0c fR;replace fS:=q0c fS;go_wp2
                 go_ret
                 exact⟨X11,(X10 HB bT)⟩
                ·rw[if_neg fQ]at H;have AT:=nF fQ;have AU:=nT fQ;have BZ : ¬ ((q2Y aM fL)=[]):=fun h_=>fQ (by rw[h_];rfl);by_cases gB:((q2Y aM fL).length:Int) > 6
                 ·rw[if_pos gB]at H;have AV:decide (6<((q2Y aM fL).length:Int))=true:=q0p gB;have AW:decide (6<(q2Y aM fL).length)=true:=q0p (by omega);clear gB;obtain rfl:=q0d H;have fR:0≤(fL:Int):=q0a X16;have fS:fL<(aM.length:Int):=q0a X16;obtain⟨fT,fU,fV,AC,fW,fX,fY⟩:=q5o bJ.out fL fR fS;cases AC;replace fW:=cB HB fW;have fZ:=am fY;have gA:=am fX;clear fY fX;replace fR:=q0c fR;replace fS:=q0c fS;go_wp2
                  go_ret
                  exact⟨X11,(X10 HB bT)⟩
                 ·rw[if_neg gB]at H;have AV:decide (6<((q2Y aM fL).length:Int))=false:=q0z gB;have AW:decide (6<(q2Y aM fL).length)=false:=q0z (by omega);clear gB;obtain⟨gC,gE,H⟩:=oA H;(try dsimp only at H);by_cases gF:gC=true
                  ·subst gF;replace H:=tP H;obtain rfl:=q0d H;have fR:0≤(fL:Int):=q0a X16;have fS:fL<(aM.length:Int):=q0a X16;obtain⟨fT,fU,fV,AC,fW,fX,fY⟩:=q5o bJ.out fL fR fS;cases AC;replace fW:=cB HB fW;have fZ:=am fY;have gA:=am fX;clear fY fX;replace fR:=q0c fR;replace fS:=q0c fS;go_wp2_with (first|((with_reducible refine gc 55 ?_);refine gCc (some 99) func55 (q1L.calls k4 _ _ (q2Y aM fL) () true _ (X12 fZ HB) gA.out gE.out) ?_;rintro w67 hb;replace bQ:=kB bQ hb;replace HB:=bS (X10 HB bT) hb;clear hb))
                   go_ret
                   exact⟨X11,(X10 HB bT)⟩
                  ·replace gF:=fI gF;subst gF;replace H:=tN H;have H':=am H;clear H;have fR:0≤(fL:Int):=q0a X16;have fS:fL<(aM.length:Int):=q0a X16;obtain⟨fT,fU,fV,AC,fW,fX,fY⟩:=q5o bJ.out fL fR fS;cases AC;replace fW:=cB HB fW;have fZ:=am fY;have gA:=am fX;clear fY fX;replace fR:=q0c fR;replace fS:=q0c fS;go_wp2_with (first|((with_reducible refine gc 55 ?_);refine gCc (some 99) func55 (q1L.calls k4 _ _ (q2Y aM fL) () false _ (X12 fZ HB) gA.out gE.out) ?_;rintro w68 hb;replace bQ:=kB bQ hb;replace HB:=bS (X10 HB bT) hb;clear hb))
                   go_roundg k4
                   case measure=>have:=bY.out;have:=cG.out;have:=eE.out;have:=fM.out;omega
                   case rel=>exact⟨(wrap64 (fL+1)),X7,H',⟨by have:=bY.out;have:=cG.out;have:=eE.out;have:=fM.out;omega⟩,⟨(X9 bQ)⟩,⟨(X10 HB bT)⟩⟩
               ·exact iN fP H
              ·exact iN fO H
             ·rw[if_neg fN]at H;have AS:=dF fN;clear fN;obtain⟨gG,gI,H⟩:=oA H;(try dsimp only at H);by_cases gJ:gG=0
              ·rw[if_pos gJ]at H;have AX:=eT gJ;have AY:=eF gJ;clear gJ;obtain⟨gK,gN,H⟩:=oA H;(try dsimp only at H);by_cases gP:(wrap64 (cE+gK)) > 200
               ·rw[if_pos gP]at H;have AZ:decide (200<(wrap64 (cE+gK)))=true:=q0p gP;clear gP;obtain rfl:=q0d H;have Z73:=bc8 bQ;go_wp2_with (first|((with_reducible refine gc 38 ?_);refine gCc (some 103) func38 (q3p.calls k4 aQ aT aU _ _ aY gG _ (X12 bK HB) bL.out gI.out) ?_;rintro w74 hb;replace bQ:=kB bQ hb;replace HB:=bS (X10 HB bT) hb;clear hb;have Z75:=bc8 bQ)|((with_reducible refine gc 14 ?_);refine gCc (some 110) func14 (q2w.calls k4 aQ aT aU _ _ aY gK _ (X12 bK HB) bL.out gN.out) ?_;rintro w76 hb;replace bQ:=kB bQ hb;replace HB:=bS (X10 HB bT) hb;clear hb))
                go_ret
                exact⟨X11,(X10 HB bT)⟩
               ·rw[if_neg gP]at H;have AZ:decide (200<(wrap64 (cE+gK)))=false:=q0z gP;clear gP;obtain rfl:=q0d H;have Z77:=bc8 bQ;go_wp2_with (first|((with_reducible refine gc 38 ?_);refine gCc (some 103) func38 (q3p.calls k4 aQ aT aU _ _ aY gG _ (X12 bK HB) bL.out gI.out) ?_;rintro w78 hb;replace bQ:=kB bQ hb;replace HB:=bS (X10 HB bT) hb;clear hb;have Z79:=bc8 bQ)|((with_reducible refine gc 14 ?_);refine gCc (some 110) func14 (q2w.calls k4 aQ aT aU _ _ aY gK _ (X12 bK HB) bL.out gN.out) ?_;rintro w80 hb;replace bQ:=kB bQ hb;replace HB:=bS (X10 HB bT) hb;clear hb))
                go_ret
                exact⟨X11,(X10 HB bT)⟩
              ·rw[if_neg gJ]at H;have AX:=nF gJ;have AY:=nT gJ;obtain rfl:=q0d H;have Z81:=bc8 bQ;go_wp2_with (first|((with_reducible refine gc 38 ?_);refine gCc (some 103) func38 (q3p.calls k4 aQ aT aU _ _ aY gG _ (X12 bK HB) bL.out gI.out) ?_;rintro w82 hb;replace bQ:=kB bQ hb;replace HB:=bS (X10 HB bT) hb;clear hb))
               go_ret
               exact⟨X11,(X10 HB bT)⟩
 ·replace c3:=fI c3;subst c3;replace H:=tN H;obtain rfl:=q0d H;go_enter func26,ntmps26;go_wp2_with (first|((with_reducible refine gd 1 ?_);(try (refine q2p (by rfl) ?_;dsimp only));refine be 1 #[.string aA,sl aC aE aD,sl aG aI aH,sl aJ aM aK,iv aQ,.string aT,iv aU,sl aW aY aX] 30 ?_;intro bP hg w83 hbox hb;have bQ:=am (hbox);have bR:=sG (w:=w) hg X6;have bT:=sG (w:=w) hg X6;replace HB:=bS X6 hb;clear hb hbox hg;have Z84:=bc8 bQ)|((with_reducible refine gc 53 ?_);refine gCc (some 14) func53 (q3b.calls k aA false _ A2.out) ?_;rintro w' ⟨nd,rfl⟩))
  go_ret
  exact⟨X11,(X10 HB bT)⟩
def q1Y.bad (l:List S61) (p:Int):Option (q0b × (List S68) × (List S70) × (List (List q0b)) × Int × q0b × Int × (List S28) × Int × Int):=if 0≤(mn p (wrap64 ((l.length:Int) - 1))) then (if (mn p (wrap64 ((l.length:Int) - 1)))<(l.length:Int) then some ((⟨#[]⟩:q0b),([]:List S68),([]:List S70),([]:List (List q0b)),0,(⟨#[]⟩:q0b),0,([]:List S28),(q2G l (mn p (wrap64 ((l.length:Int) - 1)))).f2,2) else none) else none
def q1Y.tail (k:Nat) (l:List S61) (p1:Int) (fx:Bool):Option (q0b × (List S68) × (List S70) × (List (List q0b)) × Int × q0b × Int × (List S28) × Int × Int):=(q2d.f l p1 fx 1).bind fun s2=>(q2d.f l s2.2.1 s2.2.2 1).bind fun s3=>(q1c.f l s3.2.1 s3.2.2 (⟨#[123]⟩:q0b)).bind fun s4=>(q0h.f k l s4.1 s4.2 s3.1).bind fun m=>(q1c.f l m.2.2.2.2.2.2.2.2.1 m.2.2.2.2.2.2.2.2.2 (⟨#[125]⟩:q0b)).bind fun s6=>if s6.2=true then q1Y.bad l s6.1 else if s6.1<(l.length:Int) then q1Y.bad l s6.1 else (q1j.f k m.1 m.2.1 m.2.2.1 m.2.2.2.1 m.2.2.2.2.1 m.2.2.2.2.2.1 m.2.2.2.2.2.2.1 m.2.2.2.2.2.2.2.1).bind fun e=>if e=0 then some (m.1,m.2.1,m.2.2.1,m.2.2.2.1,m.2.2.2.2.1,m.2.2.2.2.2.1,m.2.2.2.2.2.2.1,m.2.2.2.2.2.2.2.1,0,0) else some ((⟨#[]⟩:q0b),([]:List S68),([]:List S70),([]:List (List q0b)),0,(⟨#[]⟩:q0b),0,([]:List S28),0,e)
def q1Y.f (k:Nat) (a0:q0b):Option (q0b × (List S68) × (List S70) × (List (List q0b)) × Int × q0b × Int × (List S28) × Int × Int):=(q0V.f k a0).bind fun t=>if t.2.2=0 then (if (t.1.length:Int)=0 then some ((⟨#[]⟩:q0b),([]:List S68),([]:List S70),([]:List (List q0b)),0,(⟨#[]⟩:q0b),0,([]:List S28),1,2) else (q1B.f t.1 0 false 1 (⟨#[109,101,116,114,101]⟩:q0b)).bind fun s1=>if s1.1=true then q1Y.tail k t.1 s1.2.1 s1.2.2 else q1Y.tail k t.1 s1.2.1 true) else some ((⟨#[]⟩:q0b),([]:List S68),([]:List S70),([]:List (List q0b)),0,(⟨#[]⟩:q0b),0,([]:List S28),t.2.1,t.2.2)
theorem q1Y.mono:∀ a0 k,LeO (q1Y.f k a0) (q1Y.f (k+1) a0):=by
 intro a0 k;unfold q1Y.f q1Y.tail;exact(by repeat' (with_reducible first|exact q0V.mono _ _|apply q0h.mono|apply q1j.mono|exact LeO.refl _|refine LeO.ite ?_ ?_|refine LeO.bind ?_ (fun _=>?_)))
def q1Y.T16:Bool × List (List Nat × List Nat):=(true,[([],[]),([],[]),([],[]),([2],[2]),([3],[3]),([4],[4]),([],[]),([6],[6]),([7],[7]),([5,8],[5,8]),([1,9],[1,9]),([10],[10]),([11],[11]),([0,0],[0]),([12,13,0,1,2,3,4,5,6,7,8,9,10,11,12,13],[12]),([14,0,1,2,3,4,5,6,7,8,9,10,11,12,13,14],[])])
def q1Y.B16:List Nat:=[0,0,0,4,12,28,0,64,192,508,1022,2046,4094,1,16383,32767]
theorem q1Y.tab16:rtab .any (q5Z Tryz.f6 16)=q1Y.T16:=by kernel_rfl
theorem q1Y.bits16:q4i q1Y.T16.2 q1Y.B16=true:=by kernel_rfl
theorem q1Y.calls (k:Nat) (a0:q0b) (r1:q0b) (r2:List S68) (r3:List S70) (r4:List (List q0b)) (r5:Int) (r6:q0b) (r7:Int) (r8:List S28) (r9 aA:Int) (w:World) (h:q1Y.f k a0=some (r1,r2,r3,r4,r5,r6,r7,r8,r9,aA)) :
  Calls prog 6 #[.string a0] w fun e w'=>∃ aC aD aE aG:Value,e=.returned (.tuple #[.agg #[.string r1,aC,aD,aE,iv r5,.string r6,iv r7,aG],iv r9,iv aA])∧Kd.N k68 68 w' w.heap.size (fun k_=>(w.heap.size≤k_)∧nO k_ aD∧nO k_ aE) aC r2∧Kd.R k70 70 w' w.heap.size (fun k_=>(w.heap.size≤k_)) aD r3∧Kd.N (Kd.slice 9 Kd.string) 43 w' w.heap.size (fun k_=>(w.heap.size≤k_)∧nO k_ aC∧nO k_ aD) aE r4∧Kd.V k28 28 w' w.heap.size (fun k_=>(w.heap.size≤k_)∧nO k_ aC∧nO k_ aD∧nO k_ aE) aG r8∧Below w.heap.size w w':=by
 have hu44:=underlying30;have hu70:=underlying54;have HB:=am (q0r w.heap.size w);unfold q1Y.f at h;replace h:=Option.bind_eq_some_iff.mp h;obtain⟨⟨l,ln,er⟩,aH,h⟩:=h;have A2:=am aH;clear aH;(try simp only at h);go_enter func6,ntmps6;try go_wp2_with (first|((with_reducible refine gd 2 ?_);(try (refine q2p (by rfl) ?_;dsimp only));refine be 2 zMm 30 ?_;intro aI hg w1 hbox hb;have aJ:=am (hbox);have aK:=am ((X29:w.heap.size≤aI));replace HB:=bS X6 hb;clear hb hbox hg)|((with_reducible refine gc 21 ?_);refine gC1 (some 13) func21 (q0V.calls k a0 l ln _ _ A2.out) ?_;rintro vt w2 ⟨ho_,hb⟩;have htg_:=Kd.R_newB ho_ (show(_:World).heap[aI]?=some (.cells zMm 30 (0,0)) from by exact(X9 aJ));replace HB:=bS (X10 HB aK) hb;replace aJ:=kBg0 aJ hb;clear hb;obtain⟨At,ct,et⟩:=q1I ho_;subst et;have HT:=am (q0R ho_).2.2;have HTR:=am ho_;have HTG:=am (show ∀ W_,q2e w2 W_ aI none→Kd.C k61 W_ At l.length l from fun W_ hK_=>(q0R (q0W htg_ hK_ oKk)).2.2);clear htg_;clear ho_;obtain⟨Z3_2_0,aM⟩:=b8_0 aJ;obtain⟨Z3_2_1,aQ⟩:=b8_1 aJ;obtain⟨Z3_2_2,aT⟩:=b8_2 aJ;obtain⟨Z3_2_3,aU⟩:=b8_3 aJ;obtain⟨Z3_2_4,aW⟩:=b8_4 aJ;obtain⟨Z3_2_5,aX⟩:=b8_5 aJ;obtain⟨Z3_2_6,aY⟩:=b8_6 aJ;obtain⟨Z3_2_7,aZ⟩:=b8_7 aJ;refine q5g ?_))
 by_cases c1:er=0
 case neg=>
  rw[if_neg c1]at h;have c1b:(er != 0)=true:=bne_iff_ne.mpr c1;simp only[Option.some.injEq,Prod.mk.injEq]at h;obtain⟨rfl,rfl,rfl,rfl,rfl,rfl,rfl,rfl,rfl,rfl⟩:=h;refine on_ ?_;go_wp2
  refine bodyPost_ret (q2P rfl _ _ aI 30 zMm (0,0) _ rfl (show(_:World).heap[aI]?=some (.cells zMm 30 (0,0)) from by exact X32) underlying30 rfl X4) rfl ?_;exact⟨_,_,_,_,rfl,q2N _ _ _ _ _,q3D _ _ _ _ _,q2N _ _ _ _ _,q2q _ _ _ _ _,(X10 HB aK)⟩
 subst c1;rw[if_pos rfl]at h;by_cases c2:(l.length:Int)=0
 case pos=>
  rw[if_pos c2]at h;have c2b:((l.length:Int) == 0)=true:=beq_iff_eq.mpr c2;simp only[Option.some.injEq,Prod.mk.injEq]at h;obtain⟨rfl,rfl,rfl,rfl,rfl,rfl,rfl,rfl,rfl,rfl⟩:=h;refine on_ ?_;go_wp2
  refine bodyPost_ret (q2P rfl _ _ aI 30 zMm (0,0) _ rfl (show(_:World).heap[aI]?=some (.cells zMm 30 (0,0)) from by exact X32) underlying30 rfl X4) rfl ?_;exact⟨_,_,_,_,rfl,q2N _ _ _ _ _,q3D _ _ _ _ _,q2N _ _ _ _ _,q2q _ _ _ _ _,(X10 HB aK)⟩
 rw[if_neg c2]at h;have c2b:((l.length:Int) == 0)=false:=beq_eq_false_iff_ne.mpr c2;replace h:=Option.bind_eq_some_iff.mp h;obtain⟨⟨b1,p1,f1⟩,bA,h⟩:=h;have A3:=am bA;clear bA;(try simp only at h);refine on_ ?_;go_upto_if 31 with (first|((with_reducible refine gd 28 ?_);(try (refine q2p (by rfl) ?_;dsimp only));refine be 28 #[sl At l ct,iv 0,.bool false] 54 ?_;intro gp hg w4 hbox hb;have hst_:∃ bB:World,q1f bB w4 gp l 0 false∧Below bB.heap.size bB w4:=⟨_,⟨_,_,hbox,q0w hg.symm,X33⟩,hb⟩;obtain⟨w0,hi_,hs_⟩:=hst_;have HI:=am (hi_);have HS:=am (hs_);have GWp:=am ((X34:w.heap.size≤gp));replace HB:=bS (X10 HB aK) hb;have NB2_p:=am ((X35:aI≠gp));have bC:=am ((X36:gp≠aI));replace aJ:=kBg0 aJ hb;have htf_:∀ W_,q2e w4 W_ gp none→Kd.C k61 W_ At l.length l:=fun W_ hK_=>(q0R (q0W (q1t (q3U (X37:Kd.R k61 61 _ _ (fun _=>True) (sl At l ct) l) gp (q0w hg.symm)) hb) hK_ oKk)).2.2;clear hb hbox hg hi_ hs_;have hgl_:=am (q1f.lt HI.out);obtain⟨wm,hwm⟩:∃ wm:World,wm=w4:=⟨_,rfl⟩;have HM:=am (show q2e wm w4 gp none by rw[hwm];exact q2D _ _ _);have HMW:=am (show w.heap.size≤wm.heap.size by rw[hwm];exact(HB.out:Below w.heap.size w _).size);have HMS:=am (show w0.heap.size≤wm.heap.size by rw[hwm];exact(HS.out:Below w0.heap.size w0 _).size);have HML:=am (show gp<wm.heap.size by rw[hwm];exact hgl_.out);have HBm:=am (show Below w.heap.size w wm by rw[hwm];exact HB.out);have HSm:=am (show Below w0.heap.size w0 wm by rw[hwm];exact HS.out);have bD:=am (show aI<wm.heap.size by rw[hwm];exact q4N aJ.out);have HTF:=am (show ∀ W_,q2e wm W_ gp none→Kd.C k61 W_ At l.length l by rw[hwm];exact htf_);clear hgl_ hwm htf_ HTR HT)|((with_reducible refine gd 9 ?_);(try (refine q2p (by rfl) ?_;dsimp only));refine be 9 zMm 30 ?_;intro bE hg w5 hbox hb;have bF:=am (hbox);have bG:=am ((X38:w.heap.size≤bE));replace HB:=bS (X17 HB aK GWp) hb;have bH:=am ((X40:aI≠bE));have bI:=am ((X41:bE≠aI));replace aJ:=kBg1 aJ NB2_p hb;have bJ:=am ((by rw[hg];exact q0S (q1f.lt (X42 HI bC)):gp≠bE));have NB9_p:=am ((by rw[hg];exact q1r (q1f.lt (X42 HI bC)):bE≠gp));have bK:=am ((X43:w0.heap.size≤bE));replace HS:=bS X44 hb;replace HI:=am (q1f.below (X42 HI bC) hb);have bL:=am ((X45:wm.heap.size≤bE));replace HM:=am (q0e X46 (q0M hb gp none) (.inl rfl));clear hb hbox hg;obtain⟨Z6_2_0,bM⟩:=b8_0 aJ;obtain⟨Z6_2_1,bN⟩:=b8_1 aJ;obtain⟨Z6_2_2,bO⟩:=b8_2 aJ;obtain⟨Z6_2_3,bP⟩:=b8_3 aJ;obtain⟨Z6_2_4,bQ⟩:=b8_4 aJ;obtain⟨Z6_2_5,bR⟩:=b8_5 aJ;obtain⟨Z6_2_6,bT⟩:=b8_6 aJ;obtain⟨Z6_2_7,bU⟩:=b8_7 aJ;obtain⟨Z6_9_0,bV⟩:=b8_0 bF;obtain⟨Z6_9_1,bW⟩:=b8_1 bF;obtain⟨Z6_9_2,bX⟩:=b8_2 bF;obtain⟨Z6_9_3,bY⟩:=b8_3 bF;obtain⟨Z6_9_4,bZ⟩:=b8_4 bF;obtain⟨Z6_9_5,cA⟩:=b8_5 bF;obtain⟨Z6_9_6,cC⟩:=b8_6 bF;obtain⟨Z6_9_7,cD⟩:=b8_7 bF;obtain⟨_,_,cH,cI,cJ,cK,cL,-⟩:=tS54 HI;have cM:=bC.out;have cN:=NB2_p.out;have cO:=bJ.out;have cP:=NB9_p.out;have cQ:=bH.out;have cR:=bI.out)|((with_reducible refine gc 22 ?_);refine gCc (some 30) func22 (q1B.calls gp l 0 false 1 (⟨#[109,101,116,114,101]⟩:q0b) b1 p1 f1 w0 _ X47 (X48 HS HI bK) A3.out) ?_;rintro w7 ⟨hi_,hs_,hk_⟩;replace HB:=am (q4Y (X49 HB aK bG GWp) (X48 HS HI bK) hs_ hk_ GWp.out);replace HI:=am (hi_);replace HS:=am (hs_);replace aJ:=kKg2 aJ bH NB2_p hk_ NB2_p;replace bF:=kKg2 bF bI NB9_p hk_ NB9_p;replace HM:=am (q0e (X50 HM bL) hk_ (.inl rfl));clear hi_ hs_ hk_;obtain⟨Z8_2_0,cS⟩:=b8_0 aJ;obtain⟨Z8_2_1,cT⟩:=b8_1 aJ;obtain⟨Z8_2_2,cU⟩:=b8_2 aJ;obtain⟨Z8_2_3,cV⟩:=b8_3 aJ;obtain⟨Z8_2_4,cX⟩:=b8_4 aJ;obtain⟨Z8_2_5,cY⟩:=b8_5 aJ;obtain⟨Z8_2_6,cZ⟩:=b8_6 aJ;obtain⟨Z8_2_7,dA⟩:=b8_7 aJ;obtain⟨Z8_9_0,dB⟩:=b8_0 bF;obtain⟨Z8_9_1,dC⟩:=b8_1 bF;obtain⟨Z8_9_2,dD⟩:=b8_2 bF;obtain⟨Z8_9_3,dE⟩:=b8_3 bF;obtain⟨Z8_9_4,dG⟩:=b8_4 bF;obtain⟨Z8_9_5,dH⟩:=b8_5 bF;obtain⟨Z8_9_6,dI⟩:=b8_6 bF;obtain⟨Z8_9_7,dJ⟩:=b8_7 bF;obtain⟨_,_,dN,dO,dP,dQ,dR,-⟩:=tS54 HI;have dS:=bC.out;have dU:=NB2_p.out;have dV:=bJ.out;have dW:=NB9_p.out;have dX:=bH.out;have dY:=bI.out))
 (try simp only[Act.put,List.setIfInBounds_toArray,List.set_cons_zero,List.set_cons_succ]);go_cut [] (fun wc=>∃ fx:Bool,q0i (q1Y.tail k l p1 fx=some (r1,r2,r3,r4,r5,r6,r7,r8,r9,aA))∧q0i (q1f w0 wc gp l p1 fx)∧q0i (Below w0.heap.size w0 wc)∧q0i (Below w.heap.size w wc)∧q0i (q2e wm wc gp none)∧q0i (wc.heap[aI]?=some (.cells zMm 30 (0,0)))∧q0i (wc.heap[bE]?=some (.cells zMm 30 (0,0))))
 case first=>
  cases b1 with
  | false=>
   rw[if_neg (by decide)]at h;go_wp2
   go_meet
   case rel=>exact⟨true,⟨h⟩,⟨X47⟩,⟨(X48 HS HI bK)⟩,⟨(X49 HB aK bG GWp)⟩,⟨(X50 HM bL)⟩,⟨(show(_:World).heap[aI]?=some (.cells zMm 30 (0,0)) from by exact X51)⟩,⟨(show(_:World).heap[bE]?=some (.cells zMm 30 (0,0)) from by exact X52)⟩⟩
  | true=>
   rw[if_pos rfl]at h;go_wp2
   go_meet
   case rel=>exact⟨f1,⟨h⟩,⟨X47⟩,⟨(X48 HS HI bK)⟩,⟨(X49 HB aK bG GWp)⟩,⟨(X50 HM bL)⟩,⟨(show(_:World).heap[aI]?=some (.cells zMm 30 (0,0)) from by exact X51)⟩,⟨(show(_:World).heap[bE]?=some (.cells zMm 30 (0,0)) from by exact X52)⟩⟩
 case rest=>
  clear HB HI HS HM aJ bF A3 h;clear aM aQ aT aU aW aX aY aZ bM bN bO bP bQ bR bT bU bV bW bX bY bZ cA cC cD cH cI cJ cK cL cM cN cO cP cQ cR cS cT cU cV cX cY cZ dA dB dC dD dE dG dH dI dJ dN dO dP dQ dR dS dU dV dW dX dY;obtain⟨fx,hT_,HI,HS,HB,HM,aJ,bF⟩:=hcut;have h:=hT_.out;clear hT_;unfold q1Y.tail at h;replace h:=Option.bind_eq_some_iff.mp h;obtain⟨⟨t2,p2,f2⟩,bA,h⟩:=h;have A4:=am bA;clear bA;(try simp only at h);replace h:=Option.bind_eq_some_iff.mp h;obtain⟨⟨t3,p3,f3⟩,bA,h⟩:=h;have A5:=am bA;clear bA;(try simp only at h);replace h:=Option.bind_eq_some_iff.mp h;obtain⟨⟨p4,f4⟩,bA,h⟩:=h;have A6:=am bA;clear bA;(try simp only at h);replace h:=Option.bind_eq_some_iff.mp h;obtain⟨⟨m1,m2,m3,m4,m5,m6,m7,m8,p5,f5⟩,bA,h⟩:=h;have A7:=am bA;clear bA;(try simp only at h);replace h:=Option.bind_eq_some_iff.mp h;obtain⟨⟨p6,f6⟩,bA,h⟩:=h;have A8:=am bA;clear bA;(try simp only at h);try go_wp2_with (first|((with_reducible refine gc 23 ?_);refine gCc (some 36) func23 (q2d.calls gp l p1 fx 1 t2 p2 f2 w0 _ X47 (X48 HS HI bK) A4.out) ?_;rintro w9 ⟨hi_,hs_,hk_⟩;replace HB:=am (q4Y (X49 HB aK bG GWp) (X48 HS HI bK) hs_ hk_ GWp.out);replace HI:=am (hi_);replace HS:=am (hs_);replace aJ:=kKg2 aJ bH NB2_p hk_ NB2_p;replace bF:=kKg2 bF bI NB9_p hk_ NB9_p;replace HM:=am (q0e (X50 HM bL) hk_ (.inl rfl));clear hi_ hs_ hk_)|((with_reducible refine gc 23 ?_);refine gCc (some 38) func23 (q2d.calls gp l p2 f2 1 t3 p3 f3 w0 _ X47 (X48 HS HI bK) A5.out) ?_;rintro w10 ⟨hi_,hs_,hk_⟩;replace HB:=am (q4Y (X49 HB aK bG GWp) (X48 HS HI bK) hs_ hk_ GWp.out);replace HI:=am (hi_);replace HS:=am (hs_);replace aJ:=kKg2 aJ bH NB2_p hk_ NB2_p;replace bF:=kKg2 bF bI NB9_p hk_ NB9_p;replace HM:=am (q0e (X50 HM bL) hk_ (.inl rfl));clear hi_ hs_ hk_;obtain⟨Z11_2_0,dZ⟩:=b8_0 aJ;obtain⟨Z11_2_1,eA⟩:=b8_1 aJ;obtain⟨Z11_2_2,eB⟩:=b8_2 aJ;obtain⟨Z11_2_3,eC⟩:=b8_3 aJ;obtain⟨Z11_2_4,eD⟩:=b8_4 aJ;obtain⟨Z11_2_5,eE⟩:=b8_5 aJ;obtain⟨Z11_2_6,eG⟩:=b8_6 aJ;obtain⟨Z11_2_7,eH⟩:=b8_7 aJ;obtain⟨Z11_9_0,eI⟩:=b8_0 bF;obtain⟨Z11_9_1,eJ⟩:=b8_1 bF;obtain⟨Z11_9_2,eK⟩:=b8_2 bF;obtain⟨Z11_9_3,eL⟩:=b8_3 bF;obtain⟨Z11_9_4,eM⟩:=b8_4 bF;obtain⟨Z11_9_5,eN⟩:=b8_5 bF;obtain⟨Z11_9_6,eO⟩:=b8_6 bF;obtain⟨Z11_9_7,eP⟩:=b8_7 bF;obtain⟨_,_,eU,eV,eW,eX,eY,-⟩:=tS54 HI;have eZ:=bC.out;have fA:=NB2_p.out;have fB:=bJ.out;have fC:=NB9_p.out;have fD:=bH.out;have fE:=bI.out)|((with_reducible refine gc 24 ?_);refine gCc (some 41) func24 (q1c.calls gp l p3 f3 (⟨#[123]⟩:q0b) p4 f4 w0 _ X47 (X48 HS HI bK) A6.out) ?_;rintro w12 ⟨hi_,hs_,hk_⟩;replace HB:=am (q4Y (X49 HB aK bG GWp) (X48 HS HI bK) hs_ hk_ GWp.out);replace HI:=am (hi_);replace HS:=am (hs_);replace aJ:=kKg2 aJ bH NB2_p hk_ NB2_p;replace bF:=am (q2T hk_ (show(_:World).heap[bE]?=some (.cells #[.string t3,.slice none 0 0,.slice none 0 0,.slice none 0 0,iv 0,.string eBb,iv 0,.slice none 0 0] 30 (0,0)) from by (with_reducible repeat (first|refine q0A ?_ _|refine q0B ?_|refine q0v ?_ _|refine q1M ?_ bI.out _|refine q1M ?_ NB9_p.out _));refine q1T (cs:=zMm) ?_ 0 _ rfl;(with_reducible repeat (first|refine q0A ?_ _|refine q0B ?_|refine q0v ?_ _|refine q1M ?_ bI.out _|refine q1M ?_ NB9_p.out _));exact bF.out) NB9_p.out (by simp));replace HM:=am (q0e (X50 HM bL) hk_ (.inl rfl));clear hi_ hs_ hk_)|((with_reducible refine gc 25 ?_);refine gL (some 43) func25 #[.pointer (some ⟨gp,0,none⟩),.pointer (some ⟨bE,0,none⟩)] ?_;(with_reducible refine(q0h.calls k gp bE l p4 f4 t3 m1 m2 m3 m4 m5 m6 m7 m8 p5 f5 w0 wm _ ?side1 ?side2 HMS.out ?side3 ?side4 bL.out bJ.out HML.out A7.out).mono ?_);(case side1=>exact X47);(case side2=>exact(X48 HS HI bK));(case side3=>exact(X50 HM bL));(case side4=>exact(show(_:World).heap[bE]?=some (.cells #[.string t3,.slice none 0 0,.slice none 0 0,.slice none 0 0,iv 0,.string eBb,iv 0,.slice none 0 0] 30 (0,0)) from by exact X52));rintro e w13 ⟨v1,v2,v3,v7,rfl,hbk_,fF,fG,fH,fJ,hi_,hs_,hk_⟩;refine⟨_,rfl,?_⟩;replace HB:=am (q4Y HBm.out HSm.out hs_ hk_ GWp.out);replace HI:=am (hi_);replace HS:=am (hs_);replace aJ:=am (v2l (X50 HM bL) hk_ bD.out NB2_p.out (show(_:World).heap[aI]?=some (.cells zMm 30 (0,0)) from by exact X51));replace HM:=am (hk_);clear bF;obtain⟨fK,fL,fM⟩:=q1h fF;subst fM;obtain⟨fN,fO,fP⟩:=q1I fG;subst fP;obtain⟨fQ,fR,fS⟩:=q1h fH;subst fS;obtain⟨fT,fU,fV⟩:=q1R fJ;subst fV;have bF:=am hbk_;have fW:=am fF;have fX:=am fG;have fY:=am fH;have fZ:=am fJ;clear hbk_ fF fG fH fJ hi_ hs_ hk_)|((with_reducible refine gc 24 ?_);refine gCc (some 45) func24 (q1c.calls gp l p5 f5 (⟨#[125]⟩:q0b) p6 f6 w0 _ X47 (X48 HS HI bK) A8.out) ?_;rintro gA ⟨hi_,hs_,hk_⟩;replace HB:=am (q4Y (X49 HB aK bG GWp) (X48 HS HI bK) hs_ hk_ GWp.out);replace HI:=am (hi_);replace HS:=am (hs_);replace aJ:=kKg2 aJ bH NB2_p hk_ NB2_p;replace bF:=kKg2 bF bI NB9_p hk_ NB9_p;replace HM:=am (q0e (X50 HM bL) hk_ (.inl rfl));replace fW:=am (q1i (show Kd.N k68 68 _ wm.heap.size (fun k_=>(wm.heap.size≤k_)∧nO k_ (sl fN m3 fO)∧nO k_ (sl fQ m4 fR)) (sl fK m2 fL) m2 from by exact(X53 fW bD)) hk_ (fun k_ hk_=>q1r (q0L HML.out hk_.1)));replace fX:=am (q0W (show Kd.R k70 70 _ wm.heap.size (fun k_=>(wm.heap.size≤k_)) (sl fN m3 fO) m3 from by exact X54) hk_ (fun k_ hk_=>q1r (q0L HML.out hk_)));replace fY:=am (q1i (show Kd.N (Kd.slice 9 Kd.string) 43 _ wm.heap.size (fun k_=>(wm.heap.size≤k_)∧nO k_ (sl fK m2 fL)∧nO k_ (sl fN m3 fO)) (sl fQ m4 fR) m4 from by exact(X53 fY bD)) hk_ (fun k_ hk_=>q1r (q0L HML.out hk_.1)));replace fZ:=am (q2f (show Kd.V k28 28 _ wm.heap.size (fun k_=>(wm.heap.size≤k_)∧nO k_ (sl fK m2 fL)∧nO k_ (sl fN m3 fO)∧nO k_ (sl fQ m4 fR)) (sl fT m8 fU) m8 from by exact X56) hk_ (fun k_ hk_=>q1r (q0L HML.out hk_.1)));clear hi_ hs_ hk_;obtain⟨Z15_2_0,gB⟩:=b8_0 aJ;obtain⟨Z15_2_1,gC⟩:=b8_1 aJ;obtain⟨Z15_2_2,gD⟩:=b8_2 aJ;obtain⟨Z15_2_3,gE⟩:=b8_3 aJ;obtain⟨Z15_2_4,gF⟩:=b8_4 aJ;obtain⟨Z15_2_5,gG⟩:=b8_5 aJ;obtain⟨Z15_2_6,gH⟩:=b8_6 aJ;obtain⟨Z15_2_7,gI⟩:=b8_7 aJ;obtain⟨Z15_9_0,gJ⟩:=b8_0 bF;obtain⟨Z15_9_1,gK⟩:=b8_1 bF;obtain⟨Z15_9_2,gM⟩:=b8_2 bF;obtain⟨Z15_9_3,gN⟩:=b8_3 bF;obtain⟨Z15_9_4,gP⟩:=b8_4 bF;obtain⟨Z15_9_5,gQ⟩:=b8_5 bF;obtain⟨Z15_9_6,gR⟩:=b8_6 bF;obtain⟨Z15_9_7,gS⟩:=b8_7 bF;obtain⟨_,_,gW,gX,gY,gZ,hA,-⟩:=tS54 HI;have hD:=bC.out;have hE:=NB2_p.out;have hF:=bJ.out;have hG:=NB9_p.out;have hH:=bH.out;have hJ:=bI.out;refine q5g ?_))
  cases f6 with
  | true=>
   rw[if_pos rfl]at h;refine on_ ?_;try go_wp2
   unfold q1Y.bad at h;obtain⟨ji,hji⟩:∃ j_:Int,(mn p6 (wrap64 ((l.length:Int) - 1)))=j_:=⟨_,rfl⟩;simp only[hji]at h;have hji_:(if (wrap64 ((l.length:Int) - 1))<p6 then (wrap64 ((l.length:Int) - 1)) else p6)=ji:=hji;by_cases c5:0≤ji
   case neg=>rw[if_neg c5]at h;cases h
   rw[if_pos c5]at h;by_cases c6:ji<(l.length:Int)
   case neg=>rw[if_neg c6]at h;cases h
   rw[if_pos c6]at h;have AA:=dT c5;have AB:=dT c6;clear c5 c6;simp only[Option.some.injEq,Prod.mk.injEq]at h;obtain⟨rfl,rfl,rfl,rfl,rfl,rfl,rfl,rfl,rfl,rfl⟩:=h;clear dZ eA eB eC eD eE eG eH eI eJ eK eL eM eN eO eP eU eV eW eX eY eZ fA fB fC fD fE gB gC gD gE gF gG gH gI gJ gK gM gN gP gQ gR gS gW gX gY gZ hA hD hE hF hG hH hJ;replace aJ:=am (q0B aJ.out);replace HI:=am (q1f.drew HI.out);replace HM:=am (q3q HM.out);replace HS:=am (q1U HS.out);replace HB:=am (q1U HB.out);obtain⟨ASz,cSz,HGz,hgz,HSz⟩:=HI.out;have hL:=q7z HGz;have hM:=q7q HGz;clear HGz hgz HSz;have hO:0≤(ji:Int):=q0a AA;have hP:ji<(l.length:Int):=q0a AB;obtain⟨ad,hU,hV,hX,hY⟩:=q5b (Kd.C_foot_now HTF.out HM.out) ji hO hP;cases hU;clear hV hX;have hZ:=(show(⟨(ad.add (ji.toNat*3)).block,(ad.add (ji.toNat*3)).off+2,none⟩:Addr).block≠aI from X57);replace hO:=q0c hO;replace hP:=q0c hP;refine q4P (n:=16) (S:=fun w'=>w'.cell? ⟨gp,1,none⟩=some (iv p6)∧w'.cell? ⟨(ad.add (ji.toNat*3)).block,(ad.add (ji.toNat*3)).off+2,none⟩=some (iv ((q2G l ji).f2))) (ds:=[]) (lb 16 0) X4 rfl rfl ⟨hL.trans rfl,hY⟩ (fun hHeld=>?_);refine q3W q1Y.tab16 q1Y.bits16 (fun HT_ HW_=>?_);generalize hgen_:World.drew gA=w9 at aJ HI HM HS HB hL hM hY hHeld ⊢
   clear hgen_;refine pu 0 (some 59) (lb 16 1) HT_ ?_;refine pu 1 (some 60) (lb 16 3) HT_ ?_;refine pu 2 (some 61) (lb 16 7) HT_ ?_;refine pu 3 (some 62) (lb 16 15) HT_ ?_;refine pu 4 (some 63) (lb 16 31) HT_ ?_;refine pu 6 (some 65) (lb 16 95) HT_ ?_;refine pu 7 (some 66) (lb 16 223) HT_ ?_;refine pu 8 (some 67) (lb 16 479) HT_ ?_;refine tk 5 (some 64) (lb 16 511) HT_ HW_ hHeld ?_;refine pu 9 (some 68) (lb 16 1023) HT_ ?_;refine pu 10 (some 69) (lb 16 2047) HT_ ?_;refine pu 11 (some 70) (lb 16 4095) HT_ ?_;refine tk 12 (some 71) (lb 16 8191) HT_ HW_ hHeld ?_;refine oo 13 none (lb 16 16383) HT_ (fun K hK=>?_);have iA:w9.cell? ⟨aI,0,none⟩=some (.string eBb):=(q0X aJ.out 0).trans rfl;have iB:=q1m aJ.out 0;have iC:w9.cell? ⟨aI,1,none⟩=some (.slice none 0 0):=(q0X aJ.out 1).trans rfl;have iD:=q1m aJ.out 1;have iE:w9.cell? ⟨aI,2,none⟩=some (.slice none 0 0):=(q0X aJ.out 2).trans rfl;have iF:=q1m aJ.out 2;have iG:w9.cell? ⟨aI,3,none⟩=some (.slice none 0 0):=(q0X aJ.out 3).trans rfl;have iH:=q1m aJ.out 3;have iI:w9.cell? ⟨aI,4,none⟩=some (iv 0):=(q0X aJ.out 4).trans rfl;have iJ:=q1m aJ.out 4;have iK:w9.cell? ⟨aI,5,none⟩=some (.string eBb):=(q0X aJ.out 5).trans rfl;have iL:=q1m aJ.out 5;have iM:w9.cell? ⟨aI,6,none⟩=some (iv 0):=(q0X aJ.out 6).trans rfl;have iO:=q1m aJ.out 6;have iQ:w9.cell? ⟨aI,7,none⟩=some (.slice none 0 0):=(q0X aJ.out 7).trans rfl;have iR:=q1m aJ.out 7;refine q7J (w1:=?_) (by rfl) rfl ?_ ?_;rotate_left
   ·go_simp;rfl
   refine hK.out _ _ ⟨(cf8 bC.out (hHeld.1)),(cf8 hZ (hHeld.2))⟩ (fun hHeld=>?_);clear hK K;refine pu 14 (some 3) (lb 16 32767) HT_ ?_;refine pu 15 (some 4) (lb 16 65535) HT_ ?_;refine q5N (q4z HT_.out X4) ?_;try go_wp2
   refine bodyPost_ret (q2P rfl _ _ aI 30 zMm (0,0) _ rfl (show(_:World).heap[aI]?=some (.cells zMm 30 (0,0)) from by exact(X58 bH NB2_p aJ)) underlying30 rfl X4) rfl ?_;exact⟨_,_,_,_,X59,q2N _ _ _ _ _,q3D _ _ _ _ _,q2N _ _ _ _ _,q2q _ _ _ _ _,(X49 HB aK bG GWp)⟩
  | false=>
   rw[if_neg (by decide)]at h;by_cases c3:p6<(l.length:Int)
   case pos=>
    rw[if_pos c3]at h;have c3b:=q0p c3;refine on_ ?_;try go_wp2
    unfold q1Y.bad at h;obtain⟨ji,hji⟩:∃ j_:Int,(mn p6 (wrap64 ((l.length:Int) - 1)))=j_:=⟨_,rfl⟩;simp only[hji]at h;have hji_:(if (wrap64 ((l.length:Int) - 1))<p6 then (wrap64 ((l.length:Int) - 1)) else p6)=ji:=hji;by_cases c5:0≤ji
    case neg=>rw[if_neg c5]at h;cases h
    rw[if_pos c5]at h;by_cases c6:ji<(l.length:Int)
    case neg=>rw[if_neg c6]at h;cases h
    rw[if_pos c6]at h;have AA:=dT c5;have AB:=dT c6;clear c5 c6;simp only[Option.some.injEq,Prod.mk.injEq]at h;obtain⟨rfl,rfl,rfl,rfl,rfl,rfl,rfl,rfl,rfl,rfl⟩:=h;clear dZ eA eB eC eD eE eG eH eI eJ eK eL eM eN eO eP eU eV eW eX eY eZ fA fB fC fD fE gB gC gD gE gF gG gH gI gJ gK gM gN gP gQ gR gS gW gX gY gZ hA hD hE hF hG hH hJ;replace aJ:=am (q0B aJ.out);replace HI:=am (q1f.drew HI.out);replace HM:=am (q3q HM.out);replace HS:=am (q1U HS.out);replace HB:=am (q1U HB.out);obtain⟨ASz,cSz,HGz,hgz,HSz⟩:=HI.out;have hL:=q7z HGz;have hM:=q7q HGz;clear HGz hgz HSz;have hO:0≤(ji:Int):=q0a AA;have hP:ji<(l.length:Int):=q0a AB;obtain⟨ad,hU,hV,hX,hY⟩:=q5b (Kd.C_foot_now HTF.out HM.out) ji hO hP;cases hU;clear hV hX;have hZ:=(show(⟨(ad.add (ji.toNat*3)).block,(ad.add (ji.toNat*3)).off+2,none⟩:Addr).block≠aI from X57);replace hO:=q0c hO;replace hP:=q0c hP;refine q4P (n:=16) (S:=fun w'=>w'.cell? ⟨gp,1,none⟩=some (iv p6)∧w'.cell? ⟨(ad.add (ji.toNat*3)).block,(ad.add (ji.toNat*3)).off+2,none⟩=some (iv ((q2G l ji).f2))) (ds:=[]) (lb 16 0) X4 rfl rfl ⟨hL.trans rfl,hY⟩ (fun hHeld=>?_);refine q3W q1Y.tab16 q1Y.bits16 (fun HT_ HW_=>?_);generalize hgen_:World.drew gA=w9 at aJ HI HM HS HB hL hM hY hHeld ⊢
    clear hgen_;refine pu 0 (some 59) (lb 16 1) HT_ ?_;refine pu 1 (some 60) (lb 16 3) HT_ ?_;refine pu 2 (some 61) (lb 16 7) HT_ ?_;refine pu 3 (some 62) (lb 16 15) HT_ ?_;refine pu 4 (some 63) (lb 16 31) HT_ ?_;refine pu 6 (some 65) (lb 16 95) HT_ ?_;refine pu 7 (some 66) (lb 16 223) HT_ ?_;refine pu 8 (some 67) (lb 16 479) HT_ ?_;refine tk 5 (some 64) (lb 16 511) HT_ HW_ hHeld ?_;refine pu 9 (some 68) (lb 16 1023) HT_ ?_;refine pu 10 (some 69) (lb 16 2047) HT_ ?_;refine pu 11 (some 70) (lb 16 4095) HT_ ?_;refine tk 12 (some 71) (lb 16 8191) HT_ HW_ hHeld ?_;refine oo 13 none (lb 16 16383) HT_ (fun K hK=>?_);have iA:w9.cell? ⟨aI,0,none⟩=some (.string eBb):=(q0X aJ.out 0).trans rfl;have iB:=q1m aJ.out 0;have iC:w9.cell? ⟨aI,1,none⟩=some (.slice none 0 0):=(q0X aJ.out 1).trans rfl;have iD:=q1m aJ.out 1;have iE:w9.cell? ⟨aI,2,none⟩=some (.slice none 0 0):=(q0X aJ.out 2).trans rfl;have iF:=q1m aJ.out 2;have iG:w9.cell? ⟨aI,3,none⟩=some (.slice none 0 0):=(q0X aJ.out 3).trans rfl;have iH:=q1m aJ.out 3;have iI:w9.cell? ⟨aI,4,none⟩=some (iv 0):=(q0X aJ.out 4).trans rfl;have iJ:=q1m aJ.out 4;have iK:w9.cell? ⟨aI,5,none⟩=some (.string eBb):=(q0X aJ.out 5).trans rfl;have iL:=q1m aJ.out 5;have iM:w9.cell? ⟨aI,6,none⟩=some (iv 0):=(q0X aJ.out 6).trans rfl;have iO:=q1m aJ.out 6;have iQ:w9.cell? ⟨aI,7,none⟩=some (.slice none 0 0):=(q0X aJ.out 7).trans rfl;have iR:=q1m aJ.out 7;refine q7J (w1:=?_) (by rfl) rfl ?_ ?_;rotate_left
    ·go_simp;rfl
    refine hK.out _ _ ⟨(cf8 bC.out (hHeld.1)),(cf8 hZ (hHeld.2))⟩ (fun hHeld=>?_);clear hK K;refine pu 14 (some 3) (lb 16 32767) HT_ ?_;refine pu 15 (some 4) (lb 16 65535) HT_ ?_;refine q5N (q4z HT_.out X4) ?_;try go_wp2
    refine bodyPost_ret (q2P rfl _ _ aI 30 zMm (0,0) _ rfl (show(_:World).heap[aI]?=some (.cells zMm 30 (0,0)) from by exact(X58 bH NB2_p aJ)) underlying30 rfl X4) rfl ?_;exact⟨_,_,_,_,X59,q2N _ _ _ _ _,q3D _ _ _ _ _,q2N _ _ _ _ _,q2q _ _ _ _ _,(X49 HB aK bG GWp)⟩
   rw[if_neg c3]at h;have c3b:=q0z c3;replace h:=Option.bind_eq_some_iff.mp h;obtain⟨e,iS,h⟩:=h;have A9:=am iS;clear iS;(try simp only at h);refine on_ ?_;try go_wp2_with (first|((with_reducible refine gc 26 ?_);refine gCc (some 73) func26 (q1j.calls k m1 _ _ m2 _ _ m3 _ _ m4 m5 m6 m7 _ _ m8 _ _ ((q0N (show Kd.N k68 68 _ wm.heap.size (fun k_=>(wm.heap.size≤k_)∧nO k_ (sl fN m3 fO)∧nO k_ (sl fQ m4 fR)) (sl fK m2 fL) m2 from by exact(X53 fW bD))).2.2) ((q0N (show Kd.N k68 68 _ wm.heap.size (fun k_=>(wm.heap.size≤k_)∧nO k_ (sl fN m3 fO)∧nO k_ (sl fQ m4 fR)) (sl fK m2 fL) m2 from by exact(X53 fW bD))).2.1) ((q0R (show Kd.R k70 70 _ wm.heap.size (fun k_=>(wm.heap.size≤k_)) (sl fN m3 fO) m3 from by exact X54)).2.2) ((q0R (show Kd.R k70 70 _ wm.heap.size (fun k_=>(wm.heap.size≤k_)) (sl fN m3 fO) m3 from by exact X54)).2.1) ((q0N (show Kd.N (Kd.slice 9 Kd.string) 43 _ wm.heap.size (fun k_=>(wm.heap.size≤k_)∧nO k_ (sl fK m2 fL)∧nO k_ (sl fN m3 fO)) (sl fQ m4 fR) m4 from by exact(X53 fY bD))).2.2) ((q0N (show Kd.N (Kd.slice 9 Kd.string) 43 _ wm.heap.size (fun k_=>(wm.heap.size≤k_)∧nO k_ (sl fK m2 fL)∧nO k_ (sl fN m3 fO)) (sl fQ m4 fR) m4 from by exact(X53 fY bD))).2.1) ((q1a (show Kd.V k28 28 _ wm.heap.size (fun k_=>(wm.heap.size≤k_)∧nO k_ (sl fK m2 fL)∧nO k_ (sl fN m3 fO)∧nO k_ (sl fQ m4 fR)) (sl fT m8 fU) m8 from by exact X56)).2.2) ((q1a (show Kd.V k28 28 _ wm.heap.size (fun k_=>(wm.heap.size≤k_)∧nO k_ (sl fK m2 fL)∧nO k_ (sl fN m3 fO)∧nO k_ (sl fQ m4 fR)) (sl fT m8 fU) m8 from by exact X56)).2.1) A9.out) ?_;rintro w16 hb;replace HB:=bS (X49 HB aK bG GWp) hb;replace HS:=bS (X48 HS HI bK) hb;replace HI:=am (q1f.below X47 hb);replace aJ:=kBg2 aJ bH NB2_p hb;replace bF:=kBg2 bF bI NB9_p hb;replace HM:=am (q0e (X50 HM bL) (q0M hb gp none) (.inl rfl));replace fW:=am (q0F (show Kd.N k68 68 _ wm.heap.size (fun k_=>(wm.heap.size≤k_)∧nO k_ (sl fN m3 fO)∧nO k_ (sl fQ m4 fR)) (sl fK m2 fL) m2 from by exact(X53 fW bD)) hb);replace fX:=am (q1t (show Kd.R k70 70 _ wm.heap.size (fun k_=>(wm.heap.size≤k_)) (sl fN m3 fO) m3 from by exact X54) hb);replace fY:=am (q0F (show Kd.N (Kd.slice 9 Kd.string) 43 _ wm.heap.size (fun k_=>(wm.heap.size≤k_)∧nO k_ (sl fK m2 fL)∧nO k_ (sl fN m3 fO)) (sl fQ m4 fR) m4 from by exact(X53 fY bD)) hb);replace fZ:=am (q0P (show Kd.V k28 28 _ wm.heap.size (fun k_=>(wm.heap.size≤k_)∧nO k_ (sl fK m2 fL)∧nO k_ (sl fN m3 fO)∧nO k_ (sl fQ m4 fR)) (sl fT m8 fU) m8 from by exact X56) hb);clear hb;obtain⟨Z17_2_0,Y17_2_0⟩:=b8_0 aJ;obtain⟨Z17_2_1,Y17_2_1⟩:=b8_1 aJ;obtain⟨Z17_2_2,Y17_2_2⟩:=b8_2 aJ;obtain⟨Z17_2_3,Y17_2_3⟩:=b8_3 aJ;obtain⟨Z17_2_4,Y17_2_4⟩:=b8_4 aJ;obtain⟨Z17_2_5,Y17_2_5⟩:=b8_5 aJ;obtain⟨Z17_2_6,Y17_2_6⟩:=b8_6 aJ;obtain⟨Z17_2_7,Y17_2_7⟩:=b8_7 aJ;obtain⟨Z17_9_0,Y17_9_0⟩:=b8_0 bF;obtain⟨Z17_9_1,Y17_9_1⟩:=b8_1 bF;obtain⟨Z17_9_2,Y17_9_2⟩:=b8_2 bF;obtain⟨Z17_9_3,Y17_9_3⟩:=b8_3 bF;obtain⟨Z17_9_4,Y17_9_4⟩:=b8_4 bF;obtain⟨Z17_9_5,Y17_9_5⟩:=b8_5 bF;obtain⟨Z17_9_6,Y17_9_6⟩:=b8_6 bF;obtain⟨Z17_9_7,Y17_9_7⟩:=b8_7 bF;obtain⟨_,_,_,_,_,_,_,-⟩:=tS54 HI;have hne17_2:=bC.out;have hnf17_2:=NB2_p.out;have hne17_9:=bJ.out;have hnf17_9:=NB9_p.out;have hnn17_2_9:=bH.out;have hnn17_9_2:=bI.out;refine q5g ?_))
   by_cases c4:e=0
   case neg=>
    rw[if_neg c4]at h;have c4b:(e != 0)=true:=bne_iff_ne.mpr c4;simp only[Option.some.injEq,Prod.mk.injEq]at h;obtain⟨rfl,rfl,rfl,rfl,rfl,rfl,rfl,rfl,rfl,rfl⟩:=h;refine on_ ?_;go_wp2
    refine bodyPost_ret (q2P rfl _ _ aI 30 zMm (0,0) _ rfl (show(_:World).heap[aI]?=some (.cells zMm 30 (0,0)) from by exact(X58 bH NB2_p aJ)) underlying30 rfl X4) rfl ?_;exact⟨_,_,_,_,rfl,q2N _ _ _ _ _,q3D _ _ _ _ _,q2N _ _ _ _ _,q2q _ _ _ _ _,(X49 HB aK bG GWp)⟩
   subst c4;rw[if_pos rfl]at h;simp only[Option.some.injEq,Prod.mk.injEq]at h;obtain⟨rfl,rfl,rfl,rfl,rfl,rfl,rfl,rfl,rfl,rfl⟩:=h;refine on_ ?_;go_wp2
   refine bodyPost_ret (q2P rfl _ _ aI 30 #[.string m1,sl fK m2 fL,sl fN m3 fO,sl fQ m4 fR,iv m5,.string m6,iv m7,sl fT m8 fU] (0,0) _ rfl (show(_:World).heap[aI]?=some (.cells #[.string m1,sl fK m2 fL,sl fN m3 fO,sl fQ m4 fR,iv m5,.string m6,iv m7,sl fT m8 fU] 30 (0,0)) from by (with_reducible repeat (first|refine q0A ?_ _|refine q0B ?_|refine q0v ?_ _|refine q1M ?_ bH.out _|refine q1M ?_ NB2_p.out _));refine q1T (cs:=#[.string m1,sl fK m2 fL,sl fN m3 fO,sl fQ m4 fR,iv m5,.string m6,iv m7,.slice none 0 0]) ?_ 7 _ rfl;(with_reducible repeat (first|refine q0A ?_ _|refine q0B ?_|refine q0v ?_ _|refine q1M ?_ bH.out _|refine q1M ?_ NB2_p.out _));refine q1T (cs:=#[.string m1,sl fK m2 fL,sl fN m3 fO,sl fQ m4 fR,iv m5,.string m6,iv 0,.slice none 0 0]) ?_ 6 _ rfl;(with_reducible repeat (first|refine q0A ?_ _|refine q0B ?_|refine q0v ?_ _|refine q1M ?_ bH.out _|refine q1M ?_ NB2_p.out _));refine q1T (cs:=#[.string m1,sl fK m2 fL,sl fN m3 fO,sl fQ m4 fR,iv m5,.string eBb,iv 0,.slice none 0 0]) ?_ 5 _ rfl;(with_reducible repeat (first|refine q0A ?_ _|refine q0B ?_|refine q0v ?_ _|refine q1M ?_ bH.out _|refine q1M ?_ NB2_p.out _));refine q1T (cs:=#[.string m1,sl fK m2 fL,sl fN m3 fO,sl fQ m4 fR,iv 0,.string eBb,iv 0,.slice none 0 0]) ?_ 4 _ rfl;(with_reducible repeat (first|refine q0A ?_ _|refine q0B ?_|refine q0v ?_ _|refine q1M ?_ bH.out _|refine q1M ?_ NB2_p.out _));refine q1T (cs:=#[.string m1,sl fK m2 fL,sl fN m3 fO,.slice none 0 0,iv 0,.string eBb,iv 0,.slice none 0 0]) ?_ 3 _ rfl;(with_reducible repeat (first|refine q0A ?_ _|refine q0B ?_|refine q0v ?_ _|refine q1M ?_ bH.out _|refine q1M ?_ NB2_p.out _));refine q1T (cs:=#[.string m1,sl fK m2 fL,.slice none 0 0,.slice none 0 0,iv 0,.string eBb,iv 0,.slice none 0 0]) ?_ 2 _ rfl;(with_reducible repeat (first|refine q0A ?_ _|refine q0B ?_|refine q0v ?_ _|refine q1M ?_ bH.out _|refine q1M ?_ NB2_p.out _));refine q1T (cs:=#[.string m1,.slice none 0 0,.slice none 0 0,.slice none 0 0,iv 0,.string eBb,iv 0,.slice none 0 0]) ?_ 1 _ rfl;(with_reducible repeat (first|refine q0A ?_ _|refine q0B ?_|refine q0v ?_ _|refine q1M ?_ bH.out _|refine q1M ?_ NB2_p.out _));refine q1T (cs:=zMm) ?_ 0 _ rfl;(with_reducible repeat (first|refine q0A ?_ _|refine q0B ?_|refine q0v ?_ _|refine q1M ?_ bH.out _|refine q1M ?_ NB2_p.out _));exact aJ.out) underlying30 rfl X4) rfl ?_;exact⟨_,_,_,_,rfl,q2s (q0o (show Kd.N k68 68 _ wm.heap.size (fun k_=>(wm.heap.size≤k_)∧nO k_ (sl fN m3 fO)∧nO k_ (sl fQ m4 fR)) (sl fK m2 fL) m2 from by exact(X53 fW bD)) (fun k_ hk_=>⟨q0m HMW.out hk_.1,hk_.2⟩)) HMW.out,q1p (q0j (show Kd.R k70 70 _ wm.heap.size (fun k_=>(wm.heap.size≤k_)) (sl fN m3 fO) m3 from by exact X54) (fun k_ hk_=>q0m HMW.out hk_)) HMW.out,q2s (q0o (show Kd.N (Kd.slice 9 Kd.string) 43 _ wm.heap.size (fun k_=>(wm.heap.size≤k_)∧nO k_ (sl fK m2 fL)∧nO k_ (sl fN m3 fO)) (sl fQ m4 fR) m4 from by exact(X53 fY bD)) (fun k_ hk_=>⟨q0m HMW.out hk_.1,hk_.2⟩)) HMW.out,q2o (q0n (show Kd.V k28 28 _ wm.heap.size (fun k_=>(wm.heap.size≤k_)∧nO k_ (sl fK m2 fL)∧nO k_ (sl fN m3 fO)∧nO k_ (sl fQ m4 fR)) (sl fT m8 fU) m8 from by exact X56) (fun k_ hk_=>⟨q0m HMW.out hk_.1,hk_.2⟩)) HMW.out,(X49 HB aK bG GWp)⟩









def q4o.f (l0:List q0b) (a1:q0b):Option (q0b):=
 if l0.length≤140737488355328∧(Lib.join (l0.map (·.data.toList)) a1.data.toList).length≤140737488355328 then some ⟨(Lib.join (l0.map (·.data.toList)) a1.data.toList).toArray⟩ else none
theorem q4o.calls (A0:Option Addr) (c0:Nat) (l0:List q0b) (a1:q0b) (r:q0b) (w:World) (aA:Kd.C Kd.string w A0 l0.length l0) (aC:l0.length≤c0) (h:q4o.f l0 a1=some r) :
  Calls prog 33 #[sl A0 l0 c0,.string a1] w fun e w'=>e=.returned (.string r)∧Below w.heap.size w w':=by
 unfold q4o.f at h;split at h
 ·rename_i hlen
  obtain rfl:=q0d h;by_cases h0:l0=[]
  ·subst h0;refine(Tryz.strings_Join_none A0 c0 a1 w).mono ?_;rintro e w' ⟨rfl,rfl⟩;exact⟨rfl,q0r _ _⟩
  ·obtain⟨b,o,rfl,hb,hc⟩:=C_cells aA (List.length_pos_iff.2 h0);refine(Tryz.strings_Join b o c0 l0 a1 w hc hb hlen.1 aC hlen.2).mono ?_;rintro e w' ⟨rfl,hw⟩;exact⟨rfl,hw⟩
 ·cases h


def q5c.f (a0:Int):Option (q0b):=if a0<10 then (if 0≤a0 then (if a0≤(wrap64 (a0+1)) then (if (wrap64 (a0+1))≤36 then (some ((⟨#[48,49,50,51,52,53,54,55,56,57,97,98,99,100,101,102,103,104,105,106,107,108,109,110,111,112,113,114,115,116,117,118,119,120,121,122]⟩:q0b).extract (a0:Int).toNat ((wrap64 (a0+1)):Int).toNat)) else (none)) else (none)) else (none)) else (if 0≤(wrap64 (a0*2)) then (if (wrap64 (a0*2))≤(wrap64 ((wrap64 (a0*2))+2)) then (if (wrap64 ((wrap64 (a0*2))+2))≤200 then (some ((⟨#[48,48,48,49,48,50,48,51,48,52,48,53,48,54,48,55,48,56,48,57,49,48,49,49,49,50,49,51,49,52,49,53,49,54,49,55,49,56,49,57,50,48,50,49,50,50,50,51,50,52,50,53,50,54,50,55,50,56,50,57,51,48,51,49,51,50,51,51,51,52,51,53,51,54,51,55,51,56,51,57,52,48,52,49,52,50,52,51,52,52,52,53,52,54,52,55,52,56,52,57,53,48,53,49,53,50,53,51,53,52,53,53,53,54,53,55,53,56,53,57,54,48,54,49,54,50,54,51,54,52,54,53,54,54,54,55,54,56,54,57,55,48,55,49,55,50,55,51,55,52,55,53,55,54,55,55,55,56,55,57,56,48,56,49,56,50,56,51,56,52,56,53,56,54,56,55,56,56,56,57,57,48,57,49,57,50,57,51,57,52,57,53,57,54,57,55,57,56,57,57]⟩:q0b).extract ((wrap64 (a0*2)):Int).toNat ((wrap64 ((wrap64 (a0*2))+2)):Int).toNat)) else (none)) else (none)) else (none))
theorem q5c.calls (a0:Int) (r:q0b) (w:World) (h:q5c.f a0=some r) :
  Calls prog 119 #[iv a0] w fun e w'=>e=.returned (.string r)∧q3t w w':=by
 have H:=h;clear h;unfold q5c.f at H;by_cases c2:a0<10
 ·rw[if_pos c2]at H;have AA:=dT c2;clear c2;by_cases c3:0≤a0
  ·rw[if_pos c3]at H;have AB:=q0c c3;have AC:=dT c3;clear c3;by_cases c4:a0≤(wrap64 (a0+1))
   ·rw[if_pos c4]at H;have AD:=q0c c4;have AE:=dT c4;by_cases c5:(wrap64 (a0+1))≤36
    ·rw[if_pos c5]at H;have AF:=q0c c5;have AG:=dT c5;obtain rfl:=q0d H;go_enter func119,ntmps119;go_wp2
     go_ret
     exact⟨X7,X18⟩
    ·exact iN c5 H
   ·exact iN c4 H
  ·exact iN c3 H
 ·rw[if_neg c2]at H;have AA:=dF c2;clear c2;obtain⟨aA,aC⟩:∃ j_:Int,(wrap64 (a0*2))=j_:=⟨_,rfl⟩;replace H:(if 0≤(aA) then (if (aA)≤(wrap64 ((aA)+2)) then (if (wrap64 ((aA)+2))≤200 then (some ((⟨#[48,48,48,49,48,50,48,51,48,52,48,53,48,54,48,55,48,56,48,57,49,48,49,49,49,50,49,51,49,52,49,53,49,54,49,55,49,56,49,57,50,48,50,49,50,50,50,51,50,52,50,53,50,54,50,55,50,56,50,57,51,48,51,49,51,50,51,51,51,52,51,53,51,54,51,55,51,56,51,57,52,48,52,49,52,50,52,51,52,52,52,53,52,54,52,55,52,56,52,57,53,48,53,49,53,50,53,51,53,52,53,53,53,54,53,55,53,56,53,57,54,48,54,49,54,50,54,51,54,52,54,53,54,54,54,55,54,56,54,57,55,48,55,49,55,50,55,51,55,52,55,53,55,54,55,55,55,56,55,57,56,48,56,49,56,50,56,51,56,52,56,53,56,54,56,55,56,56,56,57,57,48,57,49,57,50,57,51,57,52,57,53,57,54,57,55,57,56,57,57]⟩:q0b).extract ((aA):Int).toNat ((wrap64 ((aA)+2)):Int).toNat)) else (none)) else (none)) else (none))=some r:=by first|(rw[aC]at H;exact H)|(simp only[aC]at H ⊢;exact H)
  have hji6w:(IntKind.i64.wrap (a0*2))=aA:=(q4g _).trans aC;by_cases c7:0≤(aA)
  ·rw[if_pos c7]at H;have AH:=q0c c7;have AI:=dT c7;clear c7;by_cases c8:(aA)≤(wrap64 ((aA)+2))
   ·rw[if_pos c8]at H;have AJ:=q0c c8;have AK:=dT c8;by_cases c9:(wrap64 ((aA)+2))≤200
    ·rw[if_pos c9]at H;have AL:=q0c c9;have AM:=dT c9;obtain rfl:=q0d H;go_enter func119,ntmps119;go_wp2
     go_ret
     exact⟨by first|rfl|(simp;done)|(simp only[← aC] <;> (first|rfl|simp))|(simp [*];done),X18⟩
    ·exact iN c9 H
   ·exact iN c8 H
  ·exact iN c7 H











def q2u.j0:Nat→Int→Bool→Option (q0b)
 | 0,_,_=>none
 | k+1,x0,aA=>if aA=true then ((q5c.f x0).bind fun aC=>(some aC)) else (none)
def q2u.f (k:Nat) (a0:Int) (a1:Int):Option (q0b):=if a1=10 then (if 0≤a0 then (q2u.j0 k a0 (decide (a0<100))) else (q2u.j0 k a0 false)) else (none)
theorem q2u.mono_l:∀ k,(∀ y0 y1,LeO (q2u.j0 k y0 y1) (q2u.j0 (k+1) y0 y1))
 | 0=>fun _ _ r h=>by simp [q2u.j0]at h
 | k+1=>by
  have aA:=q2u.mono_l k
  ·intro y0 y1;unfold q2u.j0;exact X60
theorem q2u.mono:∀ a0 a1 k,LeO (q2u.f k a0 a1) (q2u.f (k+1) a0 a1):=by
 intro a0 a1 k;have aA:=q2u.mono_l k;unfold q2u.f;exact X60
theorem q2u.calls (k:Nat) (a0:Int) (a1:Int) (r:q0b) (w:World) (h:q2u.f k a0 a1=some r) :
  Calls prog 99 #[iv a0,iv a1] w fun e w'=>e=.returned (.string r)∧Below w.heap.size w w':=by
 have HB:=am (q0r w.heap.size w);have H:=h;clear h;unfold q2u.f at H;by_cases c3:a1=10
 ·rw[if_pos c3]at H;have AB:=eT c3;have AC:=eF c3;clear c3;have aA:=am H;clear H;go_enter func99,ntmps99;go_upto_region 2 with (fail)
  go_cut [17] (fun aC wc=>∃ (kq:Nat) (aD:Bool),aC=.bool aD∧q0i (q2u.j0 kq a0 aD=some r)∧q0i (kq≤k)∧q0i (Below w.heap.size w wc))
  case first=>
   have H:=aA.out;clear aA;by_cases c5:0≤a0
   ·rw[if_pos c5]at H;have AA:=dT c5;clear c5;(first|rw[AA]|(simp only[q4g,q4q];rw[AA])|skip);have H':=am H;clear H;go_wp2
    go_meet
    case rel=>exact⟨_,(decide (a0<100)),X7,H',⟨X8⟩,⟨X6⟩⟩
   ·rw[if_neg c5]at H;have AA:=dF c5;clear c5;(first|rw[AA]|(simp only[q4g,q4q];rw[AA])|skip);have H':=am H;clear H;go_wp2
    go_meet
    case rel=>exact⟨_,(false),X7,H',⟨X8⟩,⟨X6⟩⟩
  case rest=>
   clear aA;(try clear p2 c3 AB AC c5 AA);obtain⟨kq,aD,rfl,HA,HJ3,HB⟩:=hcut;cases kq with
   | zero=>exact absurd HA.out (by simp [q2u.j0])
   | succ kj3=>
    have H:=HA.out;clear HA;simp only[q2u.j0]at H;by_cases c6:aD=true
    ·subst c6;replace H:=tP H;obtain⟨aE,A7,H⟩:=oA H;(try dsimp only at H);obtain rfl:=q0d H;go_wp2_with (first|((with_reducible refine gc 119 ?_);refine gCc (some 19) func119 (q5c.calls a0 aE _ A7.out) ?_;rintro w' ⟨nd,rfl⟩))
     go_ret
     exact⟨X11,X6⟩
    ·replace c6:=fI c6;subst c6;replace H:=tN H;exact absurd H (by simp)
 ·exact iN c3 H

def q4a.f (k:Nat) (a0:Int):Option (q0b):=(q2u.f k a0 10).bind fun aA=>(some aA)
theorem q4a.mono:∀ a0 k,LeO (q4a.f k a0) (q4a.f (k+1) a0):=by
 intro a0 k;unfold q4a.f;exact(by repeat' (with_reducible first|exact q2u.mono _ _ _|exact LeO.refl _|exact LeO.none _|refine LeO.ite ?_ ?_|refine LeO.bind ?_ (fun _=>?_)|apply q2u.mono))
theorem q4a.calls (k:Nat) (a0:Int) (r:q0b) (w:World) (h:q4a.f k a0=some r) :
  Calls prog 72 #[iv a0] w fun e w'=>e=.returned (.string r)∧Below w.heap.size w w':=by
 have HB:=am (q0r w.heap.size w);have H:=h;clear h;unfold q4a.f at H;obtain⟨aA,A2,H⟩:=oA H;(try dsimp only at H);obtain rfl:=q0d H;go_enter func72,ntmps72;go_wp2_with (first|((with_reducible refine gc 99 ?_);refine gCc (some 4) func99 (q2u.calls k a0 10 aA _ A2.out) ?_;rintro w3 hb;replace HB:=bS X6 hb;clear hb))
 go_ret
 exact⟨X11,X6⟩

def q2J.f (k:Nat) (a0:Int):Option (q0b):=(q4a.f k a0).bind fun aA=>(some aA)
theorem q2J.mono:∀ a0 k,LeO (q2J.f k a0) (q2J.f (k+1) a0):=by
 intro a0 k;unfold q2J.f;exact(by repeat' (with_reducible first|exact q4a.mono _ _|exact LeO.refl _|exact LeO.none _|refine LeO.ite ?_ ?_|refine LeO.bind ?_ (fun _=>?_)))
theorem q2J.calls (k:Nat) (a0:Int) (r:q0b) (w:World) (h:q2J.f k a0=some r) :
  Calls prog 35 #[iv a0] w fun e w'=>e=.returned (.string r)∧Below w.heap.size w w':=by
 have HB:=am (q0r w.heap.size w);have H:=h;clear h;unfold q2J.f at H;obtain⟨aA,A2,H⟩:=oA H;(try dsimp only at H);obtain rfl:=q0d H;go_enter func35,ntmps35;go_wp2_with (first|((with_reducible refine gc 72 ?_);refine gCc (some 4) func72 (q4a.calls k a0 aA _ A2.out) ?_;rintro w3 hb;replace HB:=bS X6 hb;clear hb))
 go_ret
 exact⟨X11,X6⟩

def q3M.nil (n:Int):Option (List q0b):=if 0≤n∧n≤1048576 then some [] else none
def Tryz.growRen:Go.Shelf.Ren:=⟨fun|4=>98|n=>n,fun|22=>43|25=>9|n=>n,fun|n=>n⟩
theorem Tryz.laysGrow:Lays8.n4 prog Tryz.growRen:={
 mixed:=by kernel_rfl
 f4 := ⟨"slices.Grow[[]string,string]", by decide, Tryz.func98.trans (congrArg some X4)⟩
 t0:=underlying0
 a0:=Tryz.isAgg0
 z0:=Tryz.sizeOf0
 v0:=Tryz.zeroValue0
 t3:=underlying3
 a3:=Tryz.isAgg3
 z3:=Tryz.sizeOf3
 v3:=Tryz.zeroValue3
 t4:=underlying4
 a4:=Tryz.isAgg4
 z4:=Tryz.sizeOf4
 v4:=Tryz.zeroValue4
 t9:=underlying9
 a9:=Tryz.isAgg9
 z9:=Tryz.sizeOf9
 v9:=Tryz.zeroValue9
 t20:=underlying20
 a20:=Tryz.isAgg20
 z20:=Tryz.sizeOf20
 v20:=Tryz.zeroValue20
 t22:=underlying43
 a22:=Tryz.isAgg43
 z22:=Tryz.sizeOf43
 v22:=Tryz.zeroValue43}
theorem q3M.nil_calls (n:Int) (r:List q0b) (h:q3M.nil n=some r) (w:World) :
  Calls prog 98 #[.slice none 0 0,iv n] w fun e w'=>∃ aA:Value,e=.returned aA∧Kd.R Kd.string 9 w' w.heap.size (fun _=>True) aA r∧Below w.heap.size w w':=by
 unfold q3M.nil at h;split at h
 ·rename_i hn
  obtain rfl:=q0d h;obtain⟨m,rfl⟩:=Int.eq_ofNat_of_zero_le hn.1;have hm:m≤1048576:=by omega
  by_cases h0:m=0
  ·subst h0;exact(Any8.slices_Grow_room Tryz.laysGrow none 0 0 0 w (q0f _) (by omega) (by omega) (by omega)).mono (fun e w' ⟨he,hw⟩=>⟨_,he,q3D _ _ _ _ _,hw ▸ q0r _ _⟩)
  ·obtain⟨i0,hi,aC,hz1,aD⟩:=info_parts q6v;refine(Any8.slices_Grow_grow Tryz.laysGrow i0 _ hi aC (by omega) none 0 0 m [] w (q0f _) (by omega) (by rw[aD];omega) (by omega) (by simp) (fun _=>rfl) (fun _ h=>by cases h)).mono ?_;rintro e w' ⟨rfl,rfl⟩;refine⟨_,rfl,Kd.R_of_own ?_ (fun _ _=>trivial),q2j (q5u (q0r _ _)) _⟩;refine⟨rfl,.inr ⟨w.heap.size,_,_,rfl,q0f _,heap_alloc_new _ _,q2W _,?_,?_,by simp;rfl⟩⟩
   ·exact grownCap_le_maxLen _ _ _ _ (by unfold maxLen;omega)
   ·have hge:=grownCap_ge w m 0 (Tryz.growRen.t 25);have e1:(Value.string ⟨#[]⟩).cells.size=1:=rfl;simp only[Nat.zero_add,Nat.sub_zero,Builtin.zeroCells,e1,Nat.mul_one,Array.size_append,List.size_toArray,List.length_nil];simp [e1]
    omega
 ·cases h
end Go.Proofs.YtmffocankommaaaGreatDoor.P
