/- Printed walks: what each function of the program computes. Condition: the Lean function gives a value. -/
import Derived.Test.YtmffocankommaaaDoorDYZed
import Derived.Test.YtmffocankommaaaDoorDx5
import Derived.Test.YtmffocankommaaaDoorDx6
import Derived.Test.YtmffocankommaaaDoorDx8
namespace Go.Proofs.YtmffocankommaaaDoor.J
open Go.RowKit Go.Proofs.YtmffocankommaaaDoorW.PrintWords Go.Proofs.YtmffocankommaaaDoorW.PrintLast Go.Proofs.YtmffocankommaaaDoorW.PrintMore Go.Proofs.YtmffocankommaaaDoorY Go.Proofs.YtmffocankommaaaDoorS Go.Proofs.YtmffocankommaaaDoorS _root_.Go.Proofs.Tryd
attribute [local go_sem] q1X q2F q2H q3c q3b q2u q2t q2E q2G
set_option linter.unusedVariables false
set_option maxHeartbeats 8000000
set_option maxRecDepth 100000
set_option linter.unusedSimpArgs false
mutual
def q0V.j0:Nat → Int → Bool → Int → q0a → Int → List (S25) → Option (Int)
 | 0,_,_,_,_,_,_=>none
 | k + 1,x1,aA,x414000,x414001,aC,aD=>if aA = true then (some 2) else (if aC < 0 then (some 6) else (if aC > 9 then (some 6) else (q0V.l0 k x1 aD (aD.length:Int) 0)))
def q0V.l0:Nat → Int → List (S25) → Int → Int → Option (Int)
 | 0,_,_,_,_=>none
 | k + 1,x1,aA,aC,aD=>if aD < aC then (if 0≤aD then (if aD < (aA.length:Int) then ((q0V.f k ((q0A aA aD).f0) ((q0A aA aD).f1) ((q0A aA aD).f2) ((q0A aA aD).f3) (wrap64 (x1 + 1))).bind fun aE=>(if aE = 0 then (q0V.l0 k x1 aA aC (wrap64 (aD + 1))) else (some aE))) else (none)) else (none)) else (some 0)
def q0V.f:Nat → Int → q0a → Int → List (S25) → Int → Option (Int)
 | 0,_,_,_,_,_=>none
 | k + 1,aA,aC,aD,aE,a1=>if a1 > 12 then (some 3) else ((q1x.f k aA aC aD aE).bind fun aG=>(if aG = true then ((q3R.f aA).bind fun aH=>(if aH = true then ((q1N.f k aC).bind fun aI=>(q0V.j0 k a1 (!aI) aA aC aD aE)) else (q0V.j0 k a1 false aA aC aD aE))) else (some 1)))
end
theorem q0V.mono_l:∀ k,(∀ y0 y1 y2 y3 y4,LeO (q0V.f k y0 y1 y2 y3 y4) (q0V.f (k + 1) y0 y1 y2 y3 y4))∧(∀ y0 y1 y2 y3 y4 y5,LeO (q0V.j0 k y0 y1 y2 y3 y4 y5) (q0V.j0 (k + 1) y0 y1 y2 y3 y4 y5))∧(∀ y0 y1 y2 y3,LeO (q0V.l0 k y0 y1 y2 y3) (q0V.l0 (k + 1) y0 y1 y2 y3))
 | 0=>⟨fun _ _ _ _ _ r h=>by simp [q0V.f] at h,fun _ _ _ _ _ _ r h=>by simp [q0V.j0] at h,fun _ _ _ _ r h=>by simp [q0V.l0] at h⟩
 | k + 1=>by
  obtain ⟨aA,aC,aD⟩:=q0V.mono_l k;refine ⟨?_,?_,?_⟩
  ·intro y0 y1 y2 y3 y4;unfold q0V.f;exact X246
  ·intro y0 y1 y2 y3 y4 y5;unfold q0V.j0;exact X246
  ·intro y0 y1 y2 y3;unfold q0V.l0;exact X246
theorem q0V.mono:∀ a0 a1 a2 a3 a4 k,LeO (q0V.f k a0 a1 a2 a3 a4) (q0V.f (k + 1) a0 a1 a2 a3 a4):=by
 intro a0 a1 a2 a3 a4 k;obtain ⟨aA,ih1,ih2⟩:=q0V.mono_l k;exact aA a0 a1 a2 a3 a4
theorem q0V.calls (k:Nat):∀ (aA:Int) (aC:q0a) (aD:Int) (aE:Option Addr) (aG:Nat) (aH:List (S25)) (a1:Int) (r:Int) (w:World) (aI:Kd.C k25 w aE aH.length aH) (aJ:aH.length≤aG) (h:q0V.f k aA aC aD aH a1 = some r),
  Calls prog 83 #[.agg #[iv aA,.string aC,iv aD,sl aE aH aG],iv a1] w fun e w'=>e = .returned (iv r)∧Below w.heap.size w w':=by
 induction k using Nat.strongRecOn with
 | _ k ih=>
 intro aA aC aD aE aG aH a1 r w aI aJ h;cases k with
 | zero=>exact absurd h (by simp [q0V.f])
 | succ k=>
 simp only [q0V.f] at h;have hu25:=underlying25;have aK:=am aI;have aM:=am aJ;clear aI aJ;have HB:=am (q0i w.heap.size w);have H:(if a1 > 12 then (some 3) else ((q1x.f k aA aC aD aH).bind fun aQ=>(if aQ = true then ((q3R.f aA).bind fun aT=>(if aT = true then ((q1N.f k aC).bind fun aU=>(q0V.j0 k a1 (!aU) aA aC aD aH)) else (q0V.j0 k a1 false aA aC aD aH))) else (some 1)))) = some r:=h;clear h;by_cases c3:a1 > 12
 ·rw [if_pos c3] at H;have c3b0:decide (12 < a1) = true:=q0w c3;clear c3;obtain rfl:=q0d H;go_enter func83,ntmps83;go_wp2_with (first|((with_reducible refine gd 2 ?_);refine be 2 #[iv aA,.string aC,iv aD,sl aE aH aG] 25 ?_;intro aW hg w4 hbox hb;have aX:=am (hbox);have aY:=sG (w:=w) hg X6;have aZ:=sG (w:=w) hg X6;replace HB:=bS X6 hb;clear hb hbox hg))
  go_ret
  exact ⟨X11,(X10 HB aZ)⟩
 ·rw [if_neg c3] at H;have c3b0:decide (12 < a1) = false:=q0S c3;clear c3;obtain ⟨aQ,A5,H⟩:=oA H;(try dsimp only at H);by_cases c6:aQ = true
  ·subst c6;replace H:=tP H;have bB:=am H;clear H;go_enter func83,ntmps83;go_upto_region 5 with (first|((with_reducible refine gd 2 ?_);refine be 2 #[iv aA,.string aC,iv aD,sl aE aH aG] 25 ?_;intro aW hg w8 hbox hb;have aX:=am (hbox);have aY:=sG (w:=w) hg X6;have aZ:=sG (w:=w) hg X6;replace HB:=bS X6 hb;clear hb hbox hg;have Z9:=bc4 aX)|((with_reducible refine gc 115 ?_);refine gL (some 13) func115 #[.agg #[iv aA,.string aC,iv aD,sl aE aH aG]] ?_;(with_reducible refine (q1x.calls k aA aC aD _ _ aH true _ ?side1 ?side2 A5.out).mono ?_);(case side1=>exact (X15 aK HB));(case side2=>exact aM.out);rintro e w10 ⟨rfl,hb⟩;refine ⟨_,rfl,?_⟩;replace aX:=kB aX hb;replace HB:=bS (X10 HB aZ) hb;clear hb))
   (try simp only [Act.put,List.setIfInBounds_toArray,List.set_cons_zero,List.set_cons_succ]);go_cut [15] (fun bC wc=>∃ (kq:Nat) (bD:Bool),bC = .bool bD∧q0j (q0V.j0 kq a1 bD aA aC aD aH = some r)∧q0j (kq≤k)∧q0j (wc.heap[aW]? = some (.cells #[iv aA,.string aC,iv aD,(sl aE aH aG)] 25 (0,0)))∧q0j (Below w.heap.size w wc))
   case first=>
    have H:=bB.out;clear bB;obtain ⟨aT,bF,H⟩:=oA H;(try dsimp only at H);by_cases bG:aT = true
    ·subst bG;replace H:=tP H;obtain ⟨aU,bI,H⟩:=oA H;(try dsimp only at H);have H':=am H;clear H;have bJ:=bc4 aX;go_wp2_with (first|((with_reducible refine gc 106 ?_);refine gL (some 18) func106 #[iv aA] ?_;(with_reducible refine (q3R.calls aA true _ bF.out).mono ?_);rintro e w' ⟨rfl,⟨nd,rfl⟩⟩;refine ⟨_,rfl,?_⟩)|(go_at_call 59;(with_reducible refine (q1N.calls k aC aU _ bI.out).mono ?_);rintro e w' ⟨rfl,⟨nd,rfl⟩⟩))
     go_meet
     case rel=>exact ⟨_,(!aU),X7,H',⟨X8⟩,⟨(X9 aX)⟩,⟨(X10 HB aZ)⟩⟩
    ·replace bG:=fI bG;subst bG;replace H:=tN H;have H':=am H;clear H;have bK:=bc4 aX;go_wp2_with (first|((with_reducible refine gc 106 ?_);refine gL (some 18) func106 #[iv aA] ?_;(with_reducible refine (q3R.calls aA false _ bF.out).mono ?_);rintro e w' ⟨rfl,⟨nd,rfl⟩⟩;refine ⟨_,rfl,?_⟩))
     go_meet
     case rel=>exact ⟨_,(false),X7,H',⟨X8⟩,⟨(X9 aX)⟩,⟨(X10 HB aZ)⟩⟩
   case rest=>
    clear bB;(try clear c1 p2 c3 c3b0 c6 c8 c10 bL bG bJ bK Z9);obtain ⟨kq,bD,rfl,HA,bM,aX,HB⟩:=hcut;cases kq with
    | zero=>exact absurd HA.out (by simp [q0V.j0])
    | succ bN=>
     have H:=HA.out;clear HA;simp only [q0V.j0] at H;by_cases bO:bD = true
     ·subst bO;replace H:=tP H;obtain rfl:=q0d H;go_wp2
      go_ret
      exact ⟨X11,(X10 HB aZ)⟩
     ·replace bO:=fI bO;subst bO;replace H:=tN H;by_cases bP:aD < 0
      ·rw [if_pos bP] at H;have c17b0:=dT bP;clear bP;obtain rfl:=q0d H;have bQ:=bc4 aX;go_wp2
       go_ret
       exact ⟨X11,(X10 HB aZ)⟩
      ·rw [if_neg bP] at H;have c17b0:=dF bP;clear bP;by_cases bR:aD > 9
       ·rw [if_pos bR] at H;have c19b0:decide (9 < aD) = true:=q0w bR;clear bR;obtain rfl:=q0d H;have bT:=bc4 aX;go_wp2
        go_ret
        exact ⟨X11,(X10 HB aZ)⟩
       ·rw [if_neg bR] at H;have c19b0:decide (9 < aD) = false:=q0S bR;clear bR;have H':=am H;clear H;have bU:=bc4 aX;go_wp2
        go_loopg [37] bN (fun kq bV w'=>∃ (bW:Int),bV = iv bW∧q0j (q0V.l0 kq a1 aH (aH.length:Int) bW = some r)∧q0j (kq≤bN)∧q0j (w'.heap[aW]? = some (.cells #[iv aA,.string aC,iv aD,(sl aE aH aG)] 25 (0,0)))∧q0j (Below w.heap.size w w'))
        case atStart=>exact ⟨(0),X7,H',⟨q0f _⟩,⟨(X9 aX)⟩,⟨(X10 HB aZ)⟩⟩
        case round=>
         clear H';(try clear c1);(try clear p2 p2);(try clear c3 c3b0 c6 c8 c10 bL bG bO bP c17b0 bR c19b0 bJ bK bQ bT bU Z9);obtain ⟨bW,rfl,HA,bX,aX,HB⟩:=hrel;cases gk with
         | zero=>exact absurd HA.out (by simp [q0V.l0])
         | succ k2=>
          have H:=HA.out;clear HA;simp only [q0V.l0] at H;by_cases bY:bW < (aH.length:Int)
          ·rw [if_pos bY] at H;have c22b0:=dT bY;clear bY;by_cases bZ:0≤bW
           ·rw [if_pos bZ] at H;have c23b0:=dT bZ;clear bZ;by_cases cA:bW < (aH.length:Int)
            ·rw [if_pos cA] at H;have c24b0:=dT cA;clear cA;obtain ⟨cC,cE,H⟩:=oA H;(try dsimp only at H);by_cases cF:cC = 0
             ·rw [if_pos cF] at H;have c26b0:=eT cF;have c26b1:=eF cF;clear cF;have H':=am H;clear H;have cG:0≤(bW:Int):=q0b X12;have cH:bW < (aH.length:Int):=q0b X12;obtain ⟨cI,cJ,cK,e417,cL,cM,cN,cO,cP,cQ⟩:=q4w aK.out bW cG cH;cases e417;replace cL:=cB HB cL;replace cM:=cB HB cM;replace cN:=cB HB cN;replace cO:=cB HB cO;have cR:=am cQ;have cS:=am cP;clear cQ cP;replace cG:=q0c cG;replace cH:=q0c cH;go_wp2_with (first|((with_reducible refine gd 6 ?_);refine be 6 #[iv 0,.string (⟨#[]⟩:q0a),iv 0,.slice none 0 0] 25 ?_;intro cT hg w27 hbox hb;have cU:=am (hbox);have cV:=sG (w:=w) hg (X10 HB aZ);have cX:=sG (w:=w) hg (X10 HB aZ);replace HB:=bS (X10 HB aZ) hb;have cY:=nLT hg aX;have cZ:=nGT hg aX;replace aX:=kB aX hb;clear hb hbox hg;have hnb28:=cZ.out;have hnc28:=cY.out;have Z29:=bc4 cU)|((with_reducible refine gc 83 ?_);refine gL (some 44) func83 #[.agg #[iv ((q0A aH bW).f0),.string ((q0A aH bW).f1),iv ((q0A aH bW).f2),sl cJ ((q0A aH bW).f3) cK],iv (wrap64 (a1 + 1))] ?_;(with_reducible refine (ih k2 (by have:=bM.out;have:=bX.out;omega) ((q0A aH bW).f0) ((q0A aH bW).f1) ((q0A aH bW).f2) _ _ ((q0A aH bW).f3) (wrap64 (a1 + 1)) cC _ ?side1 ?side2 cE.out).mono ?_);(case side1=>exact q0r cR.out (X13 HB aZ cX));(case side2=>exact cS.out);rintro e w30 ⟨rfl,hb⟩;refine ⟨_,rfl,?_⟩;replace aX:=kBg1 aX cY hb;replace cU:=kBg0 cU hb;replace HB:=bS (X13 HB aZ cX) hb;clear hb))
              go_roundg k2
              case measure=>have:=bM.out;have:=bX.out;omega
              case rel=>exact ⟨(wrap64 (bW + 1)),X7,H',⟨by have:=bM.out;have:=bX.out;omega⟩,⟨(X9 aX)⟩,⟨(X13 HB aZ cX)⟩⟩
             ·rw [if_neg cF] at H;have c26b0:=nF cF;have c26b1:=nT cF;obtain rfl:=q0d H;have cG:0≤(bW:Int):=q0b X12;have cH:bW < (aH.length:Int):=q0b X12;obtain ⟨cI,cJ,cK,e417,cL,cM,cN,cO,cP,cQ⟩:=q4w aK.out bW cG cH;cases e417;replace cL:=cB HB cL;replace cM:=cB HB cM;replace cN:=cB HB cN;replace cO:=cB HB cO;have cR:=am cQ;have cS:=am cP;clear cQ cP;replace cG:=q0c cG;replace cH:=q0c cH;go_wp2_with (first|((with_reducible refine gd 6 ?_);refine be 6 #[iv 0,.string (⟨#[]⟩:q0a),iv 0,.slice none 0 0] 25 ?_;intro cT hg w31 hbox hb;have cU:=am (hbox);have cV:=sG (w:=w) hg (X10 HB aZ);have cX:=sG (w:=w) hg (X10 HB aZ);replace HB:=bS (X10 HB aZ) hb;have cY:=nLT hg aX;have cZ:=nGT hg aX;replace aX:=kB aX hb;clear hb hbox hg;have hnb32:=cZ.out;have hnc32:=cY.out;have Z33:=bc4 cU)|((with_reducible refine gc 83 ?_);refine gL (some 44) func83 #[.agg #[iv ((q0A aH bW).f0),.string ((q0A aH bW).f1),iv ((q0A aH bW).f2),sl cJ ((q0A aH bW).f3) cK],iv (wrap64 (a1 + 1))] ?_;(with_reducible refine (ih k2 (by have:=bM.out;have:=bX.out;omega) ((q0A aH bW).f0) ((q0A aH bW).f1) ((q0A aH bW).f2) _ _ ((q0A aH bW).f3) (wrap64 (a1 + 1)) cC _ ?side1 ?side2 cE.out).mono ?_);(case side1=>exact q0r cR.out (X13 HB aZ cX));(case side2=>exact cS.out);rintro e w34 ⟨rfl,hb⟩;refine ⟨_,rfl,?_⟩;replace aX:=kBg1 aX cY hb;replace cU:=kBg0 cU hb;replace HB:=bS (X13 HB aZ cX) hb;clear hb))
              go_ret
              exact ⟨X11,(X13 HB aZ cX)⟩
            ·exact iN cA H
           ·exact iN bZ H
          ·rw [if_neg bY] at H;have c22b0:=dF bY;clear bY;obtain rfl:=q0d H;go_wp2
           go_ret
           exact ⟨X11,(X10 HB aZ)⟩
  ·replace c6:=fI c6;subst c6;replace H:=tN H;obtain rfl:=q0d H;go_enter func83,ntmps83;go_wp2_with (first|((with_reducible refine gd 2 ?_);refine be 2 #[iv aA,.string aC,iv aD,sl aE aH aG] 25 ?_;intro aW hg w35 hbox hb;have aX:=am (hbox);have aY:=sG (w:=w) hg X6;have aZ:=sG (w:=w) hg X6;replace HB:=bS X6 hb;clear hb hbox hg;have Z36:=bc4 aX)|((with_reducible refine gc 115 ?_);refine gL (some 13) func115 #[.agg #[iv aA,.string aC,iv aD,sl aE aH aG]] ?_;(with_reducible refine (q1x.calls k aA aC aD _ _ aH false _ ?side1 ?side2 A5.out).mono ?_);(case side1=>exact (X15 aK HB));(case side2=>exact aM.out);rintro e w37 ⟨rfl,hb⟩;refine ⟨_,rfl,?_⟩;replace aX:=kB aX hb;replace HB:=bS (X10 HB aZ) hb;clear hb))
   go_ret
   exact ⟨X11,(X10 HB aZ)⟩

def q2V.f (k:Nat) (aA:Int) (aC:q0a) (aD:Int) (aE:List (S25)):Option (Int):=(q0V.f k aA aC aD aE 1).bind fun aG=>(if aG = 0 then ((q1M.f k aA aC aD aE).bind fun aH=>(if aH > 200 then (some 3) else (some 0))) else (some aG))
theorem q2V.mono:∀ a0 a1 a2 a3 k,LeO (q2V.f k a0 a1 a2 a3) (q2V.f (k + 1) a0 a1 a2 a3):=by
 intro a0 a1 a2 a3 k;unfold q2V.f;exact (by repeat' (with_reducible first | apply q1M.mono | apply q0V.mono | exact LeO.refl _ | exact LeO.none _ | refine LeO.ite ?_ ?_ | refine LeO.bind ?_ (fun _=>?_)))
theorem q2V.calls (k:Nat) (aA:Int) (aC:q0a) (aD:Int) (aE:Option Addr) (aG:Nat) (aH:List (S25)) (r:Int) (w:World) (aI:Kd.C k25 w aE aH.length aH) (aJ:aH.length≤aG) (h:q2V.f k aA aC aD aH = some r) :
  Calls prog 35 #[.agg #[iv aA,.string aC,iv aD,sl aE aH aG]] w fun e w'=>e = .returned (iv r)∧Below w.heap.size w w':=by
 have hu25:=underlying25;have aK:=am aI;have aM:=am aJ;clear aI aJ;have HB:=am (q0i w.heap.size w);have H:=h;clear h;unfold q2V.f at H;obtain ⟨aQ,A2,H⟩:=oA H;(try dsimp only at H);by_cases c3:aQ = 0
 ·rw [if_pos c3] at H;have c3b0:=eT c3;have c3b1:=eF c3;clear c3;obtain ⟨aU,A4,H⟩:=oA H;(try dsimp only at H);by_cases c5:aU > 200
  ·rw [if_pos c5] at H;have c5b0:decide (200 < aU) = true:=q0w c5;clear c5;obtain rfl:=q0d H;go_enter func35,ntmps35;go_wp2_with (first|((with_reducible refine gd 1 ?_);refine be 1 #[iv aA,.string aC,iv aD,sl aE aH aG] 25 ?_;intro aX hg w6 hbox hb;have aY:=am (hbox);have aZ:=sG (w:=w) hg X6;have bA:=sG (w:=w) hg X6;replace HB:=bS X6 hb;clear hb hbox hg;have Z7:=bc4 aY)|((with_reducible refine gc 83 ?_);refine gL (some 5) func83 #[.agg #[iv aA,.string aC,iv aD,sl aE aH aG],iv 1] ?_;(with_reducible refine (q0V.calls k aA aC aD _ _ aH 1 aQ _ ?side1 ?side2 A2.out).mono ?_);(case side1=>exact (X15 aK HB));(case side2=>exact aM.out);rintro e w8 ⟨rfl,hb⟩;refine ⟨_,rfl,?_⟩;replace aY:=kB aY hb;replace HB:=bS (X10 HB bA) hb;clear hb;have Z9:=bc4 aY)|((with_reducible refine gc 30 ?_);refine gL (some 10) func30 #[.agg #[iv aA,.string aC,iv aD,sl aE aH aG]] ?_;(with_reducible refine (q1M.calls k aA aC aD _ _ aH aU _ ?side1 ?side2 A4.out).mono ?_);(case side1=>exact (X15 aK HB));(case side2=>exact aM.out);rintro e w10 ⟨rfl,hb⟩;refine ⟨_,rfl,?_⟩;replace aY:=kB aY hb;replace HB:=bS (X10 HB bA) hb;clear hb))
   go_ret
   exact ⟨X11,(X10 HB bA)⟩
  ·rw [if_neg c5] at H;have c5b0:decide (200 < aU) = false:=q0S c5;clear c5;obtain rfl:=q0d H;go_enter func35,ntmps35;go_wp2_with (first|((with_reducible refine gd 1 ?_);refine be 1 #[iv aA,.string aC,iv aD,sl aE aH aG] 25 ?_;intro aX hg w11 hbox hb;have aY:=am (hbox);have aZ:=sG (w:=w) hg X6;have bA:=sG (w:=w) hg X6;replace HB:=bS X6 hb;clear hb hbox hg;have Z12:=bc4 aY)|((with_reducible refine gc 83 ?_);refine gL (some 5) func83 #[.agg #[iv aA,.string aC,iv aD,sl aE aH aG],iv 1] ?_;(with_reducible refine (q0V.calls k aA aC aD _ _ aH 1 aQ _ ?side1 ?side2 A2.out).mono ?_);(case side1=>exact (X15 aK HB));(case side2=>exact aM.out);rintro e w13 ⟨rfl,hb⟩;refine ⟨_,rfl,?_⟩;replace aY:=kB aY hb;replace HB:=bS (X10 HB bA) hb;clear hb;have Z14:=bc4 aY)|((with_reducible refine gc 30 ?_);refine gL (some 10) func30 #[.agg #[iv aA,.string aC,iv aD,sl aE aH aG]] ?_;(with_reducible refine (q1M.calls k aA aC aD _ _ aH aU _ ?side1 ?side2 A4.out).mono ?_);(case side1=>exact (X15 aK HB));(case side2=>exact aM.out);rintro e w15 ⟨rfl,hb⟩;refine ⟨_,rfl,?_⟩;replace aY:=kB aY hb;replace HB:=bS (X10 HB bA) hb;clear hb))
   go_ret
   exact ⟨X11,(X10 HB bA)⟩
 ·rw [if_neg c3] at H;have c3b0:=nF c3;have c3b1:=nT c3;obtain rfl:=q0d H;go_enter func35,ntmps35;go_wp2_with (first|((with_reducible refine gd 1 ?_);refine be 1 #[iv aA,.string aC,iv aD,sl aE aH aG] 25 ?_;intro aX hg w16 hbox hb;have aY:=am (hbox);have aZ:=sG (w:=w) hg X6;have bA:=sG (w:=w) hg X6;replace HB:=bS X6 hb;clear hb hbox hg;have Z17:=bc4 aY)|((with_reducible refine gc 83 ?_);refine gL (some 5) func83 #[.agg #[iv aA,.string aC,iv aD,sl aE aH aG],iv 1] ?_;(with_reducible refine (q0V.calls k aA aC aD _ _ aH 1 aQ _ ?side1 ?side2 A2.out).mono ?_);(case side1=>exact (X15 aK HB));(case side2=>exact aM.out);rintro e w18 ⟨rfl,hb⟩;refine ⟨_,rfl,?_⟩;replace aY:=kB aY hb;replace HB:=bS (X10 HB bA) hb;clear hb))
  go_ret
  exact ⟨X11,(X10 HB bA)⟩

def q3q.f (k:Nat) (a0:q0a):Option (Int × q0a × Int × (List S25) × Int):=(q1g.f k a0).bind fun t=>if t.2.2 = 0 then (q0g.f k t.1 0 false).bind fun s=>if s.2.2.2.2.2 = true then none else if s.2.2.2.2.1 < (t.1.length:Int) then none else (q2V.f k s.1 s.2.1 s.2.2.1 s.2.2.2.1).bind fun b=>if b = 0 then some (s.1,s.2.1,s.2.2.1,s.2.2.2.1,0) else none
 else none
theorem q3q.mono:∀ a0 k,LeO (q3q.f k a0) (q3q.f (k + 1) a0):=by
 intro a0 k;unfold q3q.f;exact (by repeat' (with_reducible first | exact q1g.mono _ _ | apply q0g.mono | apply q2V.mono | exact LeO.refl _ | refine LeO.ite ?_ ?_ | refine LeO.bind ?_ (fun _=>?_)))
theorem q3q.calls (k:Nat) (a0:q0a) (r1:Int) (r2:q0a) (r3:Int) (r4:List S25) (r5:Int) (w:World) (h:q3q.f k a0 = some (r1,r2,r3,r4,r5)) :
  Calls prog 10 #[.string a0] w fun e w'=>∃ aA:Value,e = .returned (.tuple #[.agg #[iv r1,.string r2,iv r3,aA],iv r5])∧Kd.V k25 25 w' w.heap.size (fun k_=>w.heap.size≤k_) aA r4∧Below w.heap.size w w':=by
 have hu25:=underlying25;have hu70:=underlying70;have HB:=am (q0i w.heap.size w);unfold q3q.f at h;obtain ⟨⟨l,ln,er⟩,aC,h⟩:=Option.bind_eq_some_iff.mp h;have A2:=am aC;clear aC;simp only at h
 by_cases c1:er = 0
 ·subst c1;rw [if_pos rfl] at h;obtain ⟨⟨s1,s2,s3,s4,s5,s6⟩,aD,h⟩:=Option.bind_eq_some_iff.mp h;have A3:=am aD;clear aD;(try simp only at h);cases s6 with
  | true=>
   rw [if_pos rfl] at h;cases h
  | false=>
   rw [if_neg (by decide)] at h;by_cases c2:s5 < (l.length:Int)
   ·rw [if_pos c2] at h;have c2b:=q0w c2;cases h
   ·rw [if_neg c2] at h;have c2b:=q0S c2;obtain ⟨b,aE,h⟩:=Option.bind_eq_some_iff.mp h;have A4:=am aE;clear aE;(try simp only at h);by_cases c3:b = 0
    ·subst c3;rw [if_pos rfl] at h;simp only [Option.some.injEq,Prod.mk.injEq] at h;obtain ⟨rfl,rfl,rfl,rfl,rfl⟩:=h;go_enter func10,ntmps10;go_wp2_with (first|((with_reducible refine gd 2 ?_);(try (refine q1l (by rfl) ?_;dsimp only));refine be 2 #[iv 0,.string (⟨#[]⟩:q0a),iv 0,.slice none 0 0] 25 ?_;intro aG hg w1 hbox hb;have aH:=am (hbox);have aI:=am ((X50:w.heap.size≤aG));replace HB:=bS X6 hb;clear hb hbox hg)|((with_reducible refine gc 33 ?_);refine gL (some 12) func33 #[.string a0] ?_;(with_reducible refine (q1g.calls k a0 l ln _ _ A2.out).mono ?_);rintro e w2 ⟨vt,rfl,ho_,hb⟩;refine ⟨_,rfl,?_⟩;replace HB:=bS (X10 HB aI) hb;replace aH:=kBg0 aH hb;clear hb;obtain ⟨At,ct,et⟩:=q0I ho_;subst et;have HT:=am (q0Y ho_).2.2;clear ho_)|((with_reducible refine gd 22 ?_);(try (refine q1l (by rfl) ?_;dsimp only));refine be 22 #[sl At l ct,iv 0,.bool false] 70 ?_;intro gp hg w3 hbox hb;have hst_:∃ aJ:World,q0K aJ w3 gp l 0 false∧Below aJ.heap.size aJ w3:=⟨_,⟨_,_,hbox,q1d hg.symm,X53⟩,hb⟩;obtain ⟨w0,hi_,hs_⟩:=hst_;have HI:=am (hi_);have HS:=am (hs_);have GWp:=am ((by rw [hg];exact ((X10 HB aI):Below w.heap.size w _).size:w.heap.size≤gp));replace HB:=bS (X10 HB aI) hb;have NB2_p:=am ((by rw [hg];exact q1p (q3V (show (_:World).heap[aG]? = some (.cells #[iv 0,.string (⟨#[]⟩:q0a),iv 0,.slice none 0 0] 25 (0,0)) from (X9 aH))):aG≠gp));have aK:=am ((by rw [hg];exact q1D (q3V (show (_:World).heap[aG]? = some (.cells #[iv 0,.string (⟨#[]⟩:q0a),iv 0,.slice none 0 0] 25 (0,0)) from (X9 aH))):gp≠aG));replace aH:=kBg0 aH hb;clear hb hbox hg hi_ hs_)|((with_reducible refine gc 34 ?_);refine gL (some 24) func34 #[.pointer (some ⟨gp,0,none⟩)] ?_;(with_reducible refine (q0g.calls k gp l 0 false s1 s2 s3 s4 s5 _ w0 _ ?side1 ?side2 A3.out).mono ?_);(case side1=>exact (X24 HI aK));(case side2=>exact X58);rintro e w4 ⟨vs,rfl,ho_,hi_,hs_,hk_⟩;refine ⟨_,rfl,?_⟩;have HVs:=am (q0v ho_ (ok':=fun k_=>w.heap.size≤k_∧k_≠aG∧k_≠gp) (fun k_ h_=>⟨q0k ((X13 HB aI GWp):Below w.heap.size w _).size h_,q1D (q1A (q3V (show (_:World).heap[aG]? = some (.cells #[iv 0,.string (⟨#[]⟩:q0a),iv 0,.slice none 0 0] 25 (0,0)) from (X55 NB2_p aH))) h_),q1D (q1A (q0K.lt (X24 HI aK)) h_)⟩));replace HB:=am (q4S (X13 HB aI GWp) X58 hs_ hk_ GWp.out);replace HI:=am (hi_);replace HS:=am (hs_);replace aH:=kKg1 aH NB2_p hk_ NB2_p;clear hi_ hs_ hk_ ho_;obtain ⟨Avs,cvs,evs⟩:=q2a HVs.out;subst evs)|((with_reducible refine gd 8 ?_);(try (refine q1l (by rfl) ?_;dsimp only));refine be 8 #[iv 0,.string (⟨#[]⟩:q0a),iv 0,.slice none 0 0] 25 ?_;intro aM hg w5 hbox hb;have aQ:=am (hbox);have aT:=am ((by rw [hg];exact ((X13 HB aI GWp):Below w.heap.size w _).size:w.heap.size≤aM));replace HB:=bS (X13 HB aI GWp) hb;have aU:=am ((by rw [hg];exact q1p (q3V (show (_:World).heap[aG]? = some (.cells #[iv 0,.string (⟨#[]⟩:q0a),iv 0,.slice none 0 0] 25 (0,0)) from (X55 NB2_p aH))):aG≠aM));have aW:=am ((by rw [hg];exact q1D (q3V (show (_:World).heap[aG]? = some (.cells #[iv 0,.string (⟨#[]⟩:q0a),iv 0,.slice none 0 0] 25 (0,0)) from (X55 NB2_p aH))):aM≠aG));replace aH:=kBg1 aH NB2_p hb;have aX:=am ((by rw [hg];exact q1p (q0K.lt (X24 HI aK)):gp≠aM));have NB8_p:=am ((by rw [hg];exact q1D (q0K.lt (X24 HI aK)):aM≠gp));have aY:=am ((X57:w0.heap.size≤aM));replace HS:=bS X58 hb;replace HI:=am (q0K.below (X24 HI aK) hb);replace HVs:=am (q0v (q1s (Kd.V_bound (show Kd.V k25 25 _ w.heap.size (fun k_=>w.heap.size≤k_∧k_≠aG∧k_≠gp) (.slice Avs _ cvs) s4 from by repeat (first|(with_reducible first | exact HVs.out | apply Kd.V_alloc | apply Kd.V_drewN | apply Kd.V_drew | refine Kd.V_far (p:=⟨aG,_,none⟩) ?_ (fun k_ hk_=>hk_.2.1) _ | refine Kd.V_far (p:=⟨gbp,_,none⟩) ?_ (fun k_ hk_=>hk_.2.2) _) | exact HVs.out))) hb) (ok':=fun k_=>w.heap.size≤k_∧k_≠aG∧k_≠gp∧k_≠aM) (fun k_ hk_=>⟨hk_.1.1,hk_.1.2.1,hk_.1.2.2,(by rw [hg];exact q1p hk_.2)⟩));clear hb hbox hg;obtain ⟨Z6_2_0,Y6_2_0⟩:=b4_0 aH;obtain ⟨Z6_2_1,Y6_2_1⟩:=b4_1 aH;obtain ⟨Z6_2_2,Y6_2_2⟩:=b4_2 aH;obtain ⟨Z6_2_3,Y6_2_3⟩:=b4_3 aH;obtain ⟨Z6_8_0,Y6_8_0⟩:=b4_0 aQ;obtain ⟨Z6_8_1,Y6_8_1⟩:=b4_1 aQ;obtain ⟨Z6_8_2,Y6_8_2⟩:=b4_2 aQ;obtain ⟨Z6_8_3,Y6_8_3⟩:=b4_3 aQ;obtain ⟨AS6,cS6,aZ,bA,bB⟩:=HI.out;have hcs6_0:=q2K aZ;have hcs6_1:=q2L aZ;have hcs6_2:=q2J aZ;have hfs6_1:=q0B aZ 1;have hfs6_2:=q0B aZ 2;clear aZ bA bB;have hne6_2:=aK.out;have hnf6_2:=NB2_p.out;have hne6_8:=aX.out;have hnf6_8:=NB8_p.out;have hnn6_2_8:=aU.out;have hnn6_8_2:=aW.out)|((with_reducible refine gc 35 ?_);refine gL (some 40) func35 #[.agg #[iv s1,.string s2,iv s3,sl Avs s4 cvs]] ?_;(with_reducible refine (q2V.calls k s1 s2 s3 _ _ s4 _ _ ?side1 ?side2 A4.out).mono ?_);(case side1=>exact (q0y (show Kd.V k25 25 _ w.heap.size (fun k_=>w.heap.size≤k_∧k_≠aG∧k_≠gp∧k_≠aM) (.slice Avs _ cvs) s4 from X254)).2.2);(case side2=>exact (Kd.V_at HVs.out).2.1);rintro e w7 ⟨rfl,hb⟩;refine ⟨_,rfl,?_⟩;replace HB:=bS (X62 HB aI aT GWp) hb;replace HS:=bS (by repeat (first|(with_reducible first | exact HS.out | apply q2o | apply q0m | apply q0l | refine q1G ?_ (q0K.ge HI.out) | refine q1G ?_ aY.out) | exact HS.out)) hb;replace HI:=am (q0K.below (by repeat (first|(with_reducible first | exact HI.out | apply q0K.alloc | apply q0K.drewN | apply q0K.drew | apply q0K.set_1 | apply q0K.set_2 | apply q0K.farB aK.out | apply q0K.farB aX.out) | exact HI.out)) hb);replace aH:=kBg2 aH aU NB2_p hb;replace aQ:=kBg2 aQ aW NB8_p hb;replace HVs:=am (q1s (show Kd.V k25 25 _ w.heap.size (fun k_=>w.heap.size≤k_∧k_≠aG∧k_≠gp∧k_≠aM) (.slice Avs _ cvs) s4 from X254) hb);clear hb;obtain ⟨Z8_2_0,Y8_2_0⟩:=b4_0 aH;obtain ⟨Z8_2_1,Y8_2_1⟩:=b4_1 aH;obtain ⟨Z8_2_2,Y8_2_2⟩:=b4_2 aH;obtain ⟨Z8_2_3,Y8_2_3⟩:=b4_3 aH;obtain ⟨Z8_8_0,Y8_8_0⟩:=b4_0 aQ;obtain ⟨Z8_8_1,Y8_8_1⟩:=b4_1 aQ;obtain ⟨Z8_8_2,Y8_8_2⟩:=b4_2 aQ;obtain ⟨Z8_8_3,Y8_8_3⟩:=b4_3 aQ;obtain ⟨AS8,cS8,bC,bD,bE⟩:=HI.out;have hcs8_0:=q2K bC;have hcs8_1:=q2L bC;have hcs8_2:=q2J bC;have hfs8_1:=q0B bC 1;have hfs8_2:=q0B bC 2;clear bC bD bE;have hne8_2:=aK.out;have hnf8_2:=NB2_p.out;have hne8_8:=aX.out;have hnf8_8:=NB8_p.out;have hnn8_2_8:=aU.out;have hnn8_8_2:=aW.out))
     refine bodyPost_ret (q3X rfl _ _ aG 25 #[iv s1,.string s2,iv s3,sl Avs s4 cvs] (0,0) _ rfl (show (_:World).heap[aG]? = some (.cells #[iv s1,.string s2,iv s3,sl Avs s4 cvs] 25 (0,0)) from by (with_reducible repeat (first | refine q1f ?_ _ | refine q1b ?_ | refine q0N ?_ _ | refine q2B ?_ aU.out _ | refine q2B ?_ NB2_p.out _));refine q2x (cs:=#[iv s1,.string s2,iv s3,.slice none 0 0]) ?_ 3 _ rfl;(with_reducible repeat (first | refine q1f ?_ _ | refine q1b ?_ | refine q0N ?_ _ | refine q2B ?_ aU.out _ | refine q2B ?_ NB2_p.out _));refine q2x (cs:=#[iv s1,.string s2,iv 0,.slice none 0 0]) ?_ 2 _ rfl;(with_reducible repeat (first | refine q1f ?_ _ | refine q1b ?_ | refine q0N ?_ _ | refine q2B ?_ aU.out _ | refine q2B ?_ NB2_p.out _));refine q2x (cs:=#[iv s1,.string (⟨#[]⟩:q0a),iv 0,.slice none 0 0]) ?_ 1 _ rfl;(with_reducible repeat (first | refine q1f ?_ _ | refine q1b ?_ | refine q0N ?_ _ | refine q2B ?_ aU.out _ | refine q2B ?_ NB2_p.out _));refine q2x (cs:=#[iv 0,.string (⟨#[]⟩:q0a),iv 0,.slice none 0 0]) ?_ 0 _ rfl;(with_reducible repeat (first | refine q1f ?_ _ | refine q1b ?_ | refine q0N ?_ _ | refine q2B ?_ aU.out _ | refine q2B ?_ NB2_p.out _));exact aH.out) underlying25 rfl X4) rfl ?_;exact ⟨_,rfl,q0v (show Kd.V k25 25 _ w.heap.size (fun k_=>w.heap.size≤k_∧k_≠aG∧k_≠gp∧k_≠aM) (.slice Avs _ cvs) s4 from X254) (fun _ h_=>h_.1),(X62 HB aI aT GWp)⟩
    ·rw [if_neg c3] at h;have c3b:(b != 0) = true:=bne_iff_ne.mpr c3;cases h
 ·rw [if_neg c1] at h;have c1b:(er != 0) = true:=bne_iff_ne.mpr c1;cases h


def q3C.f (k:Nat) (a0:q0a):Option (Bool):=(q1N.f k a0).bind fun aA=>(some (!aA))
theorem q3C.mono:∀ a0 k,LeO (q3C.f k a0) (q3C.f (k + 1) a0):=by
 intro a0 k;unfold q3C.f;exact (by repeat' (with_reducible first | exact q1N.mono _ _ | exact LeO.refl _ | exact LeO.none _ | refine LeO.ite ?_ ?_ | refine LeO.bind ?_ (fun _=>?_)))
theorem q3C.calls (k:Nat) (a0:q0a) (r:Bool) (w:World) (h:q3C.f k a0 = some r) :
  Calls prog 61 #[.string a0] w fun e w'=>e = .returned (.bool r)∧q3Q w w':=by
 have H:=h;clear h;unfold q3C.f at H;obtain ⟨aA,A2,H⟩:=oA H;(try dsimp only at H);obtain rfl:=q0d H;go_enter func61,ntmps61;go_wp2_with (first|((with_reducible refine gc 59 ?_);refine gL (some 4) func59 #[.string a0] ?_;(with_reducible refine (q1N.calls k a0 aA _ A2.out).mono ?_);rintro e w' ⟨rfl,⟨nd,rfl⟩⟩;refine ⟨_,rfl,?_⟩))
 go_ret
 exact ⟨X7,X18⟩

def q0C.l0:Nat → List q0a → Int → Int → Option (Int)
 | 0,_,_,_=>none
 | k + 1,x0,x7,x8=>if x8 < x7 then (if 0≤x8 then (if x8 < (x0.length:Int) then ((q3C.f k (rdOf ByteArray.empty x0 x8)).bind fun aA=>(if aA = true then (some x8) else (q0C.l0 k x0 x7 (wrap64 (x8 + 1))))) else (none)) else (none)) else (some (-1))
def q0C.f (k:Nat) (l0:List q0a) (a1:Unit):Option (Int):=q0C.l0 k l0 (l0.length:Int) 0
theorem q0C.mono_l:∀ k,(∀ y0 y1 y2,LeO (q0C.l0 k y0 y1 y2) (q0C.l0 (k + 1) y0 y1 y2))
 | 0=>fun _ _ _ r h=>by simp [q0C.l0] at h
 | k + 1=>by
  have aA:=q0C.mono_l k
  ·intro y0 y1 y2;unfold q0C.l0;exact X256
theorem q0C.mono:∀ a0 a1 k,LeO (q0C.f k a0 a1) (q0C.f (k + 1) a0 a1):=by
 intro a0 a1 k;have aA:=q0C.mono_l k;unfold q0C.f;exact X256
theorem q0C.calls (k:Nat) (A0:Option Addr) (c0:Nat) (l0:List q0a) (a1:Unit) (r:Int) (w:World) (aA:Kd.C Kd.string w A0 l0.length l0) (aC:l0.length≤c0) (h:q0C.f k l0 a1 = some r) :
  Calls prog 102 #[sl A0 l0 c0,.func (.func 61) #[] #[]] w fun e w'=>e = .returned (iv r)∧Below w.heap.size w w':=by
 have aD:=am aA;have HC0:=am aC;clear aA aC;have HB:=am (q0i w.heap.size w);have H:=h;clear h;unfold q0C.f at H;have H':=am H;clear H;go_enter func102,ntmps102;go_wp2
 go_loopg [8] k (fun kq v8 w'=>∃ (aE:Int),v8 = iv aE∧q0j (q0C.l0 kq l0 (l0.length:Int) aE = some r)∧q0j (kq≤k)∧q0j (Below w.heap.size w w'))
 case atStart=>exact ⟨(0),X7,H',⟨q0f _⟩,⟨X6⟩⟩
 case round=>
  clear H';(try clear c1 p2);obtain ⟨aE,rfl,HA,aG,HB⟩:=hrel;cases gk with
  | zero=>exact absurd HA.out (by simp [q0C.l0])
  | succ k1=>
   have H:=HA.out;clear HA;simp only [q0C.l0] at H;by_cases c3:aE < (l0.length:Int)
   ·rw [if_pos c3] at H;have c3b0:=dT c3;clear c3;by_cases c4:0≤aE
    ·rw [if_pos c4] at H;have c4b0:=dT c4;clear c4;by_cases c5:aE < (l0.length:Int)
     ·rw [if_pos c5] at H;have c5b0:=dT c5;clear c5;obtain ⟨aH,A6,H⟩:=oA H;(try dsimp only at H);by_cases c7:aH = true
      ·subst c7;replace H:=tP H;obtain rfl:=q0d H;have aJ:0≤(aE:Int):=q0b X12;have aK:aE < (l0.length:Int):=q0b X12;obtain ⟨aM,e424,aQ⟩:=q2C aD.out aE aJ aK;cases e424;replace aQ:=cB HB aQ;replace aJ:=q0c aJ;replace aK:=q0c aK;go_wp2_with (first|((with_reducible refine q4F (t:=11) rfl ?_);refine q8j (some 16) rfl rfl func61 X4 rfl #[.string (rdOf ByteArray.empty l0 aE)] rfl X243 ?_;(with_reducible refine (q3C.calls k1 (rdOf ByteArray.empty l0 aE) true _ A6.out).mono ?_);rintro e w' ⟨rfl,⟨nd,rfl⟩⟩;refine ⟨_,rfl,?_⟩))
       go_ret
       exact ⟨X11,X6⟩
      ·replace c7:=fI c7;subst c7;replace H:=tN H;have H':=am H;clear H;have aJ:0≤(aE:Int):=q0b X12;have aK:aE < (l0.length:Int):=q0b X12;obtain ⟨aM,e424,aQ⟩:=q2C aD.out aE aJ aK;cases e424;replace aQ:=cB HB aQ;replace aJ:=q0c aJ;replace aK:=q0c aK;go_wp2_with (first|((with_reducible refine q4F (t:=11) rfl ?_);refine q8j (some 16) rfl rfl func61 X4 rfl #[.string (rdOf ByteArray.empty l0 aE)] rfl X243 ?_;(with_reducible refine (q3C.calls k1 (rdOf ByteArray.empty l0 aE) false _ A6.out).mono ?_);rintro e w' ⟨rfl,⟨nd,rfl⟩⟩;refine ⟨_,rfl,?_⟩))
       go_roundg k1
       case measure=>have:=aG.out;omega
       case rel=>exact ⟨(wrap64 (aE + 1)),X7,H',⟨by have:=aG.out;omega⟩,⟨X6⟩⟩
     ·exact iN c5 H
    ·exact iN c4 H
   ·rw [if_neg c3] at H;have c3b0:=dF c3;clear c3;obtain rfl:=q0d H;go_wp2
    go_ret
    exact ⟨X11,X6⟩

def q1k.f (k:Nat) (l0:List q0a) (a1:Unit):Option (Bool):=(q0C.f k l0 a1).bind fun aA=>(some (decide (aA≥0)))
theorem q1k.mono:∀ a0 a1 k,LeO (q1k.f k a0 a1) (q1k.f (k + 1) a0 a1):=by
 intro a0 a1 k;unfold q1k.f;exact (by repeat' (with_reducible first | exact q0C.mono _ _ _ | exact LeO.refl _ | exact LeO.none _ | refine LeO.ite ?_ ?_ | refine LeO.bind ?_ (fun _=>?_) | apply q0C.mono))
theorem q1k.calls (k:Nat) (A0:Option Addr) (c0:Nat) (l0:List q0a) (a1:Unit) (r:Bool) (w:World) (aA:Kd.C Kd.string w A0 l0.length l0) (aC:l0.length≤c0) (h:q1k.f k l0 a1 = some r) :
  Calls prog 60 #[sl A0 l0 c0,.func (.func 61) #[] #[]] w fun e w'=>e = .returned (.bool r)∧Below w.heap.size w w':=by
 have aD:=am aA;have aE:=am aC;clear aA aC;have HB:=am (q0i w.heap.size w);have H:=h;clear h;unfold q1k.f at H;obtain ⟨aG,A3,H⟩:=oA H;(try dsimp only at H);obtain rfl:=q0d H;go_enter func60,ntmps60;go_wp2_with (first|((with_reducible refine gc 102 ?_);refine gL (some 7) func102 #[sl A0 l0 c0,.func (.func 61) #[] #[]] ?_;(with_reducible refine (q0C.calls k _ _ l0 a1 aG _ ?side1 ?side2 A3.out).mono ?_);(case side1=>exact X19);(case side2=>exact aE.out);rintro e w4 ⟨rfl,hb⟩;refine ⟨_,rfl,?_⟩;replace HB:=bS X6 hb;clear hb))
 go_ret
 exact ⟨X11,X6⟩
mutual
def q0D.j0:Nat → Bool → q0a → List (S86) → List (S88) → List (List q0a) → Int → q0a → Int → List (S25) → Option (Int)
 | 0,_,_,_,_,_,_,_,_,_=>none
 | k + 1,aA,aC,aD,aE,aG,aH,aI,aJ,aK=>if aA = true then (some 3) else (q0D.l0 k 0 aD (aD.length:Int) 0 aC aD aE aG aH aI aJ aK)
def q0D.l0:Nat → Int → List (S86) → Int → Int → q0a → List (S86) → List (S88) → List (List q0a) → Int → q0a → Int → List (S25) → Option (Int)
 | 0,_,_,_,_,_,_,_,_,_,_,_,_=>none
 | k + 1,x3,aA,aC,aD,aE,aG,aH,aI,aJ,aK,aM,aQ=>if aD < aC then (if 0≤aD then (if aD < (aA.length:Int) then ((q1N.f k ((q1e aA aD).f0)).bind fun aT=>(if aT = true then ((q2V.f k ((q1e aA aD).f1.f0) ((q1e aA aD).f1.f1) ((q1e aA aD).f1.f2) ((q1e aA aD).f1.f3)).bind fun aU=>(if aU = 0 then ((q1M.f k ((q1e aA aD).f1.f0) ((q1e aA aD).f1.f1) ((q1e aA aD).f1.f2) ((q1e aA aD).f1.f3)).bind fun aW=>(q0D.l0 k (wrap64 (x3 + aW)) aA aC (wrap64 (aD + 1)) aE aG aH aI aJ aK aM aQ)) else (some aU))) else (some 2))) else (none)) else (none)) else (q0D.l1 k x3 aH (aH.length:Int) 0 aE aG aH aI aJ aK aM aQ)
def q0D.l1:Nat → Int → List (S88) → Int → Int → q0a → List (S86) → List (S88) → List (List q0a) → Int → q0a → Int → List (S25) → Option (Int)
 | 0,_,_,_,_,_,_,_,_,_,_,_,_=>none
 | k + 1,x3,aA,aC,aD,aE,aG,aH,aI,aJ,aK,aM,aQ=>if aD < aC then (if 0≤aD then (if aD < (aA.length:Int) then ((q1N.f k ((q2p aA aD).f0)).bind fun aT=>(if aT = true then (if ((q2p aA aD).f1) < 0 then (some 6) else (if ((q2p aA aD).f1) > ((q2p aA aD).f2) then (some 6) else (if ((q2p aA aD).f2) > 6 then (some 6) else (q0D.l1 k x3 aA aC (wrap64 (aD + 1)) aE aG aH aI aJ aK aM aQ)))) else (some 2))) else (none)) else (none)) else (q0D.l2 k x3 aI (aI.length:Int) 0 aE aG aH aI aJ aK aM aQ)
def q0D.l2:Nat → Int → List (List q0a) → Int → Int → q0a → List (S86) → List (S88) → List (List q0a) → Int → q0a → Int → List (S25) → Option (Int)
 | 0,_,_,_,_,_,_,_,_,_,_,_,_=>none
 | k + 1,x3,aA,aC,aD,aE,aG,aH,aI,aJ,aK,aM,aQ=>if aD < aC then (if 0≤aD then (if aD < (aA.length:Int) then (if ((q2M aA aD).length:Int) = 0 then (some 7) else (if ((q2M aA aD).length:Int) > 6 then (some 3) else ((q1k.f k (q2M aA aD) ()).bind fun aT=>(if aT = true then (some 2) else (q0D.l2 k x3 aA aC (wrap64 (aD + 1)) aE aG aH aI aJ aK aM aQ))))) else (none)) else (none)) else ((q2V.f k aJ aK aM aQ).bind fun aU=>(if aU = 0 then ((q1M.f k aJ aK aM aQ).bind fun aW=>(if (wrap64 (x3 + aW)) > 200 then (some 3) else (some 0))) else (some aU)))
end
def q0D.f (k:Nat) (aA:q0a) (aC:List (S86)) (aD:List (S88)) (aE:List (List q0a)) (aG:Int) (aH:q0a) (aI:Int) (aJ:List (S25)):Option (Int):=(q2v.f k aA).bind fun aK=>(if aK = true then (if (aC.length:Int) > 20 then (q0D.j0 k true aA aC aD aE aG aH aI aJ) else (if (aD.length:Int) > 3 then (q0D.j0 k true aA aC aD aE aG aH aI aJ) else (q0D.j0 k (decide ((aE.length:Int) > 3)) aA aC aD aE aG aH aI aJ))) else (some 2))
theorem q0D.mono_l:∀ k,(∀ y0 y1 y2 y3 y4 y5 y6 y7 y8,LeO (q0D.j0 k y0 y1 y2 y3 y4 y5 y6 y7 y8) (q0D.j0 (k + 1) y0 y1 y2 y3 y4 y5 y6 y7 y8))∧(∀ y0 y1 y2 y3 y4 y5 y6 y7 y8 y9 aA aC,LeO (q0D.l0 k y0 y1 y2 y3 y4 y5 y6 y7 y8 y9 aA aC) (q0D.l0 (k + 1) y0 y1 y2 y3 y4 y5 y6 y7 y8 y9 aA aC))∧(∀ y0 y1 y2 y3 y4 y5 y6 y7 y8 y9 aA aC,LeO (q0D.l1 k y0 y1 y2 y3 y4 y5 y6 y7 y8 y9 aA aC) (q0D.l1 (k + 1) y0 y1 y2 y3 y4 y5 y6 y7 y8 y9 aA aC))∧(∀ y0 y1 y2 y3 y4 y5 y6 y7 y8 y9 aA aC,LeO (q0D.l2 k y0 y1 y2 y3 y4 y5 y6 y7 y8 y9 aA aC) (q0D.l2 (k + 1) y0 y1 y2 y3 y4 y5 y6 y7 y8 y9 aA aC))
 | 0=>⟨fun _ _ _ _ _ _ _ _ _ r h=>by simp [q0D.j0] at h,fun _ _ _ _ _ _ _ _ _ _ _ _ r h=>by simp [q0D.l0] at h,fun _ _ _ _ _ _ _ _ _ _ _ _ r h=>by simp [q0D.l1] at h,fun _ _ _ _ _ _ _ _ _ _ _ _ r h=>by simp [q0D.l2] at h⟩
 | k + 1=>by
  obtain ⟨aD,aE,aG,aH⟩:=q0D.mono_l k;refine ⟨?_,?_,?_,?_⟩
  ·intro y0 y1 y2 y3 y4 y5 y6 y7 y8;unfold q0D.j0;exact X5
  ·intro y0 y1 y2 y3 y4 y5 y6 y7 y8 y9 aA aC;unfold q0D.l0;exact X5
  ·intro y0 y1 y2 y3 y4 y5 y6 y7 y8 y9 aA aC;unfold q0D.l1;exact X5
  ·intro y0 y1 y2 y3 y4 y5 y6 y7 y8 y9 aA aC;unfold q0D.l2;exact X5
theorem q0D.mono:∀ a0 a1 a2 a3 a4 a5 a6 a7 k,LeO (q0D.f k a0 a1 a2 a3 a4 a5 a6 a7) (q0D.f (k + 1) a0 a1 a2 a3 a4 a5 a6 a7):=by
 intro a0 a1 a2 a3 a4 a5 a6 a7 k;obtain ⟨aA,aC,aD,aE⟩:=q0D.mono_l k;unfold q0D.f;exact (by repeat' (with_reducible first | apply aA | apply aC | apply aD | apply aE | apply q1M.mono | apply q2V.mono | exact q1N.mono _ _ | exact q1k.mono _ _ _ | exact q2v.mono _ _ | exact LeO.refl _ | exact LeO.none _ | refine LeO.ite ?_ ?_ | refine LeO.bind ?_ (fun _=>?_) | apply q1k.mono))
theorem q0D.calls (k:Nat) (aA:q0a) (aC:Option Addr) (aD:Nat) (aE:List (S86)) (aG:Option Addr) (aH:Nat) (aI:List (S88)) (aJ:Option Addr) (aK:Nat) (aM:List (List q0a)) (aQ:Int) (aT:q0a) (aU:Int) (aW:Option Addr) (aX:Nat) (aY:List (S25)) (r:Int) (w:World) (aZ:Kd.C k86 w aC aE.length aE) (bA:aE.length≤aD) (bB:Kd.C k88 w aG aI.length aI) (bC:aI.length≤aH) (bD:Kd.C (Kd.slice 9 Kd.string) w aJ aM.length aM) (bE:aM.length≤aK) (bF:Kd.C k25 w aW aY.length aY) (bG:aY.length≤aX) (h:q0D.f k aA aE aI aM aQ aT aU aY = some r) :
  Calls prog 19 #[.agg #[.string aA,sl aC aE aD,sl aG aI aH,sl aJ aM aK,iv aQ,.string aT,iv aU,sl aW aY aX]] w fun e w'=>e = .returned (iv r)∧Below w.heap.size w w':=by
 have hu44:=underlying44;have hu86:=underlying86;have hu25:=underlying25;have hu88:=underlying88;have bH:=am aZ;have HC0_1:=am bA;clear aZ bA;have bI:=am bB;have HC0_2:=am bC;clear bB bC;have bJ:=am bD;have HC0_3:=am bE;clear bD bE;have bK:=am bF;have bL:=am bG;clear bF bG;have HB:=am (q0i w.heap.size w);have H:=h;clear h;unfold q0D.f at H;obtain ⟨bM,A2,H⟩:=oA H;(try dsimp only at H);by_cases c3:bM = true
 ·subst c3;replace H:=tP H;have bO:=am H;clear H;go_enter func19,ntmps19;go_upto_region 3 with (first|((with_reducible refine gd 1 ?_);(try (refine q1l (by rfl) ?_;dsimp only));refine be 1 #[.string aA,sl aC aE aD,sl aG aI aH,sl aJ aM aK,iv aQ,.string aT,iv aU,sl aW aY aX] 44 ?_;intro bP hg w5 hbox hb;have bQ:=am (hbox);have bR:=sG (w:=w) hg X6;have bT:=sG (w:=w) hg X6;replace HB:=bS X6 hb;clear hb hbox hg;have Z6:=bc8 bQ)|((with_reducible refine gc 58 ?_);refine gL (some 14) func58 #[.string aA] ?_;(with_reducible refine (q2v.calls k aA true _ A2.out).mono ?_);rintro e w' ⟨rfl,⟨nd,rfl⟩⟩;refine ⟨_,rfl,?_⟩))
  (try simp only [Act.put,List.setIfInBounds_toArray,List.set_cons_zero,List.set_cons_succ]);go_cut [31] (fun bU wc=>∃ (kq:Nat) (bV:Bool),bU = .bool bV∧q0j (q0D.j0 kq bV aA aE aI aM aQ aT aU aY = some r)∧q0j (kq≤k)∧q0j (wc.heap[bP]? = some (.cells #[.string aA,(sl aC aE aD),(sl aG aI aH),(sl aJ aM aK),iv aQ,.string aT,iv aU,(sl aW aY aX)] 44 (0,0)))∧q0j (Below w.heap.size w wc))
  case first=>
   have H:=bO.out;clear bO;by_cases c7:(aE.length:Int) > 20
   ·rw [if_pos c7] at H;have c7b0:decide (20 < (aE.length:Int)) = true:=q0w c7;have c7b1:decide (20 < aE.length) = true:=q0w (by omega);clear c7;(first | rw [c7b0]|(simp only [q3O,q3U];rw [c7b0]) | skip);have H':=am H;clear H;have Z8:=bc8 bQ;go_wp2
    go_meet
    case rel=>exact ⟨_,(true),X7,H',⟨X8⟩,⟨(X9 bQ)⟩,⟨(X10 HB bT)⟩⟩
   ·rw [if_neg c7] at H;have c7b0:decide (20 < (aE.length:Int)) = false:=q0S c7;have c7b1:decide (20 < aE.length) = false:=q0S (by omega);clear c7;(first | rw [c7b0]|(simp only [q3O,q3U];rw [c7b0]) | skip);by_cases c9:(aI.length:Int) > 3
    ·rw [if_pos c9] at H;have c9b0:decide (3 < (aI.length:Int)) = true:=q0w c9;have c9b1:decide (3 < aI.length) = true:=q0w (by omega);clear c9;have H':=am H;clear H;have bW:=bc8 bQ;go_wp2
     go_meet
     case rel=>exact ⟨_,(true),X7,H',⟨X8⟩,⟨(X9 bQ)⟩,⟨(X10 HB bT)⟩⟩
    ·rw [if_neg c9] at H;have c9b0:decide (3 < (aI.length:Int)) = false:=q0S c9;have c9b1:decide (3 < aI.length) = false:=q0S (by omega);clear c9;have H':=am H;clear H;have bX:=bc8 bQ;go_wp2
     go_meet
     case rel=>exact ⟨_,(decide ((aM.length:Int) > 3)),X7,H',⟨X8⟩,⟨(X9 bQ)⟩,⟨(X10 HB bT)⟩⟩
  case rest=>
   clear bO;(try clear c1 p2 c3 c5 c7 c7b0 c7b1 c9 c9b0 c9b1 bW bX Z6 Z8);obtain ⟨kq,bV,rfl,HA,bY,bQ,HB⟩:=hcut;cases kq with
   | zero=>exact absurd HA.out (by simp [q0D.j0])
   | succ bZ=>
    have H:=HA.out;clear HA;simp only [q0D.j0] at H;by_cases cA:bV = true
    ·subst cA;replace H:=tP H;obtain rfl:=q0d H;go_wp2
     go_ret
     exact ⟨X11,(X10 HB bT)⟩
    ·replace cA:=fI cA;subst cA;replace H:=tN H;have H':=am H;clear H;have cC:=bc8 bQ;go_wp2
     go_loopg [3,35] bZ (fun kq v3 cD w'=>∃ (cE:Int) (cF:Int),v3 = iv cE∧cD = iv cF∧q0j (q0D.l0 kq cE aE (aE.length:Int) cF aA aE aI aM aQ aT aU aY = some r)∧q0j (kq≤bZ)∧q0j (w'.heap[bP]? = some (.cells #[.string aA,(sl aC aE aD),(sl aG aI aH),(sl aJ aM aK),iv aQ,.string aT,iv aU,(sl aW aY aX)] 44 (0,0)))∧q0j (Below w.heap.size w w'))
     case atStart=>exact ⟨(0),(0),X7,X7,H',⟨q0f _⟩,⟨(X9 bQ)⟩,⟨(X10 HB bT)⟩⟩
     case round=>
      clear H';(try clear c1);(try clear p2 p2);(try clear c3 c5 c7 c7b0 c7b1 c9 c9b0 c9b1 cA bW bX cC Z6 Z8);obtain ⟨cE,cF,rfl,rfl,HA,cG,bQ,HB⟩:=hrel;cases gk with
      | zero=>exact absurd HA.out (by simp [q0D.l0])
      | succ k2=>
       have H:=HA.out;clear HA;simp only [q0D.l0] at H;by_cases cH:cF < (aE.length:Int)
       ·rw [if_pos cH] at H;have c14b0:=dT cH;clear cH;by_cases cI:0≤cF
        ·rw [if_pos cI] at H;have c15b0:=dT cI;clear cI;by_cases cJ:cF < (aE.length:Int)
         ·rw [if_pos cJ] at H;have c16b0:=dT cJ;clear cJ;obtain ⟨cK,cM,H⟩:=oA H;(try dsimp only at H);by_cases cN:cK = true
          ·subst cN;replace H:=tP H;obtain ⟨cO,cQ,H⟩:=oA H;(try dsimp only at H);by_cases cR:cO = 0
           ·rw [if_pos cR] at H;have c20b0:=eT cR;have c20b1:=eF cR;clear cR;obtain ⟨cS,cU,H⟩:=oA H;(try dsimp only at H);have H':=am H;clear H;have cV:0≤(cF:Int):=q0b X12;have cX:cF < (aE.length:Int):=q0b X12;obtain ⟨cY,cZ,dA,e429,dB,dC,dD,dE,dG,dH,dI⟩:=q6N bH.out cF cV cX;cases e429;replace dB:=cB HB dB;replace dC:=cB HB dC;replace dD:=cB HB dD;replace dE:=cB HB dE;replace dG:=cB HB dG;have dJ:=am dI;have dK:=am dH;clear dI dH;replace cV:=q0c cV;replace cX:=q0c cX;go_wp2_with (first|((with_reducible refine gd 5 ?_);(try (refine q1l (by rfl) ?_;dsimp only));refine be 5 #[.string (⟨#[]⟩:q0a),iv 0,.string (⟨#[]⟩:q0a),iv 0,.slice none 0 0] 86 ?_;intro dL hg w22 hbox hb;have dM:=am (hbox);have dN:=sG (w:=w) hg (X10 HB bT);have dO:=sG (w:=w) hg (X10 HB bT);replace HB:=bS (X10 HB bT) hb;have dP:=nLT hg bQ;have dQ:=nGT hg bQ;replace bQ:=kB bQ hb;clear hb hbox hg;have hnb23:=dQ.out;have hnc23:=dP.out;have dR:=bc5 dM)|((with_reducible refine gc 59 ?_);refine gL (some 41) func59 #[.string ((q1e aE cF).f0)] ?_;(with_reducible refine (q1N.calls k2 ((q1e aE cF).f0) true _ cM.out).mono ?_);rintro e w' ⟨rfl,⟨nd,rfl⟩⟩;refine ⟨_,rfl,?_⟩)|((with_reducible refine gc 35 ?_);refine gL (some 45) func35 #[.agg #[iv ((q1e aE cF).f1.f0),.string ((q1e aE cF).f1.f1),iv ((q1e aE cF).f1.f2),sl cZ ((q1e aE cF).f1.f3) dA]] ?_;(with_reducible refine (q2V.calls k2 ((q1e aE cF).f1.f0) ((q1e aE cF).f1.f1) ((q1e aE cF).f1.f2) _ _ ((q1e aE cF).f1.f3) cO _ ?side1 ?side2 cQ.out).mono ?_);(case side1=>exact q0r dJ.out (X13 HB bT dO));(case side2=>exact dK.out);rintro e w25 ⟨rfl,hb⟩;refine ⟨_,rfl,?_⟩;replace bQ:=kBg1 bQ dP hb;replace dM:=kBg0 dM hb;replace HB:=bS (X13 HB bT dO) hb;clear hb;have dS:=bc5 dM)|((with_reducible refine gc 30 ?_);refine gL (some 52) func30 #[.agg #[iv ((q1e aE cF).f1.f0),.string ((q1e aE cF).f1.f1),iv ((q1e aE cF).f1.f2),sl cZ ((q1e aE cF).f1.f3) dA]] ?_;(with_reducible refine (q1M.calls k2 ((q1e aE cF).f1.f0) ((q1e aE cF).f1.f1) ((q1e aE cF).f1.f2) _ _ ((q1e aE cF).f1.f3) cS _ ?side1 ?side2 cU.out).mono ?_);(case side1=>exact cW (q0r dJ.out HB.out));(case side2=>exact dK.out);rintro e w27 ⟨rfl,hb⟩;refine ⟨_,rfl,?_⟩;replace bQ:=kB bQ hb;replace dM:=kB dM hb;replace HB:=bS (X13 HB bT dO) hb;clear hb))
            go_roundg k2
            case measure=>have:=bY.out;have:=cG.out;omega
            case rel=>exact ⟨(wrap64 (cE + cS)),(wrap64 (cF + 1)),X7,X7,H',⟨by have:=bY.out;have:=cG.out;omega⟩,⟨(X9 bQ)⟩,⟨(X13 HB bT dO)⟩⟩
           ·rw [if_neg cR] at H;have c20b0:=nF cR;have c20b1:=nT cR;obtain rfl:=q0d H;have cV:0≤(cF:Int):=q0b X12;have cX:cF < (aE.length:Int):=q0b X12;obtain ⟨cY,cZ,dA,e429,dB,dC,dD,dE,dG,dH,dI⟩:=q6N bH.out cF cV cX;cases e429;replace dB:=cB HB dB;replace dC:=cB HB dC;replace dD:=cB HB dD;replace dE:=cB HB dE;replace dG:=cB HB dG;have dJ:=am dI;have dK:=am dH;clear dI dH;replace cV:=q0c cV;replace cX:=q0c cX;go_wp2_with (first|((with_reducible refine gd 5 ?_);(try (refine q1l (by rfl) ?_;dsimp only));refine be 5 #[.string (⟨#[]⟩:q0a),iv 0,.string (⟨#[]⟩:q0a),iv 0,.slice none 0 0] 86 ?_;intro dL hg w28 hbox hb;have dM:=am (hbox);have dN:=sG (w:=w) hg (X10 HB bT);have dO:=sG (w:=w) hg (X10 HB bT);replace HB:=bS (X10 HB bT) hb;have dP:=nLT hg bQ;have dQ:=nGT hg bQ;replace bQ:=kB bQ hb;clear hb hbox hg;have hnb29:=dQ.out;have hnc29:=dP.out;have dU:=bc5 dM)|((with_reducible refine gc 59 ?_);refine gL (some 41) func59 #[.string ((q1e aE cF).f0)] ?_;(with_reducible refine (q1N.calls k2 ((q1e aE cF).f0) true _ cM.out).mono ?_);rintro e w' ⟨rfl,⟨nd,rfl⟩⟩;refine ⟨_,rfl,?_⟩)|((with_reducible refine gc 35 ?_);refine gL (some 45) func35 #[.agg #[iv ((q1e aE cF).f1.f0),.string ((q1e aE cF).f1.f1),iv ((q1e aE cF).f1.f2),sl cZ ((q1e aE cF).f1.f3) dA]] ?_;(with_reducible refine (q2V.calls k2 ((q1e aE cF).f1.f0) ((q1e aE cF).f1.f1) ((q1e aE cF).f1.f2) _ _ ((q1e aE cF).f1.f3) cO _ ?side1 ?side2 cQ.out).mono ?_);(case side1=>exact q0r dJ.out (X13 HB bT dO));(case side2=>exact dK.out);rintro e w31 ⟨rfl,hb⟩;refine ⟨_,rfl,?_⟩;replace bQ:=kBg1 bQ dP hb;replace dM:=kBg0 dM hb;replace HB:=bS (X13 HB bT dO) hb;clear hb))
            go_ret
            exact ⟨X11,(X13 HB bT dO)⟩
          ·replace cN:=fI cN;subst cN;replace H:=tN H;obtain rfl:=q0d H;have cV:0≤(cF:Int):=q0b X12;have cX:cF < (aE.length:Int):=q0b X12;obtain ⟨cY,cZ,dA,e429,dB,dC,dD,dE,dG,dH,dI⟩:=q6N bH.out cF cV cX;cases e429;replace dB:=cB HB dB;replace dC:=cB HB dC;replace dD:=cB HB dD;replace dE:=cB HB dE;replace dG:=cB HB dG;have dJ:=am dI;have dK:=am dH;clear dI dH;replace cV:=q0c cV;replace cX:=q0c cX;go_wp2_with (first|((with_reducible refine gd 5 ?_);(try (refine q1l (by rfl) ?_;dsimp only));refine be 5 #[.string (⟨#[]⟩:q0a),iv 0,.string (⟨#[]⟩:q0a),iv 0,.slice none 0 0] 86 ?_;intro dL hg w32 hbox hb;have dM:=am (hbox);have dN:=sG (w:=w) hg (X10 HB bT);have dO:=sG (w:=w) hg (X10 HB bT);replace HB:=bS (X10 HB bT) hb;have dP:=nLT hg bQ;have dQ:=nGT hg bQ;replace bQ:=kB bQ hb;clear hb hbox hg;have hnb33:=dQ.out;have hnc33:=dP.out;have dV:=bc5 dM)|((with_reducible refine gc 59 ?_);refine gL (some 41) func59 #[.string ((q1e aE cF).f0)] ?_;(with_reducible refine (q1N.calls k2 ((q1e aE cF).f0) false _ cM.out).mono ?_);rintro e w' ⟨rfl,⟨nd,rfl⟩⟩;refine ⟨_,rfl,?_⟩))
           go_ret
           exact ⟨X11,(X13 HB bT dO)⟩
         ·exact iN cJ H
        ·exact iN cI H
       ·rw [if_neg cH] at H;have c14b0:=dF cH;clear cH;have H':=am H;clear H;have dW:=bc8 bQ;go_wp2
        go_loopg [58] k2 (fun kq dX w'=>∃ (dY:Int),dX = iv dY∧q0j (q0D.l1 kq cE aI (aI.length:Int) dY aA aE aI aM aQ aT aU aY = some r)∧q0j (kq≤k2)∧q0j (w'.heap[bP]? = some (.cells #[.string aA,(sl aC aE aD),(sl aG aI aH),(sl aJ aM aK),iv aQ,.string aT,iv aU,(sl aW aY aX)] 44 (0,0)))∧q0j (Below w.heap.size w w'))
        case atStart=>exact ⟨(0),X7,H',⟨q0f _⟩,⟨(X9 bQ)⟩,⟨(X10 HB bT)⟩⟩
        case round=>
         clear H';(try clear c1 c2);(try clear p2 p2);(try clear c3 c4 p4 q4 dZ c5 p6 c7 c7b0 c7b1 c9 c9b0 c9b1 cA cH c14b0 cI c15b0 cJ c16b0 cN eA cR c20b0 c20b1 eB eC eD eE eG bW bX cC dR dS dU dV dW Z6 Z8 dB dC dD dE dG cV cX);obtain ⟨dY,rfl,HA,eH,bQ,HB⟩:=hrel;cases gk with
         | zero=>exact absurd HA.out (by simp [q0D.l1])
         | succ k3=>
          have H:=HA.out;clear HA;simp only [q0D.l1] at H;by_cases eI:dY < (aI.length:Int)
          ·rw [if_pos eI] at H;have c36b0:=dT eI;clear eI;by_cases eJ:0≤dY
           ·rw [if_pos eJ] at H;have c37b0:=dT eJ;clear eJ;by_cases eK:dY < (aI.length:Int)
            ·rw [if_pos eK] at H;have c38b0:=dT eK;clear eK;obtain ⟨eL,eN,H⟩:=oA H;(try dsimp only at H);by_cases eO:eL = true
             ·subst eO;replace H:=tP H;by_cases eP:((q2p aI dY).f1) < 0
              ·rw [if_pos eP] at H;have c41b0:=dT eP;clear eP;obtain rfl:=q0d H;have eQ:0≤(dY:Int):=q0b X12;have eR:dY < (aI.length:Int):=q0b X12;obtain ⟨eS,e434,eU,eV,eW⟩:=q6M bI.out dY eQ eR;cases e434;replace eU:=cB HB eU;replace eV:=cB HB eV;replace eW:=cB HB eW;replace eQ:=q0c eQ;replace eR:=q0c eR;go_wp2_with (first|((with_reducible refine gd 8 ?_);(try (refine q1l (by rfl) ?_;dsimp only));refine be 8 #[.string (⟨#[]⟩:q0a),iv 0,iv 0] 88 ?_;intro eX hg w42 hbox hb;have eY:=am (hbox);have eZ:=sG (w:=w) hg (X10 HB bT);have fA:=sG (w:=w) hg (X10 HB bT);replace HB:=bS (X10 HB bT) hb;have fB:=nLT hg bQ;have fC:=nGT hg bQ;replace bQ:=kB bQ hb;clear hb hbox hg;have hnb43:=fC.out;have hnc43:=fB.out;have fD:=bc3 eY)|((with_reducible refine gc 59 ?_);refine gL (some 64) func59 #[.string ((q2p aI dY).f0)] ?_;(with_reducible refine (q1N.calls k3 ((q2p aI dY).f0) true _ eN.out).mono ?_);rintro e w' ⟨rfl,⟨nd,rfl⟩⟩;refine ⟨_,rfl,?_⟩))
               go_ret
               exact ⟨X11,(X13 HB bT fA)⟩
              ·rw [if_neg eP] at H;have c41b0:=dF eP;clear eP;by_cases fE:((q2p aI dY).f1) > ((q2p aI dY).f2)
               ·rw [if_pos fE] at H;have c45b0:decide (((q2p aI dY).f2) < ((q2p aI dY).f1)) = true:=q0w fE;clear fE;obtain rfl:=q0d H;have eQ:0≤(dY:Int):=q0b X12;have eR:dY < (aI.length:Int):=q0b X12;obtain ⟨eS,e434,eU,eV,eW⟩:=q6M bI.out dY eQ eR;cases e434;replace eU:=cB HB eU;replace eV:=cB HB eV;replace eW:=cB HB eW;replace eQ:=q0c eQ;replace eR:=q0c eR;go_wp2_with (first|((with_reducible refine gd 8 ?_);(try (refine q1l (by rfl) ?_;dsimp only));refine be 8 #[.string (⟨#[]⟩:q0a),iv 0,iv 0] 88 ?_;intro eX hg w46 hbox hb;have eY:=am (hbox);have eZ:=sG (w:=w) hg (X10 HB bT);have fA:=sG (w:=w) hg (X10 HB bT);replace HB:=bS (X10 HB bT) hb;have fB:=nLT hg bQ;have fC:=nGT hg bQ;replace bQ:=kB bQ hb;clear hb hbox hg;have hnb47:=fC.out;have hnc47:=fB.out;have fF:=bc3 eY)|((with_reducible refine gc 59 ?_);refine gL (some 64) func59 #[.string ((q2p aI dY).f0)] ?_;(with_reducible refine (q1N.calls k3 ((q2p aI dY).f0) true _ eN.out).mono ?_);rintro e w' ⟨rfl,⟨nd,rfl⟩⟩;refine ⟨_,rfl,?_⟩))
                go_ret
                exact ⟨X11,(X13 HB bT fA)⟩
               ·rw [if_neg fE] at H;have c45b0:decide (((q2p aI dY).f2) < ((q2p aI dY).f1)) = false:=q0S fE;clear fE;by_cases fG:((q2p aI dY).f2) > 6
                ·rw [if_pos fG] at H;have c49b0:decide (6 < ((q2p aI dY).f2)) = true:=q0w fG;clear fG;obtain rfl:=q0d H;have eQ:0≤(dY:Int):=q0b X12;have eR:dY < (aI.length:Int):=q0b X12;obtain ⟨eS,e434,eU,eV,eW⟩:=q6M bI.out dY eQ eR;cases e434;replace eU:=cB HB eU;replace eV:=cB HB eV;replace eW:=cB HB eW;replace eQ:=q0c eQ;replace eR:=q0c eR;go_wp2_with (first|((with_reducible refine gd 8 ?_);(try (refine q1l (by rfl) ?_;dsimp only));refine be 8 #[.string (⟨#[]⟩:q0a),iv 0,iv 0] 88 ?_;intro eX hg w50 hbox hb;have eY:=am (hbox);have eZ:=sG (w:=w) hg (X10 HB bT);have fA:=sG (w:=w) hg (X10 HB bT);replace HB:=bS (X10 HB bT) hb;have fB:=nLT hg bQ;have fC:=nGT hg bQ;replace bQ:=kB bQ hb;clear hb hbox hg;have hnb51:=fC.out;have hnc51:=fB.out;have fH:=bc3 eY)|((with_reducible refine gc 59 ?_);refine gL (some 64) func59 #[.string ((q2p aI dY).f0)] ?_;(with_reducible refine (q1N.calls k3 ((q2p aI dY).f0) true _ eN.out).mono ?_);rintro e w' ⟨rfl,⟨nd,rfl⟩⟩;refine ⟨_,rfl,?_⟩))
                 go_ret
                 exact ⟨X11,(X13 HB bT fA)⟩
                ·rw [if_neg fG] at H;have c49b0:decide (6 < ((q2p aI dY).f2)) = false:=q0S fG;clear fG;have H':=am H;clear H;have eQ:0≤(dY:Int):=q0b X12;have eR:dY < (aI.length:Int):=q0b X12;obtain ⟨eS,e434,eU,eV,eW⟩:=q6M bI.out dY eQ eR;cases e434;replace eU:=cB HB eU;replace eV:=cB HB eV;replace eW:=cB HB eW;replace eQ:=q0c eQ;replace eR:=q0c eR;go_wp2_with (first|((with_reducible refine gd 8 ?_);(try (refine q1l (by rfl) ?_;dsimp only));refine be 8 #[.string (⟨#[]⟩:q0a),iv 0,iv 0] 88 ?_;intro eX hg w53 hbox hb;have eY:=am (hbox);have eZ:=sG (w:=w) hg (X10 HB bT);have fA:=sG (w:=w) hg (X10 HB bT);replace HB:=bS (X10 HB bT) hb;have fB:=nLT hg bQ;have fC:=nGT hg bQ;replace bQ:=kB bQ hb;clear hb hbox hg;have hnb54:=fC.out;have hnc54:=fB.out;have fJ:=bc3 eY)|((with_reducible refine gc 59 ?_);refine gL (some 64) func59 #[.string ((q2p aI dY).f0)] ?_;(with_reducible refine (q1N.calls k3 ((q2p aI dY).f0) true _ eN.out).mono ?_);rintro e w' ⟨rfl,⟨nd,rfl⟩⟩;refine ⟨_,rfl,?_⟩))
                 go_roundg k3
                 case measure=>have:=bY.out;have:=cG.out;have:=eH.out;omega
                 case rel=>exact ⟨(wrap64 (dY + 1)),X7,H',⟨by have:=bY.out;have:=cG.out;have:=eH.out;omega⟩,⟨by (with_reducible repeat (first | refine q1f ?_ _ | refine q1b ?_ | refine q0N ?_ _));refine q2B ?_ fB.out _;(with_reducible repeat (first | refine q1f ?_ _ | refine q1b ?_ | refine q0N ?_ _));refine q2B ?_ fB.out _;(with_reducible repeat (first | refine q1f ?_ _ | refine q1b ?_ | refine q0N ?_ _));refine q2B ?_ fB.out _;(with_reducible repeat (first | refine q1f ?_ _ | refine q1b ?_ | refine q0N ?_ _));exact bQ.out⟩,⟨(X13 HB bT fA)⟩⟩
             ·replace eO:=fI eO;subst eO;replace H:=tN H;obtain rfl:=q0d H;have eQ:0≤(dY:Int):=q0b X12;have eR:dY < (aI.length:Int):=q0b X12;obtain ⟨eS,e434,eU,eV,eW⟩:=q6M bI.out dY eQ eR;cases e434;replace eU:=cB HB eU;replace eV:=cB HB eV;replace eW:=cB HB eW;replace eQ:=q0c eQ;replace eR:=q0c eR;go_wp2_with (first|((with_reducible refine gd 8 ?_);(try (refine q1l (by rfl) ?_;dsimp only));refine be 8 #[.string (⟨#[]⟩:q0a),iv 0,iv 0] 88 ?_;intro eX hg w56 hbox hb;have eY:=am (hbox);have eZ:=sG (w:=w) hg (X10 HB bT);have fA:=sG (w:=w) hg (X10 HB bT);replace HB:=bS (X10 HB bT) hb;have fB:=nLT hg bQ;have fC:=nGT hg bQ;replace bQ:=kB bQ hb;clear hb hbox hg;have hnb57:=fC.out;have hnc57:=fB.out;have fK:=bc3 eY)|((with_reducible refine gc 59 ?_);refine gL (some 64) func59 #[.string ((q2p aI dY).f0)] ?_;(with_reducible refine (q1N.calls k3 ((q2p aI dY).f0) false _ eN.out).mono ?_);rintro e w' ⟨rfl,⟨nd,rfl⟩⟩;refine ⟨_,rfl,?_⟩))
              go_ret
              exact ⟨X11,(X13 HB bT fA)⟩
            ·exact iN eK H
           ·exact iN eJ H
          ·rw [if_neg eI] at H;have c36b0:=dF eI;clear eI;have H':=am H;clear H;have fL:=bc8 bQ;go_wp2
           go_loopg [85] k3 (fun kq fM w'=>∃ (fN:Int),fM = iv fN∧q0j (q0D.l2 kq cE aM (aM.length:Int) fN aA aE aI aM aQ aT aU aY = some r)∧q0j (kq≤k3)∧q0j (w'.heap[bP]? = some (.cells #[.string aA,(sl aC aE aD),(sl aG aI aH),(sl aJ aM aK),iv aQ,.string aT,iv aU,(sl aW aY aX)] 44 (0,0)))∧q0j (Below w.heap.size w w'))
           case atStart=>exact ⟨(0),X7,H',⟨q0f _⟩,⟨(X9 bQ)⟩,⟨(X10 HB bT)⟩⟩
           case round=>
            clear H';(try clear c1 c2);(try clear p2 p2);(try clear c3 c4);(try clear p4 p4);(try clear q4 q4);(try clear dZ c5);(try clear p6 p6);(try clear c7 c7b0 c7b1 c9 c9b0 c9b1 cA cH c14b0 cI c15b0 cJ c16b0 cN eA cR c20b0 c20b1 eB eC eD eE eG eI c36b0 eJ c37b0 eK c38b0 eO eP c41b0 c42 p42 q42 hx42 c43 p43 q43 hx43 fE c45b0 c47 fG c49b0 c51 c54 c57 c59 bW bX cC dR dS dU dV dW fD fF fH fJ fK fL Z6 Z8 dB dC dD dE dG eU eV eW cV eQ cX eR);obtain ⟨fN,rfl,HA,fO,bQ,HB⟩:=hrel;cases gk with
            | zero=>exact absurd HA.out (by simp [q0D.l2])
            | succ k4=>
             have H:=HA.out;clear HA;simp only [q0D.l2] at H;by_cases fP:fN < (aM.length:Int)
             ·rw [if_pos fP] at H;have c60b0:=dT fP;clear fP;by_cases fQ:0≤fN
              ·rw [if_pos fQ] at H;have c61b0:=dT fQ;clear fQ;by_cases fR:fN < (aM.length:Int)
               ·rw [if_pos fR] at H;have c62b0:=dT fR;clear fR;by_cases fS:((q2M aM fN).length:Int) = 0
                ·rw [if_pos fS] at H;have c63b0:=eT fS;have c63b1:=eF fS;clear fS;obtain rfl:=q0d H;have fT:0≤(fN:Int):=q0b X12;have fU:fN < (aM.length:Int):=q0b X12;obtain ⟨fV,fW,fX,e437,fY,fZ,gA⟩:=q5Y bJ.out fN fT fU;cases e437;replace fY:=cB HB fY;have gB:=am gA;have gC:=am fZ;clear gA fZ;replace fT:=q0c fT;replace fU:=q0c fU;go_wp2
                 go_ret
                 exact ⟨X11,(X10 HB bT)⟩
                ·rw [if_neg fS] at H;have c63b0:=nF fS;have c63b1:=nT fS;have c63b2 : ¬ ((q2M aM fN) = []):=fun h_=>fS (by rw [h_];rfl);by_cases gD:((q2M aM fN).length:Int) > 6
                 ·rw [if_pos gD] at H;have c64b0:decide (6 < ((q2M aM fN).length:Int)) = true:=q0w gD;have c64b1:decide (6 < (q2M aM fN).length) = true:=q0w (by omega);clear gD;obtain rfl:=q0d H;have fT:0≤(fN:Int):=q0b X12;have fU:fN < (aM.length:Int):=q0b X12;obtain ⟨fV,fW,fX,e437,fY,fZ,gA⟩:=q5Y bJ.out fN fT fU;cases e437;replace fY:=cB HB fY;have gB:=am gA;have gC:=am fZ;clear gA fZ;replace fT:=q0c fT;replace fU:=q0c fU;go_wp2
                  go_ret
                  exact ⟨X11,(X10 HB bT)⟩
                 ·rw [if_neg gD] at H;have c64b0:decide (6 < ((q2M aM fN).length:Int)) = false:=q0S gD;have c64b1:decide (6 < (q2M aM fN).length) = false:=q0S (by omega);clear gD;obtain ⟨gE,gG,H⟩:=oA H;(try dsimp only at H);by_cases gH:gE = true
                  ·subst gH;replace H:=tP H;obtain rfl:=q0d H;have fT:0≤(fN:Int):=q0b X12;have fU:fN < (aM.length:Int):=q0b X12;obtain ⟨fV,fW,fX,e437,fY,fZ,gA⟩:=q5Y bJ.out fN fT fU;cases e437;replace fY:=cB HB fY;have gB:=am gA;have gC:=am fZ;clear gA fZ;replace fT:=q0c fT;replace fU:=q0c fU;go_wp2_with (first|((with_reducible refine gc 60 ?_);refine gL (some 99) func60 #[sl fW (q2M aM fN) fX,.func (.func 61) #[] #[]] ?_;(with_reducible refine (q1k.calls k4 _ _ (q2M aM fN) () true _ ?side1 ?side2 gG.out).mono ?_);(case side1=>exact (X15 gB HB));(case side2=>exact gC.out);rintro e w67 ⟨rfl,hb⟩;refine ⟨_,rfl,?_⟩;replace bQ:=kB bQ hb;replace HB:=bS (X10 HB bT) hb;clear hb))
                   go_ret
                   exact ⟨X11,(X10 HB bT)⟩
                  ·replace gH:=fI gH;subst gH;replace H:=tN H;have H':=am H;clear H;have fT:0≤(fN:Int):=q0b X12;have fU:fN < (aM.length:Int):=q0b X12;obtain ⟨fV,fW,fX,e437,fY,fZ,gA⟩:=q5Y bJ.out fN fT fU;cases e437;replace fY:=cB HB fY;have gB:=am gA;have gC:=am fZ;clear gA fZ;replace fT:=q0c fT;replace fU:=q0c fU;go_wp2_with (first|((with_reducible refine gc 60 ?_);refine gL (some 99) func60 #[sl fW (q2M aM fN) fX,.func (.func 61) #[] #[]] ?_;(with_reducible refine (q1k.calls k4 _ _ (q2M aM fN) () false _ ?side1 ?side2 gG.out).mono ?_);(case side1=>exact (X15 gB HB));(case side2=>exact gC.out);rintro e w68 ⟨rfl,hb⟩;refine ⟨_,rfl,?_⟩;replace bQ:=kB bQ hb;replace HB:=bS (X10 HB bT) hb;clear hb))
                   go_roundg k4
                   case measure=>have:=bY.out;have:=cG.out;have:=eH.out;have:=fO.out;omega
                   case rel=>exact ⟨(wrap64 (fN + 1)),X7,H',⟨by have:=bY.out;have:=cG.out;have:=eH.out;have:=fO.out;omega⟩,⟨(X9 bQ)⟩,⟨(X10 HB bT)⟩⟩
               ·exact iN fR H
              ·exact iN fQ H
             ·rw [if_neg fP] at H;have c60b0:=dF fP;clear fP;obtain ⟨gI,gK,H⟩:=oA H;(try dsimp only at H);by_cases gM:gI = 0
              ·rw [if_pos gM] at H;have c70b0:=eT gM;have c70b1:=eF gM;clear gM;obtain ⟨gN,gQ,H⟩:=oA H;(try dsimp only at H);by_cases gR:(wrap64 (cE + gN)) > 200
               ·rw [if_pos gR] at H;have c72b0:decide (200 < (wrap64 (cE + gN))) = true:=q0w gR;clear gR;obtain rfl:=q0d H;have Z73:=bc8 bQ;go_wp2_with (first|((with_reducible refine gc 35 ?_);refine gL (some 103) func35 #[.agg #[iv aQ,.string aT,iv aU,sl aW aY aX]] ?_;(with_reducible refine (q2V.calls k4 aQ aT aU _ _ aY gI _ ?side1 ?side2 gK.out).mono ?_);(case side1=>exact (X15 bK HB));(case side2=>exact bL.out);rintro e w74 ⟨rfl,hb⟩;refine ⟨_,rfl,?_⟩;replace bQ:=kB bQ hb;replace HB:=bS (X10 HB bT) hb;clear hb;have Z75:=bc8 bQ)|((with_reducible refine gc 30 ?_);refine gL (some 110) func30 #[.agg #[iv aQ,.string aT,iv aU,sl aW aY aX]] ?_;(with_reducible refine (q1M.calls k4 aQ aT aU _ _ aY gN _ ?side1 ?side2 gQ.out).mono ?_);(case side1=>exact (X15 bK HB));(case side2=>exact bL.out);rintro e w76 ⟨rfl,hb⟩;refine ⟨_,rfl,?_⟩;replace bQ:=kB bQ hb;replace HB:=bS (X10 HB bT) hb;clear hb))
                go_ret
                exact ⟨X11,(X10 HB bT)⟩
               ·rw [if_neg gR] at H;have c72b0:decide (200 < (wrap64 (cE + gN))) = false:=q0S gR;clear gR;obtain rfl:=q0d H;have Z77:=bc8 bQ;go_wp2_with (first|((with_reducible refine gc 35 ?_);refine gL (some 103) func35 #[.agg #[iv aQ,.string aT,iv aU,sl aW aY aX]] ?_;(with_reducible refine (q2V.calls k4 aQ aT aU _ _ aY gI _ ?side1 ?side2 gK.out).mono ?_);(case side1=>exact (X15 bK HB));(case side2=>exact bL.out);rintro e w78 ⟨rfl,hb⟩;refine ⟨_,rfl,?_⟩;replace bQ:=kB bQ hb;replace HB:=bS (X10 HB bT) hb;clear hb;have Z79:=bc8 bQ)|((with_reducible refine gc 30 ?_);refine gL (some 110) func30 #[.agg #[iv aQ,.string aT,iv aU,sl aW aY aX]] ?_;(with_reducible refine (q1M.calls k4 aQ aT aU _ _ aY gN _ ?side1 ?side2 gQ.out).mono ?_);(case side1=>exact (X15 bK HB));(case side2=>exact bL.out);rintro e w80 ⟨rfl,hb⟩;refine ⟨_,rfl,?_⟩;replace bQ:=kB bQ hb;replace HB:=bS (X10 HB bT) hb;clear hb))
                go_ret
                exact ⟨X11,(X10 HB bT)⟩
              ·rw [if_neg gM] at H;have c70b0:=nF gM;have c70b1:=nT gM;obtain rfl:=q0d H;have Z81:=bc8 bQ;go_wp2_with (first|((with_reducible refine gc 35 ?_);refine gL (some 103) func35 #[.agg #[iv aQ,.string aT,iv aU,sl aW aY aX]] ?_;(with_reducible refine (q2V.calls k4 aQ aT aU _ _ aY gI _ ?side1 ?side2 gK.out).mono ?_);(case side1=>exact (X15 bK HB));(case side2=>exact bL.out);rintro e w82 ⟨rfl,hb⟩;refine ⟨_,rfl,?_⟩;replace bQ:=kB bQ hb;replace HB:=bS (X10 HB bT) hb;clear hb))
               go_ret
               exact ⟨X11,(X10 HB bT)⟩
 ·replace c3:=fI c3;subst c3;replace H:=tN H;obtain rfl:=q0d H;go_enter func19,ntmps19;go_wp2_with (first|((with_reducible refine gd 1 ?_);(try (refine q1l (by rfl) ?_;dsimp only));refine be 1 #[.string aA,sl aC aE aD,sl aG aI aH,sl aJ aM aK,iv aQ,.string aT,iv aU,sl aW aY aX] 44 ?_;intro bP hg w83 hbox hb;have bQ:=am (hbox);have bR:=sG (w:=w) hg X6;have bT:=sG (w:=w) hg X6;replace HB:=bS X6 hb;clear hb hbox hg;have Z84:=bc8 bQ)|((with_reducible refine gc 58 ?_);refine gL (some 14) func58 #[.string aA] ?_;(with_reducible refine (q2v.calls k aA false _ A2.out).mono ?_);rintro e w' ⟨rfl,⟨nd,rfl⟩⟩;refine ⟨_,rfl,?_⟩))
  go_ret
  exact ⟨X11,(X10 HB bT)⟩
def q1j.l0:Nat → List q0a → q0a → Int → Int → Option (Int)
 | 0,_,_,_,_=>none
 | k + 1,x0,x1,x7,x8=>if x8 < x7 then (if 0≤x8 then (if x8 < (x0.length:Int) then (if x1.toList = (rdOf ByteArray.empty x0 x8).toList then (some x8) else (q1j.l0 k x0 x1 x7 (wrap64 (x8 + 1)))) else (none)) else (none)) else (some (-1))
def q1j.f (k:Nat) (l0:List q0a) (a1:q0a):Option (Int):=q1j.l0 k l0 a1 (l0.length:Int) 0
theorem q1j.mono_l:∀ k,(∀ y0 y1 y2 y3,LeO (q1j.l0 k y0 y1 y2 y3) (q1j.l0 (k + 1) y0 y1 y2 y3))
 | 0=>fun _ _ _ _ r h=>by simp [q1j.l0] at h
 | k + 1=>by
  have aA:=q1j.mono_l k
  ·intro y0 y1 y2 y3;unfold q1j.l0;exact X17
theorem q1j.mono:∀ a0 a1 k,LeO (q1j.f k a0 a1) (q1j.f (k + 1) a0 a1):=by
 intro a0 a1 k;have aA:=q1j.mono_l k;unfold q1j.f;exact X17
theorem q1j.calls (k:Nat) (A0:Option Addr) (c0:Nat) (l0:List q0a) (a1:q0a) (r:Int) (w:World) (aA:Kd.C Kd.string w A0 l0.length l0) (aC:l0.length≤c0) (h:q1j.f k l0 a1 = some r) :
  Calls prog 123 #[sl A0 l0 c0,.string a1] w fun e w'=>e = .returned (iv r)∧q3Q w w':=by
 have aD:=am aA;have HC0:=am aC;clear aA aC;have H:=h;clear h;unfold q1j.f at H;have H':=am H;clear H;go_enter func123,ntmps123;go_wp2
 go_loopg [8] k (fun kq v8 w'=>∃ (aE:Int),v8 = iv aE∧q0j (q1j.l0 kq l0 a1 (l0.length:Int) aE = some r)∧q0j (kq≤k)∧q3Q w w')
 case atStart=>exact ⟨(0),X7,H',⟨q0f _⟩,X18⟩
 case round=>
  clear H';(try clear c1 p2);obtain ⟨aE,rfl,HA,aG,⟨m1,rfl⟩⟩:=hrel;cases gk with
  | zero=>exact absurd HA.out (by simp [q1j.l0])
  | succ k1=>
   have H:=HA.out;clear HA;simp only [q1j.l0] at H;by_cases c3:aE < (l0.length:Int)
   ·rw [if_pos c3] at H;have c3b0:=dT c3;clear c3;by_cases c4:0≤aE
    ·rw [if_pos c4] at H;have c4b0:=dT c4;clear c4;by_cases c5:aE < (l0.length:Int)
     ·rw [if_pos c5] at H;have c5b0:=dT c5;clear c5;by_cases c6:a1.toList = (rdOf ByteArray.empty l0 aE).toList
      ·rw [if_pos c6] at H;have c6b0:=eT c6;have c6b1:=eF c6;clear c6;obtain rfl:=q0d H;have aH:0≤(aE:Int):=q0b X12;have aI:aE < (l0.length:Int):=q0b X12;obtain ⟨aJ,e441,aK⟩:=q2C aD.out aE aH aI;cases e441;replace aH:=q0c aH;replace aI:=q0c aI;go_wp2
       go_ret
       exact ⟨X7,X18⟩
      ·rw [if_neg c6] at H;have c6b0:=nF c6;have c6b1:=nT c6;have H':=am H;clear H;have aH:0≤(aE:Int):=q0b X12;have aI:aE < (l0.length:Int):=q0b X12;obtain ⟨aJ,e441,aK⟩:=q2C aD.out aE aH aI;cases e441;replace aH:=q0c aH;replace aI:=q0c aI;go_wp2
       go_roundg k1
       case measure=>have:=aG.out;omega
       case rel=>exact ⟨(wrap64 (aE + 1)),X7,H',⟨by have:=aG.out;omega⟩,X18⟩
     ·exact iN c5 H
    ·exact iN c4 H
   ·rw [if_neg c3] at H;have c3b0:=dF c3;clear c3;obtain rfl:=q0d H;go_wp2
    go_ret
    exact ⟨X7,X18⟩

def q1w.f (k:Nat) (l0:List q0a) (a1:q0a):Option (Bool):=(q1j.f k l0 a1).bind fun aA=>(some (decide (aA≥0)))
theorem q1w.mono:∀ a0 a1 k,LeO (q1w.f k a0 a1) (q1w.f (k + 1) a0 a1):=by
 intro a0 a1 k;unfold q1w.f;exact (by repeat' (with_reducible first | exact q1j.mono _ _ _ | exact LeO.refl _ | exact LeO.none _ | refine LeO.ite ?_ ?_ | refine LeO.bind ?_ (fun _=>?_) | apply q1j.mono))
theorem q1w.calls (k:Nat) (A0:Option Addr) (c0:Nat) (l0:List q0a) (a1:q0a) (r:Bool) (w:World) (aA:Kd.C Kd.string w A0 l0.length l0) (aC:l0.length≤c0) (h:q1w.f k l0 a1 = some r) :
  Calls prog 95 #[sl A0 l0 c0,.string a1] w fun e w'=>e = .returned (.bool r)∧q3Q w w':=by
 have aD:=am aA;have aE:=am aC;clear aA aC;have H:=h;clear h;unfold q1w.f at H;obtain ⟨aG,A3,H⟩:=oA H;(try dsimp only at H);obtain rfl:=q0d H;go_enter func95,ntmps95;go_wp2_with (first|((with_reducible refine gc 123 ?_);refine gL (some 7) func123 #[sl A0 l0 c0,.string a1] ?_;(with_reducible refine (q1j.calls k _ _ l0 a1 aG _ ?side1 ?side2 A3.out).mono ?_);(case side1=>exact X19);(case side2=>exact aE.out);rintro e w' ⟨rfl,⟨nd,rfl⟩⟩;refine ⟨_,rfl,?_⟩))
 go_ret
 exact ⟨X7,X18⟩
end Go.Proofs.YtmffocankommaaaDoor.J
