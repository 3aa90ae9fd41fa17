/- Printed walks: what each function of the program computes. Condition: the Lean function gives a value. -/
import Derived.Test.YtmffocankommaaaGreatDoorCYZed
import Derived.Test.YtmffocankommaaaGreatDoorCx3
import Derived.Test.YtmffocankommaaaGreatDoorCx17
namespace Go.Proofs.YtmffocankommaaaGreatDoor.B
open Go.RowKit Go.Proofs.YtmffocankommaaaGreatDoorW.PrintWords Go.Proofs.YtmffocankommaaaGreatDoorW.PrintLast Go.Proofs.YtmffocankommaaaGreatDoorW.PrintMore Go.Proofs.YtmffocankommaaaGreatDoorY Go.Proofs.YtmffocankommaaaGreatDoorS Go.Proofs.YtmffocankommaaaGreatDoorS
attribute [local go_sem] q1v q1N q1O q2f q2h q1D q1C q1P q1Q
set_option linter.unusedVariables false
set_option maxHeartbeats 8000000
set_option maxRecDepth 100000
set_option linter.unusedSimpArgs false
mutual
def q0v.j0:Nat → ByteArray → Bool → Option (Int)
 | 0,_,_=>none
 | k + 1,x0,aA=>if aA = true then (some 0) else (q0v.l0 k x0 1)
def q0v.l0:Nat → ByteArray → Int → Option (Int)
 | 0,_,_=>none
 | k + 1,x0,x3=>if x3 < (x0.size:Int) then (if 0≤x3 then ((q1E.f (bt x0 x3)).bind fun aA=>(if aA = true then (q0v.j2 k x0 x3 true) else ((q2b.f (bt x0 x3)).bind fun aC=>(q0v.j2 k x0 x3 aC)))) else (none)) else (some x3)
def q0v.j2:Nat → ByteArray → Int → Bool → Option (Int)
 | 0,_,_,_=>none
 | k + 1,x0,x3,aA=>if aA = true then (q0v.l0 k x0 (wrap64 (x3 + 1))) else (if 0≤x3 then (if x3 < (x0.size:Int) then (if (bt x0 x3) = 45 then (if (wrap64 (x3 + 1)) = (x0.size:Int) then (some x3) else (if 0≤(wrap64 (x3 + 1)) then (if (wrap64 (x3 + 1)) < (x0.size:Int) then ((q1E.f (bt x0 (wrap64 (x3 + 1)))).bind fun aC=>(if aC = true then (q0v.l0 k x0 (wrap64 (x3 + 2))) else ((q2b.f (bt x0 (wrap64 (x3 + 1)))).bind fun aD=>(if aD = true then (q0v.l0 k x0 (wrap64 (x3 + 2))) else (some x3))))) else (none)) else (none))) else (some x3)) else (none)) else (none))
end
def q0v.f (k:Nat) (a0:ByteArray):Option (Int):=if a0.toList = ([]:List UInt8) then (q0v.j0 k a0 true) else (if 0 < (a0.size:Int) then ((q1E.f (bt a0 0)).bind fun aA=>(q0v.j0 k a0 (!aA))) else (none))
theorem q0v.mono_l:∀ k,(∀ y0 y1,LeO (q0v.j0 k y0 y1) (q0v.j0 (k + 1) y0 y1))∧(∀ y0 y1,LeO (q0v.l0 k y0 y1) (q0v.l0 (k + 1) y0 y1))∧(∀ y0 y1 y2,LeO (q0v.j2 k y0 y1 y2) (q0v.j2 (k + 1) y0 y1 y2))
 | 0=>⟨fun _ _ r h=>by simp [q0v.j0] at h,fun _ _ r h=>by simp [q0v.l0] at h,fun _ _ _ r h=>by simp [q0v.j2] at h⟩
 | k + 1=>by
  obtain ⟨aA,aC,aD⟩:=q0v.mono_l k;refine ⟨?_,?_,?_⟩
  ·intro y0 y1;unfold q0v.j0;exact X107
  ·intro y0 y1;unfold q0v.l0;exact X107
  ·intro y0 y1 y2;unfold q0v.j2;exact X107
theorem q0v.mono:∀ a0 k,LeO (q0v.f k a0) (q0v.f (k + 1) a0):=by
 intro a0 k;obtain ⟨aA,aC,aD⟩:=q0v.mono_l k;unfold q0v.f;exact X107
theorem q0v.calls (k:Nat) (a0:ByteArray) (r:Int) (w:World) (h:q0v.f k a0 = some r) :
  Calls Tryz.prog 89 #[.string a0] w fun e w'=>e = .returned (.int .i64 r)∧q1Y w w':=by
 have H:=h;clear h;unfold q0v.f at H;have aA:=am H;clear H;go_enter Tryz.func89,Tryz.ntmps89;go_upto_region 1 with (fail)
 go_cut [11] (fun aC wc=>∃ (kq:Nat) (aD:Bool),aC = .bool aD∧q0c (q0v.j0 kq a0 aD = some r)∧q0c (kq≤k)∧q1Y w wc)
 case first=>
  have H:=aA.out;clear aA;by_cases c3:a0.toList = ([]:List UInt8)
  ·rw [if_pos c3] at H;have c3b0:=eT c3;have c3b1:=eF c3;clear c3;(first | rw [c3b0]|(simp only [q2G,q2L];rw [c3b0]) | skip);have H':=am H;clear H;go_wp2
   go_meet
   case rel=>exact ⟨_,(true),X4,H',⟨X7⟩,X5⟩
  ·rw [if_neg c3] at H;have c3b0:=nF c3;have c3b1:=nT c3;(first | rw [c3b0]|(simp only [q2G,q2L];rw [c3b0]) | skip);by_cases c4:0 < (a0.size:Int)
   ·rw [if_pos c4] at H;have c4b0:=dT c4;have c4b1:decide (0 < a0.size) = true:=decide_eq_true (by omega);clear c4;obtain ⟨aE,aG,H⟩:=oB H;(try dsimp only at H);have A6:=am aG;clear aG;have H':=am H;clear H;have p5:0≤(0:Int):=(by omega);have q5:0 < a0.size:=(by have:(0:Int) < (a0.size:Int):=of_decide_eq_true X8;omega);have aH:∀ h:0 < a0.size,((a0[0]'h).toNat:Int) = bt a0 0:=q2C a0 0;clear p5;have aI:(0 < (a0.size:Int)) = True:=eq_true (of_decide_eq_true X8);replace q5:=eq_true q5;go_wp2_with (first|(go_at_call 115;(with_reducible refine (q1E.calls (bt a0 0) aE _ A6.out).mono ?_);rintro e w' ⟨rfl,⟨nd,rfl⟩⟩))
    go_meet
    case rel=>exact ⟨_,(!aE),X4,H',⟨X7⟩,X5⟩
   ·exact iN c4 H
 case rest=>
  clear aA;(try clear p2 c3 c3b0 c3b1 c4 c4b0 c4b1);(try clear p5 p5);(try clear q5 q5);(try clear aH aI);obtain ⟨kq,aD,rfl,HA,aJ,⟨mc1,rfl⟩⟩:=hcut;cases kq with
  | zero=>exact absurd HA.out (by simp [q0v.j0])
  | succ aK=>
   have H:=HA.out;clear HA;simp only [q0v.j0] at H;by_cases c7:aD = true
   ·subst c7;replace H:=tP H;obtain rfl:=Option.some.inj H;go_wp2
    go_ret
    exact ⟨X4,X5⟩
   ·replace c7:=Bool.eq_false_iff.mpr c7;subst c7;replace H:=tN H;have H':=am H;clear H;go_wp2
    go_loopg [3] aK (fun kq v3 w'=>∃ (aM:Int),v3 = .int .i64 aM∧q0c (q0v.l0 kq a0 aM = some r)∧q0c (kq≤aK)∧q1Y w w')
    case atStart=>exact ⟨(1),X4,H',⟨Nat.le_refl _⟩,X5⟩
    case round=>
     clear H';(try clear c1);(try clear p2 p2);(try clear c3 c3b0 c3b1 c4 c4b0 c4b1);(try clear p5 p5);(try clear q5 q5);(try clear aH aI c7);obtain ⟨aM,rfl,HA,aQ,⟨m2,rfl⟩⟩:=hrel;cases gk with
     | zero=>exact absurd HA.out (by simp [q0v.l0])
     | succ k2=>
      have H:=HA.out;clear HA;simp only [q0v.l0] at H;by_cases c8:aM < (a0.size:Int)
      ·rw [if_pos c8] at H;have c8b0:=dT c8;clear c8;have aT:=am H;clear H;go_upto_region 5 with (fail)
       go_cut [25] (fun aU wc=>∃ (kq:Nat) (aW:Bool),aU = .bool aW∧q0c (q0v.j2 kq a0 aM aW = some r)∧q0c (kq≤k2)∧q1Y w wc)
       case first=>
        have H:=aT.out;clear aT;by_cases c10:0≤aM
        ·rw [if_pos c10] at H;have c10b0:=dT c10;clear c10;(first | rw [c10b0]|(simp only [q2G,q2L];rw [c10b0]) | skip);obtain ⟨aX,aY,H⟩:=oB H;(try dsimp only at H);have aZ:=am aY;clear aY;by_cases bA:aX = true
         ·subst bA;replace H:=tP H;have H':=am H;clear H;have bB:0≤(aM:Int):=of_decide_eq_true X8;have bC:aM < (a0.size:Int):=of_decide_eq_true X8;have bD:=q2C a0 aM;replace bB:=eq_true bB;replace bC:=eq_true bC;go_wp2_with (first|((with_reducible refine gc 115 ?_);refine gL (some 19) Tryz.func115 #[.int .u8 (bt a0 aM)] ?_;(with_reducible refine (q1E.calls (bt a0 aM) true _ aZ.out).mono ?_);rintro e w' ⟨rfl,⟨nd,rfl⟩⟩;refine ⟨_,rfl,?_⟩))
          go_meet
          case rel=>exact ⟨_,(true),X4,H',⟨X9⟩,X5⟩
         ·replace bA:=Bool.eq_false_iff.mpr bA;subst bA;replace H:=tN H;obtain ⟨bE,bF,H⟩:=oB H;(try dsimp only at H);have bG:=am bF;clear bF;have H':=am H;clear H;have bB:0≤(aM:Int):=of_decide_eq_true X8;have bC:aM < (a0.size:Int):=of_decide_eq_true X8;have bD:=q2C a0 aM;replace bB:=eq_true bB;replace bC:=eq_true bC;go_wp2_with (first|((with_reducible refine gc 115 ?_);refine gL (some 19) Tryz.func115 #[.int .u8 (bt a0 aM)] ?_;(with_reducible refine (q1E.calls (bt a0 aM) false _ aZ.out).mono ?_);rintro e w' ⟨rfl,⟨nd,rfl⟩⟩;refine ⟨_,rfl,?_⟩;have bH:0≤(aM:Int):=of_decide_eq_true X8;have bI:aM < (a0.size:Int):=of_decide_eq_true X8;have bJ:=q2C a0 aM;replace bH:=eq_true bH;replace bI:=eq_true bI)|(go_at_call 116;(with_reducible refine (q2b.calls (bt a0 aM) bE _ bG.out).mono ?_);rintro e w' ⟨rfl,⟨nd,rfl⟩⟩))
          go_meet
          case rel=>exact ⟨_,(bE),X4,H',⟨X9⟩,X5⟩
        ·exact iN c10 H
       case rest=>
        clear aT;(try clear c1 p1 q1 hx1);(try clear p2 p2);(try clear c3 c3b0 c3b1 c4 c4b0 c4b1);(try clear p5 p5);(try clear q5 q5);(try clear aH aI c7 c8 c8b0 c10 c10b0 c11);(try clear bB bB);(try clear bC bC);(try clear bD bA);(try clear bH bH);(try clear bI bI);(try clear bJ);obtain ⟨kq,aW,rfl,HA,bK,⟨mc8,rfl⟩⟩:=hcut;cases kq with
        | zero=>exact absurd HA.out (by simp [q0v.j2])
        | succ bL=>
         have H:=HA.out;clear HA;simp only [q0v.j2] at H;by_cases bM:aW = true
         ·subst bM;replace H:=tP H;have H':=am H;clear H;go_wp2
          go_roundg bL
          case measure=>have:=aJ.out;have:=aQ.out;have:=bK.out;omega
          case rel=>exact ⟨(wrap64 (aM + 1)),X4,H',⟨X108⟩,X5⟩
         ·replace bM:=Bool.eq_false_iff.mpr bM;subst bM;replace H:=tN H;by_cases bN:0≤aM
          ·rw [if_pos bN] at H;have c17b0:=dT bN;clear bN;by_cases bO:aM < (a0.size:Int)
           ·rw [if_pos bO] at H;have c18b0:=dT bO;clear bO;by_cases bP:(bt a0 aM) = 45
            ·rw [if_pos bP] at H;have c20b0:=eT bP;have c20b1:=eF bP;clear bP;by_cases bQ:(wrap64 (aM + 1)) = (a0.size:Int)
             ·rw [if_pos bQ] at H;have c21b0:=eT bQ;have c21b1:=eF bQ;clear bQ;obtain rfl:=Option.some.inj H;have bR:0≤(aM:Int):=of_decide_eq_true X8;have bT:aM < (a0.size:Int):=of_decide_eq_true X8;have bU:=q2C a0 aM;replace bR:=eq_true bR;replace bT:=eq_true bT;go_wp2
              go_ret
              exact ⟨X4,X5⟩
             ·rw [if_neg bQ] at H;have c21b0:=nF bQ;have c21b1:=nT bQ;obtain ⟨bV,bW⟩:∃ j_:Int,(wrap64 (aM + 1)) = j_:=⟨_,rfl⟩;replace H:(if 0≤(bV) then (if (bV) < (a0.size:Int) then ((q1E.f (bt a0 (bV))).bind fun bX=>(if bX = true then (q0v.l0 bL a0 (wrap64 (aM + 2))) else ((q2b.f (bt a0 (bV))).bind fun bY=>(if bY = true then (q0v.l0 bL a0 (wrap64 (aM + 2))) else (some aM))))) else (none)) else (none)) = some r:=by first|(rw [bW] at H;exact H)|(simp only [bW] at H ⊢;exact H)
              (try rw [bW] at c21b0);(try rw [bW] at c21b1);have hji22w:(IntKind.i64.wrap (aM + 1)) = bV:=(q2G _).trans bW;by_cases bZ:0≤(bV)
              ·rw [if_pos bZ] at H;have c23b0:=dT bZ;clear bZ;by_cases cA:(bV) < (a0.size:Int)
               ·rw [if_pos cA] at H;have c24b0:=dT cA;clear cA;obtain ⟨bX,cC,H⟩:=oB H;(try dsimp only at H);have cD:=am cC;clear cC;by_cases cE:bX = true
                ·subst cE;replace H:=tP H;have H':=am H;clear H;have bR:0≤(aM:Int):=of_decide_eq_true X8;have bT:aM < (a0.size:Int):=of_decide_eq_true X8;have bU:=q2C a0 aM;replace bR:=eq_true bR;replace bT:=eq_true bT;have cF:0≤((bV):Int):=of_decide_eq_true X8;have cG:(bV) < (a0.size:Int):=of_decide_eq_true X8;have cH:=q2C a0 (bV);replace cF:=eq_true cF;replace cG:=eq_true cG;go_wp2_with (first|(go_at_call 115;(with_reducible refine (q1E.calls (bt a0 (bV)) true _ cD.out).mono ?_);rintro e w' ⟨rfl,⟨nd,rfl⟩⟩))
                 go_roundg bL
                 case measure=>have:=aJ.out;have:=aQ.out;have:=bK.out;omega
                 case rel=>exact ⟨(wrap64 (aM + 2)),X4,H',⟨X108⟩,X5⟩
                ·replace cE:=Bool.eq_false_iff.mpr cE;subst cE;replace H:=tN H;obtain ⟨bY,cI,H⟩:=oB H;(try dsimp only at H);have cJ:=am cI;clear cI;by_cases cK:bY = true
                 ·subst cK;replace H:=tP H;have H':=am H;clear H;have bR:0≤(aM:Int):=of_decide_eq_true X8;have bT:aM < (a0.size:Int):=of_decide_eq_true X8;have bU:=q2C a0 aM;replace bR:=eq_true bR;replace bT:=eq_true bT;have cF:0≤((bV):Int):=of_decide_eq_true X8;have cG:(bV) < (a0.size:Int):=of_decide_eq_true X8;have cH:=q2C a0 (bV);replace cF:=eq_true cF;replace cG:=eq_true cG;go_wp2_with (first|(go_at_call 115;(with_reducible refine (q1E.calls (bt a0 (bV)) false _ cD.out).mono ?_);rintro e w' ⟨rfl,⟨nd,rfl⟩⟩;have cL:0≤((bV):Int):=of_decide_eq_true X8;have cM:(bV) < (a0.size:Int):=of_decide_eq_true X8;have cN:=q2C a0 (bV);replace cL:=eq_true cL;replace cM:=eq_true cM)|(go_at_call 116;(with_reducible refine (q2b.calls (bt a0 (bV)) true _ cJ.out).mono ?_);rintro e w' ⟨rfl,⟨nd,rfl⟩⟩))
                  go_roundg bL
                  case measure=>have:=aJ.out;have:=aQ.out;have:=bK.out;omega
                  case rel=>exact ⟨(wrap64 (aM + 2)),X4,H',⟨X108⟩,X5⟩
                 ·replace cK:=Bool.eq_false_iff.mpr cK;subst cK;replace H:=tN H;obtain rfl:=Option.some.inj H;have bR:0≤(aM:Int):=of_decide_eq_true X8;have bT:aM < (a0.size:Int):=of_decide_eq_true X8;have bU:=q2C a0 aM;replace bR:=eq_true bR;replace bT:=eq_true bT;have cF:0≤((bV):Int):=of_decide_eq_true X8;have cG:(bV) < (a0.size:Int):=of_decide_eq_true X8;have cH:=q2C a0 (bV);replace cF:=eq_true cF;replace cG:=eq_true cG;go_wp2_with (first|(go_at_call 115;(with_reducible refine (q1E.calls (bt a0 (bV)) false _ cD.out).mono ?_);rintro e w' ⟨rfl,⟨nd,rfl⟩⟩;have cL:0≤((bV):Int):=of_decide_eq_true X8;have cM:(bV) < (a0.size:Int):=of_decide_eq_true X8;have cN:=q2C a0 (bV);replace cL:=eq_true cL;replace cM:=eq_true cM)|(go_at_call 116;(with_reducible refine (q2b.calls (bt a0 (bV)) false _ cJ.out).mono ?_);rintro e w' ⟨rfl,⟨nd,rfl⟩⟩))
                  go_ret
                  exact ⟨by first | rfl|(simp;done)|(simp only [← bW] <;> (first | rfl | simp))|(simp [*];done),X5⟩
               ·exact iN cA H
              ·exact iN bZ H
            ·rw [if_neg bP] at H;have c20b0:=nF bP;have c20b1:=nT bP;obtain rfl:=Option.some.inj H;have bR:0≤(aM:Int):=of_decide_eq_true X8;have bT:aM < (a0.size:Int):=of_decide_eq_true X8;have bU:=q2C a0 aM;replace bR:=eq_true bR;replace bT:=eq_true bT;go_wp2
             go_ret
             exact ⟨X4,X5⟩
           ·exact iN bO H
          ·exact iN bN H
      ·rw [if_neg c8] at H;have c8b0:=dF c8;clear c8;obtain rfl:=Option.some.inj H;go_wp2
       go_ret
       exact ⟨X4,X5⟩

def q1x.f (k:Nat) (a0:ByteArray):Option (Bool):=if a0.toList = ([]:List UInt8) then (some false) else (if (a0.size:Int)≤20 then ((q0v.f k a0).bind fun aA=>(some (aA == (a0.size:Int)))) else (some false))
theorem q1x.mono:∀ a0 k,LeO (q1x.f k a0) (q1x.f (k + 1) a0):=by
 intro a0 k;unfold q1x.f;exact (by repeat' first|(with_reducible exact q0v.mono _ _)|(with_reducible exact LeO.refl _)|(with_reducible exact LeO.none _)|(with_reducible refine LeO.ite ?_ ?_)|(with_reducible refine LeO.bind ?_ (fun _=>?_)) | exact q0v.mono _ _ | exact LeO.none _ | refine LeO.ite ?_ ?_ | refine LeO.bind ?_ (fun _=>?_))
theorem q1x.calls (k:Nat) (a0:ByteArray) (r:Bool) (w:World) (h:q1x.f k a0 = some r) :
  Calls Tryz.prog 67 #[.string a0] w fun e w'=>e = .returned (.bool r)∧q1Y w w':=by
 have H:=h;clear h;unfold q1x.f at H;by_cases c2:a0.toList = ([]:List UInt8)
 ·rw [if_pos c2] at H;have c2b0:=eT c2;have c2b1:=eF c2;clear c2;obtain rfl:=Option.some.inj H;go_enter Tryz.func67,Tryz.ntmps67;go_wp2
  go_ret
  exact ⟨X4,X5⟩
 ·rw [if_neg c2] at H;have c2b0:=nF c2;have c2b1:=nT c2;by_cases c3:(a0.size:Int)≤20
  ·rw [if_pos c3] at H;have c3b0:=dT c3;have c3b1:decide (a0.size≤20) = true:=decide_eq_true (by omega);clear c3;obtain ⟨aA,aC,H⟩:=oB H;(try dsimp only at H);have A4:=am aC;clear aC;obtain rfl:=Option.some.inj H;go_enter Tryz.func67,Tryz.ntmps67;go_wp2_with (first|(go_at_call 89;(with_reducible refine (q0v.calls k a0 aA _ A4.out).mono ?_);rintro e w' ⟨rfl,⟨nd,rfl⟩⟩))
   go_ret
   exact ⟨X4,X5⟩
  ·rw [if_neg c3] at H;have c3b0:=dF c3;have c3b1:decide (a0.size≤20) = false:=decide_eq_false (by omega);clear c3;obtain rfl:=Option.some.inj H;go_enter Tryz.func67,Tryz.ntmps67;go_wp2
   go_ret
   exact ⟨X4,X5⟩

def q1y.f (k:Nat) (a0:ByteArray):Option (Bool):=(q1x.f k a0).bind fun aA=>(if aA = true then (if a0.toList = ([117]:List UInt8) then (some false) else (some (a0.toList != ([120]:List UInt8)))) else (some false))
theorem q1y.mono:∀ a0 k,LeO (q1y.f k a0) (q1y.f (k + 1) a0):=by
 intro a0 k;unfold q1y.f;exact (by repeat' first|(with_reducible exact q1x.mono _ _)|(with_reducible exact LeO.refl _)|(with_reducible exact LeO.none _)|(with_reducible refine LeO.ite ?_ ?_)|(with_reducible refine LeO.bind ?_ (fun _=>?_)) | exact q1x.mono _ _ | exact LeO.none _ | refine LeO.ite ?_ ?_ | refine LeO.bind ?_ (fun _=>?_))
theorem q1y.calls (k:Nat) (a0:ByteArray) (r:Bool) (w:World) (h:q1y.f k a0 = some r) :
  Calls Tryz.prog 68 #[.string a0] w fun e w'=>e = .returned (.bool r)∧q1Y w w':=by
 have H:=h;clear h;unfold q1y.f at H;obtain ⟨aA,aC,H⟩:=oB H;(try dsimp only at H);have A2:=am aC;clear aC;by_cases c3:aA = true
 ·subst c3;replace H:=tP H;by_cases c4:a0.toList = ([117]:List UInt8)
  ·rw [if_pos c4] at H;have c4b0:=eT c4;have c4b1:=eF c4;clear c4;obtain rfl:=Option.some.inj H;go_enter Tryz.func68,Tryz.ntmps68;go_wp2_with (first|((with_reducible refine gc 67 ?_);refine gL (some 4) Tryz.func67 #[.string a0] ?_;(with_reducible refine (q1x.calls k a0 true _ A2.out).mono ?_);rintro e w' ⟨rfl,⟨nd,rfl⟩⟩;refine ⟨_,rfl,?_⟩))
   go_ret
   exact ⟨X4,X5⟩
  ·rw [if_neg c4] at H;have c4b0:=nF c4;have c4b1:=nT c4;obtain rfl:=Option.some.inj H;go_enter Tryz.func68,Tryz.ntmps68;go_wp2_with (first|((with_reducible refine gc 67 ?_);refine gL (some 4) Tryz.func67 #[.string a0] ?_;(with_reducible refine (q1x.calls k a0 true _ A2.out).mono ?_);rintro e w' ⟨rfl,⟨nd,rfl⟩⟩;refine ⟨_,rfl,?_⟩))
   go_ret
   exact ⟨X4,X5⟩
 ·replace c3:=Bool.eq_false_iff.mpr c3;subst c3;replace H:=tN H;obtain rfl:=Option.some.inj H;go_enter Tryz.func68,Tryz.ntmps68;go_wp2_with (first|((with_reducible refine gc 67 ?_);refine gL (some 4) Tryz.func67 #[.string a0] ?_;(with_reducible refine (q1x.calls k a0 false _ A2.out).mono ?_);rintro e w' ⟨rfl,⟨nd,rfl⟩⟩;refine ⟨_,rfl,?_⟩))
  go_ret
  exact ⟨X4,X5⟩
mutual
def q0s.j0:Nat → Bool → Int → ByteArray → Int → List (S28) → Option (Bool)
 | 0,_,_,_,_,_=>none
 | k + 1,x3,aA,aC,aD,aE=>if aA < 1 then (q0s.j1 k true aA aC aD aE) else (if aA > 12 then (q0s.j1 k true aA aC aD aE) else (if x3 = true then (if aA = 7 then (q0s.j1 k false aA aC aD aE) else (q0s.j1 k (aD != 0) aA aC aD aE)) else (if aC.toList = ([]:List UInt8) then (if aA = 7 then (q0s.j1 k false aA aC aD aE) else (q0s.j1 k (aD != 0) aA aC aD aE)) else (q0s.j1 k true aA aC aD aE))))
def q0s.j1:Nat → Bool → Int → ByteArray → Int → List (S28) → Option (Bool)
 | 0,_,_,_,_,_=>none
 | k + 1,aA,aC,aD,aE,aG=>if aA = true then (some false) else (if aC = 5 then (q0s.l0 k 0 aC aD aE aG) else (if aC = 6 then (some (decide ((aG.length:Int)≥2))) else (if aC = 7 then (some ((aG.length:Int) == 1)) else (if aC = 8 then (some ((aG.length:Int) == 1)) else (if aC = 12 then (some ((aG.length:Int) == 1)) else (some ((aG.length:Int) == 0)))))))
def q0s.l0:Nat → Int → Int → ByteArray → Int → List (S28) → Option (Bool)
 | 0,_,_,_,_,_=>none
 | k + 1,x4,aA,aC,aD,aE=>if x4 < (aE.length:Int) then (if 0≤x4 then (if ((q0b aE x4).f0) = 5 then (some false) else (q0s.l0 k (wrap64 (x4 + 1)) aA aC aD aE)) else (none)) else (some ((aE.length:Int) != 1))
end
def q0s.f (k:Nat) (aA:Int) (aC:ByteArray) (aD:Int) (aE:List (S28)):Option (Bool):=if aA = 4 then (q0s.j0 k true aA aC aD aE) else (if aA = 11 then (q0s.j0 k true aA aC aD aE) else (q0s.j0 k (aA == 12) aA aC aD aE))
theorem q0s.mono_l:∀ k,(∀ y0 y1 y2 y3 y4,LeO (q0s.j0 k y0 y1 y2 y3 y4) (q0s.j0 (k + 1) y0 y1 y2 y3 y4))∧(∀ y0 y1 y2 y3 y4,LeO (q0s.j1 k y0 y1 y2 y3 y4) (q0s.j1 (k + 1) y0 y1 y2 y3 y4))∧(∀ y0 y1 y2 y3 y4,LeO (q0s.l0 k y0 y1 y2 y3 y4) (q0s.l0 (k + 1) y0 y1 y2 y3 y4))
 | 0=>⟨fun _ _ _ _ _ r h=>by simp [q0s.j0] at h,fun _ _ _ _ _ r h=>by simp [q0s.j1] at h,fun _ _ _ _ _ r h=>by simp [q0s.l0] at h⟩
 | k + 1=>by
  obtain ⟨aA,aC,aD⟩:=q0s.mono_l k;refine ⟨?_,?_,?_⟩
  ·intro y0 y1 y2 y3 y4;unfold q0s.j0;exact X109
  ·intro y0 y1 y2 y3 y4;unfold q0s.j1;exact X109
  ·intro y0 y1 y2 y3 y4;unfold q0s.l0;exact X109
theorem q0s.mono:∀ a0 a1 a2 a3 k,LeO (q0s.f k a0 a1 a2 a3) (q0s.f (k + 1) a0 a1 a2 a3):=by
 intro a0 a1 a2 a3 k;obtain ⟨aA,aC,aD⟩:=q0s.mono_l k;unfold q0s.f;exact X109
theorem q0s.calls (k:Nat) (aA:Int) (aC:ByteArray) (aD:Int) (aE:Option Addr) (aG:Nat) (aH:List (S28)) (r:Bool) (w:World) (aI:Kd.C k28 w aE aH.length aH) (aJ:aH.length≤aG) (h:q0s.f k aA aC aD aH = some r) :
  Calls Tryz.prog 101 #[.agg #[.int .i64 aA,.string aC,.int .i64 aD,.slice aE aH.length aG]] w fun e w'=>e = .returned (.bool r)∧Below w.heap.size w w':=by
 have hu28:=Tryz.underlying28;have aK:=am aI;have HC0_3:=am aJ;clear aI aJ;have HB:=am (Below.refl w.heap.size w);have H:=h;clear h;unfold q0s.f at H;have aM:=am H;clear H;go_enter Tryz.func101,Tryz.ntmps101;go_upto_region 1 with (first|((with_reducible refine gd 1 ?_);refine be 1 #[.int .i64 aA,.string aC,.int .i64 aD,.slice aE aH.length aG] 28 ?_;intro aQ hg w3 hbox hb;have aT:=am (hbox);have GW739:=sG (w:=w) hg X13;have aU:=sG (w:=w) hg X13;replace HB:=bS X13 hb;clear hb hbox hg))
 (try simp only [Act.put,List.setIfInBounds_toArray,List.set_cons_zero,List.set_cons_succ]);go_cut [3] (fun v3 wc=>∃ (kq:Nat) (aW:Bool),v3 = .bool aW∧q0c (q0s.j0 kq aW aA aC aD aH = some r)∧q0c (kq≤k)∧q0c (wc.heap[aQ]? = some (.cells #[.int .i64 aA,.string aC,.int .i64 aD,(.slice aE aH.length aG)] 28 (0,0)))∧q0c (Below w.heap.size w wc))
 case first=>
  have H:=aM.out;clear aM;by_cases c4:aA = 4
  ·rw [if_pos c4] at H;have c4b0:=eT c4;have c4b1:=eF c4;clear c4;(first | rw [c4b0]|(simp only [q2G,q2L];rw [c4b0]) | skip);have H':=am H;clear H;have Z5:=bc4 aT;go_wp2
   go_meet
   case rel=>exact ⟨_,(true),X4,H',⟨X7⟩,⟨X104⟩,⟨X99⟩⟩
  ·rw [if_neg c4] at H;have c4b0:=nF c4;have c4b1:=nT c4;(first | rw [c4b0]|(simp only [q2G,q2L];rw [c4b0]) | skip);by_cases c6:aA = 11
   ·rw [if_pos c6] at H;have c6b0:=eT c6;have c6b1:=eF c6;clear c6;have H':=am H;clear H;have Z7:=bc4 aT;go_wp2
    go_meet
    case rel=>exact ⟨_,(true),X4,H',⟨X7⟩,⟨X104⟩,⟨X99⟩⟩
   ·rw [if_neg c6] at H;have c6b0:=nF c6;have c6b1:=nT c6;have H':=am H;clear H;have Z8:=bc4 aT;go_wp2
    go_meet
    case rel=>exact ⟨_,((aA == 12)),X4,H',⟨X7⟩,⟨X104⟩,⟨X99⟩⟩
 case rest=>
  clear aM;(try clear c1 p2 c4 c4b0 c4b1 c6 c6b0 c6b1 Z5 Z7 Z8);obtain ⟨kq,aW,rfl,HA,aX,aT,HB⟩:=hcut;cases kq with
  | zero=>exact absurd HA.out (by simp [q0s.j0])
  | succ aY=>
   have H:=HA.out;clear HA;simp only [q0s.j0] at H;have aZ:=am H;clear H;go_upto_region 2 with (fail)
   go_cut [44] (fun bA wc=>∃ (kq:Nat) (bB:Bool),bA = .bool bB∧q0c (q0s.j1 kq bB aA aC aD aH = some r)∧q0c (kq≤aY)∧q0c (wc.heap[aQ]? = some (.cells #[.int .i64 aA,.string aC,.int .i64 aD,(.slice aE aH.length aG)] 28 (0,0)))∧q0c (Below w.heap.size w wc))
   case first=>
    have H:=aZ.out;clear aZ;by_cases c10:aA < 1
    ·rw [if_pos c10] at H;have c10b0:=dT c10;clear c10;(first | rw [c10b0]|(simp only [q2G,q2L];rw [c10b0]) | skip);have H':=am H;clear H;have bC:=bc4 aT;go_wp2
     go_meet
     case rel=>exact ⟨_,(true),X4,H',⟨X110⟩,⟨X104⟩,⟨X99⟩⟩
    ·rw [if_neg c10] at H;have c10b0:=dF c10;clear c10;(first | rw [c10b0]|(simp only [q2G,q2L];rw [c10b0]) | skip);by_cases bD:aA > 12
     ·rw [if_pos bD] at H;have c12b0:decide (12 < aA) = true:=decide_eq_true bD;clear bD;have H':=am H;clear H;have bE:=bc4 aT;go_wp2
      go_meet
      case rel=>exact ⟨_,(true),X4,H',⟨X110⟩,⟨X104⟩,⟨X99⟩⟩
     ·rw [if_neg bD] at H;have c12b0:decide (12 < aA) = false:=decide_eq_false bD;clear bD;by_cases bF:aW = true
      ·subst bF;replace H:=tP H;by_cases bG:aA = 7
       ·rw [if_pos bG] at H;have c15b0:=eT bG;have c15b1:=eF bG;clear bG;have H':=am H;clear H;have bH:=bc4 aT;go_wp2
        go_meet
        case rel=>exact ⟨_,(false),X4,H',⟨X110⟩,⟨X104⟩,⟨X99⟩⟩
       ·rw [if_neg bG] at H;have c15b0:=nF bG;have c15b1:=nT bG;have H':=am H;clear H;have bI:=bc4 aT;go_wp2
        go_meet
        case rel=>exact ⟨_,((aD != 0)),X4,H',⟨X110⟩,⟨X104⟩,⟨X99⟩⟩
      ·replace bF:=Bool.eq_false_iff.mpr bF;subst bF;replace H:=tN H;by_cases bJ:aC.toList = ([]:List UInt8)
       ·rw [if_pos bJ] at H;have c18b0:=eT bJ;have c18b1:=eF bJ;clear bJ;by_cases bK:aA = 7
        ·rw [if_pos bK] at H;have c19b0:=eT bK;have c19b1:=eF bK;clear bK;have H':=am H;clear H;have bL:=bc4 aT;go_wp2
         go_meet
         case rel=>exact ⟨_,(false),X4,H',⟨X110⟩,⟨X104⟩,⟨X99⟩⟩
        ·rw [if_neg bK] at H;have c19b0:=nF bK;have c19b1:=nT bK;have H':=am H;clear H;have bM:=bc4 aT;go_wp2
         go_meet
         case rel=>exact ⟨_,((aD != 0)),X4,H',⟨X110⟩,⟨X104⟩,⟨X99⟩⟩
       ·rw [if_neg bJ] at H;have c18b0:=nF bJ;have c18b1:=nT bJ;have H':=am H;clear H;have bN:=bc4 aT;go_wp2
        go_meet
        case rel=>exact ⟨_,(true),X4,H',⟨X110⟩,⟨X104⟩,⟨X99⟩⟩
   case rest=>
    clear aZ;(try clear c1);(try clear p2 p2);(try clear c4 c4b0 c4b1 c6 c6b0 c6b1 c10 c10b0 bD c12b0 bF bG c15b0 c15b1 bJ c18b0 c18b1 bK c19b0 c19b1 bC bE bH bI bL bM bN Z5 Z7 Z8);obtain ⟨kq,bB,rfl,HA,bO,aT,HB⟩:=hcut;cases kq with
    | zero=>exact absurd HA.out (by simp [q0s.j1])
    | succ bP=>
     have H:=HA.out;clear HA;simp only [q0s.j1] at H;by_cases bQ:bB = true
     ·subst bQ;replace H:=tP H;obtain rfl:=Option.some.inj H;go_wp2
      go_ret
      exact ⟨X14,X99⟩
     ·replace bQ:=Bool.eq_false_iff.mpr bQ;subst bQ;replace H:=tN H;by_cases bR:aA = 5
      ·rw [if_pos bR] at H;have c24b0:=eT bR;have c24b1:=eF bR;clear bR;have H':=am H;clear H;have bT:=bc4 aT;go_wp2
       go_loopg [4] bP (fun kq v4 w'=>∃ (bU:Int),v4 = .int .i64 bU∧q0c (q0s.l0 kq bU aA aC aD aH = some r)∧q0c (kq≤bP)∧q0c (w'.heap[aQ]? = some (.cells #[.int .i64 aA,.string aC,.int .i64 aD,(.slice aE aH.length aG)] 28 (0,0)))∧q0c (Below w.heap.size w w'))
       case atStart=>exact ⟨(0),X4,H',⟨Nat.le_refl _⟩,⟨X104⟩,⟨X99⟩⟩
       case round=>
        clear H';(try clear c1 c2);(try clear p2 p2);(try clear c4 c4b0 c4b1 c6 c6b0 c6b1 c10 c10b0 bD c12b0 bF bG c15b0 c15b1 bJ c18b0 c18b1 bK c19b0 c19b1 bQ bR c24b0 c24b1 bC bE bH bI bL bM bN bT Z5 Z7 Z8);obtain ⟨bU,rfl,HA,bV,aT,HB⟩:=hrel;cases gk with
        | zero=>exact absurd HA.out (by simp [q0s.l0])
        | succ k3=>
         have H:=HA.out;clear HA;simp only [q0s.l0] at H;by_cases bW:bU < (aH.length:Int)
         ·rw [if_pos bW] at H;have c26b0:=dT bW;clear bW;by_cases bX:0≤bU
          ·rw [if_pos bX] at H;have c27b0:=dT bX;clear bX;by_cases bY:((q0b aH bU).f0) = 5
           ·rw [if_pos bY] at H;have c28b0:=eT bY;have c28b1:=eF bY;clear bY;obtain rfl:=Option.some.inj H;have Z29:=bc4 aT;have bZ:0≤(bU:Int):=of_decide_eq_true X8;have cA:bU < (aH.length:Int):=of_decide_eq_true X8;obtain ⟨cC,cD,cE,e740,cF,cG,cH,cI,cJ,cK⟩:=q2w aK.out bU bZ cA;cases e740;replace cF:=cB HB cF;replace cG:=cB HB cG;replace cH:=cB HB cH;replace cI:=cB HB cI;have cL:=am cK;have cM:=am cJ;clear cK cJ;replace bZ:=eq_true bZ;replace cA:=eq_true cA;go_wp2
            go_ret
            exact ⟨X14,X99⟩
           ·rw [if_neg bY] at H;have c28b0:=nF bY;have c28b1:=nT bY;have H':=am H;clear H;have Z30:=bc4 aT;have bZ:0≤(bU:Int):=of_decide_eq_true X8;have cA:bU < (aH.length:Int):=of_decide_eq_true X8;obtain ⟨cC,cD,cE,e740,cF,cG,cH,cI,cJ,cK⟩:=q2w aK.out bU bZ cA;cases e740;replace cF:=cB HB cF;replace cG:=cB HB cG;replace cH:=cB HB cH;replace cI:=cB HB cI;have cL:=am cK;have cM:=am cJ;clear cK cJ;replace bZ:=eq_true bZ;replace cA:=eq_true cA;go_wp2
            go_roundg k3
            case measure=>have:=aX.out;have:=bO.out;have:=bV.out;omega
            case rel=>exact ⟨(wrap64 (bU + 1)),X4,H',⟨by have:=aX.out;have:=bO.out;have:=bV.out;omega⟩,⟨X104⟩,⟨X99⟩⟩
          ·exact iN bX H
         ·rw [if_neg bW] at H;have c26b0:=dF bW;clear bW;obtain rfl:=Option.some.inj H;have Z31:=bc4 aT;go_wp2
          go_ret
          exact ⟨X14,X99⟩
      ·rw [if_neg bR] at H;have c24b0:=nF bR;have c24b1:=nT bR;by_cases cN:aA = 6
       ·rw [if_pos cN] at H;have c32b0:=eT cN;have c32b1:=eF cN;clear cN;obtain rfl:=Option.some.inj H;have Z33:=bc4 aT;go_wp2
        go_ret
        exact ⟨X14,X99⟩
       ·rw [if_neg cN] at H;have c32b0:=nF cN;have c32b1:=nT cN;by_cases cO:aA = 7
        ·rw [if_pos cO] at H;have c34b0:=eT cO;have c34b1:=eF cO;clear cO;obtain rfl:=Option.some.inj H;have Z35:=bc4 aT;go_wp2
         go_ret
         exact ⟨X14,X99⟩
        ·rw [if_neg cO] at H;have c34b0:=nF cO;have c34b1:=nT cO;by_cases cP:aA = 8
         ·rw [if_pos cP] at H;have c36b0:=eT cP;have c36b1:=eF cP;clear cP;obtain rfl:=Option.some.inj H;have Z37:=bc4 aT;go_wp2
          go_ret
          exact ⟨X14,X99⟩
         ·rw [if_neg cP] at H;have c36b0:=nF cP;have c36b1:=nT cP;by_cases cQ:aA = 12
          ·rw [if_pos cQ] at H;have c38b0:=eT cQ;have c38b1:=eF cQ;clear cQ;obtain rfl:=Option.some.inj H;have Z39:=bc4 aT;go_wp2
           go_ret
           exact ⟨X14,X99⟩
          ·rw [if_neg cQ] at H;have c38b0:=nF cQ;have c38b1:=nT cQ;obtain rfl:=Option.some.inj H;have Z40:=bc4 aT;go_wp2
           go_ret
           exact ⟨X14,X99⟩
mutual
def q0q.j0:Nat → Int → Bool → Int → ByteArray → Int → List (S28) → Option (Int)
 | 0,_,_,_,_,_,_=>none
 | k + 1,x1,aA,aC,aD,aE,aG=>if aA = true then (some 2) else (if aE < 0 then (q0q.j1 k x1 true aC aD aE aG) else (q0q.j1 k x1 (decide (aE > 9)) aC aD aE aG))
def q0q.j1:Nat → Int → Bool → Int → ByteArray → Int → List (S28) → Option (Int)
 | 0,_,_,_,_,_,_=>none
 | k + 1,x1,aA,aC,aD,aE,aG=>if aA = true then (some 6) else (q0q.l0 k x1 0 aC aD aE aG)
def q0q.l0:Nat → Int → Int → Int → ByteArray → Int → List (S28) → Option (Int)
 | 0,_,_,_,_,_,_=>none
 | k + 1,x1,x5,aA,aC,aD,aE=>if x5 < (aE.length:Int) then (if 0≤x5 then ((q0q.f k ((q0b aE x5).f0) ((q0b aE x5).f1) ((q0b aE x5).f2) ((q0b aE x5).f3) (wrap64 (x1 + 1))).bind fun aG=>(if aG = 0 then (q0q.l0 k x1 (wrap64 (x5 + 1)) aA aC aD aE) else (some aG))) else (none)) else (some 0)
def q0q.f:Nat → Int → ByteArray → Int → List (S28) → Int → Option (Int)
 | 0,_,_,_,_,_=>none
 | k + 1,aA,aC,aD,aE,a1=>if a1 > 12 then (some 3) else ((q0s.f k aA aC aD aE).bind fun aG=>(if aG = true then (if aA = 4 then ((q1y.f k aC).bind fun aH=>(q0q.j0 k a1 (!aH) aA aC aD aE)) else (if aA = 11 then ((q1y.f k aC).bind fun aI=>(q0q.j0 k a1 (!aI) aA aC aD aE)) else (if aA = 12 then ((q1y.f k aC).bind fun aJ=>(q0q.j0 k a1 (!aJ) aA aC aD aE)) else (q0q.j0 k a1 false aA aC aD aE)))) else (some 1)))
end
theorem q0q.mono_l:∀ k,(∀ y0 y1 y2 y3 y4,LeO (q0q.f k y0 y1 y2 y3 y4) (q0q.f (k + 1) y0 y1 y2 y3 y4))∧(∀ y0 y1 y2 y3 y4 y5,LeO (q0q.j0 k y0 y1 y2 y3 y4 y5) (q0q.j0 (k + 1) y0 y1 y2 y3 y4 y5))∧(∀ y0 y1 y2 y3 y4 y5,LeO (q0q.j1 k y0 y1 y2 y3 y4 y5) (q0q.j1 (k + 1) y0 y1 y2 y3 y4 y5))∧(∀ y0 y1 y2 y3 y4 y5,LeO (q0q.l0 k y0 y1 y2 y3 y4 y5) (q0q.l0 (k + 1) y0 y1 y2 y3 y4 y5))
 | 0=>⟨fun _ _ _ _ _ r h=>by simp [q0q.f] at h,fun _ _ _ _ _ _ r h=>by simp [q0q.j0] at h,fun _ _ _ _ _ _ r h=>by simp [q0q.j1] at h,fun _ _ _ _ _ _ r h=>by simp [q0q.l0] at h⟩
 | k + 1=>by
  obtain ⟨aA,aC,aD,aE⟩:=q0q.mono_l k;refine ⟨?_,?_,?_,?_⟩
  ·intro y0 y1 y2 y3 y4;unfold q0q.f;exact X116
  ·intro y0 y1 y2 y3 y4 y5;unfold q0q.j0;exact X116
  ·intro y0 y1 y2 y3 y4 y5;unfold q0q.j1;exact X116
  ·intro y0 y1 y2 y3 y4 y5;unfold q0q.l0;exact X116
theorem q0q.mono:∀ a0 a1 a2 a3 a4 k,LeO (q0q.f k a0 a1 a2 a3 a4) (q0q.f (k + 1) a0 a1 a2 a3 a4):=by
 intro a0 a1 a2 a3 a4 k;obtain ⟨aA,ih1,ih2,ih3⟩:=q0q.mono_l k;exact aA a0 a1 a2 a3 a4
theorem q0q.calls (k:Nat):∀ (aA:Int) (aC:ByteArray) (aD:Int) (aE:Option Addr) (aG:Nat) (aH:List (S28)) (a1:Int) (r:Int) (w:World) (aI:Kd.C k28 w aE aH.length aH) (aJ:aH.length≤aG) (h:q0q.f k aA aC aD aH a1 = some r),
  Calls Tryz.prog 74 #[.agg #[.int .i64 aA,.string aC,.int .i64 aD,.slice aE aH.length aG],.int .i64 a1] w fun e w'=>e = .returned (.int .i64 r)∧Below w.heap.size w w':=by
 induction k using Nat.strongRecOn with
 | _ k ih=>
 intro aA aC aD aE aG aH a1 r w aI aJ h;cases k with
 | zero=>exact absurd h (by simp [q0q.f])
 | succ k=>
 simp only [q0q.f] at h;have hu28:=Tryz.underlying28;have aK:=am aI;have aM:=am aJ;clear aI aJ;have HB:=am (Below.refl w.heap.size w);have H:(if a1 > 12 then (some 3) else ((q0s.f k aA aC aD aH).bind fun aQ=>(if aQ = true then (if aA = 4 then ((q1y.f k aC).bind fun aT=>(q0q.j0 k a1 (!aT) aA aC aD aH)) else (if aA = 11 then ((q1y.f k aC).bind fun aU=>(q0q.j0 k a1 (!aU) aA aC aD aH)) else (if aA = 12 then ((q1y.f k aC).bind fun aW=>(q0q.j0 k a1 (!aW) aA aC aD aH)) else (q0q.j0 k a1 false aA aC aD aH)))) else (some 1)))) = some r:=h;clear h;by_cases c3:a1 > 12
 ·rw [if_pos c3] at H;have c3b0:decide (12 < a1) = true:=decide_eq_true c3;clear c3;obtain rfl:=Option.some.inj H;go_enter Tryz.func74,Tryz.ntmps74;go_wp2_with (first|((with_reducible refine gd 2 ?_);refine be 2 #[.int .i64 aA,.string aC,.int .i64 aD,.slice aE aH.length aG] 28 ?_;intro aX hg w4 hbox hb;have aY:=am (hbox);have aZ:=sG (w:=w) hg X13;have bA:=sG (w:=w) hg X13;replace HB:=bS X13 hb;clear hb hbox hg))
  go_ret
  exact ⟨X14,X20⟩
 ·rw [if_neg c3] at H;have c3b0:decide (12 < a1) = false:=decide_eq_false c3;clear c3;obtain ⟨aQ,bB,H⟩:=oB H;(try dsimp only at H);have A5:=am bB;clear bB;by_cases c6:aQ = true
  ·subst c6;replace H:=tP H;have bC:=am H;clear H;go_enter Tryz.func74,Tryz.ntmps74;go_upto_region 5 with (first|((with_reducible refine gd 2 ?_);refine be 2 #[.int .i64 aA,.string aC,.int .i64 aD,.slice aE aH.length aG] 28 ?_;intro aX hg w8 hbox hb;have aY:=am (hbox);have aZ:=sG (w:=w) hg X13;have bA:=sG (w:=w) hg X13;replace HB:=bS X13 hb;clear hb hbox hg;have Z9:=bc4 aY)|((with_reducible refine gc 101 ?_);refine gL (some 10) Tryz.func101 #[.agg #[.int .i64 aA,.string aC,.int .i64 aD,.slice aE aH.length aG]] ?_;(with_reducible refine (q0s.calls k aA aC aD _ _ aH true _ ?side1 ?side2 A5.out).mono ?_);(case side1=>exact X17);(case side2=>exact aM.out);rintro e w10 ⟨rfl,hb⟩;refine ⟨_,rfl,?_⟩;replace aY:=kB aY hb;replace HB:=bS X20 hb;clear hb))
   (try simp only [Act.put,List.setIfInBounds_toArray,List.set_cons_zero,List.set_cons_succ]);go_cut [30] (fun bD wc=>∃ (kq:Nat) (bE:Bool),bD = .bool bE∧q0c (q0q.j0 kq a1 bE aA aC aD aH = some r)∧q0c (kq≤k)∧q0c (wc.heap[aX]? = some (.cells #[.int .i64 aA,.string aC,.int .i64 aD,(.slice aE aH.length aG)] 28 (0,0)))∧q0c (Below w.heap.size w wc))
   case first=>
    have H:=bC.out;clear bC;by_cases bF:aA = 4
    ·rw [if_pos bF] at H;have c11b0:=eT bF;have c11b1:=eF bF;clear bF;(first | rw [c11b0]|(simp only [q2G,q2L];rw [c11b0]) | skip);obtain ⟨aT,bG,H⟩:=oB H;(try dsimp only at H);have bH:=am bG;clear bG;have H':=am H;clear H;have bI:=bc4 aY;go_wp2_with (first|(go_at_call 68;(with_reducible refine (q1y.calls k aC aT _ bH.out).mono ?_);rintro e w' ⟨rfl,⟨nd,rfl⟩⟩))
     go_meet
     case rel=>exact ⟨_,(!aT),X4,H',⟨X7⟩,⟨X117⟩,⟨X20⟩⟩
    ·rw [if_neg bF] at H;have c11b0:=nF bF;have c11b1:=nT bF;(first | rw [c11b0]|(simp only [q2G,q2L];rw [c11b0]) | skip);by_cases bJ:aA = 11
     ·rw [if_pos bJ] at H;have c14b0:=eT bJ;have c14b1:=eF bJ;clear bJ;obtain ⟨aU,bK,H⟩:=oB H;(try dsimp only at H);have bL:=am bK;clear bK;have H':=am H;clear H;have bM:=bc4 aY;go_wp2_with (first|(go_at_call 68;(with_reducible refine (q1y.calls k aC aU _ bL.out).mono ?_);rintro e w' ⟨rfl,⟨nd,rfl⟩⟩))
      go_meet
      case rel=>exact ⟨_,(!aU),X4,H',⟨X7⟩,⟨X117⟩,⟨X20⟩⟩
     ·rw [if_neg bJ] at H;have c14b0:=nF bJ;have c14b1:=nT bJ;by_cases bN:aA = 12
      ·rw [if_pos bN] at H;have c17b0:=eT bN;have c17b1:=eF bN;clear bN;obtain ⟨aW,bO,H⟩:=oB H;(try dsimp only at H);have bP:=am bO;clear bO;have H':=am H;clear H;have bQ:=bc4 aY;go_wp2_with (first|(go_at_call 68;(with_reducible refine (q1y.calls k aC aW _ bP.out).mono ?_);rintro e w' ⟨rfl,⟨nd,rfl⟩⟩))
       go_meet
       case rel=>exact ⟨_,(!aW),X4,H',⟨X7⟩,⟨X117⟩,⟨X20⟩⟩
      ·rw [if_neg bN] at H;have c17b0:=nF bN;have c17b1:=nT bN;have H':=am H;clear H;have bR:=bc4 aY;go_wp2
       go_meet
       case rel=>exact ⟨_,(false),X4,H',⟨X7⟩,⟨X117⟩,⟨X20⟩⟩
   case rest=>
    clear bC;(try clear c1 p2 c3 c3b0 c6 c7 c10 bF c11b0 c11b1 bJ c14b0 c14b1 bN c17b0 c17b1 bI bM bQ bR Z9);obtain ⟨kq,bE,rfl,HA,bT,aY,HB⟩:=hcut;cases kq with
    | zero=>exact absurd HA.out (by simp [q0q.j0])
    | succ bU=>
     have H:=HA.out;clear HA;simp only [q0q.j0] at H;by_cases bV:bE = true
     ·subst bV;replace H:=tP H;obtain rfl:=Option.some.inj H;go_wp2
      go_ret
      exact ⟨X14,X20⟩
     ·replace bV:=Bool.eq_false_iff.mpr bV;subst bV;replace H:=tN H;have bW:=am H;clear H;go_upto_region 7 with (fail)
      go_cut [38] (fun bX wc=>∃ (kq:Nat) (bY:Bool),bX = .bool bY∧q0c (q0q.j1 kq a1 bY aA aC aD aH = some r)∧q0c (kq≤bU)∧q0c (wc.heap[aX]? = some (.cells #[.int .i64 aA,.string aC,.int .i64 aD,(.slice aE aH.length aG)] 28 (0,0)))∧q0c (Below w.heap.size w wc))
      case first=>
       have H:=bW.out;clear bW;by_cases bZ:aD < 0
       ·rw [if_pos bZ] at H;have c23b0:=dT bZ;clear bZ;(first | rw [c23b0]|(simp only [q2G,q2L];rw [c23b0]) | skip);have H':=am H;clear H;have cA:=bc4 aY;go_wp2
        go_meet
        case rel=>exact ⟨_,(true),X4,H',⟨by have:=bT.out;first | omega | exact Nat.le_refl _⟩,⟨X117⟩,⟨X20⟩⟩
       ·rw [if_neg bZ] at H;have c23b0:=dF bZ;clear bZ;(first | rw [c23b0]|(simp only [q2G,q2L];rw [c23b0]) | skip);have H':=am H;clear H;have cC:=bc4 aY;go_wp2
        go_meet
        case rel=>exact ⟨_,(decide (aD > 9)),X4,H',⟨by have:=bT.out;first | omega | exact Nat.le_refl _⟩,⟨X117⟩,⟨X20⟩⟩
      case rest=>
       clear bW;(try clear c1 c2);(try clear p2 p2);(try clear c3 c3b0 c6 c7 c10 bF c11b0 c11b1 bJ c14b0 c14b1 bN c17b0 c17b1 bV bZ c23b0 bI bM bQ bR cA cC Z9);obtain ⟨kq,bY,rfl,HA,cD,aY,HB⟩:=hcut;cases kq with
       | zero=>exact absurd HA.out (by simp [q0q.j1])
       | succ cE=>
        have H:=HA.out;clear HA;simp only [q0q.j1] at H;by_cases cF:bY = true
        ·subst cF;replace H:=tP H;obtain rfl:=Option.some.inj H;go_wp2
         go_ret
         exact ⟨X14,X20⟩
        ·replace cF:=Bool.eq_false_iff.mpr cF;subst cF;replace H:=tN H;have H':=am H;clear H;go_wp2
         go_loopg [5] cE (fun kq v5 w'=>∃ (cG:Int),v5 = .int .i64 cG∧q0c (q0q.l0 kq a1 cG aA aC aD aH = some r)∧q0c (kq≤cE)∧q0c (w'.heap[aX]? = some (.cells #[.int .i64 aA,.string aC,.int .i64 aD,(.slice aE aH.length aG)] 28 (0,0)))∧q0c (Below w.heap.size w w'))
         case atStart=>exact ⟨(0),X4,H',⟨Nat.le_refl _⟩,⟨X117⟩,⟨X20⟩⟩
         case round=>
          clear H';(try clear c1 c2);(try clear p2 p2);(try clear c3 c3b0 c6 c7 c10 bF c11b0 c11b1 bJ c14b0 c14b1 bN c17b0 c17b1 bV bZ c23b0 cF bI bM bQ bR cA cC Z9);obtain ⟨cG,rfl,HA,cH,aY,HB⟩:=hrel;cases gk with
          | zero=>exact absurd HA.out (by simp [q0q.l0])
          | succ k3=>
           have H:=HA.out;clear HA;simp only [q0q.l0] at H;by_cases cI:cG < (aH.length:Int)
           ·rw [if_pos cI] at H;have c27b0:=dT cI;clear cI;by_cases cJ:0≤cG
            ·rw [if_pos cJ] at H;have c28b0:=dT cJ;clear cJ;obtain ⟨cK,cL,H⟩:=oB H;(try dsimp only at H);have cM:=am cL;clear cL;by_cases cN:cK = 0
             ·rw [if_pos cN] at H;have c30b0:=eT cN;have c30b1:=eF cN;clear cN;have H':=am H;clear H;have Z31:=bc4 aY;have cO:0≤(cG:Int):=of_decide_eq_true X8;have cP:cG < (aH.length:Int):=of_decide_eq_true X8;obtain ⟨cQ,cR,cS,e746,cT,cU,cV,cW,cX,cY⟩:=q2w aK.out cG cO cP;cases e746;replace cT:=cB HB cT;replace cU:=cB HB cU;replace cV:=cB HB cV;replace cW:=cB HB cW;have cZ:=am cY;have dA:=am cX;clear cY cX;replace cO:=eq_true cO;replace cP:=eq_true cP;go_wp2_with (first|((with_reducible refine gc 74 ?_);refine gL (some 53) Tryz.func74 #[.agg #[.int .i64 ((q0b aH cG).f0),.string ((q0b aH cG).f1),.int .i64 ((q0b aH cG).f2),.slice cR ((q0b aH cG).f3).length cS],.int .i64 (wrap64 (a1 + 1))] ?_;(with_reducible refine (ih k3 X118 ((q0b aH cG).f0) ((q0b aH cG).f1) ((q0b aH cG).f2) _ _ ((q0b aH cG).f3) (wrap64 (a1 + 1)) cK _ ?side1 ?side2 cM.out).mono ?_);(case side1=>exact X119);(case side2=>exact dA.out);rintro e w32 ⟨rfl,hb⟩;refine ⟨_,rfl,?_⟩;replace aY:=kB aY hb;replace HB:=bS X20 hb;clear hb))
              go_roundg k3
              case measure=>have:=bT.out;have:=cD.out;have:=cH.out;omega
              case rel=>exact ⟨(wrap64 (cG + 1)),X4,H',⟨X118⟩,⟨X117⟩,⟨X20⟩⟩
             ·rw [if_neg cN] at H;have c30b0:=nF cN;have c30b1:=nT cN;obtain rfl:=Option.some.inj H;have Z33:=bc4 aY;have cO:0≤(cG:Int):=of_decide_eq_true X8;have cP:cG < (aH.length:Int):=of_decide_eq_true X8;obtain ⟨cQ,cR,cS,e746,cT,cU,cV,cW,cX,cY⟩:=q2w aK.out cG cO cP;cases e746;replace cT:=cB HB cT;replace cU:=cB HB cU;replace cV:=cB HB cV;replace cW:=cB HB cW;have cZ:=am cY;have dA:=am cX;clear cY cX;replace cO:=eq_true cO;replace cP:=eq_true cP;go_wp2_with (first|((with_reducible refine gc 74 ?_);refine gL (some 53) Tryz.func74 #[.agg #[.int .i64 ((q0b aH cG).f0),.string ((q0b aH cG).f1),.int .i64 ((q0b aH cG).f2),.slice cR ((q0b aH cG).f3).length cS],.int .i64 (wrap64 (a1 + 1))] ?_;(with_reducible refine (ih k3 X118 ((q0b aH cG).f0) ((q0b aH cG).f1) ((q0b aH cG).f2) _ _ ((q0b aH cG).f3) (wrap64 (a1 + 1)) cK _ ?side1 ?side2 cM.out).mono ?_);(case side1=>exact X119);(case side2=>exact dA.out);rintro e w34 ⟨rfl,hb⟩;refine ⟨_,rfl,?_⟩;replace aY:=kB aY hb;replace HB:=bS X20 hb;clear hb))
              go_ret
              exact ⟨X14,X20⟩
            ·exact iN cJ H
           ·rw [if_neg cI] at H;have c27b0:=dF cI;clear cI;obtain rfl:=Option.some.inj H;have Z35:=bc4 aY;go_wp2
            go_ret
            exact ⟨X14,X20⟩
  ·replace c6:=Bool.eq_false_iff.mpr c6;subst c6;replace H:=tN H;obtain rfl:=Option.some.inj H;go_enter Tryz.func74,Tryz.ntmps74;go_wp2_with (first|((with_reducible refine gd 2 ?_);refine be 2 #[.int .i64 aA,.string aC,.int .i64 aD,.slice aE aH.length aG] 28 ?_;intro aX hg w36 hbox hb;have aY:=am (hbox);have aZ:=sG (w:=w) hg X13;have bA:=sG (w:=w) hg X13;replace HB:=bS X13 hb;clear hb hbox hg;have Z37:=bc4 aY)|((with_reducible refine gc 101 ?_);refine gL (some 10) Tryz.func101 #[.agg #[.int .i64 aA,.string aC,.int .i64 aD,.slice aE aH.length aG]] ?_;(with_reducible refine (q0s.calls k aA aC aD _ _ aH false _ ?side1 ?side2 A5.out).mono ?_);(case side1=>exact X17);(case side2=>exact aM.out);rintro e w38 ⟨rfl,hb⟩;refine ⟨_,rfl,?_⟩;replace aY:=kB aY hb;replace HB:=bS X20 hb;clear hb))
   go_ret
   exact ⟨X14,X20⟩

def q1I.f (k:Nat) (aA:Int) (aC:ByteArray) (aD:Int) (aE:List (S28)):Option (Int):=(q0q.f k aA aC aD aE 1).bind fun aG=>(if aG = 0 then ((q0I.f k aA aC aD aE).bind fun aH=>(if aH > 200 then (some 3) else (some 0))) else (some aG))
theorem q1I.mono:∀ a0 a1 a2 a3 k,LeO (q1I.f k a0 a1 a2 a3) (q1I.f (k + 1) a0 a1 a2 a3):=by
 intro a0 a1 a2 a3 k;unfold q1I.f;exact (by repeat' first|(with_reducible apply q0I.mono)|(with_reducible apply q0q.mono)|(with_reducible exact LeO.refl _)|(with_reducible exact LeO.none _)|(with_reducible refine LeO.ite ?_ ?_)|(with_reducible refine LeO.bind ?_ (fun _=>?_)) | apply q0I.mono | apply q0q.mono | exact LeO.none _ | refine LeO.ite ?_ ?_ | refine LeO.bind ?_ (fun _=>?_))
theorem q1I.calls (k:Nat) (aA:Int) (aC:ByteArray) (aD:Int) (aE:Option Addr) (aG:Nat) (aH:List (S28)) (r:Int) (w:World) (aI:Kd.C k28 w aE aH.length aH) (aJ:aH.length≤aG) (h:q1I.f k aA aC aD aH = some r) :
  Calls Tryz.prog 39 #[.agg #[.int .i64 aA,.string aC,.int .i64 aD,.slice aE aH.length aG]] w fun e w'=>e = .returned (.int .i64 r)∧Below w.heap.size w w':=by
 have hu28:=Tryz.underlying28;have aK:=am aI;have aM:=am aJ;clear aI aJ;have HB:=am (Below.refl w.heap.size w);have H:=h;clear h;unfold q1I.f at H;obtain ⟨aQ,aT,H⟩:=oB H;(try dsimp only at H);have A2:=am aT;clear aT;by_cases c3:aQ = 0
 ·rw [if_pos c3] at H;have c3b0:=eT c3;have c3b1:=eF c3;clear c3;obtain ⟨aU,aW,H⟩:=oB H;(try dsimp only at H);have A4:=am aW;clear aW;by_cases c5:aU > 200
  ·rw [if_pos c5] at H;have c5b0:decide (200 < aU) = true:=decide_eq_true c5;clear c5;obtain rfl:=Option.some.inj H;go_enter Tryz.func39,Tryz.ntmps39;go_wp2_with (first|((with_reducible refine gd 1 ?_);refine be 1 #[.int .i64 aA,.string aC,.int .i64 aD,.slice aE aH.length aG] 28 ?_;intro aX hg w6 hbox hb;have aY:=am (hbox);have aZ:=sG (w:=w) hg X13;have bA:=sG (w:=w) hg X13;replace HB:=bS X13 hb;clear hb hbox hg;have Z7:=bc4 aY)|((with_reducible refine gc 74 ?_);refine gL (some 5) Tryz.func74 #[.agg #[.int .i64 aA,.string aC,.int .i64 aD,.slice aE aH.length aG],.int .i64 1] ?_;(with_reducible refine (q0q.calls k aA aC aD _ _ aH 1 aQ _ ?side1 ?side2 A2.out).mono ?_);(case side1=>exact X17);(case side2=>exact aM.out);rintro e w8 ⟨rfl,hb⟩;refine ⟨_,rfl,?_⟩;replace aY:=kB aY hb;replace HB:=bS X20 hb;clear hb;have Z9:=bc4 aY)|((with_reducible refine gc 15 ?_);refine gL (some 10) Tryz.func15 #[.agg #[.int .i64 aA,.string aC,.int .i64 aD,.slice aE aH.length aG]] ?_;(with_reducible refine (q0I.calls k aA aC aD _ _ aH aU _ ?side1 ?side2 A4.out).mono ?_);(case side1=>exact X17);(case side2=>exact aM.out);rintro e w10 ⟨rfl,hb⟩;refine ⟨_,rfl,?_⟩;replace aY:=kB aY hb;replace HB:=bS X20 hb;clear hb))
   go_ret
   exact ⟨X14,X20⟩
  ·rw [if_neg c5] at H;have c5b0:decide (200 < aU) = false:=decide_eq_false c5;clear c5;obtain rfl:=Option.some.inj H;go_enter Tryz.func39,Tryz.ntmps39;go_wp2_with (first|((with_reducible refine gd 1 ?_);refine be 1 #[.int .i64 aA,.string aC,.int .i64 aD,.slice aE aH.length aG] 28 ?_;intro aX hg w11 hbox hb;have aY:=am (hbox);have aZ:=sG (w:=w) hg X13;have bA:=sG (w:=w) hg X13;replace HB:=bS X13 hb;clear hb hbox hg;have Z12:=bc4 aY)|((with_reducible refine gc 74 ?_);refine gL (some 5) Tryz.func74 #[.agg #[.int .i64 aA,.string aC,.int .i64 aD,.slice aE aH.length aG],.int .i64 1] ?_;(with_reducible refine (q0q.calls k aA aC aD _ _ aH 1 aQ _ ?side1 ?side2 A2.out).mono ?_);(case side1=>exact X17);(case side2=>exact aM.out);rintro e w13 ⟨rfl,hb⟩;refine ⟨_,rfl,?_⟩;replace aY:=kB aY hb;replace HB:=bS X20 hb;clear hb;have Z14:=bc4 aY)|((with_reducible refine gc 15 ?_);refine gL (some 10) Tryz.func15 #[.agg #[.int .i64 aA,.string aC,.int .i64 aD,.slice aE aH.length aG]] ?_;(with_reducible refine (q0I.calls k aA aC aD _ _ aH aU _ ?side1 ?side2 A4.out).mono ?_);(case side1=>exact X17);(case side2=>exact aM.out);rintro e w15 ⟨rfl,hb⟩;refine ⟨_,rfl,?_⟩;replace aY:=kB aY hb;replace HB:=bS X20 hb;clear hb))
   go_ret
   exact ⟨X14,X20⟩
 ·rw [if_neg c3] at H;have c3b0:=nF c3;have c3b1:=nT c3;obtain rfl:=Option.some.inj H;go_enter Tryz.func39,Tryz.ntmps39;go_wp2_with (first|((with_reducible refine gd 1 ?_);refine be 1 #[.int .i64 aA,.string aC,.int .i64 aD,.slice aE aH.length aG] 28 ?_;intro aX hg w16 hbox hb;have aY:=am (hbox);have aZ:=sG (w:=w) hg X13;have bA:=sG (w:=w) hg X13;replace HB:=bS X13 hb;clear hb hbox hg;have Z17:=bc4 aY)|((with_reducible refine gc 74 ?_);refine gL (some 5) Tryz.func74 #[.agg #[.int .i64 aA,.string aC,.int .i64 aD,.slice aE aH.length aG],.int .i64 1] ?_;(with_reducible refine (q0q.calls k aA aC aD _ _ aH 1 aQ _ ?side1 ?side2 A2.out).mono ?_);(case side1=>exact X17);(case side2=>exact aM.out);rintro e w18 ⟨rfl,hb⟩;refine ⟨_,rfl,?_⟩;replace aY:=kB aY hb;replace HB:=bS X20 hb;clear hb))
  go_ret
  exact ⟨X14,X20⟩

def q0U.l0:Nat → List ByteArray → ByteArray → Int → Option (ByteArray)
 | 0,_,_,_=>none
 | k + 1,x0,x3,x4=>if x4 < (x0.length:Int) then (if x4 > 0 then (if x3.size + 1≤9223372036854775807 then (if 0≤x4 then (if (x3++(⟨#[32]⟩:ByteArray)).size + (rdOf ByteArray.empty x0 x4).size≤9223372036854775807 then (q0U.l0 k x0 ((x3++(⟨#[32]⟩:ByteArray))++(rdOf ByteArray.empty x0 x4)) (wrap64 (x4 + 1))) else (none)) else (none)) else (none)) else (if 0≤x4 then (if x3.size + (rdOf ByteArray.empty x0 x4).size≤9223372036854775807 then (q0U.l0 k x0 (x3++(rdOf ByteArray.empty x0 x4)) (wrap64 (x4 + 1))) else (none)) else (none))) else (some x3)
def q0U.f (k:Nat) (l0:List ByteArray):Option (ByteArray):=q0U.l0 k l0 (⟨#[]⟩:ByteArray) 0
theorem q0U.mono_l:∀ k,(∀ y0 y1 y2,LeO (q0U.l0 k y0 y1 y2) (q0U.l0 (k + 1) y0 y1 y2))
 | 0=>fun _ _ _ r h=>by simp [q0U.l0] at h
 | k + 1=>by
  have aA:=q0U.mono_l k
  ·intro y0 y1 y2;unfold q0U.l0;exact X120
theorem q0U.mono:∀ a0 k,LeO (q0U.f k a0) (q0U.f (k + 1) a0):=by
 intro a0 k;have aA:=q0U.mono_l k;unfold q0U.f;exact X120
theorem q0U.calls (k:Nat) (A0:Option Addr) (c0:Nat) (l0:List ByteArray) (r:ByteArray) (w:World) (aA:Kd.C Kd.string w A0 l0.length l0) (aC:l0.length≤c0) (h:q0U.f k l0 = some r) :
  Calls Tryz.prog 40 #[.slice A0 l0.length c0] w fun e w'=>e = .returned (.string r)∧q1Y w w':=by
 have aD:=am aA;have HC0:=am aC;clear aA aC;have H:=h;clear h;unfold q0U.f at H;have H':=am H;clear H;go_enter Tryz.func40,Tryz.ntmps40;go_wp2
 go_loopg [3,4] k (fun kq v3 v4 w'=>∃ (aE:ByteArray) (aG:Int),v3 = .string aE∧v4 = .int .i64 aG∧q0c (q0U.l0 kq l0 aE aG = some r)∧q0c (kq≤k)∧q1Y w w')
 case atStart=>exact ⟨((⟨#[]⟩:ByteArray)),(0),X4,X4,H',⟨Nat.le_refl _⟩,X5⟩
 case round=>
  clear H';obtain ⟨aE,aG,rfl,rfl,HA,aH,⟨m1,rfl⟩⟩:=hrel;cases gk with
  | zero=>exact absurd HA.out (by simp [q0U.l0])
  | succ k1=>
   have H:=HA.out;clear HA;simp only [q0U.l0] at H;by_cases c2:aG < (l0.length:Int)
   ·rw [if_pos c2] at H;have c2b0:=dT c2;clear c2;by_cases c3:aG > 0
    ·rw [if_pos c3] at H;have c3b0:decide (0 < aG) = true:=decide_eq_true c3;clear c3;by_cases c4:aE.size + 1≤9223372036854775807
     ·rw [if_pos c4] at H;have c4b0:=eq_true c4;have c4b1:=dT c4;try have c4b2:(9223372036854775807 < aE.size + 1) = False:=eq_false (Nat.not_lt.2 c4)
      by_cases c5:0≤aG
      ·rw [if_pos c5] at H;have c5b0:=dT c5;clear c5;by_cases c6:(aE++(⟨#[32]⟩:ByteArray)).size + (rdOf ByteArray.empty l0 aG).size≤9223372036854775807
       ·rw [if_pos c6] at H;have c6b0:=eq_true c6;have c6b1:=dT c6;try have c6b2:(9223372036854775807 < (aE++(⟨#[32]⟩:ByteArray)).size + (rdOf ByteArray.empty l0 aG).size) = False:=eq_false (Nat.not_lt.2 c6)
        try (have c6b3:=c6b2;simp only [ByteArray.size_append,bs1,bs2] at c6b3)
        have H':=am H;clear H;have aI:0≤(aG:Int):=of_decide_eq_true X8;have aJ:aG < (l0.length:Int):=of_decide_eq_true X8;obtain ⟨ad751,e751,hx751_0⟩:=Kd.at_string aD.out aG aI aJ;cases e751;replace aI:=eq_true aI;replace aJ:=eq_true aJ;go_wp2
        go_roundg k1
        case measure=>have:=aH.out;omega
        case rel=>exact ⟨((aE++(⟨#[32]⟩:ByteArray))++(rdOf ByteArray.empty l0 aG)),(wrap64 (aG + 1)),X4,X4,H',⟨by have:=aH.out;omega⟩,X5⟩
       ·exact iN c6 H
      ·exact iN c5 H
     ·exact iN c4 H
    ·rw [if_neg c3] at H;have c3b0:decide (0 < aG) = false:=decide_eq_false c3;clear c3;by_cases c7:0≤aG
     ·rw [if_pos c7] at H;have c7b0:=dT c7;clear c7;by_cases c8:aE.size + (rdOf ByteArray.empty l0 aG).size≤9223372036854775807
      ·rw [if_pos c8] at H;have c8b0:=eq_true c8;have c8b1:=dT c8;try have c8b2:(9223372036854775807 < aE.size + (rdOf ByteArray.empty l0 aG).size) = False:=eq_false (Nat.not_lt.2 c8)
       have H':=am H;clear H;have aK:0≤(aG:Int):=of_decide_eq_true X8;have aM:aG < (l0.length:Int):=of_decide_eq_true X8;obtain ⟨ad752,e752,hx752_0⟩:=Kd.at_string aD.out aG aK aM;cases e752;replace aK:=eq_true aK;replace aM:=eq_true aM;go_wp2
       go_roundg k1
       case measure=>have:=aH.out;omega
       case rel=>exact ⟨(aE++(rdOf ByteArray.empty l0 aG)),(wrap64 (aG + 1)),X4,X4,H',⟨by have:=aH.out;omega⟩,X5⟩
      ·exact iN c8 H
     ·exact iN c7 H
   ·rw [if_neg c2] at H;have c2b0:=dF c2;clear c2;obtain rfl:=Option.some.inj H;go_wp2
    go_ret
    exact ⟨X4,X5⟩
def q1e.f (a0:Int):Option (ByteArray):=if a0 = 1 then (some (⟨#[117]⟩:ByteArray)) else (if a0 = 2 then (some (⟨#[45]⟩:ByteArray)) else (if a0 = 3 then (some (⟨#[120]⟩:ByteArray)) else (if a0 = 9 then (some (⟨#[58]⟩:ByteArray)) else (if a0 = 10 then (some (⟨#[126]⟩:ByteArray)) else (some (⟨#[]⟩:ByteArray))))))
theorem q1e.calls (a0:Int) (r:ByteArray) (w:World) (h:q1e.f a0 = some r) :
  Calls Tryz.prog 75 #[.int .i64 a0] w fun e w'=>e = .returned (.string r)∧q1Y w w':=by
 have H:=h;clear h;unfold q1e.f at H;by_cases c2:a0 = 1
 ·rw [if_pos c2] at H;have c2b0:=eT c2;have c2b1:=eF c2;clear c2;obtain rfl:=Option.some.inj H;go_enter Tryz.func75,Tryz.ntmps75;go_wp2
  go_ret
  exact ⟨X4,X5⟩
 ·rw [if_neg c2] at H;have c2b0:=nF c2;have c2b1:=nT c2;by_cases c3:a0 = 2
  ·rw [if_pos c3] at H;have c3b0:=eT c3;have c3b1:=eF c3;clear c3;obtain rfl:=Option.some.inj H;go_enter Tryz.func75,Tryz.ntmps75;go_wp2
   go_ret
   exact ⟨X4,X5⟩
  ·rw [if_neg c3] at H;have c3b0:=nF c3;have c3b1:=nT c3;by_cases c4:a0 = 3
   ·rw [if_pos c4] at H;have c4b0:=eT c4;have c4b1:=eF c4;clear c4;obtain rfl:=Option.some.inj H;go_enter Tryz.func75,Tryz.ntmps75;go_wp2
    go_ret
    exact ⟨X4,X5⟩
   ·rw [if_neg c4] at H;have c4b0:=nF c4;have c4b1:=nT c4;by_cases c5:a0 = 9
    ·rw [if_pos c5] at H;have c5b0:=eT c5;have c5b1:=eF c5;clear c5;obtain rfl:=Option.some.inj H;go_enter Tryz.func75,Tryz.ntmps75;go_wp2
     go_ret
     exact ⟨X4,X5⟩
    ·rw [if_neg c5] at H;have c5b0:=nF c5;have c5b1:=nT c5;by_cases c6:a0 = 10
     ·rw [if_pos c6] at H;have c6b0:=eT c6;have c6b1:=eF c6;clear c6;obtain rfl:=Option.some.inj H;go_enter Tryz.func75,Tryz.ntmps75;go_wp2
      go_ret
      exact ⟨X4,X5⟩
     ·rw [if_neg c6] at H;have c6b0:=nF c6;have c6b1:=nT c6;obtain rfl:=Option.some.inj H;go_enter Tryz.func75,Tryz.ntmps75;go_wp2
      go_ret
      exact ⟨X4,X5⟩
end Go.Proofs.YtmffocankommaaaGreatDoor.B
