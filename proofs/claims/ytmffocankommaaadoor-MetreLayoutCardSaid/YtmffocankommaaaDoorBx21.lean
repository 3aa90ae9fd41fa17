/- Printed walks: what each function of the program computes. Condition: the Lean function gives a value. -/
import Derived.Test.YtmffocankommaaaDoorBYZed
import Derived.Test.YtmffocankommaaaDoorBx4
import Derived.Test.YtmffocankommaaaDoorBx17
namespace Go.Proofs.YtmffocankommaaaDoor.L
open Go.RowKit Go.Proofs.YtmffocankommaaaDoorW.PrintWords Go.Proofs.YtmffocankommaaaDoorW.PrintLast Go.Proofs.YtmffocankommaaaDoorW.PrintMore Go.Proofs.YtmffocankommaaaDoorY Go.Proofs.YtmffocankommaaaDoorS
attribute [local go_sem] q1L q2h q2f q2p q2o q1U q1T q2e q2g
set_option linter.unusedVariables false
set_option maxHeartbeats 8000000
set_option maxRecDepth 100000
set_option linter.unusedSimpArgs false
mutual
def q0r.j0 : Nat → ByteArray → Bool → Option (Int)
 | 0, _, _ => none
 | k + 1, x0, aA => if aA = true then (some 0) else (q0r.l0 k x0 1)
def q0r.l0 : Nat → ByteArray → Int → Option (Int)
 | 0, _, _ => none
 | k + 1, x0, x3 => if x3 < (x0.size : Int) then (if 0 ≤ x3 then ((q1A.f (bt x0 x3)).bind fun aA => (if aA = true then (q0r.j2 k x0 x3 true) else ((q1z.f (bt x0 x3)).bind fun aC => (q0r.j2 k x0 x3 aC)))) else (none)) else (some x3)
def q0r.j2 : Nat → ByteArray → Int → Bool → Option (Int)
 | 0, _, _, _ => none
 | k + 1, x0, x3, aA => if aA = true then (q0r.l0 k x0 (wrap64 (x3 + 1))) else (if 0 ≤ x3 then (if x3 < (x0.size : Int) then (if (bt x0 x3) = 45 then (if (wrap64 (x3 + 1)) = (x0.size : Int) then (some x3) else (if 0 ≤ (wrap64 (x3 + 1)) then (if (wrap64 (x3 + 1)) < (x0.size : Int) then ((q1A.f (bt x0 (wrap64 (x3 + 1)))).bind fun aC => (if aC = true then (q0r.l0 k x0 (wrap64 (x3 + 2))) else ((q1z.f (bt x0 (wrap64 (x3 + 1)))).bind fun aD => (if aD = true then (q0r.l0 k x0 (wrap64 (x3 + 2))) else (some x3))))) else (none)) else (none))) else (some x3)) else (none)) else (none))
end
def q0r.f (k : Nat) (a0 : ByteArray) : Option (Int) := if a0.toList = ([] : List UInt8) then (q0r.j0 k a0 true) else (if 0 < (a0.size : Int) then ((q1A.f (bt a0 0)).bind fun aA => (q0r.j0 k a0 (!aA))) else (none))
theorem q0r.mono_l : ∀ k, (∀ y0 y1, LeO (q0r.j0 k y0 y1) (q0r.j0 (k + 1) y0 y1)) ∧ (∀ y0 y1, LeO (q0r.l0 k y0 y1) (q0r.l0 (k + 1) y0 y1)) ∧ (∀ y0 y1 y2, LeO (q0r.j2 k y0 y1 y2) (q0r.j2 (k + 1) y0 y1 y2))
 | 0 => ⟨fun _ _ r h => by simp [q0r.j0] at h, fun _ _ r h => by simp [q0r.l0] at h, fun _ _ _ r h => by simp [q0r.j2] at h⟩
 | k + 1 => by
  obtain ⟨aA, aC, aD⟩ := q0r.mono_l k;refine ⟨?_, ?_, ?_⟩
  ·intro y0 y1;unfold q0r.j0;exact X97
  ·intro y0 y1;unfold q0r.l0;exact X97
  ·intro y0 y1 y2;unfold q0r.j2;exact X97
theorem q0r.mono : ∀ a0 k, LeO (q0r.f k a0) (q0r.f (k + 1) a0) := by
 intro a0 k;obtain ⟨aA, aC, aD⟩ := q0r.mono_l k;unfold q0r.f;exact X97
theorem q0r.calls (k : Nat) (a0 : ByteArray) (r : Int) (w : World) (h : q0r.f k a0 = some r) :
  Calls Tryd.prog 88 #[.string a0] w fun e w' => e = .returned (.int .i64 r) ∧ q1N w w' := by
 have H := h;clear h;unfold q0r.f at H;have aA := am H;clear H;go_enter Tryd.func88, Tryd.ntmps88;go_upto_region 1 with (fail)
 go_cut [11] (fun aC wc => ∃ (kq : Nat) (aD : Bool), aC = .bool aD ∧ q0d (q0r.j0 kq a0 aD = some r) ∧ q0d (kq ≤ k) ∧ q1N w wc)
 case first =>
  have H := aA.out;clear aA;by_cases c3 : a0.toList = ([] : List UInt8)
  ·rw [if_pos c3] at H;have c3b0 := eT c3;have c3b1 := eF c3;clear c3;(first | rw [c3b0] | (simp only [q2t, q2B]; rw [c3b0]) | skip);have H' := am H;clear H;go_wp2
   go_meet
   case rel => exact ⟨_, (true), X7, H', ⟨X8⟩, X18⟩
  ·rw [if_neg c3] at H;have c3b0 := nF c3;have c3b1 := nT c3;(first | rw [c3b0] | (simp only [q2t, q2B]; rw [c3b0]) | skip);by_cases c4 : 0 < (a0.size : Int)
   ·rw [if_pos c4] at H;have c4b0 := dT c4;have c4b1 : decide (0 < a0.size) = true := decide_eq_true (by omega);clear c4;obtain ⟨aE, aG, H⟩ := oB H;(try dsimp only at H);have A6 := am aG;clear aG;have H' := am H;clear H;have p5 : 0 ≤ (0 : Int) := (by omega);have q5 : 0 < a0.size := (by have : (0 : Int) < (a0.size : Int) := of_decide_eq_true X12; omega);have aH : ∀ h : 0 < a0.size, ((a0[0]'h).toNat : Int) = bt a0 0 := q2b a0 0;clear p5;have aI : (0 < (a0.size : Int)) = True := eq_true (of_decide_eq_true X12);replace q5 := eq_true q5;go_wp2_with (first | (go_at_call 120; (with_reducible refine (q1A.calls (bt a0 0) aE _ A6.out).mono ?_); rintro e w' ⟨rfl, ⟨nd, rfl⟩⟩))
    go_meet
    case rel => exact ⟨_, (!aE), X7, H', ⟨X8⟩, X18⟩
   ·exact iN c4 H
 case rest =>
  clear aA;(try clear p2);(try clear c3);(try clear c3b0);(try clear c3b1);(try clear c4);(try clear c4b0);(try clear c4b1);(try clear p5 p5);(try clear q5 q5);(try clear aH);(try clear aI);obtain ⟨kq, aD, rfl, HA, aJ, ⟨mc1, rfl⟩⟩ := hcut;cases kq with
  | zero => exact absurd HA.out (by simp [q0r.j0])
  | succ aK =>
   have H := HA.out;clear HA;simp only [q0r.j0] at H;by_cases c7 : aD = true
   ·subst c7;replace H := tP H;obtain rfl := Option.some.inj H;go_wp2
    go_ret
    exact ⟨X7, X18⟩
   ·replace c7 := Bool.eq_false_iff.mpr c7;subst c7;replace H := tN H;have H' := am H;clear H;go_wp2
    go_loopg [3] aK (fun kq v3 w' => ∃ (aM : Int), v3 = .int .i64 aM ∧ q0d (q0r.l0 kq a0 aM = some r) ∧ q0d (kq ≤ aK) ∧ q1N w w')
    case atStart => exact ⟨(1), X7, H', ⟨Nat.le_refl _⟩, X18⟩
    case round =>
     clear H';(try clear c1);(try clear p2 p2);(try clear c3);(try clear c3b0);(try clear c3b1);(try clear c4);(try clear c4b0);(try clear c4b1);(try clear p5 p5);(try clear q5 q5);(try clear aH);(try clear aI);(try clear c7);obtain ⟨aM, rfl, HA, aQ, ⟨m2, rfl⟩⟩ := hrel;cases gk with
     | zero => exact absurd HA.out (by simp [q0r.l0])
     | succ k2 =>
      have H := HA.out;clear HA;simp only [q0r.l0] at H;by_cases c8 : aM < (a0.size : Int)
      ·rw [if_pos c8] at H;have c8b0 := dT c8;clear c8;have aT := am H;clear H;go_upto_region 5 with (fail)
       go_cut [25] (fun aU wc => ∃ (kq : Nat) (aW : Bool), aU = .bool aW ∧ q0d (q0r.j2 kq a0 aM aW = some r) ∧ q0d (kq ≤ k2) ∧ q1N w wc)
       case first =>
        have H := aT.out;clear aT;by_cases c10 : 0 ≤ aM
        ·rw [if_pos c10] at H;have c10b0 := dT c10;clear c10;(first | rw [c10b0] | (simp only [q2t, q2B]; rw [c10b0]) | skip);obtain ⟨aX, aY, H⟩ := oB H;(try dsimp only at H);have aZ := am aY;clear aY;by_cases bA : aX = true
         ·subst bA;replace H := tP H;have H' := am H;clear H;have bB : 0 ≤ (aM : Int) := of_decide_eq_true X12;have bC : aM < (a0.size : Int) := of_decide_eq_true X12;have bD := q2b a0 aM;replace bB := eq_true bB;replace bC := eq_true bC;go_wp2_with (first | ((with_reducible refine gc 120 ?_); refine gL (some 19) Tryd.func120 #[.int .u8 (bt a0 aM)] ?_; (with_reducible refine (q1A.calls (bt a0 aM) true _ aZ.out).mono ?_); rintro e w' ⟨rfl, ⟨nd, rfl⟩⟩; refine ⟨_, rfl, ?_⟩))
          go_meet
          case rel => exact ⟨_, (true), X7, H', ⟨X98⟩, X18⟩
         ·replace bA := Bool.eq_false_iff.mpr bA;subst bA;replace H := tN H;obtain ⟨bE, bF, H⟩ := oB H;(try dsimp only at H);have bG := am bF;clear bF;have H' := am H;clear H;have bB : 0 ≤ (aM : Int) := of_decide_eq_true X12;have bC : aM < (a0.size : Int) := of_decide_eq_true X12;have bD := q2b a0 aM;replace bB := eq_true bB;replace bC := eq_true bC;go_wp2_with (first | ((with_reducible refine gc 120 ?_); refine gL (some 19) Tryd.func120 #[.int .u8 (bt a0 aM)] ?_; (with_reducible refine (q1A.calls (bt a0 aM) false _ aZ.out).mono ?_); rintro e w' ⟨rfl, ⟨nd, rfl⟩⟩; refine ⟨_, rfl, ?_⟩; have bH : 0 ≤ (aM : Int) := of_decide_eq_true X12; have bI : aM < (a0.size : Int) := of_decide_eq_true X12; have bJ := q2b a0 aM; replace bH := eq_true bH; replace bI := eq_true bI) | (go_at_call 121; (with_reducible refine (q1z.calls (bt a0 aM) bE _ bG.out).mono ?_); rintro e w' ⟨rfl, ⟨nd, rfl⟩⟩))
          go_meet
          case rel => exact ⟨_, (bE), X7, H', ⟨X98⟩, X18⟩
        ·exact iN c10 H
       case rest =>
        clear aT;(try clear c1);(try clear p1);(try clear q1);(try clear hx1);(try clear p2 p2);(try clear c3);(try clear c3b0);(try clear c3b1);(try clear c4);(try clear c4b0);(try clear c4b1);(try clear p5 p5);(try clear q5 q5);(try clear aH);(try clear aI);(try clear c7);(try clear c8);(try clear c8b0);(try clear c10);(try clear c10b0);(try clear bB bB);(try clear bC bC);(try clear bD);(try clear c12);(try clear bA);(try clear bH bH);(try clear bI bI);(try clear bJ);obtain ⟨kq, aW, rfl, HA, bK, ⟨mc8, rfl⟩⟩ := hcut;cases kq with
        | zero => exact absurd HA.out (by simp [q0r.j2])
        | succ bL =>
         have H := HA.out;clear HA;simp only [q0r.j2] at H;by_cases bM : aW = true
         ·subst bM;replace H := tP H;have H' := am H;clear H;go_wp2
          go_roundg bL
          case measure => have := aJ.out; have := aQ.out; have := bK.out; omega
          case rel => exact ⟨(wrap64 (aM + 1)), X7, H', ⟨X99⟩, X18⟩
         ·replace bM := Bool.eq_false_iff.mpr bM;subst bM;replace H := tN H;by_cases bN : 0 ≤ aM
          ·rw [if_pos bN] at H;have c17b0 := dT bN;clear bN;by_cases bO : aM < (a0.size : Int)
           ·rw [if_pos bO] at H;have c18b0 := dT bO;clear bO;by_cases bP : (bt a0 aM) = 45
            ·rw [if_pos bP] at H;have c20b0 := eT bP;have c20b1 := eF bP;clear bP;by_cases bQ : (wrap64 (aM + 1)) = (a0.size : Int)
             ·rw [if_pos bQ] at H;have c21b0 := eT bQ;have c21b1 := eF bQ;clear bQ;obtain rfl := Option.some.inj H;have bR : 0 ≤ (aM : Int) := of_decide_eq_true X12;have bT : aM < (a0.size : Int) := of_decide_eq_true X12;have bU := q2b a0 aM;replace bR := eq_true bR;replace bT := eq_true bT;go_wp2
              go_ret
              exact ⟨X7, X18⟩
             ·rw [if_neg bQ] at H;have c21b0 := nF bQ;have c21b1 := nT bQ;obtain ⟨bV, bW⟩ : ∃ j_ : Int, (wrap64 (aM + 1)) = j_ := ⟨_, rfl⟩;replace H : (if 0 ≤ (bV) then (if (bV) < (a0.size : Int) then ((q1A.f (bt a0 (bV))).bind fun bX => (if bX = true then (q0r.l0 bL a0 (wrap64 (aM + 2))) else ((q1z.f (bt a0 (bV))).bind fun bY => (if bY = true then (q0r.l0 bL a0 (wrap64 (aM + 2))) else (some aM))))) else (none)) else (none)) = some r := by first | (rw [bW] at H; exact H) | (simp only [bW] at H ⊢; exact H)
              (try rw [bW] at c21b0);(try rw [bW] at c21b1);have hji22w : (IntKind.i64.wrap (aM + 1)) = bV := (q2t _).trans bW;by_cases bZ : 0 ≤ (bV)
              ·rw [if_pos bZ] at H;have c23b0 := dT bZ;clear bZ;by_cases cA : (bV) < (a0.size : Int)
               ·rw [if_pos cA] at H;have c24b0 := dT cA;clear cA;obtain ⟨bX, cC, H⟩ := oB H;(try dsimp only at H);have cD := am cC;clear cC;by_cases cE : bX = true
                ·subst cE;replace H := tP H;have H' := am H;clear H;have bR : 0 ≤ (aM : Int) := of_decide_eq_true X12;have bT : aM < (a0.size : Int) := of_decide_eq_true X12;have bU := q2b a0 aM;replace bR := eq_true bR;replace bT := eq_true bT;have cF : 0 ≤ ((bV) : Int) := of_decide_eq_true X12;have cG : (bV) < (a0.size : Int) := of_decide_eq_true X12;have cH := q2b a0 (bV);replace cF := eq_true cF;replace cG := eq_true cG;go_wp2_with (first | (go_at_call 120; (with_reducible refine (q1A.calls (bt a0 (bV)) true _ cD.out).mono ?_); rintro e w' ⟨rfl, ⟨nd, rfl⟩⟩))
                 go_roundg bL
                 case measure => have := aJ.out; have := aQ.out; have := bK.out; omega
                 case rel => exact ⟨(wrap64 (aM + 2)), X7, H', ⟨X99⟩, X18⟩
                ·replace cE := Bool.eq_false_iff.mpr cE;subst cE;replace H := tN H;obtain ⟨bY, cI, H⟩ := oB H;(try dsimp only at H);have cJ := am cI;clear cI;by_cases cK : bY = true
                 ·subst cK;replace H := tP H;have H' := am H;clear H;have bR : 0 ≤ (aM : Int) := of_decide_eq_true X12;have bT : aM < (a0.size : Int) := of_decide_eq_true X12;have bU := q2b a0 aM;replace bR := eq_true bR;replace bT := eq_true bT;have cF : 0 ≤ ((bV) : Int) := of_decide_eq_true X12;have cG : (bV) < (a0.size : Int) := of_decide_eq_true X12;have cH := q2b a0 (bV);replace cF := eq_true cF;replace cG := eq_true cG;go_wp2_with (first | (go_at_call 120; (with_reducible refine (q1A.calls (bt a0 (bV)) false _ cD.out).mono ?_); rintro e w' ⟨rfl, ⟨nd, rfl⟩⟩; have cL : 0 ≤ ((bV) : Int) := of_decide_eq_true X12; have cM : (bV) < (a0.size : Int) := of_decide_eq_true X12; have cN := q2b a0 (bV); replace cL := eq_true cL; replace cM := eq_true cM) | (go_at_call 121; (with_reducible refine (q1z.calls (bt a0 (bV)) true _ cJ.out).mono ?_); rintro e w' ⟨rfl, ⟨nd, rfl⟩⟩))
                  go_roundg bL
                  case measure => have := aJ.out; have := aQ.out; have := bK.out; omega
                  case rel => exact ⟨(wrap64 (aM + 2)), X7, H', ⟨X99⟩, X18⟩
                 ·replace cK := Bool.eq_false_iff.mpr cK;subst cK;replace H := tN H;obtain rfl := Option.some.inj H;have bR : 0 ≤ (aM : Int) := of_decide_eq_true X12;have bT : aM < (a0.size : Int) := of_decide_eq_true X12;have bU := q2b a0 aM;replace bR := eq_true bR;replace bT := eq_true bT;have cF : 0 ≤ ((bV) : Int) := of_decide_eq_true X12;have cG : (bV) < (a0.size : Int) := of_decide_eq_true X12;have cH := q2b a0 (bV);replace cF := eq_true cF;replace cG := eq_true cG;go_wp2_with (first | (go_at_call 120; (with_reducible refine (q1A.calls (bt a0 (bV)) false _ cD.out).mono ?_); rintro e w' ⟨rfl, ⟨nd, rfl⟩⟩; have cL : 0 ≤ ((bV) : Int) := of_decide_eq_true X12; have cM : (bV) < (a0.size : Int) := of_decide_eq_true X12; have cN := q2b a0 (bV); replace cL := eq_true cL; replace cM := eq_true cM) | (go_at_call 121; (with_reducible refine (q1z.calls (bt a0 (bV)) false _ cJ.out).mono ?_); rintro e w' ⟨rfl, ⟨nd, rfl⟩⟩))
                  go_ret
                  exact ⟨by first | rfl | (simp; done) | (simp only [← bW] <;> (first | rfl | simp)) | (simp [*]; done), X18⟩
               ·exact iN cA H
              ·exact iN bZ H
            ·rw [if_neg bP] at H;have c20b0 := nF bP;have c20b1 := nT bP;obtain rfl := Option.some.inj H;have bR : 0 ≤ (aM : Int) := of_decide_eq_true X12;have bT : aM < (a0.size : Int) := of_decide_eq_true X12;have bU := q2b a0 aM;replace bR := eq_true bR;replace bT := eq_true bT;go_wp2
             go_ret
             exact ⟨X7, X18⟩
           ·exact iN bO H
          ·exact iN bN H
      ·rw [if_neg c8] at H;have c8b0 := dF c8;clear c8;obtain rfl := Option.some.inj H;go_wp2
       go_ret
       exact ⟨X7, X18⟩

def q0F.l0 : Nat → ByteArray → Int → Option (Int)
 | 0, _, _ => none
 | k + 1, x0, x3 => if x3 < (x0.size : Int) then (if 0 ≤ x3 then ((q1z.f (bt x0 x3)).bind fun aA => (if aA = true then (q0F.l0 k x0 (wrap64 (x3 + 1))) else (some x3))) else (none)) else (some x3)
def q0F.f (k : Nat) (a0 : ByteArray) : Option (Int) := q0F.l0 k a0 0
theorem q0F.mono_l : ∀ k, (∀ y0 y1, LeO (q0F.l0 k y0 y1) (q0F.l0 (k + 1) y0 y1))
 | 0 => fun _ _ r h => by simp [q0F.l0] at h
 | k + 1 => by
  have aA := q0F.mono_l k
  ·intro y0 y1;unfold q0F.l0;exact X76
theorem q0F.mono : ∀ a0 k, LeO (q0F.f k a0) (q0F.f (k + 1) a0) := by
 intro a0 k;have aA := q0F.mono_l k;unfold q0F.f;exact X76
theorem q0F.calls (k : Nat) (a0 : ByteArray) (r : Int) (w : World) (h : q0F.f k a0 = some r) :
  Calls Tryd.prog 89 #[.string a0] w fun e w' => e = .returned (.int .i64 r) ∧ q1N w w' := by
 have H := h;clear h;unfold q0F.f at H;have H' := am H;clear H;go_enter Tryd.func89, Tryd.ntmps89;go_wp2
 go_loopg [3] k (fun kq v3 w' => ∃ (aA : Int), v3 = .int .i64 aA ∧ q0d (q0F.l0 kq a0 aA = some r) ∧ q0d (kq ≤ k) ∧ q1N w w')
 case atStart => exact ⟨(0), X7, H', ⟨Nat.le_refl _⟩, X18⟩
 case round =>
  clear H';obtain ⟨aA, rfl, HA, aC, ⟨m1, rfl⟩⟩ := hrel;cases gk with
  | zero => exact absurd HA.out (by simp [q0F.l0])
  | succ k1 =>
   have H := HA.out;clear HA;simp only [q0F.l0] at H;by_cases c2 : aA < (a0.size : Int)
   ·rw [if_pos c2] at H;have c2b0 := dT c2;clear c2;by_cases c3 : 0 ≤ aA
    ·rw [if_pos c3] at H;have c3b0 := dT c3;clear c3;obtain ⟨aD, aE, H⟩ := oB H;(try dsimp only at H);have A5 := am aE;clear aE;by_cases c6 : aD = true
     ·subst c6;replace H := tP H;have H' := am H;clear H;have p4 : 0 ≤ (aA : Int) := of_decide_eq_true X12;have q4 : aA < (a0.size : Int) := of_decide_eq_true X12;have aG := q2b a0 aA;replace p4 := eq_true p4;replace q4 := eq_true q4;go_wp2_with (first | (go_at_call 121; (with_reducible refine (q1z.calls (bt a0 aA) true _ A5.out).mono ?_); rintro e w' ⟨rfl, ⟨nd, rfl⟩⟩))
      go_roundg k1
      case measure => have := aC.out; omega
      case rel => exact ⟨(wrap64 (aA + 1)), X7, H', ⟨by have := aC.out; omega⟩, X18⟩
     ·replace c6 := Bool.eq_false_iff.mpr c6;subst c6;replace H := tN H;obtain rfl := Option.some.inj H;have p4 : 0 ≤ (aA : Int) := of_decide_eq_true X12;have q4 : aA < (a0.size : Int) := of_decide_eq_true X12;have aG := q2b a0 aA;replace p4 := eq_true p4;replace q4 := eq_true q4;go_wp2_with (first | (go_at_call 121; (with_reducible refine (q1z.calls (bt a0 aA) false _ A5.out).mono ?_); rintro e w' ⟨rfl, ⟨nd, rfl⟩⟩))
      go_ret
      exact ⟨X7, X18⟩
    ·exact iN c3 H
   ·rw [if_neg c2] at H;have c2b0 := dF c2;clear c2;obtain rfl := Option.some.inj H;go_wp2
    go_ret
    exact ⟨X7, X18⟩

def q1M.f (a0 : Int) : Option (Bool) := if a0 ≥ 32 then (if a0 ≤ 126 then (some (a0 != 34)) else (some false)) else (some false)
theorem q1M.calls (a0 : Int) (r : Bool) (w : World) (h : q1M.f a0 = some r) :
  Calls Tryd.prog 122 #[.int .u8 a0] w fun e w' => e = .returned (.bool r) ∧ q1N w w' := by
 have H := h;clear h;unfold q1M.f at H;by_cases c2 : a0 ≥ 32
 ·rw [if_pos c2] at H;have c2b0 : decide (32 ≤ a0) = true := decide_eq_true c2;clear c2;by_cases c3 : a0 ≤ 126
  ·rw [if_pos c3] at H;have c3b0 := dT c3;clear c3;obtain rfl := Option.some.inj H;go_enter Tryd.func122, Tryd.ntmps122;go_wp2
   go_ret
   exact ⟨X7, X18⟩
  ·rw [if_neg c3] at H;have c3b0 := dF c3;clear c3;obtain rfl := Option.some.inj H;go_enter Tryd.func122, Tryd.ntmps122;go_wp2
   go_ret
   exact ⟨X7, X18⟩
 ·rw [if_neg c2] at H;have c2b0 : decide (32 ≤ a0) = false := decide_eq_false c2;clear c2;obtain rfl := Option.some.inj H;go_enter Tryd.func122, Tryd.ntmps122;go_wp2
  go_ret
  exact ⟨X7, X18⟩
mutual
def q0l.j1 : Nat → ByteArray → Int → Option (Int × ByteArray × Int × Int × Int)
 | 0, _, _ => none
 | k + 1, x0, x5 => if x5 = (x0.size : Int) then (q0l.j2 k x0 x5 true) else (if 0 ≤ x5 then (if x5 < (x0.size : Int) then (q0l.j2 k x0 x5 ((bt x0 x5) != 34)) else (none)) else (none))
def q0l.j2 : Nat → ByteArray → Int → Bool → Option (Int × ByteArray × Int × Int × Int)
 | 0, _, _, _ => none
 | k + 1, x0, x5, aA => if aA = true then (some (0, (⟨#[]⟩ : ByteArray), 0, 0, 2)) else (if (wrap64 (x5 - 1)) > 60 then (some (0, (⟨#[]⟩ : ByteArray), 0, 0, 3)) else (if 1 ≤ x5 then (if x5 ≤ (x0.size : Int) then (some (3, x0.extract 1 (x5 : Int).toNat, 0, wrap64 (x5 + 1), 0)) else (none)) else (none)))
def q0l.l0 : Nat → ByteArray → Int → Option (Int × ByteArray × Int × Int × Int)
 | 0, _, _ => none
 | k + 1, x0, x5 => if x5 < (x0.size : Int) then (if 0 ≤ x5 then ((q1M.f (bt x0 x5)).bind fun aA => (if aA = true then (q0l.l0 k x0 (wrap64 (x5 + 1))) else (q0l.j1 k x0 x5))) else (none)) else (q0l.j1 k x0 x5)
end
def q0l.f (k : Nat) (a0 : ByteArray) : Option (Int × ByteArray × Int × Int × Int) := q0l.l0 k a0 1
theorem q0l.mono_l : ∀ k, (∀ y0 y1, LeO (q0l.j1 k y0 y1) (q0l.j1 (k + 1) y0 y1)) ∧ (∀ y0 y1 y2, LeO (q0l.j2 k y0 y1 y2) (q0l.j2 (k + 1) y0 y1 y2)) ∧ (∀ y0 y1, LeO (q0l.l0 k y0 y1) (q0l.l0 (k + 1) y0 y1))
 | 0 => ⟨fun _ _ r h => by simp [q0l.j1] at h, fun _ _ _ r h => by simp [q0l.j2] at h, fun _ _ r h => by simp [q0l.l0] at h⟩
 | k + 1 => by
  obtain ⟨aA, aC, aD⟩ := q0l.mono_l k;refine ⟨?_, ?_, ?_⟩
  ·intro y0 y1;unfold q0l.j1;exact X100
  ·intro y0 y1 y2;unfold q0l.j2;exact X100
  ·intro y0 y1;unfold q0l.l0;exact X100
theorem q0l.mono : ∀ a0 k, LeO (q0l.f k a0) (q0l.f (k + 1) a0) := by
 intro a0 k;obtain ⟨aA, aC, aD⟩ := q0l.mono_l k;unfold q0l.f;exact X100
theorem q0l.calls (k : Nat) (a0 : ByteArray) (r1 : Int) (r2 : ByteArray) (r3 : Int) (r4 : Int) (r5 : Int) (w : World) (h : q0l.f k a0 = some (r1, r2, r3, r4, r5)) :
  Calls Tryd.prog 90 #[.string a0] w fun e w' => e = .returned (.tuple #[.agg #[.int .i64 r1, .string r2, .int .i64 r3], .int .i64 r4, .int .i64 r5]) ∧ Below w.heap.size w w' := by
 have hu36 := Tryd.underlying36;have HB := am (Below.refl w.heap.size w);have H := h;clear h;unfold q0l.f at H;have aA := am H;clear H;go_enter Tryd.func90, Tryd.ntmps90;go_upto_block 0 with (first | ((with_reducible refine gd 2 ?_); refine be 2 #[.int .i64 0, .string ⟨#[]⟩, .int .i64 0] 36 ?_; intro aC hg w3 hbox hb; have aD := am (hbox); have GW706 := sG (w := w) hg X6; have aE := sG (w := w) hg X6; replace HB := bS X6 hb; clear hb hbox hg))
 (try simp only [Act.put, List.setIfInBounds_toArray, List.set_cons_zero, List.set_cons_succ]);go_cut [5] (fun v5 wc => ∃ (kq : Nat) (aG : Int), v5 = .int .i64 aG ∧ q0d (q0l.j1 kq a0 aG = some (r1, r2, r3, r4, r5)) ∧ q0d (kq ≤ k) ∧ q0d (wc.heap[aC]? = some (.cells #[.int .i64 0, .string ⟨#[]⟩, .int .i64 0] 36 (0, 0))) ∧ q0d (Below w.heap.size w wc))
 case first =>
  have H := aA.out;clear aA;have H' := am H;clear H;go_wp2
  go_loopg [5] k (fun kq v5 w' => ∃ (aG : Int), v5 = .int .i64 aG ∧ q0d (q0l.l0 kq a0 aG = some (r1, r2, r3, r4, r5)) ∧ q0d (kq ≤ k) ∧ q0d (w'.heap[aC]? = some (.cells #[.int .i64 0, .string ⟨#[]⟩, .int .i64 0] 36 (0, 0))) ∧ q0d (Below w.heap.size w w'))
  case atStart => exact ⟨(1), X7, H', ⟨Nat.le_refl _⟩, ⟨X101⟩, ⟨X102⟩⟩
  case round =>
   clear H';(try clear p2);obtain ⟨aG, rfl, HA, aH, aD, HB⟩ := hrel;cases gk with
   | zero => exact absurd HA.out (by simp [q0l.l0])
   | succ k1 =>
    have H := HA.out;clear HA;simp only [q0l.l0] at H;by_cases c4 : aG < (a0.size : Int)
    ·rw [if_pos c4] at H;have c4b0 := dT c4;clear c4;(first | rw [c4b0] | (simp only [q2t, q2B]; rw [c4b0]) | skip);by_cases c5 : 0 ≤ aG
     ·rw [if_pos c5] at H;have c5b0 := dT c5;clear c5;obtain ⟨aI, aJ, H⟩ := oB H;(try dsimp only at H);have A7 := am aJ;clear aJ;by_cases c8 : aI = true
      ·subst c8;replace H := tP H;have H' := am H;clear H;have p6 : 0 ≤ (aG : Int) := of_decide_eq_true X12;have q6 : aG < (a0.size : Int) := of_decide_eq_true X12;have aK := q2b a0 aG;replace p6 := eq_true p6;replace q6 := eq_true q6;go_wp2_with (first | (go_at_call 122; (with_reducible refine (q1M.calls (bt a0 aG) true _ A7.out).mono ?_); rintro e w' ⟨rfl, ⟨nd, rfl⟩⟩))
       go_roundg k1
       case measure => have := aH.out; omega
       case rel => exact ⟨(wrap64 (aG + 1)), X7, H', ⟨by have := aH.out; omega⟩, ⟨X101⟩, ⟨X102⟩⟩
      ·replace c8 := Bool.eq_false_iff.mpr c8;subst c8;replace H := tN H;have H' := am H;clear H;have p6 : 0 ≤ (aG : Int) := of_decide_eq_true X12;have q6 : aG < (a0.size : Int) := of_decide_eq_true X12;have aK := q2b a0 aG;replace p6 := eq_true p6;replace q6 := eq_true q6;go_wp2_with (first | (go_at_call 122; (with_reducible refine (q1M.calls (bt a0 aG) false _ A7.out).mono ?_); rintro e w' ⟨rfl, ⟨nd, rfl⟩⟩))
       go_meet
       case rel => exact ⟨_, (aG), X7, H', ⟨by have := aH.out; first | omega | exact Nat.le_refl _⟩, ⟨X101⟩, ⟨X102⟩⟩
     ·exact iN c5 H
    ·rw [if_neg c4] at H;have c4b0 := dF c4;clear c4;(first | rw [c4b0] | (simp only [q2t, q2B]; rw [c4b0]) | skip);have H' := am H;clear H;go_wp2
     go_meet
     case rel => exact ⟨_, (aG), X7, H', ⟨by have := aH.out; first | omega | exact Nat.le_refl _⟩, ⟨X101⟩, ⟨X102⟩⟩
 case rest =>
  clear aA;(try clear p2 p2);(try clear c4);(try clear c4b0);(try clear c5);(try clear c5b0);(try clear p6 p6);(try clear q6 q6);(try clear aK);(try clear c8);obtain ⟨kq, aG, rfl, HA, aM, aD, HB⟩ := hcut;cases kq with
  | zero => exact absurd HA.out (by simp [q0l.j1])
  | succ aQ =>
   have H := HA.out;clear HA;simp only [q0l.j1] at H;have aT := am H;clear H;go_upto_region 4 with (fail)
   go_cut [27] (fun aU wc => ∃ (kq : Nat) (aW : Bool), aU = .bool aW ∧ q0d (q0l.j2 kq a0 aG aW = some (r1, r2, r3, r4, r5)) ∧ q0d (kq ≤ aQ) ∧ q0d (wc.heap[aC]? = some (.cells #[.int .i64 0, .string ⟨#[]⟩, .int .i64 0] 36 (0, 0))) ∧ q0d (Below w.heap.size w wc))
   case first =>
    have H := aT.out;clear aT;by_cases c10 : aG = (a0.size : Int)
    ·rw [if_pos c10] at H;have c10b0 := eT c10;have c10b1 := eF c10;clear c10;(first | rw [c10b0] | (simp only [q2t, q2B]; rw [c10b0]) | skip);have H' := am H;clear H;go_wp2
     go_meet
     case rel => exact ⟨_, (true), X7, H', ⟨by have := aM.out; first | omega | exact Nat.le_refl _⟩, ⟨X101⟩, ⟨X102⟩⟩
    ·rw [if_neg c10] at H;have c10b0 := nF c10;have c10b1 := nT c10;(first | rw [c10b0] | (simp only [q2t, q2B]; rw [c10b0]) | skip);by_cases aX : 0 ≤ aG
     ·rw [if_pos aX] at H;have c11b0 := dT aX;clear aX;by_cases aY : aG < (a0.size : Int)
      ·rw [if_pos aY] at H;have c12b0 := dT aY;clear aY;have H' := am H;clear H;have aZ : 0 ≤ (aG : Int) := of_decide_eq_true X12;have bA : aG < (a0.size : Int) := of_decide_eq_true X12;have bB := q2b a0 aG;replace aZ := eq_true aZ;replace bA := eq_true bA;go_wp2
       go_meet
       case rel => exact ⟨_, (((bt a0 aG) != 34)), X7, H', ⟨by have := aM.out; first | omega | exact Nat.le_refl _⟩, ⟨X101⟩, ⟨X102⟩⟩
      ·exact iN aY H
     ·exact iN aX H
   case rest =>
    clear aT;(try clear c1);(try clear p1);(try clear q1);(try clear hx1);(try clear p2 p2);(try clear c4);(try clear c4b0);(try clear c5);(try clear c5b0);(try clear p6 p6);(try clear q6 q6);(try clear aK);(try clear c8);(try clear c9);(try clear c10);(try clear c10b0);(try clear c10b1);(try clear aX);(try clear c11b0);(try clear aY);(try clear c12b0);(try clear aZ aZ);(try clear bA bA);(try clear bB);obtain ⟨kq, aW, rfl, HA, HJ8, aD, HB⟩ := hcut;cases kq with
    | zero => exact absurd HA.out (by simp [q0l.j2])
    | succ kj8 =>
     have H := HA.out;clear HA;simp only [q0l.j2] at H;by_cases bC : aW = true
     ·subst bC;replace H := tP H;simp only [Option.some.injEq, Prod.mk.injEq] at H;obtain ⟨rfl, rfl, rfl, rfl, rfl⟩ := H;have Z15 := bc3 aD;go_wp2
      refine bodyPost_ret (q1x rfl _ _ aC 36 #[.int .i64 0, .string ⟨#[]⟩, .int .i64 0] (0, 0) _ rfl (bq0 aD) Tryd.underlying36 rfl X4) rfl ?_;exact ⟨X11, X102⟩
     ·replace bC := Bool.eq_false_iff.mpr bC;subst bC;replace H := tN H;by_cases bD : (wrap64 (aG - 1)) > 60
      ·rw [if_pos bD] at H;have c16b0 : decide (60 < (wrap64 (aG - 1))) = true := decide_eq_true bD;clear bD;simp only [Option.some.injEq, Prod.mk.injEq] at H;obtain ⟨rfl, rfl, rfl, rfl, rfl⟩ := H;have Z17 := bc3 aD;go_wp2
       refine bodyPost_ret (q1x rfl _ _ aC 36 #[.int .i64 0, .string ⟨#[]⟩, .int .i64 0] (0, 0) _ rfl (bq0 aD) Tryd.underlying36 rfl X4) rfl ?_;exact ⟨X11, X102⟩
      ·rw [if_neg bD] at H;have c16b0 : decide (60 < (wrap64 (aG - 1))) = false := decide_eq_false bD;clear bD;by_cases bE : 1 ≤ aG
       ·rw [if_pos bE] at H;have c18b0 := eq_true bE;have c18b1 := dT bE;clear bE;by_cases bF : aG ≤ (a0.size : Int)
        ·rw [if_pos bF] at H;have c19b0 := eq_true bF;have c19b1 := dT bF;clear bF;simp only [Option.some.injEq, Prod.mk.injEq] at H;obtain ⟨rfl, rfl, rfl, rfl, rfl⟩ := H;have Z20 := bc3 aD;go_wp2
         refine bodyPost_ret (q1x rfl _ _ aC 36 #[.int .i64 3, .string (a0.extract 1 (aG : Int).toNat), .int .i64 0] (0, 0) _ rfl (bq0 aD) Tryd.underlying36 rfl X4) rfl ?_;exact ⟨X11, X102⟩
        ·exact iN bF H
       ·exact iN bE H

def q0V.l0 : Nat → Int → Int → Option (Bool)
 | 0, _, _ => none
 | k + 1, x0, x3 => if x3 < 21 then (if 0 ≤ x3 then (if (bt (⟨#[123, 125, 40, 41, 91, 93, 47, 59, 58, 126, 64, 61, 94, 44, 46, 124, 43, 42, 60, 62, 45]⟩ : ByteArray) x3) = x0 then (some true) else (q0V.l0 k x0 (wrap64 (x3 + 1)))) else (none)) else (some false)
def q0V.f (k : Nat) (a0 : Int) : Option (Bool) := q0V.l0 k a0 0
theorem q0V.mono_l : ∀ k, (∀ y0 y1, LeO (q0V.l0 k y0 y1) (q0V.l0 (k + 1) y0 y1))
 | 0 => fun _ _ r h => by simp [q0V.l0] at h
 | k + 1 => by
  have aA := q0V.mono_l k
  ·intro y0 y1;unfold q0V.l0;exact X76
theorem q0V.mono : ∀ a0 k, LeO (q0V.f k a0) (q0V.f (k + 1) a0) := by
 intro a0 k;have aA := q0V.mono_l k;unfold q0V.f;exact X76
theorem q0V.calls (k : Nat) (a0 : Int) (r : Bool) (w : World) (h : q0V.f k a0 = some r) :
  Calls Tryd.prog 91 #[.int .u8 a0] w fun e w' => e = .returned (.bool r) ∧ q1N w w' := by
 have H := h;clear h;unfold q0V.f at H;have H' := am H;clear H;go_enter Tryd.func91, Tryd.ntmps91;go_wp2
 go_loopg [3] k (fun kq v3 w' => ∃ (aA : Int), v3 = .int .i64 aA ∧ q0d (q0V.l0 kq a0 aA = some r) ∧ q0d (kq ≤ k) ∧ q1N w w')
 case atStart => exact ⟨(0), X7, H', ⟨Nat.le_refl _⟩, X18⟩
 case round =>
  clear H';obtain ⟨aA, rfl, HA, aC, ⟨m1, rfl⟩⟩ := hrel;cases gk with
  | zero => exact absurd HA.out (by simp [q0V.l0])
  | succ k1 =>
   have H := HA.out;clear HA;simp only [q0V.l0] at H;by_cases c2 : aA < 21
   ·rw [if_pos c2] at H;have c2b0 := dT c2;clear c2;by_cases c3 : 0 ≤ aA
    ·rw [if_pos c3] at H;have c3b0 := dT c3;clear c3;by_cases c5 : (bt (⟨#[123, 125, 40, 41, 91, 93, 47, 59, 58, 126, 64, 61, 94, 44, 46, 124, 43, 42, 60, 62, 45]⟩ : ByteArray) aA) = a0
     ·rw [if_pos c5] at H;have c5b0 := eT c5;have c5b1 := eF c5;clear c5;obtain rfl := Option.some.inj H;have p4 : 0 ≤ (aA : Int) := of_decide_eq_true X12;have q4 : aA < (21 : Int) := of_decide_eq_true X12;have aD := q2b (⟨#[123, 125, 40, 41, 91, 93, 47, 59, 58, 126, 64, 61, 94, 44, 46, 124, 43, 42, 60, 62, 45]⟩ : ByteArray) aA;replace p4 := eq_true p4;replace q4 := eq_true q4;go_wp2
      go_ret
      exact ⟨X7, X18⟩
     ·rw [if_neg c5] at H;have c5b0 := nF c5;have c5b1 := nT c5;have H' := am H;clear H;have p4 : 0 ≤ (aA : Int) := of_decide_eq_true X12;have q4 : aA < (21 : Int) := of_decide_eq_true X12;have aD := q2b (⟨#[123, 125, 40, 41, 91, 93, 47, 59, 58, 126, 64, 61, 94, 44, 46, 124, 43, 42, 60, 62, 45]⟩ : ByteArray) aA;replace p4 := eq_true p4;replace q4 := eq_true q4;go_wp2
      go_roundg k1
      case measure => have := aC.out; omega
      case rel => exact ⟨(wrap64 (aA + 1)), X7, H', ⟨by have := aC.out; omega⟩, X18⟩
    ·exact iN c3 H
   ·rw [if_neg c2] at H;have c2b0 := dF c2;clear c2;obtain rfl := Option.some.inj H;go_wp2
    go_ret
    exact ⟨X7, X18⟩

def q1n.f (k : Nat) (a0 : ByteArray) : Option (Int × ByteArray × Int × Int × Int) := (q0r.f k a0).bind fun aA => (if aA > 0 then (if aA > 20 then (some (0, (⟨#[]⟩ : ByteArray), 0, 0, 3)) else (if 0 ≤ aA then (if aA ≤ (a0.size : Int) then (some (1, a0.extract 0 (aA : Int).toNat, 0, aA, 0)) else (none)) else (none))) else ((q0F.f k a0).bind fun aC => (if aC > 0 then (if aC > 6 then (some (0, (⟨#[]⟩ : ByteArray), 0, 0, 3)) else (if 0 < (a0.size : Int) then (if (bt a0 0) = 48 then (if aC > 1 then (some (0, (⟨#[]⟩ : ByteArray), 0, 0, 2)) else (if 0 ≤ aC then (if aC ≤ (a0.size : Int) then (some (2, a0.extract 0 (aC : Int).toNat, 0, aC, 0)) else (none)) else (none))) else (if 0 ≤ aC then (if aC ≤ (a0.size : Int) then (some (2, a0.extract 0 (aC : Int).toNat, 0, aC, 0)) else (none)) else (none))) else (none))) else (if 0 < (a0.size : Int) then (if (bt a0 0) = 34 then ((q0l.f k a0).bind fun aD => (some (aD.1, aD.2.1, aD.2.2.1, aD.2.2.2.1, aD.2.2.2.2))) else ((q0V.f k (bt a0 0)).bind fun aE => (if aE = true then (if 0 ≤ 1 then (if 1 ≤ (a0.size : Int) then (some (4, a0.extract 0 1, 0, 1, 0)) else (none)) else (none)) else (some (0, (⟨#[]⟩ : ByteArray), 0, 0, 2))))) else (none)))))
theorem q1n.mono : ∀ a0 k, LeO (q1n.f k a0) (q1n.f (k + 1) a0) := by
 intro a0 k;unfold q1n.f;exact (by repeat' first | (with_reducible exact q0F.mono _ _) | (with_reducible exact q0l.mono _ _) | (with_reducible exact q0r.mono _ _) | (with_reducible exact q0V.mono _ _) | (with_reducible exact LeO.refl _) | (with_reducible exact LeO.none _) | (with_reducible refine LeO.ite ?_ ?_) | (with_reducible refine LeO.bind ?_ (fun _ => ?_)) | exact q0F.mono _ _ | exact q0l.mono _ _ | exact q0r.mono _ _ | exact q0V.mono _ _ | exact LeO.none _ | refine LeO.ite ?_ ?_ | refine LeO.bind ?_ (fun _ => ?_))
theorem q1n.calls (k : Nat) (a0 : ByteArray) (r1 : Int) (r2 : ByteArray) (r3 : Int) (r4 : Int) (r5 : Int) (w : World) (h : q1n.f k a0 = some (r1, r2, r3, r4, r5)) :
  Calls Tryd.prog 40 #[.string a0] w fun e w' => e = .returned (.tuple #[.agg #[.int .i64 r1, .string r2, .int .i64 r3], .int .i64 r4, .int .i64 r5]) ∧ Below w.heap.size w w' := by
 have hu36 := Tryd.underlying36;have HB := am (Below.refl w.heap.size w);have H := h;clear h;unfold q1n.f at H;obtain ⟨aA, aC, H⟩ := oB H;(try dsimp only at H);have A2 := am aC;clear aC;by_cases c3 : aA > 0
 ·rw [if_pos c3] at H;have c3b0 : decide (0 < aA) = true := decide_eq_true c3;clear c3;by_cases c4 : aA > 20
  ·rw [if_pos c4] at H;have c4b0 : decide (20 < aA) = true := decide_eq_true c4;clear c4;simp only [Option.some.injEq, Prod.mk.injEq] at H;obtain ⟨rfl, rfl, rfl, rfl, rfl⟩ := H;go_enter Tryd.func40, Tryd.ntmps40;go_wp2_with (first | ((with_reducible refine gd 2 ?_); refine be 2 #[.int .i64 0, .string ⟨#[]⟩, .int .i64 0] 36 ?_; intro aD hg w5 hbox hb; have aE := am (hbox); have aG := sG (w := w) hg X6; have aH := sG (w := w) hg X6; replace HB := bS X6 hb; clear hb hbox hg) | ((with_reducible refine gc 88 ?_); refine gL (some 8) Tryd.func88 #[.string a0] ?_; (with_reducible refine (q0r.calls k a0 aA _ A2.out).mono ?_); rintro e w' ⟨rfl, ⟨nd, rfl⟩⟩; refine ⟨_, rfl, ?_⟩; (try (rw [q1k w5]; generalize hq_ : World.drewN w5 _ = w5; replace aE : q0d (w5.heap[aD]? = some (.cells #[.int .i64 0, .string ⟨#[]⟩, .int .i64 0] 36 (0, 0))) := ⟨X103⟩; replace HB : q0d (Below w.heap.size w w5) := ⟨X104⟩; clear hq_)); have Z6 := bc3 aE))
   refine bodyPost_ret (q1x rfl _ _ aD 36 #[.int .i64 0, .string ⟨#[]⟩, .int .i64 0] (0, 0) _ rfl (bq0 aE) Tryd.underlying36 rfl X4) rfl ?_;exact ⟨X11, X105⟩
  ·rw [if_neg c4] at H;have c4b0 : decide (20 < aA) = false := decide_eq_false c4;clear c4;by_cases c7 : 0 ≤ aA
   ·rw [if_pos c7] at H;have c7b0 := eq_true c7;have c7b1 := dT c7;clear c7;by_cases c8 : aA ≤ (a0.size : Int)
    ·rw [if_pos c8] at H;have c8b0 := eq_true c8;have c8b1 := dT c8;clear c8;simp only [Option.some.injEq, Prod.mk.injEq] at H;obtain ⟨rfl, rfl, rfl, rfl, rfl⟩ := H;go_enter Tryd.func40, Tryd.ntmps40;go_wp2_with (first | ((with_reducible refine gd 2 ?_); refine be 2 #[.int .i64 0, .string ⟨#[]⟩, .int .i64 0] 36 ?_; intro aD hg w9 hbox hb; have aE := am (hbox); have aG := sG (w := w) hg X6; have aH := sG (w := w) hg X6; replace HB := bS X6 hb; clear hb hbox hg) | ((with_reducible refine gc 88 ?_); refine gL (some 8) Tryd.func88 #[.string a0] ?_; (with_reducible refine (q0r.calls k a0 aA _ A2.out).mono ?_); rintro e w' ⟨rfl, ⟨nd, rfl⟩⟩; refine ⟨_, rfl, ?_⟩; (try (rw [q1k w9]; generalize hq_ : World.drewN w9 _ = w9; replace aE : q0d (w9.heap[aD]? = some (.cells #[.int .i64 0, .string ⟨#[]⟩, .int .i64 0] 36 (0, 0))) := ⟨X103⟩; replace HB : q0d (Below w.heap.size w w9) := ⟨X104⟩; clear hq_)); have Z10 := bc3 aE))
     refine bodyPost_ret (q1x rfl _ _ aD 36 #[.int .i64 1, .string (a0.extract 0 (aA : Int).toNat), .int .i64 0] (0, 0) _ rfl (bq0 aE) Tryd.underlying36 rfl X4) rfl ?_;exact ⟨X11, X105⟩
    ·exact iN c8 H
   ·exact iN c7 H
 ·rw [if_neg c3] at H;have c3b0 : decide (0 < aA) = false := decide_eq_false c3;clear c3;obtain ⟨aI, aJ, H⟩ := oB H;(try dsimp only at H);have aK := am aJ;clear aJ;by_cases aM : aI > 0
  ·rw [if_pos aM] at H;have c12b0 : decide (0 < aI) = true := decide_eq_true aM;clear aM;by_cases aQ : aI > 6
   ·rw [if_pos aQ] at H;have c13b0 : decide (6 < aI) = true := decide_eq_true aQ;clear aQ;simp only [Option.some.injEq, Prod.mk.injEq] at H;obtain ⟨rfl, rfl, rfl, rfl, rfl⟩ := H;go_enter Tryd.func40, Tryd.ntmps40;go_wp2_with (first | ((with_reducible refine gd 2 ?_); refine be 2 #[.int .i64 0, .string ⟨#[]⟩, .int .i64 0] 36 ?_; intro aD hg aT hbox hb; have aE := am (hbox); have aG := sG (w := w) hg X6; have aH := sG (w := w) hg X6; replace HB := bS X6 hb; clear hb hbox hg) | ((with_reducible refine gc 88 ?_); refine gL (some 8) Tryd.func88 #[.string a0] ?_; (with_reducible refine (q0r.calls k a0 aA _ A2.out).mono ?_); rintro e w' ⟨rfl, ⟨nd, rfl⟩⟩; refine ⟨_, rfl, ?_⟩; (try (rw [q1k aT]; generalize hq_ : World.drewN aT _ = aT; replace aE : q0d (aT.heap[aD]? = some (.cells #[.int .i64 0, .string ⟨#[]⟩, .int .i64 0] 36 (0, 0))) := ⟨X103⟩; replace HB : q0d (Below w.heap.size w aT) := ⟨X104⟩; clear hq_))) | ((with_reducible refine gc 89 ?_); refine gL (some 20) Tryd.func89 #[.string a0] ?_; (with_reducible refine (q0F.calls k a0 aI _ aK.out).mono ?_); rintro e w' ⟨rfl, ⟨nd, rfl⟩⟩; refine ⟨_, rfl, ?_⟩; (try (rw [q1k aT]; generalize hq_ : World.drewN aT _ = aT; replace aE : q0d (aT.heap[aD]? = some (.cells #[.int .i64 0, .string ⟨#[]⟩, .int .i64 0] 36 (0, 0))) := ⟨X103⟩; replace HB : q0d (Below w.heap.size w aT) := ⟨X104⟩; clear hq_)); have Z15 := bc3 aE))
    refine bodyPost_ret (q1x rfl _ _ aD 36 #[.int .i64 0, .string ⟨#[]⟩, .int .i64 0] (0, 0) _ rfl (bq0 aE) Tryd.underlying36 rfl X4) rfl ?_;exact ⟨X11, X105⟩
   ·rw [if_neg aQ] at H;have c13b0 : decide (6 < aI) = false := decide_eq_false aQ;clear aQ;by_cases aU : 0 < (a0.size : Int)
    ·rw [if_pos aU] at H;have c16b0 := dT aU;have c16b1 : decide (0 < a0.size) = true := decide_eq_true (by omega);clear aU;by_cases aW : (bt a0 0) = 48
     ·rw [if_pos aW] at H;have c18b0 := eT aW;have c18b1 := eF aW;clear aW;by_cases aX : aI > 1
      ·rw [if_pos aX] at H;have c19b0 : decide (1 < aI) = true := decide_eq_true aX;clear aX;simp only [Option.some.injEq, Prod.mk.injEq] at H;obtain ⟨rfl, rfl, rfl, rfl, rfl⟩ := H;go_enter Tryd.func40, Tryd.ntmps40;go_wp2_with (first | ((with_reducible refine gd 2 ?_); refine be 2 #[.int .i64 0, .string ⟨#[]⟩, .int .i64 0] 36 ?_; intro aD hg aY hbox hb; have aE := am (hbox); have aG := sG (w := w) hg X6; have aH := sG (w := w) hg X6; replace HB := bS X6 hb; clear hb hbox hg) | ((with_reducible refine gc 88 ?_); refine gL (some 8) Tryd.func88 #[.string a0] ?_; (with_reducible refine (q0r.calls k a0 aA _ A2.out).mono ?_); rintro e w' ⟨rfl, ⟨nd, rfl⟩⟩; refine ⟨_, rfl, ?_⟩; (try (rw [q1k aY]; generalize hq_ : World.drewN aY _ = aY; replace aE : q0d (aY.heap[aD]? = some (.cells #[.int .i64 0, .string ⟨#[]⟩, .int .i64 0] 36 (0, 0))) := ⟨X103⟩; replace HB : q0d (Below w.heap.size w aY) := ⟨X104⟩; clear hq_))) | ((with_reducible refine gc 89 ?_); refine gL (some 20) Tryd.func89 #[.string a0] ?_; (with_reducible refine (q0F.calls k a0 aI _ aK.out).mono ?_); rintro e w' ⟨rfl, ⟨nd, rfl⟩⟩; refine ⟨_, rfl, ?_⟩; (try (rw [q1k aY]; generalize hq_ : World.drewN aY _ = aY; replace aE : q0d (aY.heap[aD]? = some (.cells #[.int .i64 0, .string ⟨#[]⟩, .int .i64 0] 36 (0, 0))) := ⟨X103⟩; replace HB : q0d (Below w.heap.size w aY) := ⟨X104⟩; clear hq_)); have aZ : 0 ≤ (0 : Int) := (by omega); have bA : 0 < a0.size := (by have : (0 : Int) < (a0.size : Int) := of_decide_eq_true X12; omega); have bB : ∀ h : 0 < a0.size, ((a0[0]'h).toNat : Int) = bt a0 0 := q2b a0 0; clear aZ; have bC : (0 < (a0.size : Int)) = True := eq_true (of_decide_eq_true X12); replace bA := eq_true bA; have Z21 := bc3 aE))
       refine bodyPost_ret (q1x rfl _ _ aD 36 #[.int .i64 0, .string ⟨#[]⟩, .int .i64 0] (0, 0) _ rfl (bq0 aE) Tryd.underlying36 rfl X4) rfl ?_;exact ⟨X11, X105⟩
      ·rw [if_neg aX] at H;have c19b0 : decide (1 < aI) = false := decide_eq_false aX;clear aX;by_cases bD : 0 ≤ aI
       ·rw [if_pos bD] at H;have c22b0 := eq_true bD;have c22b1 := dT bD;clear bD;by_cases bE : aI ≤ (a0.size : Int)
        ·rw [if_pos bE] at H;have c23b0 := eq_true bE;have c23b1 := dT bE;clear bE;simp only [Option.some.injEq, Prod.mk.injEq] at H;obtain ⟨rfl, rfl, rfl, rfl, rfl⟩ := H;go_enter Tryd.func40, Tryd.ntmps40;go_wp2_with (first | ((with_reducible refine gd 2 ?_); refine be 2 #[.int .i64 0, .string ⟨#[]⟩, .int .i64 0] 36 ?_; intro aD hg bF hbox hb; have aE := am (hbox); have aG := sG (w := w) hg X6; have aH := sG (w := w) hg X6; replace HB := bS X6 hb; clear hb hbox hg) | ((with_reducible refine gc 88 ?_); refine gL (some 8) Tryd.func88 #[.string a0] ?_; (with_reducible refine (q0r.calls k a0 aA _ A2.out).mono ?_); rintro e w' ⟨rfl, ⟨nd, rfl⟩⟩; refine ⟨_, rfl, ?_⟩; (try (rw [q1k bF]; generalize hq_ : World.drewN bF _ = bF; replace aE : q0d (bF.heap[aD]? = some (.cells #[.int .i64 0, .string ⟨#[]⟩, .int .i64 0] 36 (0, 0))) := ⟨X103⟩; replace HB : q0d (Below w.heap.size w bF) := ⟨X104⟩; clear hq_))) | ((with_reducible refine gc 89 ?_); refine gL (some 20) Tryd.func89 #[.string a0] ?_; (with_reducible refine (q0F.calls k a0 aI _ aK.out).mono ?_); rintro e w' ⟨rfl, ⟨nd, rfl⟩⟩; refine ⟨_, rfl, ?_⟩; (try (rw [q1k bF]; generalize hq_ : World.drewN bF _ = bF; replace aE : q0d (bF.heap[aD]? = some (.cells #[.int .i64 0, .string ⟨#[]⟩, .int .i64 0] 36 (0, 0))) := ⟨X103⟩; replace HB : q0d (Below w.heap.size w bF) := ⟨X104⟩; clear hq_)); have aZ : 0 ≤ (0 : Int) := (by omega); have bA : 0 < a0.size := (by have : (0 : Int) < (a0.size : Int) := of_decide_eq_true X12; omega); have bB : ∀ h : 0 < a0.size, ((a0[0]'h).toNat : Int) = bt a0 0 := q2b a0 0; clear aZ; have bC : (0 < (a0.size : Int)) = True := eq_true (of_decide_eq_true X12); replace bA := eq_true bA; have Z25 := bc3 aE))
         refine bodyPost_ret (q1x rfl _ _ aD 36 #[.int .i64 2, .string (a0.extract 0 (aI : Int).toNat), .int .i64 0] (0, 0) _ rfl (bq0 aE) Tryd.underlying36 rfl X4) rfl ?_;exact ⟨X11, X105⟩
        ·exact iN bE H
       ·exact iN bD H
     ·rw [if_neg aW] at H;have c18b0 := nF aW;have c18b1 := nT aW;by_cases bG : 0 ≤ aI
      ·rw [if_pos bG] at H;have c26b0 := eq_true bG;have c26b1 := dT bG;clear bG;by_cases bH : aI ≤ (a0.size : Int)
       ·rw [if_pos bH] at H;have c27b0 := eq_true bH;have c27b1 := dT bH;clear bH;simp only [Option.some.injEq, Prod.mk.injEq] at H;obtain ⟨rfl, rfl, rfl, rfl, rfl⟩ := H;go_enter Tryd.func40, Tryd.ntmps40;go_wp2_with (first | ((with_reducible refine gd 2 ?_); refine be 2 #[.int .i64 0, .string ⟨#[]⟩, .int .i64 0] 36 ?_; intro aD hg bI hbox hb; have aE := am (hbox); have aG := sG (w := w) hg X6; have aH := sG (w := w) hg X6; replace HB := bS X6 hb; clear hb hbox hg) | ((with_reducible refine gc 88 ?_); refine gL (some 8) Tryd.func88 #[.string a0] ?_; (with_reducible refine (q0r.calls k a0 aA _ A2.out).mono ?_); rintro e w' ⟨rfl, ⟨nd, rfl⟩⟩; refine ⟨_, rfl, ?_⟩; (try (rw [q1k bI]; generalize hq_ : World.drewN bI _ = bI; replace aE : q0d (bI.heap[aD]? = some (.cells #[.int .i64 0, .string ⟨#[]⟩, .int .i64 0] 36 (0, 0))) := ⟨X103⟩; replace HB : q0d (Below w.heap.size w bI) := ⟨X104⟩; clear hq_))) | ((with_reducible refine gc 89 ?_); refine gL (some 20) Tryd.func89 #[.string a0] ?_; (with_reducible refine (q0F.calls k a0 aI _ aK.out).mono ?_); rintro e w' ⟨rfl, ⟨nd, rfl⟩⟩; refine ⟨_, rfl, ?_⟩; (try (rw [q1k bI]; generalize hq_ : World.drewN bI _ = bI; replace aE : q0d (bI.heap[aD]? = some (.cells #[.int .i64 0, .string ⟨#[]⟩, .int .i64 0] 36 (0, 0))) := ⟨X103⟩; replace HB : q0d (Below w.heap.size w bI) := ⟨X104⟩; clear hq_)); have aZ : 0 ≤ (0 : Int) := (by omega); have bA : 0 < a0.size := (by have : (0 : Int) < (a0.size : Int) := of_decide_eq_true X12; omega); have bB : ∀ h : 0 < a0.size, ((a0[0]'h).toNat : Int) = bt a0 0 := q2b a0 0; clear aZ; have bC : (0 < (a0.size : Int)) = True := eq_true (of_decide_eq_true X12); replace bA := eq_true bA; have Z29 := bc3 aE))
        refine bodyPost_ret (q1x rfl _ _ aD 36 #[.int .i64 2, .string (a0.extract 0 (aI : Int).toNat), .int .i64 0] (0, 0) _ rfl (bq0 aE) Tryd.underlying36 rfl X4) rfl ?_;exact ⟨X11, X105⟩
       ·exact iN bH H
      ·exact iN bG H
    ·exact iN aU H
  ·rw [if_neg aM] at H;have c12b0 : decide (0 < aI) = false := decide_eq_false aM;clear aM;by_cases bJ : 0 < (a0.size : Int)
   ·rw [if_pos bJ] at H;have c30b0 := dT bJ;have c30b1 : decide (0 < a0.size) = true := decide_eq_true (by omega);clear bJ;by_cases bK : (bt a0 0) = 34
    ·rw [if_pos bK] at H;have c32b0 := eT bK;have c32b1 := eF bK;clear bK;obtain ⟨⟨bL, bM, bN, bO, bP⟩, bQ, H⟩ := oB H;(try dsimp only at H);have bR := am bQ;clear bQ;simp only [Option.some.injEq, Prod.mk.injEq] at H;obtain ⟨rfl, rfl, rfl, rfl, rfl⟩ := H;go_enter Tryd.func40, Tryd.ntmps40;go_wp2_with (first | ((with_reducible refine gd 2 ?_); refine be 2 #[.int .i64 0, .string ⟨#[]⟩, .int .i64 0] 36 ?_; intro aD hg bT hbox hb; have aE := am (hbox); have aG := sG (w := w) hg X6; have aH := sG (w := w) hg X6; replace HB := bS X6 hb; clear hb hbox hg) | ((with_reducible refine gc 88 ?_); refine gL (some 8) Tryd.func88 #[.string a0] ?_; (with_reducible refine (q0r.calls k a0 aA _ A2.out).mono ?_); rintro e w' ⟨rfl, ⟨nd, rfl⟩⟩; refine ⟨_, rfl, ?_⟩; (try (rw [q1k bT]; generalize hq_ : World.drewN bT _ = bT; replace aE : q0d (bT.heap[aD]? = some (.cells #[.int .i64 0, .string ⟨#[]⟩, .int .i64 0] 36 (0, 0))) := ⟨X103⟩; replace HB : q0d (Below w.heap.size w bT) := ⟨X104⟩; clear hq_))) | ((with_reducible refine gc 89 ?_); refine gL (some 20) Tryd.func89 #[.string a0] ?_; (with_reducible refine (q0F.calls k a0 aI _ aK.out).mono ?_); rintro e w' ⟨rfl, ⟨nd, rfl⟩⟩; refine ⟨_, rfl, ?_⟩; (try (rw [q1k bT]; generalize hq_ : World.drewN bT _ = bT; replace aE : q0d (bT.heap[aD]? = some (.cells #[.int .i64 0, .string ⟨#[]⟩, .int .i64 0] 36 (0, 0))) := ⟨X103⟩; replace HB : q0d (Below w.heap.size w bT) := ⟨X104⟩; clear hq_)); have bU : 0 ≤ (0 : Int) := (by omega); have bV : 0 < a0.size := (by have : (0 : Int) < (a0.size : Int) := of_decide_eq_true X12; omega); have bW : ∀ h : 0 < a0.size, ((a0[0]'h).toNat : Int) = bt a0 0 := q2b a0 0; clear bU; have bX : (0 < (a0.size : Int)) = True := eq_true (of_decide_eq_true X12); replace bV := eq_true bV) | ((with_reducible refine gc 90 ?_); refine gL (some 43) Tryd.func90 #[.string a0] ?_; (with_reducible refine (q0l.calls k a0 bL bM bN bO bP _ bR.out).mono ?_); rintro e w35 ⟨rfl, hb⟩; refine ⟨_, rfl, ?_⟩; replace aE := kB aE hb; replace HB := bS X105 hb; clear hb; have Z36 := bc3 aE))
     refine bodyPost_ret (q1x rfl _ _ aD 36 #[.int .i64 bL, .string bM, .int .i64 bN] (0, 0) _ rfl (bq0 aE) Tryd.underlying36 rfl X4) rfl ?_;exact ⟨X11, X105⟩
    ·rw [if_neg bK] at H;have c32b0 := nF bK;have c32b1 := nT bK;obtain ⟨bY, bZ, H⟩ := oB H;(try dsimp only at H);have cA := am bZ;clear bZ;by_cases cC : bY = true
     ·subst cC;replace H := tP H;by_cases cD : 0 ≤ 1
      ·rw [if_pos cD] at H;have c40b0 := eq_true cD;have c40b1 := dT cD;clear cD;by_cases cE : 1 ≤ (a0.size : Int)
       ·rw [if_pos cE] at H;have c41b0 := eq_true cE;have c41b1 := dT cE;clear cE;simp only [Option.some.injEq, Prod.mk.injEq] at H;obtain ⟨rfl, rfl, rfl, rfl, rfl⟩ := H;go_enter Tryd.func40, Tryd.ntmps40;go_wp2_with (first | ((with_reducible refine gd 2 ?_); refine be 2 #[.int .i64 0, .string ⟨#[]⟩, .int .i64 0] 36 ?_; intro aD hg cF hbox hb; have aE := am (hbox); have aG := sG (w := w) hg X6; have aH := sG (w := w) hg X6; replace HB := bS X6 hb; clear hb hbox hg) | ((with_reducible refine gc 88 ?_); refine gL (some 8) Tryd.func88 #[.string a0] ?_; (with_reducible refine (q0r.calls k a0 aA _ A2.out).mono ?_); rintro e w' ⟨rfl, ⟨nd, rfl⟩⟩; refine ⟨_, rfl, ?_⟩; (try (rw [q1k cF]; generalize hq_ : World.drewN cF _ = cF; replace aE : q0d (cF.heap[aD]? = some (.cells #[.int .i64 0, .string ⟨#[]⟩, .int .i64 0] 36 (0, 0))) := ⟨X103⟩; replace HB : q0d (Below w.heap.size w cF) := ⟨X104⟩; clear hq_))) | ((with_reducible refine gc 89 ?_); refine gL (some 20) Tryd.func89 #[.string a0] ?_; (with_reducible refine (q0F.calls k a0 aI _ aK.out).mono ?_); rintro e w' ⟨rfl, ⟨nd, rfl⟩⟩; refine ⟨_, rfl, ?_⟩; (try (rw [q1k cF]; generalize hq_ : World.drewN cF _ = cF; replace aE : q0d (cF.heap[aD]? = some (.cells #[.int .i64 0, .string ⟨#[]⟩, .int .i64 0] 36 (0, 0))) := ⟨X103⟩; replace HB : q0d (Below w.heap.size w cF) := ⟨X104⟩; clear hq_)); have bU : 0 ≤ (0 : Int) := (by omega); have bV : 0 < a0.size := (by have : (0 : Int) < (a0.size : Int) := of_decide_eq_true X12; omega); have bW : ∀ h : 0 < a0.size, ((a0[0]'h).toNat : Int) = bt a0 0 := q2b a0 0; clear bU; have bX : (0 < (a0.size : Int)) = True := eq_true (of_decide_eq_true X12); replace bV := eq_true bV; have cG : 0 ≤ (0 : Int) := (by omega); have cH : 0 < a0.size := (by have : (0 : Int) < (a0.size : Int) := of_decide_eq_true X12; omega); have cI : ∀ h : 0 < a0.size, ((a0[0]'h).toNat : Int) = bt a0 0 := q2b a0 0; clear cG; have cJ : (0 < (a0.size : Int)) = True := eq_true (of_decide_eq_true X12); replace cH := eq_true cH) | ((with_reducible refine gc 91 ?_); refine gL (some 49) Tryd.func91 #[.int .u8 (bt a0 0)] ?_; (with_reducible refine (q0V.calls k (bt a0 0) true _ cA.out).mono ?_); rintro e w' ⟨rfl, ⟨nd, rfl⟩⟩; refine ⟨_, rfl, ?_⟩; (try (rw [q1k cF]; generalize hq_ : World.drewN cF _ = cF; replace aE : q0d (cF.heap[aD]? = some (.cells #[.int .i64 0, .string ⟨#[]⟩, .int .i64 0] 36 (0, 0))) := ⟨X103⟩; replace HB : q0d (Below w.heap.size w cF) := ⟨X104⟩; clear hq_)); have Z43 := bc3 aE))
        refine bodyPost_ret (q1x rfl _ _ aD 36 #[.int .i64 4, .string (a0.extract 0 1), .int .i64 0] (0, 0) _ rfl (bq0 aE) Tryd.underlying36 rfl X4) rfl ?_;exact ⟨X11, X105⟩
       ·exact iN cE H
      ·exact iN cD H
     ·replace cC := Bool.eq_false_iff.mpr cC;subst cC;replace H := tN H;simp only [Option.some.injEq, Prod.mk.injEq] at H;obtain ⟨rfl, rfl, rfl, rfl, rfl⟩ := H;go_enter Tryd.func40, Tryd.ntmps40;go_wp2_with (first | ((with_reducible refine gd 2 ?_); refine be 2 #[.int .i64 0, .string ⟨#[]⟩, .int .i64 0] 36 ?_; intro aD hg cK hbox hb; have aE := am (hbox); have aG := sG (w := w) hg X6; have aH := sG (w := w) hg X6; replace HB := bS X6 hb; clear hb hbox hg) | ((with_reducible refine gc 88 ?_); refine gL (some 8) Tryd.func88 #[.string a0] ?_; (with_reducible refine (q0r.calls k a0 aA _ A2.out).mono ?_); rintro e w' ⟨rfl, ⟨nd, rfl⟩⟩; refine ⟨_, rfl, ?_⟩; (try (rw [q1k cK]; generalize hq_ : World.drewN cK _ = cK; replace aE : q0d (cK.heap[aD]? = some (.cells #[.int .i64 0, .string ⟨#[]⟩, .int .i64 0] 36 (0, 0))) := ⟨X103⟩; replace HB : q0d (Below w.heap.size w cK) := ⟨X104⟩; clear hq_))) | ((with_reducible refine gc 89 ?_); refine gL (some 20) Tryd.func89 #[.string a0] ?_; (with_reducible refine (q0F.calls k a0 aI _ aK.out).mono ?_); rintro e w' ⟨rfl, ⟨nd, rfl⟩⟩; refine ⟨_, rfl, ?_⟩; (try (rw [q1k cK]; generalize hq_ : World.drewN cK _ = cK; replace aE : q0d (cK.heap[aD]? = some (.cells #[.int .i64 0, .string ⟨#[]⟩, .int .i64 0] 36 (0, 0))) := ⟨X103⟩; replace HB : q0d (Below w.heap.size w cK) := ⟨X104⟩; clear hq_)); have bU : 0 ≤ (0 : Int) := (by omega); have bV : 0 < a0.size := (by have : (0 : Int) < (a0.size : Int) := of_decide_eq_true X12; omega); have bW : ∀ h : 0 < a0.size, ((a0[0]'h).toNat : Int) = bt a0 0 := q2b a0 0; clear bU; have bX : (0 < (a0.size : Int)) = True := eq_true (of_decide_eq_true X12); replace bV := eq_true bV; have cG : 0 ≤ (0 : Int) := (by omega); have cH : 0 < a0.size := (by have : (0 : Int) < (a0.size : Int) := of_decide_eq_true X12; omega); have cI : ∀ h : 0 < a0.size, ((a0[0]'h).toNat : Int) = bt a0 0 := q2b a0 0; clear cG; have cJ : (0 < (a0.size : Int)) = True := eq_true (of_decide_eq_true X12); replace cH := eq_true cH) | ((with_reducible refine gc 91 ?_); refine gL (some 49) Tryd.func91 #[.int .u8 (bt a0 0)] ?_; (with_reducible refine (q0V.calls k (bt a0 0) false _ cA.out).mono ?_); rintro e w' ⟨rfl, ⟨nd, rfl⟩⟩; refine ⟨_, rfl, ?_⟩; (try (rw [q1k cK]; generalize hq_ : World.drewN cK _ = cK; replace aE : q0d (cK.heap[aD]? = some (.cells #[.int .i64 0, .string ⟨#[]⟩, .int .i64 0] 36 (0, 0))) := ⟨X103⟩; replace HB : q0d (Below w.heap.size w cK) := ⟨X104⟩; clear hq_)); have Z45 := bc3 aE))
      refine bodyPost_ret (q1x rfl _ _ aD 36 #[.int .i64 0, .string ⟨#[]⟩, .int .i64 0] (0, 0) _ rfl (bq0 aE) Tryd.underlying36 rfl X4) rfl ?_;exact ⟨X11, X105⟩
   ·exact iN bJ H

def q0O.l0 : Nat → ByteArray → List (S36) → Int → Int → Option ((List (S36)) × Int × Int)
 | 0, _, _, _, _ => none
 | k + 1, x0, x5, x6, x7 => if 0 ≤ x7 then (if x7 ≤ (x0.size : Int) then ((q0m.f k (x0.extract (x7 : Int).toNat x0.size)).bind fun aA => (if x7 ≤ (wrap64 (x7 + aA)) then (if (wrap64 (x7 + aA)) ≤ (x0.size : Int) then ((q0S.f k (x0.extract (x7 : Int).toNat ((wrap64 (x7 + aA)) : Int).toNat)).bind fun aC => (if (wrap64 (x7 + aA)) = (x0.size : Int) then (some (x5, 0, 0)) else (if 0 ≤ (wrap64 (x7 + aA)) then ((q1n.f k (x0.extract ((wrap64 (x7 + aA)) : Int).toNat x0.size)).bind fun aD => (if aD.2.2.2.2 = 0 then (if x5.length < 4398046511104 then (q0O.l0 k x0 (x5 ++ [(⟨aD.1, aD.2.1, wrap64 (x6 + aC)⟩ : S36)]) (wrap64 (x6 + aC)) (wrap64 ((wrap64 (x7 + aA)) + aD.2.2.2.1))) else (none)) else (some (([] : List (S36)), wrap64 (x6 + aC), aD.2.2.2.2)))) else (none)))) else (none)) else (none))) else (none)) else (none)
def q0O.f (k : Nat) (a0 : ByteArray) : Option ((List (S36)) × Int × Int) := if (a0.size : Int) > 20000 then (some (([] : List (S36)), 0, 3)) else (q0O.l0 k a0 ([] : List (S36)) 1 0)
theorem q0O.mono_l : ∀ k, (∀ y0 y1 y2 y3, LeO (q0O.l0 k y0 y1 y2 y3) (q0O.l0 (k + 1) y0 y1 y2 y3))
 | 0 => fun _ _ _ _ r h => by simp [q0O.l0] at h
 | k + 1 => by
  have aA := q0O.mono_l k
  ·intro y0 y1 y2 y3;unfold q0O.l0;exact X106
theorem q0O.mono : ∀ a0 k, LeO (q0O.f k a0) (q0O.f (k + 1) a0) := by
 intro a0 k;have aA := q0O.mono_l k;unfold q0O.f;exact X106
theorem q0O.calls (k : Nat) (a0 : ByteArray) (r1 : List (S36)) (r2 : Int) (r3 : Int) (w : World) (h : q0O.f k a0 = some (r1, r2, r3)) :
  Calls Tryd.prog 13 #[.string a0] w fun e w' => ∃ aA : Value, e = .returned (.tuple #[aA, .int .i64 r2, .int .i64 r3]) ∧ Kd.R k36 36 w' w.heap.size (fun _ => True) aA r1 ∧ Below w.heap.size w w' := by
 have hu36 := Tryd.underlying36;have HB := am (Below.refl w.heap.size w);have H := h;clear h;unfold q0O.f at H;by_cases c2 : (a0.size : Int) > 20000
 ·rw [if_pos c2] at H;have c2b0 : decide (20000 < (a0.size : Int)) = true := decide_eq_true c2;have c2b1 : decide (20000 < a0.size) = true := decide_eq_true (by omega);clear c2;simp only [Option.some.injEq, Prod.mk.injEq] at H;obtain ⟨rfl, rfl, rfl⟩ := H;go_enter Tryd.func13, Tryd.ntmps13;go_wp2
  go_ret3
  exact ⟨_, X11, X22, X6⟩
 ·rw [if_neg c2] at H;have c2b0 : decide (20000 < (a0.size : Int)) = false := decide_eq_false c2;have c2b1 : decide (20000 < a0.size) = false := decide_eq_false (by omega);clear c2;have H' := am H;clear H;go_enter Tryd.func13, Tryd.ntmps13;go_wp2
  go_loopg [5, 6, 7] k (fun kq v5 v6 v7 w' => ∃ (aC : List (S36)) (aD : Int) (aE : Int), v6 = .int .i64 aD ∧ v7 = .int .i64 aE ∧ q0d (q0O.l0 kq a0 aC aD aE = some (r1, r2, r3)) ∧ q0d (kq ≤ k) ∧ q0d (Kd.R k36 36 w' w.heap.size (fun _ => True) v5 aC) ∧ q0d (Below w.heap.size w w'))
  case atStart => exact ⟨(([] : List (S36))), (1), (0), X7, X7, H', ⟨Nat.le_refl _⟩, ⟨X22⟩, ⟨X6⟩⟩
  case round =>
   clear H';(try clear c1);(try clear c2);(try clear c2b0);(try clear c2b1);(try clear p2);obtain ⟨aC, aD, aE, rfl, rfl, HA, aG, aH, HB⟩ := hrel;cases gk with
   | zero => exact absurd HA.out (by simp [q0O.l0])
   | succ k1 =>
    have H := HA.out;clear HA;simp only [q0O.l0] at H;by_cases c3 : 0 ≤ aE
    ·rw [if_pos c3] at H;have c3b0 := eq_true c3;have c3b1 := dT c3;clear c3;by_cases c4 : aE ≤ (a0.size : Int)
     ·rw [if_pos c4] at H;have c4b0 := eq_true c4;have c4b1 := dT c4;clear c4;obtain ⟨aI, aJ, H⟩ := oB H;(try dsimp only at H);have A5 := am aJ;clear aJ;have c6b0 := eq_true (of_decide_eq_true X12 : 0 ≤ aE);by_cases c7 : aE ≤ (wrap64 (aE + aI))
      ·rw [if_pos c7] at H;have c7b0 := eq_true c7;have c7b1 := dT c7;by_cases c8 : (wrap64 (aE + aI)) ≤ (a0.size : Int)
       ·rw [if_pos c8] at H;have c8b0 := eq_true c8;have c8b1 := dT c8;obtain ⟨aK, aM, H⟩ := oB H;(try dsimp only at H);have A9 := am aM;clear aM;by_cases c10 : (wrap64 (aE + aI)) = (a0.size : Int)
        ·rw [if_pos c10] at H;have c10b0 := eT c10;have c10b1 := eF c10;clear c10;simp only [Option.some.injEq, Prod.mk.injEq] at H;obtain ⟨rfl, rfl, rfl⟩ := H;go_wp2_with (first | ((with_reducible refine gc 38 ?_); refine gL (some 17) Tryd.func38 #[.string (a0.extract (aE : Int).toNat a0.size)] ?_; (with_reducible refine (q0m.calls k1 (a0.extract (aE : Int).toNat a0.size) aI _ A5.out).mono ?_); rintro e w' ⟨rfl, ⟨nd, rfl⟩⟩; refine ⟨_, rfl, ?_⟩) | ((with_reducible refine gc 39 ?_); refine gL (some 25) Tryd.func39 #[.string (a0.extract (aE : Int).toNat ((wrap64 (aE + aI)) : Int).toNat)] ?_; (with_reducible refine (q0S.calls k1 (a0.extract (aE : Int).toNat ((wrap64 (aE + aI)) : Int).toNat) aK _ A9.out).mono ?_); rintro e w' ⟨rfl, ⟨nd, rfl⟩⟩; refine ⟨_, rfl, ?_⟩))
         go_ret3
         exact ⟨_, X11, aR aH.out, X6⟩
        ·rw [if_neg c10] at H;have c10b0 := nF c10;have c10b1 := nT c10;obtain ⟨aQ, aT⟩ : ∃ j_ : Int, (wrap64 (aE + aI)) = j_ := ⟨_, rfl⟩;replace H : (if 0 ≤ (aQ) then ((q1n.f k1 (a0.extract ((aQ) : Int).toNat a0.size)).bind fun aU => (if aU.2.2.2.2 = 0 then (if aC.length < 4398046511104 then (q0O.l0 k1 a0 (aC ++ [(⟨aU.1, aU.2.1, wrap64 (aD + aK)⟩ : S36)]) (wrap64 (aD + aK)) (wrap64 ((aQ) + aU.2.2.2.1))) else (none)) else (some (([] : List (S36)), wrap64 (aD + aK), aU.2.2.2.2)))) else (none)) = some (r1, r2, r3) := by first | (rw [aT] at H; exact H) | (simp only [aT] at H ⊢; exact H)
         (try rw [aT] at c7b0);(try rw [aT] at c7b1);(try rw [aT] at c7);(try rw [aT] at c8b0);(try rw [aT] at c8b1);(try rw [aT] at c8);(try rw [aT] at c10b0);(try rw [aT] at c10b1);(try rw [aT] at A5);(try rw [aT] at A9);have hji11w : (IntKind.i64.wrap (aE + aI)) = aQ := (q2t _).trans aT;by_cases aW : 0 ≤ (aQ)
         ·rw [if_pos aW] at H;have c12b0 := eq_true aW;have c12b1 := dT aW;clear aW;have c13b0 := eq_true (of_decide_eq_true X12 : (aQ) ≤ (a0.size : Int));obtain ⟨⟨aX, aY, aZ, bA, bB⟩, bC, H⟩ := oB H;(try dsimp only at H);have bD := am bC;clear bC;by_cases bE : bB = 0
          ·rw [if_pos bE] at H;have c15b0 := eT bE;have c15b1 := eF bE;clear bE;by_cases bF : aC.length < 4398046511104
           ·rw [if_pos bF] at H;have bG := am bF;clear bF;obtain ⟨bH, bI⟩ : ∃ y_ : List (S36), y_ = (aC ++ [(⟨aX, aY, wrap64 (aD + aK)⟩ : S36)]) := ⟨_, rfl⟩;replace H : (q0O.l0 k1 a0 bH (wrap64 (aD + aK)) (wrap64 ((aQ) + bA))) = some (r1, r2, r3) := by first | (rw [bI]; with_reducible exact H) | (have bJ := (Option.bind_some _ _).symm.trans H; rw [bI]; with_reducible exact bJ) | (have bJ := (Option.bind_some _ _).symm.trans H; with_reducible exact bJ) | with_reducible exact H | (rw [bI]; exact H) | exact H
            have bK := am bI;clear bI;have H' := am H;clear H;go_wp2_with (first | ((with_reducible refine gc 38 ?_); refine gL (some 17) Tryd.func38 #[.string (a0.extract (aE : Int).toNat a0.size)] ?_; (with_reducible refine (q0m.calls k1 (a0.extract (aE : Int).toNat a0.size) aI _ A5.out).mono ?_); rintro e w' ⟨rfl, ⟨nd, rfl⟩⟩; refine ⟨_, rfl, ?_⟩; (try (rw [q1k wr]; generalize hq_ : World.drewN wr _ = wr; replace aH : q0d (Kd.R k36 36 wr w.heap.size (fun _ => True) u5 aC) := ⟨X107⟩; replace HB : q0d (Below w.heap.size w wr) := ⟨X108⟩; clear hq_))) | ((with_reducible refine gc 39 ?_); refine q4M (some 25) rfl rfl Tryd.func39 X4 rfl #[.string (a0.extract (aE : Int).toNat ((aQ) : Int).toNat)] rfl X109 ?_; (with_reducible refine (q0S.calls k1 (a0.extract (aE : Int).toNat ((aQ) : Int).toNat) aK _ A9.out).mono ?_); rintro e w' ⟨rfl, ⟨nd, rfl⟩⟩; refine ⟨_, rfl, ?_⟩; (try (rw [q1k wr]; generalize hq_ : World.drewN wr _ = wr; replace aH : q0d (Kd.R k36 36 wr w.heap.size (fun _ => True) u5 aC) := ⟨X107⟩; replace HB : q0d (Below w.heap.size w wr) := ⟨X108⟩; clear hq_))) | ((with_reducible refine gc 40 ?_); refine q4M (some 39) rfl rfl Tryd.func40 X4 rfl #[.string (a0.extract ((aQ) : Int).toNat a0.size)] rfl X109 ?_; (with_reducible refine (q1n.calls k1 (a0.extract ((aQ) : Int).toNat a0.size) aX aY aZ bA bB _ bD.out).mono ?_); rintro e w17 ⟨rfl, hb⟩; refine ⟨_, rfl, ?_⟩; replace aH := am (Kd.R_below (aR aH.out) hb); replace HB := bS X6 hb; clear hb) | ((with_reducible refine gd 9 ?_); refine be 9 #[.int .i64 0, .string ⟨#[]⟩, .int .i64 0] 36 ?_; intro bL hg w18 hbox hb; replace aH := am (Kd.R_below (Kd.R_elderB (aR aH.out) bL (Nat.le_of_eq hg.symm)) hb); have bM := am (hbox); have bN := sG (w := w) hg X6; have bO := sG (w := w) hg X6; replace HB := bS X6 hb; clear hb hbox hg; have Z19 := bc3 bM) | ((with_reducible refine q1P (b := .append) (xs := #[.tmp 49, .tmp 51]) rfl ?_); at_builtin; refine Kd.R_append k36 (w0 := w) w.heap.size rfl (.tmp 49) (.tmp 51) 32 36 (.agg #[(.int .i64 0), (.string ⟨#[]⟩), (.int .i64 0)]) 32 rfl Tryd.underlying32 q8V rfl (by decide) (by omega) u5 aC (⟨aX, aY, wrap64 (aD + aK)⟩ : S36) [.int .i64 aX, .string aY, .int .i64 (wrap64 (aD + aK))] (fun k_ => k_ ≠ bL) (fun _ => False) rfl X36 ?aP (fun _ hk => hk.elim) ?aF ?aO ?aB ?aS ?aL ?_; (case aP => exact q6u _ _ _ (⟨aX, aY, wrap64 (aD + aK)⟩ : S36)); (case aB => exact X110); (case aF => exact (fun k_ hk => Kd.freshB (g := bL) (o := .cells #[.int .i64 aX, .string aY, .int .i64 (wrap64 (aD + aK))] 36 (0, 0)) X111 k_ hk)); (case aO => exact (aR (Kd.R_mono (fxR bL 2 (.int .i64 (wrap64 (aD + aK))) (fxR bL 2 (.int .i64 aZ) (fxR bL 1 (.string aY) (fxR bL 0 (.int .i64 aX) (Kd.R_mono aH.out (fun k_ hk => (⟨hk, hk.2⟩ : _ ∧ k_ ≠ bL))))))) (fun _ hk => hk.1.2)))); (case aS => exact (q0W X110)); (case aL => have := bG.out; omega); intro v726 w20 ho hb hg hat; rw [← bK.out] at ho; replace bM := am (q1F (g := bL) (o := .cells #[.int .i64 aX, .string aY, .int .i64 (wrap64 (aD + aK))] 36 (0, 0)) X111 hg (Kd.R_away aH.out (fun _ hk => hk.2))); replace HB := am (hb); have bP := am (ho); clear aH; clear ho hb hg hat))
            go_roundg k1
            case measure => have := aG.out; omega
            case rel => exact ⟨(bH), (wrap64 (aD + aK)), (wrap64 ((aQ) + bA)), X7, (by first | rfl | (simp; done) | (simp only [← aT] <;> (first | rfl | simp)) | (simp [*]; done)), H', ⟨X19⟩, ⟨aR (Kd.R_mono bP.out (fun _ hk => trivial))⟩, ⟨X110⟩⟩
           ·exact iN bF H
          ·rw [if_neg bE] at H;have c15b0 := nF bE;have c15b1 := nT bE;simp only [Option.some.injEq, Prod.mk.injEq] at H;obtain ⟨rfl, rfl, rfl⟩ := H;go_wp2_with (first | ((with_reducible refine gc 38 ?_); refine gL (some 17) Tryd.func38 #[.string (a0.extract (aE : Int).toNat a0.size)] ?_; (with_reducible refine (q0m.calls k1 (a0.extract (aE : Int).toNat a0.size) aI _ A5.out).mono ?_); rintro e w' ⟨rfl, ⟨nd, rfl⟩⟩; refine ⟨_, rfl, ?_⟩; (try (rw [q1k wr]; generalize hq_ : World.drewN wr _ = wr; replace aH : q0d (Kd.R k36 36 wr w.heap.size (fun _ => True) u5 aC) := ⟨X107⟩; replace HB : q0d (Below w.heap.size w wr) := ⟨X108⟩; clear hq_))) | ((with_reducible refine gc 39 ?_); refine q4M (some 25) rfl rfl Tryd.func39 X4 rfl #[.string (a0.extract (aE : Int).toNat ((aQ) : Int).toNat)] rfl X109 ?_; (with_reducible refine (q0S.calls k1 (a0.extract (aE : Int).toNat ((aQ) : Int).toNat) aK _ A9.out).mono ?_); rintro e w' ⟨rfl, ⟨nd, rfl⟩⟩; refine ⟨_, rfl, ?_⟩; (try (rw [q1k wr]; generalize hq_ : World.drewN wr _ = wr; replace aH : q0d (Kd.R k36 36 wr w.heap.size (fun _ => True) u5 aC) := ⟨X107⟩; replace HB : q0d (Below w.heap.size w wr) := ⟨X108⟩; clear hq_))) | ((with_reducible refine gc 40 ?_); refine q4M (some 39) rfl rfl Tryd.func40 X4 rfl #[.string (a0.extract ((aQ) : Int).toNat a0.size)] rfl X109 ?_; (with_reducible refine (q1n.calls k1 (a0.extract ((aQ) : Int).toNat a0.size) aX aY aZ bA bB _ bD.out).mono ?_); rintro e w21 ⟨rfl, hb⟩; refine ⟨_, rfl, ?_⟩; replace aH := am (Kd.R_below (aR aH.out) hb); replace HB := bS X6 hb; clear hb) | ((with_reducible refine gd 9 ?_); refine be 9 #[.int .i64 0, .string ⟨#[]⟩, .int .i64 0] 36 ?_; intro bL hg w22 hbox hb; replace aH := am (Kd.R_below (Kd.R_elderB (aR aH.out) bL (Nat.le_of_eq hg.symm)) hb); have bM := am (hbox); have bN := sG (w := w) hg X6; have bO := sG (w := w) hg X6; replace HB := bS X6 hb; clear hb hbox hg; have Z23 := bc3 bM))
           go_ret3
           exact ⟨_, by first | rfl | (simp [q3o, q3n] <;> rfl) | (simp only [← aT]; first | rfl | (simp [q3o, q3n] <;> rfl)) | (simp [*, q3o, q3n] <;> rfl), X22, X110⟩
         ·exact iN aW H
       ·exact iN c8 H
      ·exact iN c7 H
     ·exact iN c4 H
    ·exact iN c3 H
def q1H.f (k : Nat) (a0 : ByteArray) : Option (Bool) := if a0.toList = ([] : List UInt8) then (some false) else (if (a0.size : Int) ≤ 20 then ((q0r.f k a0).bind fun aA => (some (aA == (a0.size : Int)))) else (some false))
theorem q1H.mono : ∀ a0 k, LeO (q1H.f k a0) (q1H.f (k + 1) a0) := by
 intro a0 k;unfold q1H.f;exact (by repeat' first | (with_reducible exact q0r.mono _ _) | (with_reducible exact LeO.refl _) | (with_reducible exact LeO.none _) | (with_reducible refine LeO.ite ?_ ?_) | (with_reducible refine LeO.bind ?_ (fun _ => ?_)) | exact q0r.mono _ _ | exact LeO.none _ | refine LeO.ite ?_ ?_ | refine LeO.bind ?_ (fun _ => ?_))
theorem q1H.calls (k : Nat) (a0 : ByteArray) (r : Bool) (w : World) (h : q1H.f k a0 = some r) :
  Calls Tryd.prog 67 #[.string a0] w fun e w' => e = .returned (.bool r) ∧ q1N w w' := by
 have H := h;clear h;unfold q1H.f at H;by_cases c2 : a0.toList = ([] : List UInt8)
 ·rw [if_pos c2] at H;have c2b0 := eT c2;have c2b1 := eF c2;clear c2;obtain rfl := Option.some.inj H;go_enter Tryd.func67, Tryd.ntmps67;go_wp2
  go_ret
  exact ⟨X7, X18⟩
 ·rw [if_neg c2] at H;have c2b0 := nF c2;have c2b1 := nT c2;by_cases c3 : (a0.size : Int) ≤ 20
  ·rw [if_pos c3] at H;have c3b0 := dT c3;have c3b1 : decide (a0.size ≤ 20) = true := decide_eq_true (by omega);clear c3;obtain ⟨aA, aC, H⟩ := oB H;(try dsimp only at H);have A4 := am aC;clear aC;obtain rfl := Option.some.inj H;go_enter Tryd.func67, Tryd.ntmps67;go_wp2_with (first | (go_at_call 88; (with_reducible refine (q0r.calls k a0 aA _ A4.out).mono ?_); rintro e w' ⟨rfl, ⟨nd, rfl⟩⟩))
   go_ret
   exact ⟨X7, X18⟩
  ·rw [if_neg c3] at H;have c3b0 := dF c3;have c3b1 : decide (a0.size ≤ 20) = false := decide_eq_false (by omega);clear c3;obtain rfl := Option.some.inj H;go_enter Tryd.func67, Tryd.ntmps67;go_wp2
   go_ret
   exact ⟨X7, X18⟩

mutual
def q0y.j0 : Nat → ByteArray → Bool → Option (Int × Bool)
 | 0, _, _ => none
 | k + 1, x0, aA => if aA = true then (some (0, false)) else (q0y.l0 k x0 0 0)
def q0y.l0 : Nat → ByteArray → Int → Int → Option (Int × Bool)
 | 0, _, _, _ => none
 | k + 1, x0, x4, x5 => if x5 < (x0.size : Int) then (if 0 ≤ x5 then (q0y.l0 k x0 (wrap64 ((wrap64 (10 * x4)) + (((bt x0 x5) - 48) % 256))) (wrap64 (x5 + 1))) else (none)) else (some (x4, true))
end
def q0y.f (k : Nat) (a0 : ByteArray) : Option (Int × Bool) := if a0.toList = ([] : List UInt8) then (q0y.j0 k a0 true) else (if (a0.size : Int) > 6 then (q0y.j0 k a0 true) else ((q0F.f k a0).bind fun aA => (if aA = (a0.size : Int) then (if 0 < (a0.size : Int) then (if (bt a0 0) = 48 then (q0y.j0 k a0 (decide ((a0.size : Int) > 1))) else (q0y.j0 k a0 false)) else (none)) else (q0y.j0 k a0 true))))
theorem q0y.mono_l : ∀ k, (∀ y0 y1, LeO (q0y.j0 k y0 y1) (q0y.j0 (k + 1) y0 y1)) ∧ (∀ y0 y1 y2, LeO (q0y.l0 k y0 y1 y2) (q0y.l0 (k + 1) y0 y1 y2))
 | 0 => ⟨fun _ _ r h => by simp [q0y.j0] at h, fun _ _ _ r h => by simp [q0y.l0] at h⟩
 | k + 1 => by
  obtain ⟨aA, aC⟩ := q0y.mono_l k;refine ⟨?_, ?_⟩
  ·intro y0 y1;unfold q0y.j0;exact X115
  ·intro y0 y1 y2;unfold q0y.l0;exact X115
theorem q0y.mono : ∀ a0 k, LeO (q0y.f k a0) (q0y.f (k + 1) a0) := by
 intro a0 k;obtain ⟨aA, aC⟩ := q0y.mono_l k;unfold q0y.f;exact X115
theorem q0y.calls (k : Nat) (a0 : ByteArray) (r1 : Int) (r2 : Bool) (w : World) (h : q0y.f k a0 = some (r1, r2)) :
  Calls Tryd.prog 92 #[.string a0] w fun e w' => e = .returned (.tuple #[.int .i64 r1, .bool r2]) ∧ q1N w w' := by
 have H := h;clear h;unfold q0y.f at H;have aA := am H;clear H;go_enter Tryd.func92, Tryd.ntmps92;go_upto_region 1 with (fail)
 go_cut [29] (fun aC wc => ∃ (kq : Nat) (aD : Bool), aC = .bool aD ∧ q0d (q0y.j0 kq a0 aD = some (r1, r2)) ∧ q0d (kq ≤ k) ∧ q1N w wc)
 case first =>
  have H := aA.out;clear aA;by_cases c3 : a0.toList = ([] : List UInt8)
  ·rw [if_pos c3] at H;have c3b0 := eT c3;have c3b1 := eF c3;clear c3;(first | rw [c3b0] | (simp only [q2t, q2B]; rw [c3b0]) | skip);have H' := am H;clear H;go_wp2
   go_meet
   case rel => exact ⟨_, (true), X7, H', ⟨X8⟩, X18⟩
  ·rw [if_neg c3] at H;have c3b0 := nF c3;have c3b1 := nT c3;(first | rw [c3b0] | (simp only [q2t, q2B]; rw [c3b0]) | skip);by_cases c4 : (a0.size : Int) > 6
   ·rw [if_pos c4] at H;have c4b0 : decide (6 < (a0.size : Int)) = true := decide_eq_true c4;have c4b1 : decide (6 < a0.size) = true := decide_eq_true (by omega);clear c4;have H' := am H;clear H;go_wp2
    go_meet
    case rel => exact ⟨_, (true), X7, H', ⟨X8⟩, X18⟩
   ·rw [if_neg c4] at H;have c4b0 : decide (6 < (a0.size : Int)) = false := decide_eq_false c4;have c4b1 : decide (6 < a0.size) = false := decide_eq_false (by omega);clear c4;obtain ⟨aE, aG, H⟩ := oB H;(try dsimp only at H);have A5 := am aG;clear aG;by_cases c6 : aE = (a0.size : Int)
    ·rw [if_pos c6] at H;have c6b0 := eT c6;have c6b1 := eF c6;clear c6;by_cases c7 : 0 < (a0.size : Int)
     ·rw [if_pos c7] at H;have c7b0 := dT c7;have c7b1 : decide (0 < a0.size) = true := decide_eq_true (by omega);clear c7;by_cases c9 : (bt a0 0) = 48
      ·rw [if_pos c9] at H;have c9b0 := eT c9;have c9b1 := eF c9;clear c9;have H' := am H;clear H;go_wp2_with (first | (go_at_call 89; (with_reducible refine (q0F.calls k a0 aE _ A5.out).mono ?_); rintro e w' ⟨rfl, ⟨nd, rfl⟩⟩; have p8 : 0 ≤ (0 : Int) := (by omega); have q8 : 0 < a0.size := (by have : (0 : Int) < (a0.size : Int) := of_decide_eq_true X12; omega); have aH : ∀ h : 0 < a0.size, ((a0[0]'h).toNat : Int) = bt a0 0 := q2b a0 0; clear p8; have aI : (0 < (a0.size : Int)) = True := eq_true (of_decide_eq_true X12); replace q8 := eq_true q8))
       go_meet
       case rel => exact ⟨_, (decide ((a0.size : Int) > 1)), X7, H', ⟨X8⟩, X18⟩
      ·rw [if_neg c9] at H;have c9b0 := nF c9;have c9b1 := nT c9;have H' := am H;clear H;go_wp2_with (first | (go_at_call 89; (with_reducible refine (q0F.calls k a0 aE _ A5.out).mono ?_); rintro e w' ⟨rfl, ⟨nd, rfl⟩⟩; have p8 : 0 ≤ (0 : Int) := (by omega); have q8 : 0 < a0.size := (by have : (0 : Int) < (a0.size : Int) := of_decide_eq_true X12; omega); have aH : ∀ h : 0 < a0.size, ((a0[0]'h).toNat : Int) = bt a0 0 := q2b a0 0; clear p8; have aI : (0 < (a0.size : Int)) = True := eq_true (of_decide_eq_true X12); replace q8 := eq_true q8))
       go_meet
       case rel => exact ⟨_, (false), X7, H', ⟨X8⟩, X18⟩
     ·exact iN c7 H
    ·rw [if_neg c6] at H;have c6b0 := nF c6;have c6b1 := nT c6;have H' := am H;clear H;go_wp2_with (first | (go_at_call 89; (with_reducible refine (q0F.calls k a0 aE _ A5.out).mono ?_); rintro e w' ⟨rfl, ⟨nd, rfl⟩⟩))
     go_meet
     case rel => exact ⟨_, (true), X7, H', ⟨X8⟩, X18⟩
 case rest =>
  clear aA;(try clear p2);(try clear c3);(try clear c3b0);(try clear c3b1);(try clear c4);(try clear c4b0);(try clear c4b1);(try clear c6);(try clear c6b0);(try clear c6b1);(try clear c7);(try clear c7b0);(try clear c7b1);(try clear p8 p8);(try clear q8 q8);(try clear aH);(try clear aI);(try clear c9);(try clear c9b0);(try clear c9b1);obtain ⟨kq, aD, rfl, HA, aJ, ⟨mc1, rfl⟩⟩ := hcut;cases kq with
  | zero => exact absurd HA.out (by simp [q0y.j0])
  | succ aK =>
   have H := HA.out;clear HA;simp only [q0y.j0] at H;by_cases c10 : aD = true
   ·subst c10;replace H := tP H;simp only [Option.some.injEq, Prod.mk.injEq] at H;obtain ⟨rfl, rfl⟩ := H;go_wp2
    go_ret2
    exact ⟨X7, X18⟩
   ·replace c10 := Bool.eq_false_iff.mpr c10;subst c10;replace H := tN H;have H' := am H;clear H;go_wp2
    go_loopg [4, 5] aK (fun kq v4 v5 w' => ∃ (aM : Int) (aQ : Int), v4 = .int .i64 aM ∧ v5 = .int .i64 aQ ∧ q0d (q0y.l0 kq a0 aM aQ = some (r1, r2)) ∧ q0d (kq ≤ aK) ∧ q1N w w')
    case atStart => exact ⟨(0), (0), X7, X7, H', ⟨Nat.le_refl _⟩, X18⟩
    case round =>
     clear H';(try clear c1);(try clear p2 p2);(try clear c3);(try clear c3b0);(try clear c3b1);(try clear c4);(try clear c4b0);(try clear c4b1);(try clear c6);(try clear c6b0);(try clear c6b1);(try clear c7);(try clear c7b0);(try clear c7b1);(try clear p8 p8);(try clear q8 q8);(try clear aH);(try clear aI);(try clear c9);(try clear c9b0);(try clear c9b1);(try clear c10);obtain ⟨aM, aQ, rfl, rfl, HA, aT, ⟨m2, rfl⟩⟩ := hrel;cases gk with
     | zero => exact absurd HA.out (by simp [q0y.l0])
     | succ k2 =>
      have H := HA.out;clear HA;simp only [q0y.l0] at H;by_cases aU : aQ < (a0.size : Int)
      ·rw [if_pos aU] at H;have c11b0 := dT aU;clear aU;by_cases aW : 0 ≤ aQ
       ·rw [if_pos aW] at H;have c12b0 := dT aW;clear aW;have H' := am H;clear H;have aX : 0 ≤ (aQ : Int) := of_decide_eq_true X12;have aY : aQ < (a0.size : Int) := of_decide_eq_true X12;have hx13 := q2b a0 aQ;replace aX := eq_true aX;replace aY := eq_true aY;go_wp2
        go_roundg k2
        case measure => have := aJ.out; have := aT.out; omega
        case rel => exact ⟨(wrap64 ((wrap64 (10 * aM)) + (((bt a0 aQ) - 48) % 256))), (wrap64 (aQ + 1)), X7, X7, H', ⟨by have := aJ.out; have := aT.out; omega⟩, X18⟩
       ·exact iN aW H
      ·rw [if_neg aU] at H;have c11b0 := dF aU;clear aU;simp only [Option.some.injEq, Prod.mk.injEq] at H;obtain ⟨rfl, rfl⟩ := H;go_wp2
       go_ret2
       exact ⟨X7, X18⟩

def q1b.l0 : Nat → ByteArray → Int → Option (ByteArray × Int)
 | 0, _, _ => none
 | k + 1, x0, x4 => if x4 < (x0.size : Int) then (if 0 ≤ x4 then ((q1M.f (bt x0 x4)).bind fun aA => (if aA = true then (q1b.l0 k x0 (wrap64 (x4 + 1))) else (none))) else (none)) else (if 1 + x0.size ≤ 9223372036854775807 then (if ((⟨#[34]⟩ : ByteArray) ++ x0).size + 1 ≤ 9223372036854775807 then (some (((⟨#[34]⟩ : ByteArray) ++ x0) ++ (⟨#[34]⟩ : ByteArray), 0)) else (none)) else (none))
def q1b.f (k : Nat) (a0 : ByteArray) : Option (ByteArray × Int) := if (a0.size : Int) > 60 then (none) else (q1b.l0 k a0 0)
theorem q1b.mono_l : ∀ k, (∀ y0 y1, LeO (q1b.l0 k y0 y1) (q1b.l0 (k + 1) y0 y1))
 | 0 => fun _ _ r h => by simp [q1b.l0] at h
 | k + 1 => by
  have aA := q1b.mono_l k
  ·intro y0 y1;unfold q1b.l0;exact X76
theorem q1b.mono : ∀ a0 k, LeO (q1b.f k a0) (q1b.f (k + 1) a0) := by
 intro a0 k;have aA := q1b.mono_l k;unfold q1b.f;exact X76
theorem q1b.calls (k : Nat) (a0 : ByteArray) (r1 : ByteArray) (r2 : Int) (w : World) (h : q1b.f k a0 = some (r1, r2)) :
  Calls Tryd.prog 93 #[.string a0] w fun e w' => e = .returned (.tuple #[.string r1, .int .i64 r2]) ∧ q1N w w' := by
 have H := h;clear h;unfold q1b.f at H;by_cases c2 : (a0.size : Int) > 60
 ·exact iP c2 H
 ·rw [if_neg c2] at H;have c2b0 : decide (60 < (a0.size : Int)) = false := decide_eq_false c2;have c2b1 : decide (60 < a0.size) = false := decide_eq_false (by omega);clear c2;have H' := am H;clear H;go_enter Tryd.func93, Tryd.ntmps93;go_wp2
  go_loopg [4] k (fun kq v4 w' => ∃ (aA : Int), v4 = .int .i64 aA ∧ q0d (q1b.l0 kq a0 aA = some (r1, r2)) ∧ q0d (kq ≤ k) ∧ q1N w w')
  case atStart => exact ⟨(0), X7, H', ⟨Nat.le_refl _⟩, X18⟩
  case round =>
   clear H';(try clear c2);(try clear c2b0);(try clear c2b1);(try clear p2);obtain ⟨aA, rfl, HA, aC, ⟨m1, rfl⟩⟩ := hrel;cases gk with
   | zero => exact absurd HA.out (by simp [q1b.l0])
   | succ k1 =>
    have H := HA.out;clear HA;simp only [q1b.l0] at H;by_cases c3 : aA < (a0.size : Int)
    ·rw [if_pos c3] at H;have c3b0 := dT c3;clear c3;by_cases c4 : 0 ≤ aA
     ·rw [if_pos c4] at H;have c4b0 := dT c4;clear c4;obtain ⟨aD, aE, H⟩ := oB H;(try dsimp only at H);have A6 := am aE;clear aE;by_cases c7 : aD = true
      ·subst c7;replace H := tP H;have H' := am H;clear H;have p5 : 0 ≤ (aA : Int) := of_decide_eq_true X12;have q5 : aA < (a0.size : Int) := of_decide_eq_true X12;have hx5 := q2b a0 aA;replace p5 := eq_true p5;replace q5 := eq_true q5;go_wp2_with (first | ((with_reducible refine gc 122 ?_); refine gL (some 17) Tryd.func122 #[.int .u8 (bt a0 aA)] ?_; (with_reducible refine (q1M.calls (bt a0 aA) true _ A6.out).mono ?_); rintro e w' ⟨rfl, ⟨nd, rfl⟩⟩; refine ⟨_, rfl, ?_⟩))
       go_roundg k1
       case measure => have := aC.out; omega
       case rel => exact ⟨(wrap64 (aA + 1)), X7, H', ⟨by have := aC.out; omega⟩, X18⟩
      ·replace c7 := Bool.eq_false_iff.mpr c7;subst c7;replace H := tN H;exact absurd H (by simp)
     ·exact iN c4 H
    ·rw [if_neg c3] at H;have c3b0 := dF c3;clear c3;by_cases c8 : 1 + a0.size ≤ 9223372036854775807
     ·rw [if_pos c8] at H;have c8b0 := eq_true c8;have c8b1 := dT c8;try have c8b2 : (9223372036854775807 < 1 + a0.size) = False := eq_false (Nat.not_lt.2 c8)
      by_cases c9 : ((⟨#[34]⟩ : ByteArray) ++ a0).size + 1 ≤ 9223372036854775807
      ·rw [if_pos c9] at H;have c9b0 := eq_true c9;have c9b1 := dT c9;try have c9b2 : (9223372036854775807 < ((⟨#[34]⟩ : ByteArray) ++ a0).size + 1) = False := eq_false (Nat.not_lt.2 c9)
       try (have c9b3 := c9b2; simp only [ByteArray.size_append, bs1] at c9b3)
       simp only [Option.some.injEq, Prod.mk.injEq] at H;obtain ⟨rfl, rfl⟩ := H;go_wp2
       go_ret2
       exact ⟨X7, X18⟩
      ·exact iN c9 H
     ·exact iN c8 H

def q1G.f (k : Nat) (aA : Int) (aC : ByteArray) (a0_2 : Int) : Option (Bool) := if aA = 1 then ((q1H.f k aC).bind fun aD => (some aD)) else (if aA = 2 then ((q0y.f k aC).bind fun aE => (some aE.2)) else (if aA = 3 then ((q1b.f k aC).bind fun aG => (some (aG.2 == 0))) else (if aA = 4 then (if (aC.size : Int) = 1 then (if 0 < (aC.size : Int) then ((q0V.f k (bt aC 0)).bind fun aH => (some aH)) else (none)) else (some false)) else (none))))
theorem q1G.mono : ∀ a0 a1 a2 k, LeO (q1G.f k a0 a1 a2) (q1G.f (k + 1) a0 a1 a2) := by
 intro a0 a1 a2 k;unfold q1G.f;exact (by repeat' first | (with_reducible exact q1H.mono _ _) | (with_reducible exact q0y.mono _ _) | (with_reducible exact q1b.mono _ _) | (with_reducible exact q0V.mono _ _) | (with_reducible exact LeO.refl _) | (with_reducible exact LeO.none _) | (with_reducible refine LeO.ite ?_ ?_) | (with_reducible refine LeO.bind ?_ (fun _ => ?_)) | exact q1H.mono _ _ | exact q0y.mono _ _ | exact q1b.mono _ _ | exact q0V.mono _ _ | exact LeO.none _ | refine LeO.ite ?_ ?_ | refine LeO.bind ?_ (fun _ => ?_))
theorem q1G.calls (k : Nat) (aA : Int) (aC : ByteArray) (aD : Int) (r : Bool) (w : World) (h : q1G.f k aA aC aD = some r) :
  Calls Tryd.prog 41 #[.agg #[.int .i64 aA, .string aC, .int .i64 aD]] w fun e w' => e = .returned (.bool r) ∧ Below w.heap.size w w' := by
 have hu36 := Tryd.underlying36;have HB := am (Below.refl w.heap.size w);have H := h;clear h;unfold q1G.f at H;by_cases c2 : aA = 1
 ·rw [if_pos c2] at H;have c2b0 := eT c2;have c2b1 := eF c2;clear c2;obtain ⟨aE, aG, H⟩ := oB H;(try dsimp only at H);have A3 := am aG;clear aG;obtain rfl := Option.some.inj H;go_enter Tryd.func41, Tryd.ntmps41;go_wp2_with (first | ((with_reducible refine gd 1 ?_); refine be 1 #[.int .i64 aA, .string aC, .int .i64 aD] 36 ?_; intro aH hg w4 hbox hb; have aI := am (hbox); have aJ := sG (w := w) hg X6; have aK := sG (w := w) hg X6; replace HB := bS X6 hb; clear hb hbox hg; have Z5 := bc3 aI) | ((with_reducible refine gc 67 ?_); refine gL (some 13) Tryd.func67 #[.string aC] ?_; (with_reducible refine (q1H.calls k aC aE _ A3.out).mono ?_); rintro e w' ⟨rfl, ⟨nd, rfl⟩⟩; refine ⟨_, rfl, ?_⟩))
  go_ret
  exact ⟨X11, X52⟩
 ·rw [if_neg c2] at H;have c2b0 := nF c2;have c2b1 := nT c2;by_cases c6 : aA = 2
  ·rw [if_pos c6] at H;have c6b0 := eT c6;have c6b1 := eF c6;clear c6;obtain ⟨⟨aM, aQ⟩, aT, H⟩ := oB H;(try dsimp only at H);have A7 := am aT;clear aT;obtain rfl := Option.some.inj H;go_enter Tryd.func41, Tryd.ntmps41;go_wp2_with (first | ((with_reducible refine gd 1 ?_); refine be 1 #[.int .i64 aA, .string aC, .int .i64 aD] 36 ?_; intro aH hg w8 hbox hb; have aI := am (hbox); have aJ := sG (w := w) hg X6; have aK := sG (w := w) hg X6; replace HB := bS X6 hb; clear hb hbox hg; have Z9 := bc3 aI) | ((with_reducible refine gc 92 ?_); refine gL (some 19) Tryd.func92 #[.string aC] ?_; (with_reducible refine (q0y.calls k aC aM aQ _ A7.out).mono ?_); rintro e w' ⟨rfl, ⟨nd, rfl⟩⟩; refine ⟨_, rfl, ?_⟩))
   go_ret
   exact ⟨X11, X52⟩
  ·rw [if_neg c6] at H;have c6b0 := nF c6;have c6b1 := nT c6;by_cases c10 : aA = 3
   ·rw [if_pos c10] at H;have c10b0 := eT c10;have c10b1 := eF c10;clear c10;obtain ⟨⟨aU, aW⟩, aX, H⟩ := oB H;(try dsimp only at H);have aY := am aX;clear aX;obtain rfl := Option.some.inj H;go_enter Tryd.func41, Tryd.ntmps41;go_wp2_with (first | ((with_reducible refine gd 1 ?_); refine be 1 #[.int .i64 aA, .string aC, .int .i64 aD] 36 ?_; intro aH hg w12 hbox hb; have aI := am (hbox); have aJ := sG (w := w) hg X6; have aK := sG (w := w) hg X6; replace HB := bS X6 hb; clear hb hbox hg; have Z13 := bc3 aI) | ((with_reducible refine gc 93 ?_); refine gL (some 28) Tryd.func93 #[.string aC] ?_; (with_reducible refine (q1b.calls k aC aU aW _ aY.out).mono ?_); rintro e w' ⟨rfl, ⟨nd, rfl⟩⟩; refine ⟨_, rfl, ?_⟩))
    go_ret
    exact ⟨X11, X52⟩
   ·rw [if_neg c10] at H;have c10b0 := nF c10;have c10b1 := nT c10;by_cases aZ : aA = 4
    ·rw [if_pos aZ] at H;have c14b0 := eT aZ;have c14b1 := eF aZ;clear aZ;by_cases bA : (aC.size : Int) = 1
     ·rw [if_pos bA] at H;have c15b0 := eT bA;have c15b1 := eF bA;clear bA;by_cases bB : 0 < (aC.size : Int)
      ·rw [if_pos bB] at H;have c16b0 := dT bB;have c16b1 : decide (0 < aC.size) = true := decide_eq_true (by omega);clear bB;obtain ⟨bC, bD, H⟩ := oB H;(try dsimp only at H);have bE := am bD;clear bD;obtain rfl := Option.some.inj H;go_enter Tryd.func41, Tryd.ntmps41;go_wp2_with (first | ((with_reducible refine gd 1 ?_); refine be 1 #[.int .i64 aA, .string aC, .int .i64 aD] 36 ?_; intro aH hg w19 hbox hb; have aI := am (hbox); have aJ := sG (w := w) hg X6; have aK := sG (w := w) hg X6; replace HB := bS X6 hb; clear hb hbox hg; have Z20 := bc3 aI; have bF : 0 ≤ (0 : Int) := (by omega); have bG : 0 < aC.size := (by have : (0 : Int) < (aC.size : Int) := of_decide_eq_true X12; omega); have hx17 : ∀ h : 0 < aC.size, ((aC[0]'h).toNat : Int) = bt aC 0 := q2b aC 0; clear bF; have qi17 : (0 < (aC.size : Int)) = True := eq_true (of_decide_eq_true X12); replace bG := eq_true bG) | (go_at_call 91; (with_reducible refine (q0V.calls k (bt aC 0) bC _ bE.out).mono ?_); rintro e w' ⟨rfl, ⟨nd, rfl⟩⟩))
       go_ret
       exact ⟨X11, X52⟩
      ·exact iN bB H
     ·rw [if_neg bA] at H;have c15b0 := nF bA;have c15b1 := nT bA;obtain rfl := Option.some.inj H;go_enter Tryd.func41, Tryd.ntmps41;go_wp2_with (first | ((with_reducible refine gd 1 ?_); refine be 1 #[.int .i64 aA, .string aC, .int .i64 aD] 36 ?_; intro aH hg w21 hbox hb; have aI := am (hbox); have aJ := sG (w := w) hg X6; have aK := sG (w := w) hg X6; replace HB := bS X6 hb; clear hb hbox hg; have Z22 := bc3 aI))
      go_ret
      exact ⟨X11, X52⟩
    ·exact iN aZ H
mutual
def q0x.l0 : Nat → List (S36) → Int → Option (ByteArray × Int)
 | 0, _, _ => none
 | k + 1, x0, x4 => if x4 < (x0.length : Int) then (if 0 ≤ x4 then ((q1G.f k ((q1t x0 x4).f0) ((q1t x0 x4).f1) ((q1t x0 x4).f2)).bind fun aA => (if aA = true then (q0x.l0 k x0 (wrap64 (x4 + 1))) else (none))) else (none)) else (q0x.l1 k x0 (⟨#[]⟩ : ByteArray) 0)
def q0x.l1 : Nat → List (S36) → ByteArray → Int → Option (ByteArray × Int)
 | 0, _, _, _ => none
 | k + 1, x0, x5, x6 => if x6 < (x0.length : Int) then (q0x.j2 k x0 x5 x6 (decide ((x5.size : Int) ≤ 20000))) else (q0x.j2 k x0 x5 x6 false)
def q0x.j2 : Nat → List (S36) → ByteArray → Int → Bool → Option (ByteArray × Int)
 | 0, _, _, _, _ => none
 | k + 1, x0, x5, x6, aA => if aA = true then (if x6 > 0 then (none) else (if 0 ≤ x6 then (if x6 < (x0.length : Int) then (if ((q1t x0 x6).f0) = 3 then (if x5.size + 1 ≤ 9223372036854775807 then (if (x5 ++ (⟨#[34]⟩ : ByteArray)).size + ((q1t x0 x6).f1).size ≤ 9223372036854775807 then (if ((x5 ++ (⟨#[34]⟩ : ByteArray)) ++ ((q1t x0 x6).f1)).size + 1 ≤ 9223372036854775807 then (q0x.l1 k x0 (((x5 ++ (⟨#[34]⟩ : ByteArray)) ++ ((q1t x0 x6).f1)) ++ (⟨#[34]⟩ : ByteArray)) (wrap64 (x6 + 1))) else (none)) else (none)) else (none)) else (if x5.size + ((q1t x0 x6).f1).size ≤ 9223372036854775807 then (q0x.l1 k x0 (x5 ++ ((q1t x0 x6).f1)) (wrap64 (x6 + 1))) else (none))) else (none)) else (none))) else (if (x5.size : Int) > 20000 then (none) else (some (x5, 0)))
end
def q0x.f (k : Nat) (l0 : List (S36)) : Option (ByteArray × Int) := q0x.l0 k l0 0
theorem q0x.mono_l : ∀ k, (∀ y0 y1, LeO (q0x.l0 k y0 y1) (q0x.l0 (k + 1) y0 y1)) ∧ (∀ y0 y1 y2, LeO (q0x.l1 k y0 y1 y2) (q0x.l1 (k + 1) y0 y1 y2)) ∧ (∀ y0 y1 y2 y3, LeO (q0x.j2 k y0 y1 y2 y3) (q0x.j2 (k + 1) y0 y1 y2 y3))
 | 0 => ⟨fun _ _ r h => by simp [q0x.l0] at h, fun _ _ _ r h => by simp [q0x.l1] at h, fun _ _ _ _ r h => by simp [q0x.j2] at h⟩
 | k + 1 => by
  obtain ⟨aA, aC, aD⟩ := q0x.mono_l k;refine ⟨?_, ?_, ?_⟩
  ·intro y0 y1;unfold q0x.l0;exact X116
  ·intro y0 y1 y2;unfold q0x.l1;exact X116
  ·intro y0 y1 y2 y3;unfold q0x.j2;exact X116
theorem q0x.mono : ∀ a0 k, LeO (q0x.f k a0) (q0x.f (k + 1) a0) := by
 intro a0 k;obtain ⟨aA, aC, aD⟩ := q0x.mono_l k;unfold q0x.f;exact X116
theorem q0x.calls (k : Nat) (A0 : Option Addr) (c0 : Nat) (l0 : List (S36)) (r1 : ByteArray) (r2 : Int) (w : World) (aA : Kd.C k36 w A0 l0.length l0) (aC : l0.length ≤ c0) (h : q0x.f k l0 = some (r1, r2)) :
  Calls Tryd.prog 14 #[.slice A0 l0.length c0] w fun e w' => e = .returned (.tuple #[.string r1, .int .i64 r2]) ∧ Below w.heap.size w w' := by
 have hu36 := Tryd.underlying36;have aD := am aA;have HC0 := am aC;clear aA aC;have HB := am (Below.refl w.heap.size w);have H := h;clear h;unfold q0x.f at H;have H' := am H;clear H;go_enter Tryd.func14, Tryd.ntmps14;go_wp2
 go_loopg [4] k (fun kq v4 w' => ∃ (aE : Int), v4 = .int .i64 aE ∧ q0d (q0x.l0 kq l0 aE = some (r1, r2)) ∧ q0d (kq ≤ k) ∧ q0d (Below w.heap.size w w'))
 case atStart => exact ⟨(0), X7, H', ⟨Nat.le_refl _⟩, ⟨X6⟩⟩
 case round =>
  clear H';(try clear c1);obtain ⟨aE, rfl, HA, aG, HB⟩ := hrel;cases gk with
  | zero => exact absurd HA.out (by simp [q0x.l0])
  | succ k1 =>
   have H := HA.out;clear HA;simp only [q0x.l0] at H;by_cases c2 : aE < (l0.length : Int)
   ·rw [if_pos c2] at H;have c2b0 := dT c2;clear c2;by_cases c3 : 0 ≤ aE
    ·rw [if_pos c3] at H;have c3b0 := dT c3;clear c3;obtain ⟨aH, aI, H⟩ := oB H;(try dsimp only at H);have A4 := am aI;clear aI;by_cases c5 : aH = true
     ·subst c5;replace H := tP H;have H' := am H;clear H;have aJ : 0 ≤ (aE : Int) := of_decide_eq_true X12;have aK : aE < (l0.length : Int) := of_decide_eq_true X12;obtain ⟨ad738, e738, aM, aQ, aT⟩ := q3y aD.out aE aJ aK;cases e738;replace aM := cB HB aM;replace aQ := cB HB aQ;replace aT := cB HB aT;replace aJ := eq_true aJ;replace aK := eq_true aK;go_wp2_with (first | ((with_reducible refine gc 41 ?_); refine gL (some 17) Tryd.func41 #[.agg #[.int .i64 ((q1t l0 aE).f0), .string ((q1t l0 aE).f1), .int .i64 ((q1t l0 aE).f2)]] ?_; (with_reducible refine (q1G.calls k1 ((q1t l0 aE).f0) ((q1t l0 aE).f1) ((q1t l0 aE).f2) true _ A4.out).mono ?_); rintro e w6 ⟨rfl, hb⟩; refine ⟨_, rfl, ?_⟩; replace HB := bS X6 hb; clear hb))
      go_roundg k1
      case measure => have := aG.out; omega
      case rel => exact ⟨(wrap64 (aE + 1)), X7, H', ⟨X19⟩, ⟨X6⟩⟩
     ·replace c5 := Bool.eq_false_iff.mpr c5;subst c5;replace H := tN H;exact absurd H (by simp)
    ·exact iN c3 H
   ·rw [if_neg c2] at H;have c2b0 := dF c2;clear c2;have H' := am H;clear H;go_wp2
    go_loopg [5, 6] k1 (fun kq v5 v6 w' => ∃ (aU : ByteArray) (aW : Int), v5 = .string aU ∧ v6 = .int .i64 aW ∧ q0d (q0x.l1 kq l0 aU aW = some (r1, r2)) ∧ q0d (kq ≤ k1) ∧ q0d (Below w.heap.size w w'))
    case atStart => exact ⟨((⟨#[]⟩ : ByteArray)), (0), X7, X7, H', ⟨Nat.le_refl _⟩, ⟨X6⟩⟩
    case round =>
     clear H';(try clear c1);(try clear c2);(try clear c2b0);(try clear p2);(try clear c3);(try clear c3b0);(try clear c4);(try clear c5);(try clear p6);(try clear aM);(try clear aQ);(try clear aT);(try clear aJ);(try clear aK);obtain ⟨aU, aW, rfl, rfl, HA, aX, HB⟩ := hrel;cases gk with
     | zero => exact absurd HA.out (by simp [q0x.l1])
     | succ k2 =>
      have H := HA.out;clear HA;simp only [q0x.l1] at H;have aY := am H;clear H;go_upto_region 8 with (fail)
      go_cut [27] (fun aZ wc => ∃ (kq : Nat) (bA : Bool), aZ = .bool bA ∧ q0d (q0x.j2 kq l0 aU aW bA = some (r1, r2)) ∧ q0d (kq ≤ k2) ∧ q0d (Below w.heap.size w wc))
      case first =>
       have H := aY.out;clear aY;by_cases c8 : aW < (l0.length : Int)
       ·rw [if_pos c8] at H;have c8b0 := dT c8;clear c8;(first | rw [c8b0] | (simp only [q2t, q2B]; rw [c8b0]) | skip);have H' := am H;clear H;go_wp2
        go_meet
        case rel => exact ⟨_, (decide ((aU.size : Int) ≤ 20000)), X7, H', ⟨by have := aG.out; have := aX.out; first | omega | exact Nat.le_refl _⟩, ⟨X6⟩⟩
       ·rw [if_neg c8] at H;have c8b0 := dF c8;clear c8;(first | rw [c8b0] | (simp only [q2t, q2B]; rw [c8b0]) | skip);have H' := am H;clear H;go_wp2
        go_meet
        case rel => exact ⟨_, (false), X7, H', ⟨by have := aG.out; have := aX.out; first | omega | exact Nat.le_refl _⟩, ⟨X6⟩⟩
      case rest =>
       clear aY;(try clear c1);(try clear c2);(try clear c2b0);(try clear p2 p2);(try clear c3);(try clear c3b0);(try clear c4);(try clear c5);(try clear p6 p6);(try clear p7);(try clear q7);(try clear hx7);(try clear c8);(try clear c8b0);(try clear aM);(try clear aQ);(try clear aT);(try clear aJ);(try clear aK);obtain ⟨kq, bA, rfl, HA, bB, HB⟩ := hcut;cases kq with
       | zero => exact absurd HA.out (by simp [q0x.j2])
       | succ bC =>
        have H := HA.out;clear HA;simp only [q0x.j2] at H;by_cases c9 : bA = true
        ·subst c9;replace H := tP H;by_cases c10 : aW > 0
         ·exact iP c10 H
         ·rw [if_neg c10] at H;have c10b0 : decide (0 < aW) = false := decide_eq_false c10;clear c10;by_cases bD : 0 ≤ aW
          ·rw [if_pos bD] at H;have c11b0 := dT bD;clear bD;by_cases bE : aW < (l0.length : Int)
           ·rw [if_pos bE] at H;have c12b0 := dT bE;clear bE;by_cases bF : ((q1t l0 aW).f0) = 3
            ·rw [if_pos bF] at H;have c13b0 := eT bF;have c13b1 := eF bF;clear bF;by_cases bG : aU.size + 1 ≤ 9223372036854775807
             ·rw [if_pos bG] at H;have c14b0 := eq_true bG;have c14b1 := dT bG;try have c14b2 : (9223372036854775807 < aU.size + 1) = False := eq_false (Nat.not_lt.2 bG)
              by_cases bH : (aU ++ (⟨#[34]⟩ : ByteArray)).size + ((q1t l0 aW).f1).size ≤ 9223372036854775807
              ·rw [if_pos bH] at H;have c15b0 := eq_true bH;have c15b1 := dT bH;try have c15b2 : (9223372036854775807 < (aU ++ (⟨#[34]⟩ : ByteArray)).size + ((q1t l0 aW).f1).size) = False := eq_false (Nat.not_lt.2 bH)
               try (have c15b3 := c15b2; simp only [ByteArray.size_append, bs1] at c15b3)
               by_cases bI : ((aU ++ (⟨#[34]⟩ : ByteArray)) ++ ((q1t l0 aW).f1)).size + 1 ≤ 9223372036854775807
               ·rw [if_pos bI] at H;have c16b0 := eq_true bI;have c16b1 := dT bI;try have c16b2 : (9223372036854775807 < ((aU ++ (⟨#[34]⟩ : ByteArray)) ++ ((q1t l0 aW).f1)).size + 1) = False := eq_false (Nat.not_lt.2 bI)
                try (have c16b3 := c16b2; simp only [ByteArray.size_append, bs1] at c16b3)
                have H' := am H;clear H;have bJ : 0 ≤ (aW : Int) := of_decide_eq_true X12;have bK : aW < (l0.length : Int) := of_decide_eq_true X12;obtain ⟨bL, e740, bM, bN, bO⟩ := q3y aD.out aW bJ bK;cases e740;replace bM := cB HB bM;replace bN := cB HB bN;replace bO := cB HB bO;replace bJ := eq_true bJ;replace bK := eq_true bK;have bP : 0 ≤ (aW : Int) := of_decide_eq_true X12;have bQ : aW < (l0.length : Int) := of_decide_eq_true X12;obtain ⟨bR, e741, bT, bU, bV⟩ := q3y aD.out aW bP bQ;obtain rfl : bL = bR := (by injection e741);replace bT := cB HB bT;replace bU := cB HB bU;replace bV := cB HB bV;replace bP := eq_true bP;replace bQ := eq_true bQ;go_wp2
                go_roundg bC
                case measure => have := aG.out; have := aX.out; have := bB.out; omega
                case rel => exact ⟨(((aU ++ (⟨#[34]⟩ : ByteArray)) ++ ((q1t l0 aW).f1)) ++ (⟨#[34]⟩ : ByteArray)), (wrap64 (aW + 1)), X7, X7, H', ⟨by have := aG.out; have := aX.out; have := bB.out; omega⟩, ⟨X6⟩⟩
               ·exact iN bI H
              ·exact iN bH H
             ·exact iN bG H
            ·rw [if_neg bF] at H;have c13b0 := nF bF;have c13b1 := nT bF;by_cases bW : aU.size + ((q1t l0 aW).f1).size ≤ 9223372036854775807
             ·rw [if_pos bW] at H;have c17b0 := eq_true bW;have c17b1 := dT bW;try have c17b2 : (9223372036854775807 < aU.size + ((q1t l0 aW).f1).size) = False := eq_false (Nat.not_lt.2 bW)
              have H' := am H;clear H;have bJ : 0 ≤ (aW : Int) := of_decide_eq_true X12;have bK : aW < (l0.length : Int) := of_decide_eq_true X12;obtain ⟨bL, e740, bM, bN, bO⟩ := q3y aD.out aW bJ bK;cases e740;replace bM := cB HB bM;replace bN := cB HB bN;replace bO := cB HB bO;replace bJ := eq_true bJ;replace bK := eq_true bK;have bX : 0 ≤ (aW : Int) := of_decide_eq_true X12;have bY : aW < (l0.length : Int) := of_decide_eq_true X12;obtain ⟨bZ, e742, cA, cC, cD⟩ := q3y aD.out aW bX bY;obtain rfl : bL = bZ := (by injection e742);replace cA := cB HB cA;replace cC := cB HB cC;replace cD := cB HB cD;replace bX := eq_true bX;replace bY := eq_true bY;go_wp2
              go_roundg bC
              case measure => have := aG.out; have := aX.out; have := bB.out; omega
              case rel => exact ⟨(aU ++ ((q1t l0 aW).f1)), (wrap64 (aW + 1)), X7, X7, H', ⟨by have := aG.out; have := aX.out; have := bB.out; omega⟩, ⟨X6⟩⟩
             ·exact iN bW H
           ·exact iN bE H
          ·exact iN bD H
        ·replace c9 := Bool.eq_false_iff.mpr c9;subst c9;replace H := tN H;by_cases cE : (aU.size : Int) > 20000
         ·exact iP cE H
         ·rw [if_neg cE] at H;have c18b0 : decide (20000 < (aU.size : Int)) = false := decide_eq_false cE;have c18b1 : decide (20000 < aU.size) = false := decide_eq_false (by omega);clear cE;simp only [Option.some.injEq, Prod.mk.injEq] at H;obtain ⟨rfl, rfl⟩ := H;go_wp2
          go_ret2
          exact ⟨X11, X6⟩
end Go.Proofs.YtmffocankommaaaDoor.L
