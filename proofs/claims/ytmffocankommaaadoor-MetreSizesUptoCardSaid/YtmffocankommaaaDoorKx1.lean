/- Walks of functions of the program: what each computes, as a function in Lean (printed by a program of this session's, then shortened by another). The condition is that the Lean function gives a value. -/
import Derived.Test.YtmffocankommaaaDoorKYZed
import Derived.Test.YtmffocankommaaaDoorKx0
namespace Go.Proofs.YtmffocankommaaaDoor.Z
open Go.RowKit Go.Proofs.YtmffocankommaaaDoorW.PrintWords Go.Proofs.YtmffocankommaaaDoorW.PrintLast Go.Proofs.YtmffocankommaaaDoorW.PrintMore Go.Proofs.YtmffocankommaaaDoorY Go.Proofs.YtmffocankommaaaDoorS Go.Proofs.YtmffocankommaaaDoorS
attribute [local go_sem] cell_twice max2_int min2_int max_two min_two max_three min_three max_four min_four
set_option linter.unusedVariables false
set_option linter.unusedSimpArgs false

def token_small.f (a0 : Int) : Option (Bool) := if a0 ≥ 97 then (some (decide (a0 ≤ 122))) else (some false)
set_option maxHeartbeats 8000000 in
set_option maxRecDepth 100000 in
theorem token_small.calls (a0 : Int) (r : Bool) (w : World) (h : token_small.f a0 = some r) :
  Calls Tryd.prog 109 #[.int .u8 a0] w fun e w' => e = .returned (.bool r) ∧ Drawn0 w w' := by
 have H : (if a0 ≥ 97 then (some (decide (a0 ≤ 122))) else (some false)) = some r := h;clear h;by_cases c2 : a0 ≥ 97
 ·rw [if_pos c2] at H;have c2b0 : decide (97 ≤ a0) = true := decide_eq_true c2;clear c2;obtain rfl := Option.some.inj H;go_enter Tryd.func109, Tryd.ntmps109;go_wp2
  go_ret
  exact ⟨X4, X5⟩
 ·rw [if_neg c2] at H;have c2b0 : decide (97 ≤ a0) = false := decide_eq_false c2;clear c2;obtain rfl := Option.some.inj H;go_enter Tryd.func109, Tryd.ntmps109;go_wp2
  go_ret
  exact ⟨X4, X5⟩

def token_digit.f (a0 : Int) : Option (Bool) := if a0 ≥ 48 then (some (decide (a0 ≤ 57))) else (some false)
set_option maxHeartbeats 8000000 in
set_option maxRecDepth 100000 in
theorem token_digit.calls (a0 : Int) (r : Bool) (w : World) (h : token_digit.f a0 = some r) :
  Calls Tryd.prog 110 #[.int .u8 a0] w fun e w' => e = .returned (.bool r) ∧ Drawn0 w w' := by
 have H : (if a0 ≥ 48 then (some (decide (a0 ≤ 57))) else (some false)) = some r := h;clear h;by_cases c2 : a0 ≥ 48
 ·rw [if_pos c2] at H;have c2b0 : decide (48 ≤ a0) = true := decide_eq_true c2;clear c2;obtain rfl := Option.some.inj H;go_enter Tryd.func110, Tryd.ntmps110;go_wp2
  go_ret
  exact ⟨X4, X5⟩
 ·rw [if_neg c2] at H;have c2b0 : decide (48 ≤ a0) = false := decide_eq_false c2;clear c2;obtain rfl := Option.some.inj H;go_enter Tryd.func110, Tryd.ntmps110;go_wp2
  go_ret
  exact ⟨X4, X5⟩

mutual
def token_name.j0 : Nat → ByteArray → Bool → Option (Int)
 | 0, _, _ => none
 | k + 1, x0, aA => if aA = true then (none) else (token_name.l0 k x0 1)
def token_name.l0 : Nat → ByteArray → Int → Option (Int)
 | 0, _, _ => none
 | k + 1, x0, x3 => if x3 < (x0.size : Int) then (if 0 ≤ x3 then ((token_small.f (bt x0 x3)).bind fun aA => (if aA = true then (token_name.j2 k x0 x3 (bt x0 x3) true) else ((token_digit.f (bt x0 x3)).bind fun aC => (token_name.j2 k x0 x3 (bt x0 x3) aC)))) else (none)) else (some x3)
def token_name.j2 : Nat → ByteArray → Int → Int → Bool → Option (Int)
 | 0, _, _, _, _ => none
 | k + 1, x0, x3, x4, aA => if aA = true then (token_name.l0 k x0 (wrap64 (x3 + 1))) else (if x4 = 45 then (if (wrap64 (x3 + 1)) < (x0.size : Int) then (if 0 ≤ (wrap64 (x3 + 1)) then ((token_small.f (bt x0 (wrap64 (x3 + 1)))).bind fun aC => (if aC = true then (none) else ((token_digit.f (bt x0 (wrap64 (x3 + 1)))).bind fun aD => (if aD = true then (none) else (some x3))))) else (none)) else (some x3)) else (some x3))
end
def token_name.f (k : Nat) (a0 : ByteArray) : Option (Int) := if a0.toList = ([] : List UInt8) then (token_name.j0 k a0 true) else (if 0 < (a0.size : Int) then ((token_small.f (bt a0 0)).bind fun aA => (token_name.j0 k a0 (!aA))) else (none))
theorem token_name.mono_l : ∀ k, (∀ y0 y1, LeO (token_name.j0 k y0 y1) (token_name.j0 (k + 1) y0 y1)) ∧ (∀ y0 y1, LeO (token_name.l0 k y0 y1) (token_name.l0 (k + 1) y0 y1)) ∧ (∀ y0 y1 y2 y3, LeO (token_name.j2 k y0 y1 y2 y3) (token_name.j2 (k + 1) y0 y1 y2 y3))
 | 0 => ⟨fun _ _ r h => by simp [token_name.j0] at h, fun _ _ r h => by simp [token_name.l0] at h, fun _ _ _ _ r h => by simp [token_name.j2] at h⟩
 | k + 1 => by
  obtain ⟨aA, aC, aD⟩ := token_name.mono_l k;refine ⟨?_, ?_, ?_⟩
  ·intro y0 y1;unfold token_name.j0;exact X6
  ·intro y0 y1;unfold token_name.l0;exact X6
  ·intro y0 y1 y2 y3;unfold token_name.j2;exact X6
theorem token_name.mono : ∀ a0 k, LeO (token_name.f k a0) (token_name.f (k + 1) a0) := by
 intro a0 k;obtain ⟨aA, aC, aD⟩ := token_name.mono_l k;unfold token_name.f;exact X6
set_option maxHeartbeats 8000000 in
set_option maxRecDepth 100000 in
theorem token_name.calls (k : Nat) (a0 : ByteArray) (r : Int) (w : World) (h : token_name.f k a0 = some r) :
  Calls Tryd.prog 101 #[.string a0] w fun e w' => e = .returned (.int .i64 r) ∧ Drawn0 w w' := by
 have H : (if a0.toList = ([] : List UInt8) then (token_name.j0 k a0 true) else (if 0 < (a0.size : Int) then ((token_small.f (bt a0 0)).bind fun aA => (token_name.j0 k a0 (!aA))) else (none))) = some r := h;clear h;have aC := am H;clear H;go_enter Tryd.func101, Tryd.ntmps101;go_upto_region 1 with (fail)
 go_cut [12] (fun aD wc => ∃ (kq : Nat) (aE : Bool), aD = .bool aE ∧ Aside0 (token_name.j0 kq a0 aE = some r) ∧ Aside0 (kq ≤ k) ∧ Drawn0 w wc)
 case first =>
  have H := aC.out;clear aC;by_cases c3 : a0.toList = ([] : List UInt8)
  ·rw [if_pos c3] at H;have c3b0 := eT c3;have c3b1 := eF c3;clear c3;(first | rw [c3b0] | (simp only [i64_w, i32_w]; rw [c3b0]) | skip);have H' := am H;clear H;go_wp2
   go_meet
   case rel => exact ⟨_, (true), X4, H', ⟨X7⟩, X5⟩
  ·rw [if_neg c3] at H;have c3b0 := nF c3;have c3b1 := nT c3;(first | rw [c3b0] | (simp only [i64_w, i32_w]; rw [c3b0]) | skip);by_cases c4 : 0 < (a0.size : Int)
   ·rw [if_pos c4] at H;have c4b0 := dT c4;have c4b1 : decide (0 < a0.size) = true := decide_eq_true (by omega);clear c4;replace H := Option.bind_eq_some_iff.mp H;obtain ⟨aA, aG, H⟩ := H;replace H : (token_name.j0 k a0 (!aA)) = some r := H;have A6 := am aG;clear aG;have H' := am H;clear H;have p5 : 0 ≤ (0 : Int) := (by omega);have q5 : 0 < a0.size := (by have : (0 : Int) < (a0.size : Int) := of_decide_eq_true X8; omega);have aH : ∀ h : 0 < a0.size, ((a0[0]'h).toNat : Int) = bt a0 0 := bt_at a0 0;clear p5;have aI : (0 < (a0.size : Int)) = True := eq_true (of_decide_eq_true X8);replace q5 := eq_true q5;go_wp2_with (first | (go_at_call 109; (with_reducible refine (token_small.calls (bt a0 0) aA _ A6.out).mono ?_); rintro e w' ⟨rfl, ⟨nd, rfl⟩⟩))
    go_meet
    case rel => exact ⟨_, (!aA), X4, H', ⟨X7⟩, X5⟩
   ·exact iN c4 H
 case rest =>
  clear aC;(try clear c1);(try clear p2);(try clear c3);(try clear c3b0);(try clear c3b1);(try clear c4);(try clear c4b0);(try clear c4b1);(try clear p5 p5);(try clear q5 q5);(try clear aH);(try clear aI);obtain ⟨kq, aE, rfl, HA, aJ, ⟨mc1, rfl⟩⟩ := hcut;cases kq with
  | zero => exact absurd HA.out (by simp [token_name.j0])
  | succ aK =>
   have H := HA.out;clear HA;simp only [token_name.j0] at H;by_cases c7 : aE = true
   ·subst c7;have H1 : (none) = some r := by rw [if_pos rfl] at H; exact H
    clear H;have H := H1;clear H1;exact absurd H (by simp)
   ·replace c7 := Bool.eq_false_iff.mpr c7;subst c7;have H1 : (token_name.l0 aK a0 1) = some r := by rw [if_neg (show ¬ (false = true) by decide)] at H; exact H
    clear H;have H := H1;clear H1;have H' := am H;clear H;go_wp2
    go_loopg [3] aK (fun kq v3 w' => ∃ (aM : Int), v3 = .int .i64 aM ∧ Aside0 (token_name.l0 kq a0 aM = some r) ∧ Aside0 (kq ≤ aK) ∧ Drawn0 w w')
    case atStart => exact ⟨(1), X4, H', ⟨Nat.le_refl _⟩, X5⟩
    case round =>
     clear H';(try clear c1);(try clear p2 p2);(try clear c3);(try clear c3b0);(try clear c3b1);(try clear c4);(try clear c4b0);(try clear c4b1);(try clear p5 p5);(try clear q5 q5);(try clear aH);(try clear aI);(try clear c7);obtain ⟨aM, rfl, HA, aQ, ⟨m2, rfl⟩⟩ := hrel;cases gk with
     | zero => exact absurd HA.out (by simp [token_name.l0])
     | succ k2 =>
      have H := HA.out;clear HA;simp only [token_name.l0] at H;by_cases c8 : aM < (a0.size : Int)
      ·rw [if_pos c8] at H;have c8b0 := dT c8;clear c8;by_cases c9 : 0 ≤ aM
       ·rw [if_pos c9] at H;have c9b0 := dT c9;clear c9;have aT := am H;clear H;have aU : 0 ≤ (aM : Int) := of_decide_eq_true X8;have aW : aM < (a0.size : Int) := of_decide_eq_true X8;have aX := bt_at a0 aM;replace aU := eq_true aU;replace aW := eq_true aW;go_upto_region 7 with (fail)
        go_cut [21] (fun aY wc => ∃ (kq : Nat) (aZ : Bool), aY = .bool aZ ∧ Aside0 (token_name.j2 kq a0 aM (bt a0 aM) aZ = some r) ∧ Aside0 (kq ≤ k2) ∧ Drawn0 w wc)
        case first =>
         have H := aT.out;clear aT;replace H := Option.bind_eq_some_iff.mp H;obtain ⟨bA, bB, H⟩ := H;replace H : (if bA = true then (token_name.j2 k2 a0 aM (bt a0 aM) true) else ((token_digit.f (bt a0 aM)).bind fun bC => (token_name.j2 k2 a0 aM (bt a0 aM) bC))) = some r := H;have bD := am bB;clear bB;by_cases bE : bA = true
         ·subst bE;have H1 : (token_name.j2 k2 a0 aM (bt a0 aM) true) = some r := by rw [if_pos rfl] at H; exact H
          clear H;have H := H1;clear H1;have H' := am H;clear H;go_wp2_with (first | ((with_reducible refine gc 109 ?_); refine gL (some 23) Tryd.func109 #[.int .u8 (bt a0 aM)] ?_; (with_reducible refine (token_small.calls (bt a0 aM) true _ bD.out).mono ?_); rintro e w' ⟨rfl, ⟨nd, rfl⟩⟩; refine ⟨_, rfl, ?_⟩))
          go_meet
          case rel => exact ⟨_, (true), X4, H', ⟨by have := aJ.out; have := aQ.out; first | omega | exact Nat.le_refl _⟩, X5⟩
         ·replace bE := Bool.eq_false_iff.mpr bE;subst bE;have H1 : ((token_digit.f (bt a0 aM)).bind fun bC => (token_name.j2 k2 a0 aM (bt a0 aM) bC)) = some r := by rw [if_neg (show ¬ (false = true) by decide)] at H; exact H
          clear H;have H := H1;clear H1;replace H := Option.bind_eq_some_iff.mp H;obtain ⟨bC, bF, H⟩ := H;replace H : (token_name.j2 k2 a0 aM (bt a0 aM) bC) = some r := H;have bG := am bF;clear bF;have H' := am H;clear H;go_wp2_with (first | ((with_reducible refine gc 109 ?_); refine gL (some 23) Tryd.func109 #[.int .u8 (bt a0 aM)] ?_; (with_reducible refine (token_small.calls (bt a0 aM) false _ bD.out).mono ?_); rintro e w' ⟨rfl, ⟨nd, rfl⟩⟩; refine ⟨_, rfl, ?_⟩) | (go_at_call 110; (with_reducible refine (token_digit.calls (bt a0 aM) bC _ bG.out).mono ?_); rintro e w' ⟨rfl, ⟨nd, rfl⟩⟩))
          go_meet
          case rel => exact ⟨_, (bC), X4, H', ⟨by have := aJ.out; have := aQ.out; first | omega | exact Nat.le_refl _⟩, X5⟩
        case rest =>
         clear aT;(try clear c1);(try clear p1);(try clear q1);(try clear hx1);(try clear p2 p2);(try clear c3);(try clear c3b0);(try clear c3b1);(try clear c4);(try clear c4b0);(try clear c4b1);(try clear p5 p5);(try clear q5 q5);(try clear aH);(try clear aI);(try clear c7);(try clear c8);(try clear c8b0);(try clear c9);(try clear c9b0);(try clear c10);(try clear aU aU);(try clear aW aW);(try clear aX);(try clear bE);obtain ⟨kq, aZ, rfl, HA, bH, ⟨mc10, rfl⟩⟩ := hcut;cases kq with
         | zero => exact absurd HA.out (by simp [token_name.j2])
         | succ bI =>
          have H := HA.out;clear HA;simp only [token_name.j2] at H;by_cases bJ : aZ = true
          ·subst bJ;have H1 : (token_name.l0 bI a0 (wrap64 (aM + 1))) = some r := by rw [if_pos rfl] at H; exact H
           clear H;have H := H1;clear H1;have H' := am H;clear H;go_wp2
           go_roundg bI
           case measure => have := aJ.out; have := aQ.out; have := bH.out; omega
           case rel => exact ⟨(wrap64 (aM + 1)), X4, H', ⟨by have := aJ.out; have := aQ.out; have := bH.out; omega⟩, X5⟩
          ·replace bJ := Bool.eq_false_iff.mpr bJ;subst bJ;have H1 : (if (bt a0 aM) = 45 then (if (wrap64 (aM + 1)) < (a0.size : Int) then (if 0 ≤ (wrap64 (aM + 1)) then ((token_small.f (bt a0 (wrap64 (aM + 1)))).bind fun bK => (if bK = true then (none) else ((token_digit.f (bt a0 (wrap64 (aM + 1)))).bind fun bL => (if bL = true then (none) else (some aM))))) else (none)) else (some aM)) else (some aM)) = some r := by rw [if_neg (show ¬ (false = true) by decide)] at H; exact H
           clear H;have H := H1;clear H1;by_cases bM : (bt a0 aM) = 45
           ·rw [if_pos bM] at H;have c16b0 := eT bM;have c16b1 := eF bM;clear bM;by_cases bN : (wrap64 (aM + 1)) < (a0.size : Int)
            ·rw [if_pos bN] at H;have c17b0 := dT bN;clear bN;obtain ⟨bO, bP⟩ : ∃ j_ : Int, (wrap64 (aM + 1)) = j_ := ⟨_, rfl⟩;replace H : (if 0 ≤ (bO) then ((token_small.f (bt a0 (bO))).bind fun bK => (if bK = true then (none) else ((token_digit.f (bt a0 (bO))).bind fun bL => (if bL = true then (none) else (some aM))))) else (none)) = some r := by first | (rw [bP] at H; exact H) | (simp only [bP] at H ⊢; exact H)
             (try rw [bP] at c17b0);have hji18w : (IntKind.i64.wrap (aM + 1)) = bO := (i64_w _).trans bP;by_cases bQ : 0 ≤ (bO)
             ·rw [if_pos bQ] at H;have c19b0 := dT bQ;clear bQ;replace H := Option.bind_eq_some_iff.mp H;obtain ⟨bK, bR, H⟩ := H;replace H : (if bK = true then (none) else ((token_digit.f (bt a0 (bO))).bind fun bL => (if bL = true then (none) else (some aM)))) = some r := H;have bT := am bR;clear bR;by_cases bU : bK = true
              ·subst bU;have H1 : (none) = some r := by rw [if_pos rfl] at H; exact H
               clear H;have H := H1;clear H1;exact absurd H (by simp)
              ·replace bU := Bool.eq_false_iff.mpr bU;subst bU;have H1 : ((token_digit.f (bt a0 (bO))).bind fun bL => (if bL = true then (none) else (some aM))) = some r := by rw [if_neg (show ¬ (false = true) by decide)] at H; exact H
               clear H;have H := H1;clear H1;replace H := Option.bind_eq_some_iff.mp H;obtain ⟨bL, bV, H⟩ := H;replace H : (if bL = true then (none) else (some aM)) = some r := H;have bW := am bV;clear bV;by_cases bX : bL = true
               ·subst bX;have H1 : (none) = some r := by rw [if_pos rfl] at H; exact H
                clear H;have H := H1;clear H1;exact absurd H (by simp)
               ·replace bX := Bool.eq_false_iff.mpr bX;subst bX;have H1 : (some aM) = some r := by rw [if_neg (show ¬ (false = true) by decide)] at H; exact H
                clear H;have H := H1;clear H1;obtain rfl := Option.some.inj H;have bY : 0 ≤ ((bO) : Int) := of_decide_eq_true X8;have bZ : (bO) < (a0.size : Int) := of_decide_eq_true X8;have hx20 := bt_at a0 (bO);replace bY := eq_true bY;replace bZ := eq_true bZ;go_wp2_with (first | (go_at_call 109; (with_reducible refine (token_small.calls (bt a0 (bO)) false _ bT.out).mono ?_); rintro e w' ⟨rfl, ⟨nd, rfl⟩⟩; have cA : 0 ≤ ((bO) : Int) := of_decide_eq_true X8; have cC : (bO) < (a0.size : Int) := of_decide_eq_true X8; have hx23 := bt_at a0 (bO); replace cA := eq_true cA; replace cC := eq_true cC) | (go_at_call 110; (with_reducible refine (token_digit.calls (bt a0 (bO)) false _ bW.out).mono ?_); rintro e w' ⟨rfl, ⟨nd, rfl⟩⟩))
                go_ret
                exact ⟨by first | rfl | (simp; done) | (simp only [← bP] <;> (first | rfl | simp)) | (simp [*]; done), X5⟩
             ·exact iN bQ H
            ·rw [if_neg bN] at H;have c17b0 := dF bN;clear bN;obtain rfl := Option.some.inj H;go_wp2
             go_ret
             exact ⟨X4, X5⟩
           ·rw [if_neg bM] at H;have c16b0 := nF bM;have c16b1 := nT bM;obtain rfl := Option.some.inj H;go_wp2
            go_ret
            exact ⟨X4, X5⟩
       ·exact iN c9 H
      ·rw [if_neg c8] at H;have c8b0 := dF c8;clear c8;obtain rfl := Option.some.inj H;go_wp2
       go_ret
       exact ⟨X4, X5⟩

def token_digits.l0 : Nat → ByteArray → Int → Option (Int)
 | 0, _, _ => none
 | k + 1, x0, x3 => if x3 < (x0.size : Int) then (if 0 ≤ x3 then ((token_digit.f (bt x0 x3)).bind fun aA => (if aA = true then (token_digits.l0 k x0 (wrap64 (x3 + 1))) else (some x3))) else (none)) else (some x3)
def token_digits.f (k : Nat) (a0 : ByteArray) : Option (Int) := token_digits.l0 k a0 0
theorem token_digits.mono_l : ∀ k, (∀ y0 y1, LeO (token_digits.l0 k y0 y1) (token_digits.l0 (k + 1) y0 y1))
 | 0 => fun _ _ r h => by simp [token_digits.l0] at h
 | k + 1 => by
  have aA := token_digits.mono_l k
  ·intro y0 y1;unfold token_digits.l0;exact X9
theorem token_digits.mono : ∀ a0 k, LeO (token_digits.f k a0) (token_digits.f (k + 1) a0) := by
 intro a0 k;have aA := token_digits.mono_l k;unfold token_digits.f;exact X9
set_option maxHeartbeats 8000000 in
set_option maxRecDepth 100000 in
theorem token_digits.calls (k : Nat) (a0 : ByteArray) (r : Int) (w : World) (h : token_digits.f k a0 = some r) :
  Calls Tryd.prog 111 #[.string a0] w fun e w' => e = .returned (.int .i64 r) ∧ Drawn0 w w' := by
 have H : (token_digits.l0 k a0 0) = some r := h;clear h;have H' := am H;clear H;go_enter Tryd.func111, Tryd.ntmps111;go_wp2
 go_loopg [3] k (fun kq v3 w' => ∃ (aA : Int), v3 = .int .i64 aA ∧ Aside0 (token_digits.l0 kq a0 aA = some r) ∧ Aside0 (kq ≤ k) ∧ Drawn0 w w')
 case atStart => exact ⟨(0), X4, H', ⟨Nat.le_refl _⟩, X5⟩
 case round =>
  clear H';(try clear c1);obtain ⟨aA, rfl, HA, aC, ⟨m1, rfl⟩⟩ := hrel;cases gk with
  | zero => exact absurd HA.out (by simp [token_digits.l0])
  | succ k1 =>
   have H := HA.out;clear HA;simp only [token_digits.l0] at H;by_cases c2 : aA < (a0.size : Int)
   ·rw [if_pos c2] at H;have c2b0 := dT c2;clear c2;by_cases c3 : 0 ≤ aA
    ·rw [if_pos c3] at H;have c3b0 := dT c3;clear c3;replace H := Option.bind_eq_some_iff.mp H;obtain ⟨aD, aE, H⟩ := H;replace H : (if aD = true then (token_digits.l0 k1 a0 (wrap64 (aA + 1))) else (some aA)) = some r := H;have A5 := am aE;clear aE;by_cases c6 : aD = true
     ·subst c6;have H1 : (token_digits.l0 k1 a0 (wrap64 (aA + 1))) = some r := by rw [if_pos rfl] at H; exact H
      clear H;have H := H1;clear H1;have H' := am H;clear H;have p4 : 0 ≤ (aA : Int) := of_decide_eq_true X8;have q4 : aA < (a0.size : Int) := of_decide_eq_true X8;have aG := bt_at a0 aA;replace p4 := eq_true p4;replace q4 := eq_true q4;go_wp2_with (first | (go_at_call 110; (with_reducible refine (token_digit.calls (bt a0 aA) true _ A5.out).mono ?_); rintro e w' ⟨rfl, ⟨nd, rfl⟩⟩))
      go_roundg k1
      case measure => have := aC.out; omega
      case rel => exact ⟨(wrap64 (aA + 1)), X4, H', ⟨by have := aC.out; omega⟩, X5⟩
     ·replace c6 := Bool.eq_false_iff.mpr c6;subst c6;have H1 : (some aA) = some r := by rw [if_neg (show ¬ (false = true) by decide)] at H; exact H
      clear H;have H := H1;clear H1;obtain rfl := Option.some.inj H;have p4 : 0 ≤ (aA : Int) := of_decide_eq_true X8;have q4 : aA < (a0.size : Int) := of_decide_eq_true X8;have aG := bt_at a0 aA;replace p4 := eq_true p4;replace q4 := eq_true q4;go_wp2_with (first | (go_at_call 110; (with_reducible refine (token_digit.calls (bt a0 aA) false _ A5.out).mono ?_); rintro e w' ⟨rfl, ⟨nd, rfl⟩⟩))
      go_ret
      exact ⟨X4, X5⟩
    ·exact iN c3 H
   ·rw [if_neg c2] at H;have c2b0 := dF c2;clear c2;obtain rfl := Option.some.inj H;go_wp2
    go_ret
    exact ⟨X4, X5⟩

mutual
def token_Number.j0 : Nat → ByteArray → Bool → Option (Int × Bool)
 | 0, _, _ => none
 | k + 1, x0, aA => if aA = true then (none) else (if x0.size ≤ 9223372036854775807 then (((some (bytesOf x0))).bind fun aC => (token_Number.l0 k 0 aC (aC.length : Int) 0)) else (none))
def token_Number.l0 : Nat → Int → List Int → Int → Int → Option (Int × Bool)
 | 0, _, _, _, _ => none
 | k + 1, x4, aA, aC, aD => if aD < aC then (if 0 ≤ aD then (if aD < (aA.length : Int) then (token_Number.l0 k (wrap64 ((wrap64 (10 * x4)) + (((rd aA aD) - 48) % 256))) aA aC (wrap64 (aD + 1))) else (none)) else (none)) else (some (x4, true))
end
def token_Number.f (k : Nat) (a0 : ByteArray) : Option (Int × Bool) := if a0.toList = ([] : List UInt8) then (token_Number.j0 k a0 true) else (if (a0.size : Int) > 6 then (token_Number.j0 k a0 true) else ((token_digits.f k a0).bind fun aA => (if aA = (a0.size : Int) then (if (a0.size : Int) > 1 then (if 0 < (a0.size : Int) then (token_Number.j0 k a0 ((bt a0 0) == 48)) else (none)) else (token_Number.j0 k a0 false)) else (token_Number.j0 k a0 true))))
theorem token_Number.mono_l : ∀ k, (∀ y0 y1, LeO (token_Number.j0 k y0 y1) (token_Number.j0 (k + 1) y0 y1)) ∧ (∀ y0 y1 y2 y3, LeO (token_Number.l0 k y0 y1 y2 y3) (token_Number.l0 (k + 1) y0 y1 y2 y3))
 | 0 => ⟨fun _ _ r h => by simp [token_Number.j0] at h, fun _ _ _ _ r h => by simp [token_Number.l0] at h⟩
 | k + 1 => by
  obtain ⟨aA, aC⟩ := token_Number.mono_l k;refine ⟨?_, ?_⟩
  ·intro y0 y1;unfold token_Number.j0;exact X10
  ·intro y0 y1 y2 y3;unfold token_Number.l0;exact X10
theorem token_Number.mono : ∀ a0 k, LeO (token_Number.f k a0) (token_Number.f (k + 1) a0) := by
 intro a0 k;obtain ⟨aA, aC⟩ := token_Number.mono_l k;unfold token_Number.f;exact X10
set_option maxHeartbeats 8000000 in
set_option maxRecDepth 100000 in
theorem token_Number.calls (k : Nat) (a0 : ByteArray) (r1 : Int) (r2 : Bool) (w : World) (h : token_Number.f k a0 = some (r1, r2)) :
  Calls Tryd.prog 112 #[.string a0] w fun e w' => e = .returned (.tuple #[.int .i64 r1, .bool r2]) ∧ Below w.heap.size w w' := by
 have HB := am (Below.refl w.heap.size w);have H : (if a0.toList = ([] : List UInt8) then (token_Number.j0 k a0 true) else (if (a0.size : Int) > 6 then (token_Number.j0 k a0 true) else ((token_digits.f k a0).bind fun aA => (if aA = (a0.size : Int) then (if (a0.size : Int) > 1 then (if 0 < (a0.size : Int) then (token_Number.j0 k a0 ((bt a0 0) == 48)) else (none)) else (token_Number.j0 k a0 false)) else (token_Number.j0 k a0 true))))) = some (r1, r2) := h;clear h;have aC := am H;clear H;go_enter Tryd.func112, Tryd.ntmps112;go_upto_region 1 with (fail)
 go_cut [30] (fun aD wc => ∃ (kq : Nat) (aE : Bool), aD = .bool aE ∧ Aside0 (token_Number.j0 kq a0 aE = some (r1, r2)) ∧ Aside0 (kq ≤ k) ∧ Aside0 (Below w.heap.size w wc))
 case first =>
  have H := aC.out;clear aC;by_cases c3 : a0.toList = ([] : List UInt8)
  ·rw [if_pos c3] at H;have c3b0 := eT c3;have c3b1 := eF c3;clear c3;(first | rw [c3b0] | (simp only [i64_w, i32_w]; rw [c3b0]) | skip);have H' := am H;clear H;go_wp2
   go_meet
   case rel => exact ⟨_, (true), X4, H', ⟨X7⟩, ⟨X11⟩⟩
  ·rw [if_neg c3] at H;have c3b0 := nF c3;have c3b1 := nT c3;(first | rw [c3b0] | (simp only [i64_w, i32_w]; rw [c3b0]) | skip);by_cases c4 : (a0.size : Int) > 6
   ·rw [if_pos c4] at H;have c4b0 : decide (6 < (a0.size : Int)) = true := decide_eq_true c4;have c4b1 : decide (6 < a0.size) = true := decide_eq_true (by omega);clear c4;have H' := am H;clear H;go_wp2
    go_meet
    case rel => exact ⟨_, (true), X4, H', ⟨X7⟩, ⟨X11⟩⟩
   ·rw [if_neg c4] at H;have c4b0 : decide (6 < (a0.size : Int)) = false := decide_eq_false c4;have c4b1 : decide (6 < a0.size) = false := decide_eq_false (by omega);clear c4;replace H := Option.bind_eq_some_iff.mp H;obtain ⟨aA, aG, H⟩ := H;replace H : (if aA = (a0.size : Int) then (if (a0.size : Int) > 1 then (if 0 < (a0.size : Int) then (token_Number.j0 k a0 ((bt a0 0) == 48)) else (none)) else (token_Number.j0 k a0 false)) else (token_Number.j0 k a0 true)) = some (r1, r2) := H;have A5 := am aG;clear aG;by_cases c6 : aA = (a0.size : Int)
    ·rw [if_pos c6] at H;have c6b0 := eT c6;have c6b1 := eF c6;clear c6;by_cases c7 : (a0.size : Int) > 1
     ·rw [if_pos c7] at H;have c7b0 : decide (1 < (a0.size : Int)) = true := decide_eq_true c7;have c7b1 : decide (1 < a0.size) = true := decide_eq_true (by omega);clear c7;by_cases c8 : 0 < (a0.size : Int)
      ·rw [if_pos c8] at H;have c8b0 := dT c8;have c8b1 : decide (0 < a0.size) = true := decide_eq_true (by omega);clear c8;have H' := am H;clear H;go_wp2_with (first | (go_at_call 111; (with_reducible refine (token_digits.calls k a0 aA _ A5.out).mono ?_); rintro e w' ⟨rfl, ⟨nd, rfl⟩⟩; have p9 : 0 ≤ (0 : Int) := (by omega); have q9 : 0 < a0.size := (by have : (0 : Int) < (a0.size : Int) := of_decide_eq_true X8; omega); have aH : ∀ h : 0 < a0.size, ((a0[0]'h).toNat : Int) = bt a0 0 := bt_at a0 0; clear p9; have aI : (0 < (a0.size : Int)) = True := eq_true (of_decide_eq_true X8); replace q9 := eq_true q9))
       go_meet
       case rel => exact ⟨_, (((bt a0 0) == 48)), X4, H', ⟨X7⟩, ⟨X11⟩⟩
      ·exact iN c8 H
     ·rw [if_neg c7] at H;have c7b0 : decide (1 < (a0.size : Int)) = false := decide_eq_false c7;have c7b1 : decide (1 < a0.size) = false := decide_eq_false (by omega);clear c7;have H' := am H;clear H;go_wp2_with (first | (go_at_call 111; (with_reducible refine (token_digits.calls k a0 aA _ A5.out).mono ?_); rintro e w' ⟨rfl, ⟨nd, rfl⟩⟩))
      go_meet
      case rel => exact ⟨_, (false), X4, H', ⟨X7⟩, ⟨X11⟩⟩
    ·rw [if_neg c6] at H;have c6b0 := nF c6;have c6b1 := nT c6;have H' := am H;clear H;go_wp2_with (first | (go_at_call 111; (with_reducible refine (token_digits.calls k a0 aA _ A5.out).mono ?_); rintro e w' ⟨rfl, ⟨nd, rfl⟩⟩))
     go_meet
     case rel => exact ⟨_, (true), X4, H', ⟨X7⟩, ⟨X11⟩⟩
 case rest =>
  clear aC;(try clear c1);(try clear p2);(try clear c3);(try clear c3b0);(try clear c3b1);(try clear c4);(try clear c4b0);(try clear c4b1);(try clear c6);(try clear c6b0);(try clear c6b1);(try clear c7);(try clear c7b0);(try clear c7b1);(try clear c8);(try clear c8b0);(try clear c8b1);(try clear p9 p9);(try clear q9 q9);(try clear aH);(try clear aI);obtain ⟨kq, aE, rfl, HA, aJ, HB⟩ := hcut;cases kq with
  | zero => exact absurd HA.out (by simp [token_Number.j0])
  | succ aK =>
   have H := HA.out;clear HA;simp only [token_Number.j0] at H;by_cases c10 : aE = true
   ·subst c10;have H1 : (none) = some (r1, r2) := by rw [if_pos rfl] at H; exact H
    clear H;have H := H1;clear H1;exact absurd H (by simp)
   ·replace c10 := Bool.eq_false_iff.mpr c10;subst c10;have H1 : (if a0.size ≤ 9223372036854775807 then (((some (bytesOf a0))).bind fun aM => (token_Number.l0 aK 0 aM (aM.length : Int) 0)) else (none)) = some (r1, r2) := by rw [if_neg (show ¬ (false = true) by decide)] at H; exact H
    clear H;have H := H1;clear H1;by_cases aQ : a0.size ≤ 9223372036854775807
    ·rw [if_pos aQ] at H;have c11b0 := eq_true aQ;have c11b1 := dT aQ;try have c11b2 : (9223372036854775807 < a0.size) = False := eq_false (Nat.not_lt.2 aQ)
     clear aQ;replace H := Option.bind_eq_some_iff.mp H;obtain ⟨aM, aT, H⟩ := H;replace H : (token_Number.l0 aK 0 aM (aM.length : Int) 0) = some (r1, r2) := H;have aU := am aT;clear aT;have H' := am H;clear H;go_wp2_with (first | (refine convU_ ?_; refine (bytesOf_ (P := Tryd.prog) 9 31 5 Tryd.underlying9 Tryd.underlying31 Tryd.underlying5 a0 (by first | assumption | omega | (have := of_decide_eq_true (by assumption); omega)) _ aU.out _).mono ?_; rintro e w13 ⟨v109, rfl, aW, hb⟩; refine ⟨_, rfl, ?_⟩; have aX := am (Kd.V_lower (Kd.V_mono (ok' := fun k_ => True) aW (fun k_ hk_ => trivial)) (below_size X11)); replace HB := bS X11 hb; (try clear hb); (try clear hb2); (try clear hk); (try clear hi); (try clear aW); obtain ⟨aY, aZ, bA⟩ := Kd.V_slice aX.out; subst bA))
     go_loopg [4, 34] aK (fun kq v4 bB w' => ∃ (bC : Int) (bD : Int), v4 = .int .i64 bC ∧ bB = .int .i64 bD ∧ Aside0 (token_Number.l0 kq bC aM (aM.length : Int) bD = some (r1, r2)) ∧ Aside0 (kq ≤ aK) ∧ Aside0 (Kd.V (Kd.int .u8) 5 w' w.heap.size (fun _ => True) (.slice aY aM.length aZ) aM) ∧ Aside0 (Below w.heap.size w w'))
     case atStart => exact ⟨(0), (0), X4, X4, H', ⟨Nat.le_refl _⟩, ⟨aV aX.out⟩, ⟨X11⟩⟩
     case round =>
      clear H';(try clear c1);(try clear p2 p2);(try clear c3);(try clear c3b0);(try clear c3b1);(try clear c4);(try clear c4b0);(try clear c4b1);(try clear c6);(try clear c6b0);(try clear c6b1);(try clear c7);(try clear c7b0);(try clear c7b1);(try clear c8);(try clear c8b0);(try clear c8b1);(try clear p9 p9);(try clear q9 q9);(try clear aH);(try clear aI);(try clear c10);(try clear aQ);(try clear c11b0);(try clear c11b1);(try clear c11b2);obtain ⟨bC, bD, rfl, rfl, HA, bE, bF, HB⟩ := hrel;cases gk with
      | zero => exact absurd HA.out (by simp [token_Number.l0])
      | succ k2 =>
       have H := HA.out;clear HA;simp only [token_Number.l0] at H;by_cases bG : bD < (aM.length : Int)
       ·rw [if_pos bG] at H;have c15b0 := dT bG;clear bG;by_cases bH : 0 ≤ bD
        ·rw [if_pos bH] at H;have c16b0 := dT bH;clear bH;by_cases bI : bD < (aM.length : Int)
         ·rw [if_pos bI] at H;have c17b0 := dT bI;clear bI;have H' := am H;clear H;have bJ : 0 ≤ (bD : Int) := of_decide_eq_true X8;have bK : bD < (aM.length : Int) := of_decide_eq_true X8;obtain ⟨ad111, e111, hx111_0⟩ := Kd.at_int (Kd.V_reads' bF.out).2.2 bD bJ bK;cases e111;replace bJ := eq_true bJ;replace bK := eq_true bK;go_wp2
          go_roundg k2
          case measure => have := aJ.out; have := bE.out; omega
          case rel => exact ⟨(wrap64 ((wrap64 (10 * bC)) + (((rd aM bD) - 48) % 256))), (wrap64 (bD + 1)), X4, X4, H', ⟨by have := aJ.out; have := bE.out; omega⟩, ⟨aV bF.out⟩, ⟨X11⟩⟩
         ·exact iN bI H
        ·exact iN bH H
       ·rw [if_neg bG] at H;have c15b0 := dF bG;clear bG;simp only [Option.some.injEq, Prod.mk.injEq] at H;obtain ⟨rfl, rfl⟩ := H;go_wp2
        go_ret2
        exact ⟨X12, X11⟩
    ·exact iN aQ H

end Go.Proofs.YtmffocankommaaaDoor.Z
