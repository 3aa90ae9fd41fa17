/- Walks of functions of the program: what each computes, as a function in Lean (printed by a program of this session's, then shortened by another). The condition is that the Lean function gives a value. -/
import Derived.Test.YtmffocankommaaaDoorMYZed
import Derived.Test.YtmffocankommaaaDoorMx0
import Derived.Test.YtmffocankommaaaDoorMx1
namespace Go.Proofs.YtmffocankommaaaDoor.P
open Go.RowKit Go.Proofs.YtmffocankommaaaDoorW.PrintWords Go.Proofs.YtmffocankommaaaDoorW.PrintLast Go.Proofs.YtmffocankommaaaDoorW.PrintMore Go.Proofs.YtmffocankommaaaDoorY Go.Proofs.YtmffocankommaaaDoorS
attribute [local go_sem] cell_twice max2_int min2_int max_two min_two max_three min_three max_four min_four
set_option linter.unusedVariables false
set_option linter.unusedSimpArgs false

attribute [local go_sem high] eqA88
def slices_Equal_string_string.l0 : Nat → List ByteArray → List ByteArray → Int → Int → Option (Bool)
 | 0, _, _, _, _ => none
 | k + 1, x0, x1, aA, aC => if aC < aA then (if 0 ≤ aC then (if aC < (x0.length : Int) then (if aC < (x1.length : Int) then (if (rdOf ByteArray.empty x0 aC).toList = (rdOf ByteArray.empty x1 aC).toList then (slices_Equal_string_string.l0 k x0 x1 aA (wrap64 (aC + 1))) else (some false)) else (none)) else (none)) else (none)) else (some true)
def slices_Equal_string_string.f (k : Nat) (l0 : List ByteArray) (l1 : List ByteArray) : Option (Bool) := if (l0.length : Int) = (l1.length : Int) then (slices_Equal_string_string.l0 k l0 l1 (l0.length : Int) 0) else (some false)
theorem slices_Equal_string_string.mono_l : ∀ k, (∀ y0 y1 y2 y3, LeO (slices_Equal_string_string.l0 k y0 y1 y2 y3) (slices_Equal_string_string.l0 (k + 1) y0 y1 y2 y3))
 | 0 => fun _ _ _ _ r h => by simp [slices_Equal_string_string.l0] at h
 | k + 1 => by
  have aA := slices_Equal_string_string.mono_l k
  ·intro y0 y1 y2 y3;unfold slices_Equal_string_string.l0;exact X5
theorem slices_Equal_string_string.mono : ∀ a0 a1 k, LeO (slices_Equal_string_string.f k a0 a1) (slices_Equal_string_string.f (k + 1) a0 a1) := by
 intro a0 a1 k;have aA := slices_Equal_string_string.mono_l k;unfold slices_Equal_string_string.f;exact X5
set_option maxHeartbeats 8000000 in
set_option maxRecDepth 100000 in
theorem slices_Equal_string_string.calls (k : Nat) (A0 : Option Addr) (c0 : Nat) (l0 : List ByteArray) (A1 : Option Addr) (c1 : Nat) (l1 : List ByteArray) (r : Bool) (w : World) (aA : Kd.C Kd.string w A0 l0.length l0) (aC : l0.length ≤ c0) (aD : Kd.C Kd.string w A1 l1.length l1) (aE : l1.length ≤ c1) (h : slices_Equal_string_string.f k l0 l1 = some r) :
  Calls Tryd.prog 31 #[.slice A0 l0.length c0, .slice A1 l1.length c1] w fun e w' => e = .returned (.bool r) ∧ Drawn0 w w' := by
 have aG := am aA;have HC0 := am aC;clear aA aC;have aH := am aD;have HC1 := am aE;clear aD aE;have H : (if (l0.length : Int) = (l1.length : Int) then (slices_Equal_string_string.l0 k l0 l1 (l0.length : Int) 0) else (some false)) = some r := h;clear h;by_cases c3 : (l0.length : Int) = (l1.length : Int)
 ·rw [if_pos c3] at H;have c3b0 := eT c3;have c3b1 := eF c3;have c3b2 : (l0.length == l1.length) = true := by first | simpa using c3 | (simp at c3 ⊢; omega)
  clear c3;have H' := am H;clear H;go_enter Tryd.func31, Tryd.ntmps31;go_wp2
  repeat (go_quiet (fail); try go_wp2)
  go_loopg [13] k (fun kq aI w' => ∃ (aJ : Int), aI = .int .i64 aJ ∧ Aside0 (slices_Equal_string_string.l0 kq l0 l1 (l0.length : Int) aJ = some r) ∧ Aside0 (kq ≤ k) ∧ Drawn0 w w')
  case atStart => exact ⟨(0), X6, H', ⟨Nat.le_refl _⟩, X7⟩
  case round =>
   clear H';(try clear c1);(try clear p2);(try clear c3);(try clear c3b0);(try clear c3b1);(try clear c3b2);obtain ⟨aJ, rfl, HA, aK, ⟨m1, rfl⟩⟩ := hrel;cases gk with
   | zero => exact absurd HA.out (by simp [slices_Equal_string_string.l0])
   | succ k1 =>
    have H := HA.out;clear HA;simp only [slices_Equal_string_string.l0] at H;by_cases c4 : aJ < (l0.length : Int)
    ·rw [if_pos c4] at H;have c4b0 := dT c4;clear c4;by_cases c5 : 0 ≤ aJ
     ·rw [if_pos c5] at H;have c5b0 := dT c5;clear c5;by_cases c6 : aJ < (l0.length : Int)
      ·rw [if_pos c6] at H;have c6b0 := dT c6;clear c6;by_cases c7 : aJ < (l1.length : Int)
       ·rw [if_pos c7] at H;have c7b0 := dT c7;clear c7;by_cases c8 : (rdOf ByteArray.empty l0 aJ).toList = (rdOf ByteArray.empty l1 aJ).toList
        ·rw [if_pos c8] at H;have c8b0 := eT c8;have c8b1 := eF c8;clear c8;have H' := am H;clear H;have aM : 0 ≤ (aJ : Int) := of_decide_eq_true X8;have aQ : aJ < (l0.length : Int) := of_decide_eq_true X8;obtain ⟨aT, e681, aU⟩ := Kd.at_string aG.out aJ aM aQ;cases e681;replace aM := eq_true aM;replace aQ := eq_true aQ;have aW : 0 ≤ (aJ : Int) := of_decide_eq_true X8;have aX : aJ < (l1.length : Int) := of_decide_eq_true X8;obtain ⟨aY, e682, aZ⟩ := Kd.at_string aH.out aJ aW aX;cases e682;replace aW := eq_true aW;replace aX := eq_true aX;go_wp2
         repeat (go_quiet (fail); try go_wp2)
         go_roundg k1
         case measure => have := aK.out; omega
         case rel => exact ⟨(wrap64 (aJ + 1)), X6, H', ⟨X116⟩, X7⟩
        ·rw [if_neg c8] at H;have c8b0 := nF c8;have c8b1 := nT c8;obtain rfl := Option.some.inj H;have aM : 0 ≤ (aJ : Int) := of_decide_eq_true X8;have aQ : aJ < (l0.length : Int) := of_decide_eq_true X8;obtain ⟨aT, e681, aU⟩ := Kd.at_string aG.out aJ aM aQ;cases e681;replace aM := eq_true aM;replace aQ := eq_true aQ;have aW : 0 ≤ (aJ : Int) := of_decide_eq_true X8;have aX : aJ < (l1.length : Int) := of_decide_eq_true X8;obtain ⟨aY, e682, aZ⟩ := Kd.at_string aH.out aJ aW aX;cases e682;replace aW := eq_true aW;replace aX := eq_true aX;go_wp2
         repeat (go_quiet (fail); try go_wp2)
         go_ret
         exact ⟨X6, X7⟩
       ·exact iN c7 H
      ·exact iN c6 H
     ·exact iN c5 H
    ·rw [if_neg c4] at H;have c4b0 := dF c4;clear c4;obtain rfl := Option.some.inj H;go_wp2
     repeat (go_quiet (fail); try go_wp2)
     go_ret
     exact ⟨X6, X7⟩
 ·rw [if_neg c3] at H;have c3b0 := nF c3;have c3b1 := nT c3;have c3b2 : (l0.length == l1.length) = false := by first | simpa using c3 | (simp at c3 ⊢; omega)
  obtain rfl := Option.some.inj H;go_enter Tryd.func31, Tryd.ntmps31;go_wp2
  repeat (go_quiet (fail); try go_wp2)
  go_ret
  exact ⟨X6, X7⟩

def api_Counter_70.l0 : Nat → List (S88) → List (S88) → Int → Int → Option (Bool)
 | 0, _, _, _, _ => none
 | k + 1, x0, x1, aA, aC => if aC < aA then (if 0 ≤ aC then (if aC < (x0.length : Int) then (if aC < (x1.length : Int) then (if (!((((rd_T88 x0 aC).f0).toList) == (((rd_T88 x1 aC).f0).toList)) || (!(((rd_T88 x0 aC).f1) == ((rd_T88 x1 aC).f1)) || (!(((rd_T88 x0 aC).f2) == ((rd_T88 x1 aC).f2))))) = true then (some false) else (api_Counter_70.l0 k x0 x1 aA (wrap64 (aC + 1)))) else (none)) else (none)) else (none)) else (some true)
def api_Counter_70.f (k : Nat) (l0 : List (S88)) (l1 : List (S88)) : Option (Bool) := if (l0.length : Int) = (l1.length : Int) then (api_Counter_70.l0 k l0 l1 (l0.length : Int) 0) else (some false)
set_option maxHeartbeats 8000000 in
set_option maxRecDepth 100000 in
theorem api_Counter_70.calls (k : Nat) (A0 : Option Addr) (c0 : Nat) (l0 : List (S88)) (A1 : Option Addr) (c1 : Nat) (l1 : List (S88)) (r : Bool) (w : World) (aA : Kd.C k88 w A0 l0.length l0) (aC : l0.length ≤ c0) (aD : Kd.C k88 w A1 l1.length l1) (aE : l1.length ≤ c1) (h : api_Counter_70.f k l0 l1 = some r) :
  Calls Tryd.prog 70 #[.slice A0 l0.length c0, .slice A1 l1.length c1] w fun e w' => e = .returned (.bool r) ∧ Drawn0 w w' := by
 have hu88 := Tryd.underlying88;have aG := am aA;have HC0 := am aC;clear aA aC;have aH := am aD;have HC1 := am aE;clear aD aE;have H : (if (l0.length : Int) = (l1.length : Int) then (api_Counter_70.l0 k l0 l1 (l0.length : Int) 0) else (some false)) = some r := h;clear h;by_cases c3 : (l0.length : Int) = (l1.length : Int)
 ·rw [if_pos c3] at H;have c3b0 := eT c3;have c3b1 := eF c3;have c3b2 : (l0.length == l1.length) = true := by first | simpa using c3 | (simp at c3 ⊢; omega)
  clear c3;have H' := am H;clear H;go_enter Tryd.func70, Tryd.ntmps70;go_wp2
  repeat (go_quiet (fail); try go_wp2)
  go_loopg [13] k (fun kq aI w' => ∃ (aJ : Int), aI = .int .i64 aJ ∧ Aside0 (api_Counter_70.l0 kq l0 l1 (l0.length : Int) aJ = some r) ∧ Aside0 (kq ≤ k) ∧ Drawn0 w w')
  case atStart => exact ⟨(0), X6, H', ⟨Nat.le_refl _⟩, X7⟩
  case round =>
   clear H';(try clear c1);(try clear p2);(try clear c3);(try clear c3b0);(try clear c3b1);(try clear c3b2);obtain ⟨aJ, rfl, HA, aK, ⟨m1, rfl⟩⟩ := hrel;cases gk with
   | zero => exact absurd HA.out (by simp [api_Counter_70.l0])
   | succ k1 =>
    have H := HA.out;clear HA;simp only [api_Counter_70.l0] at H;by_cases c4 : aJ < (l0.length : Int)
    ·rw [if_pos c4] at H;have c4b0 := dT c4;clear c4;by_cases c5 : 0 ≤ aJ
     ·rw [if_pos c5] at H;have c5b0 := dT c5;clear c5;by_cases c6 : aJ < (l0.length : Int)
      ·rw [if_pos c6] at H;have c6b0 := dT c6;clear c6;by_cases c7 : aJ < (l1.length : Int)
       ·rw [if_pos c7] at H;have c7b0 := dT c7;clear c7;by_cases c8 : (!((((rd_T88 l0 aJ).f0).toList) == (((rd_T88 l1 aJ).f0).toList)) || (!(((rd_T88 l0 aJ).f1) == ((rd_T88 l1 aJ).f1)) || (!(((rd_T88 l0 aJ).f2) == ((rd_T88 l1 aJ).f2))))) = true
        ·rw [if_pos c8] at H;have c8b0 : (!((((rd_T88 l0 aJ).f0).toList) == (((rd_T88 l1 aJ).f0).toList)) || (!(((rd_T88 l0 aJ).f1) == ((rd_T88 l1 aJ).f1)) || (!(((rd_T88 l0 aJ).f2) == ((rd_T88 l1 aJ).f2))))) = true := c8;clear c8;obtain rfl := Option.some.inj H;have aM : 0 ≤ (aJ : Int) := of_decide_eq_true X8;have aQ : aJ < (l0.length : Int) := of_decide_eq_true X8;obtain ⟨aT, e683, aU, aW, aX⟩ := at_T88 aG.out aJ aM aQ;cases e683;replace aM := eq_true aM;replace aQ := eq_true aQ;have aY : 0 ≤ (aJ : Int) := of_decide_eq_true X8;have aZ : aJ < (l1.length : Int) := of_decide_eq_true X8;obtain ⟨bA, e684, bB, bC, bD⟩ := at_T88 aH.out aJ aY aZ;cases e684;replace aY := eq_true aY;replace aZ := eq_true aZ;go_wp2
         repeat (go_quiet (fail); try go_wp2)
         go_ret
         exact ⟨X6, X7⟩
        ·rw [if_neg c8] at H;have c8b0 : (!((((rd_T88 l0 aJ).f0).toList) == (((rd_T88 l1 aJ).f0).toList)) || (!(((rd_T88 l0 aJ).f1) == ((rd_T88 l1 aJ).f1)) || (!(((rd_T88 l0 aJ).f2) == ((rd_T88 l1 aJ).f2))))) = false := by simpa using c8
         clear c8;have H' := am H;clear H;have aM : 0 ≤ (aJ : Int) := of_decide_eq_true X8;have aQ : aJ < (l0.length : Int) := of_decide_eq_true X8;obtain ⟨aT, e683, aU, aW, aX⟩ := at_T88 aG.out aJ aM aQ;cases e683;replace aM := eq_true aM;replace aQ := eq_true aQ;have aY : 0 ≤ (aJ : Int) := of_decide_eq_true X8;have aZ : aJ < (l1.length : Int) := of_decide_eq_true X8;obtain ⟨bA, e684, bB, bC, bD⟩ := at_T88 aH.out aJ aY aZ;cases e684;replace aY := eq_true aY;replace aZ := eq_true aZ;go_wp2
         repeat (go_quiet (fail); try go_wp2)
         go_roundg k1
         case measure => have := aK.out; omega
         case rel => exact ⟨(wrap64 (aJ + 1)), X6, H', ⟨X116⟩, X7⟩
       ·exact iN c7 H
      ·exact iN c6 H
     ·exact iN c5 H
    ·rw [if_neg c4] at H;have c4b0 := dF c4;clear c4;obtain rfl := Option.some.inj H;go_wp2
     repeat (go_quiet (fail); try go_wp2)
     go_ret
     exact ⟨X6, X7⟩
 ·rw [if_neg c3] at H;have c3b0 := nF c3;have c3b1 := nT c3;have c3b2 : (l0.length == l1.length) = false := by first | simpa using c3 | (simp at c3 ⊢; omega)
  obtain rfl := Option.some.inj H;go_enter Tryd.func70, Tryd.ntmps70;go_wp2
  repeat (go_quiet (fail); try go_wp2)
  go_ret
  exact ⟨X6, X7⟩

def slices_EqualFunc_string_string_string_string.l0 : Nat → List (List ByteArray) → List (List ByteArray) → Int → Int → Option (Bool)
 | 0, _, _, _, _ => none
 | k + 1, x1, aA, aC, aD => if aD < aC then (if 0 ≤ aD then (if aD < (aA.length : Int) then (if aD < (x1.length : Int) then ((slices_Equal_string_string.f k (rd_L7 aA aD) (rd_L7 x1 aD)).bind fun aE => (if aE = true then (slices_EqualFunc_string_string_string_string.l0 k x1 aA aC (wrap64 (aD + 1))) else (some false))) else (none)) else (none)) else (none)) else (some true)
def slices_EqualFunc_string_string_string_string.f (k : Nat) (l0 : List (List ByteArray)) (l1 : List (List ByteArray)) (a2 : Unit) : Option (Bool) := if (l0.length : Int) = (l1.length : Int) then (slices_EqualFunc_string_string_string_string.l0 k l1 l0 (l0.length : Int) 0) else (some false)
set_option maxHeartbeats 8000000 in
set_option maxRecDepth 100000 in
theorem slices_EqualFunc_string_string_string_string.calls (k : Nat) (A0 : Option Addr) (c0 : Nat) (l0 : List (List ByteArray)) (A1 : Option Addr) (c1 : Nat) (l1 : List (List ByteArray)) (a2 : Unit) (r : Bool) (w : World) (aA : Kd.C (Kd.slice 9 Kd.string) w A0 l0.length l0) (aC : l0.length ≤ c0) (aD : Kd.C (Kd.slice 9 Kd.string) w A1 l1.length l1) (aE : l1.length ≤ c1) (h : slices_EqualFunc_string_string_string_string.f k l0 l1 a2 = some r) :
  Calls Tryd.prog 71 #[.slice A0 l0.length c0, .slice A1 l1.length c1, .func (.func 31) #[] #[]] w fun e w' => e = .returned (.bool r) ∧ Below w.heap.size w w' := by
 have aG := am aA;have HC0 := am aC;clear aA aC;have aH := am aD;have HC1 := am aE;clear aD aE;have HB := am (Below.refl w.heap.size w);have H : (if (l0.length : Int) = (l1.length : Int) then (slices_EqualFunc_string_string_string_string.l0 k l1 l0 (l0.length : Int) 0) else (some false)) = some r := h;clear h;by_cases c4 : (l0.length : Int) = (l1.length : Int)
 ·rw [if_pos c4] at H;have c4b0 := eT c4;have c4b1 := eF c4;have c4b2 : (l0.length == l1.length) = true := by first | simpa using c4 | (simp at c4 ⊢; omega)
  clear c4;have H' := am H;clear H;go_enter Tryd.func71, Tryd.ntmps71;go_wp2
  go_loopg [17] k (fun kq aI w' => ∃ (aJ : Int), aI = .int .i64 aJ ∧ Aside0 (slices_EqualFunc_string_string_string_string.l0 kq l1 l0 (l0.length : Int) aJ = some r) ∧ Aside0 (kq ≤ k) ∧ Aside0 (Below w.heap.size w w'))
  case atStart => exact ⟨(0), X6, H', ⟨Nat.le_refl _⟩, ⟨X35⟩⟩
  case round =>
   clear H';(try clear c1);(try clear p2);(try clear c4);(try clear c4b0);(try clear c4b1);(try clear c4b2);obtain ⟨aJ, rfl, HA, aK, HB⟩ := hrel;cases gk with
   | zero => exact absurd HA.out (by simp [slices_EqualFunc_string_string_string_string.l0])
   | succ k1 =>
    have H := HA.out;clear HA;simp only [slices_EqualFunc_string_string_string_string.l0] at H;by_cases c5 : aJ < (l0.length : Int)
    ·rw [if_pos c5] at H;have c5b0 := dT c5;clear c5;by_cases c6 : 0 ≤ aJ
     ·rw [if_pos c6] at H;have c6b0 := dT c6;clear c6;by_cases c7 : aJ < (l0.length : Int)
      ·rw [if_pos c7] at H;have c7b0 := dT c7;clear c7;by_cases c8 : aJ < (l1.length : Int)
       ·rw [if_pos c8] at H;have c8b0 := dT c8;clear c8;replace H := Option.bind_eq_some_iff.mp H;obtain ⟨aM, aQ, H⟩ := H;replace H : (if aM = true then (slices_EqualFunc_string_string_string_string.l0 k1 l1 l0 (l0.length : Int) (wrap64 (aJ + 1))) else (some false)) = some r := H;have A9 := am aQ;clear aQ;by_cases c10 : aM = true
        ·subst c10;have H1 : (slices_EqualFunc_string_string_string_string.l0 k1 l1 l0 (l0.length : Int) (wrap64 (aJ + 1))) = some r := by rw [if_pos rfl] at H; exact H
         clear H;have H := H1;clear H1;have H' := am H;clear H;have aT : 0 ≤ (aJ : Int) := of_decide_eq_true X8;have aU : aJ < (l0.length : Int) := of_decide_eq_true X8;obtain ⟨aW, aX, aY, e685, aZ, bA, bB⟩ := at_L7 aG.out aJ aT aU;cases e685;replace aZ := cB HB aZ;have bC := am bB;have bD := am bA;clear bB bA;replace aT := eq_true aT;replace aU := eq_true aU;have bE : 0 ≤ (aJ : Int) := of_decide_eq_true X8;have bF : aJ < (l1.length : Int) := of_decide_eq_true X8;obtain ⟨bG, bH, bI, e686, bJ, bK, bL⟩ := at_L7 aH.out aJ bE bF;cases e686;replace bJ := cB HB bJ;have bM := am bL;have bN := am bK;clear bL bK;replace bE := eq_true bE;replace bF := eq_true bF;go_wp2_with (first | ((with_reducible refine gate_calleeT (t := 26) rfl ?_); refine goesLT_ (some 29) rfl rfl Tryd.func31 X4 rfl #[.slice aX (rd_L7 l0 aJ).length aY, .slice bH (rd_L7 l1 aJ).length bI] rfl X118 ?_; (with_reducible refine (slices_Equal_string_string.calls k1 _ _ (rd_L7 l0 aJ) _ _ (rd_L7 l1 aJ) true _ ?side1 ?side2 ?side3 ?side4 A9.out).mono ?_); (case side1 => exact X119); (case side2 => exact bD.out); (case side3 => exact X104); (case side4 => exact bN.out); rintro e w' ⟨rfl, ⟨nd, rfl⟩⟩; refine ⟨_, rfl, ?_⟩))
         go_roundg k1
         case measure => have := aK.out; omega
         case rel => exact ⟨(wrap64 (aJ + 1)), X6, H', ⟨X116⟩, ⟨X35⟩⟩
        ·replace c10 := Bool.eq_false_iff.mpr c10;subst c10;have H1 : (some false) = some r := by rw [if_neg (show ¬ (false = true) by decide)] at H; exact H
         clear H;have H := H1;clear H1;obtain rfl := Option.some.inj H;have aT : 0 ≤ (aJ : Int) := of_decide_eq_true X8;have aU : aJ < (l0.length : Int) := of_decide_eq_true X8;obtain ⟨aW, aX, aY, e685, aZ, bA, bB⟩ := at_L7 aG.out aJ aT aU;cases e685;replace aZ := cB HB aZ;have bC := am bB;have bD := am bA;clear bB bA;replace aT := eq_true aT;replace aU := eq_true aU;have bE : 0 ≤ (aJ : Int) := of_decide_eq_true X8;have bF : aJ < (l1.length : Int) := of_decide_eq_true X8;obtain ⟨bG, bH, bI, e686, bJ, bK, bL⟩ := at_L7 aH.out aJ bE bF;cases e686;replace bJ := cB HB bJ;have bM := am bL;have bN := am bK;clear bL bK;replace bE := eq_true bE;replace bF := eq_true bF;go_wp2_with (first | ((with_reducible refine gate_calleeT (t := 26) rfl ?_); refine goesLT_ (some 29) rfl rfl Tryd.func31 X4 rfl #[.slice aX (rd_L7 l0 aJ).length aY, .slice bH (rd_L7 l1 aJ).length bI] rfl X118 ?_; (with_reducible refine (slices_Equal_string_string.calls k1 _ _ (rd_L7 l0 aJ) _ _ (rd_L7 l1 aJ) false _ ?side1 ?side2 ?side3 ?side4 A9.out).mono ?_); (case side1 => exact X119); (case side2 => exact bD.out); (case side3 => exact X104); (case side4 => exact bN.out); rintro e w' ⟨rfl, ⟨nd, rfl⟩⟩; refine ⟨_, rfl, ?_⟩))
         go_ret
         exact ⟨X54, X35⟩
       ·exact iN c8 H
      ·exact iN c7 H
     ·exact iN c6 H
    ·rw [if_neg c5] at H;have c5b0 := dF c5;clear c5;obtain rfl := Option.some.inj H;go_wp2
     go_ret
     exact ⟨X54, X35⟩
 ·rw [if_neg c4] at H;have c4b0 := nF c4;have c4b1 := nT c4;have c4b2 : (l0.length == l1.length) = false := by first | simpa using c4 | (simp at c4 ⊢; omega)
  obtain rfl := Option.some.inj H;go_enter Tryd.func71, Tryd.ntmps71;go_wp2
  go_ret
  exact ⟨X54, X35⟩

mutual
def metre_same.f : Nat → Int → ByteArray → Int → List (S25) → Int → ByteArray → Int → List (S25) → Option (Bool)
 | 0, _, _, _, _, _, _, _, _ => none
 | k + 1, aA, aC, aD, aE, aG, aH, aI, aJ => if aA = aG then (if aC.toList = aH.toList then (if aD = aI then ((api_Node_105.f k aE aJ ()).bind fun aK => (some aK)) else (some false)) else (some false)) else (some false)
def api_Node_105.l0 : Nat → List (S25) → List (S25) → Int → Int → Option (Bool)
 | 0, _, _, _, _ => none
 | k + 1, x1, aA, aC, aD => if aD < aC then (if 0 ≤ aD then (if aD < (aA.length : Int) then (if aD < (x1.length : Int) then ((metre_same.f k ((rd_T25 aA aD).f0) ((rd_T25 aA aD).f1) ((rd_T25 aA aD).f2) ((rd_T25 aA aD).f3) ((rd_T25 x1 aD).f0) ((rd_T25 x1 aD).f1) ((rd_T25 x1 aD).f2) ((rd_T25 x1 aD).f3)).bind fun aE => (if aE = true then (api_Node_105.l0 k x1 aA aC (wrap64 (aD + 1))) else (some false))) else (none)) else (none)) else (none)) else (some true)
def api_Node_105.f : Nat → List (S25) → List (S25) → Unit → Option (Bool)
 | 0, _, _, _ => none
 | k + 1, l0, l1, a2 => if (l0.length : Int) = (l1.length : Int) then (api_Node_105.l0 k l1 l0 (l0.length : Int) 0) else (some false)
end
theorem metre_same.group.mono_l : ∀ k, (∀ y0 y1 y2 y3 y4 y5 y6 y7, LeO (metre_same.f k y0 y1 y2 y3 y4 y5 y6 y7) (metre_same.f (k + 1) y0 y1 y2 y3 y4 y5 y6 y7)) ∧ (∀ y0 y1 y2, LeO (api_Node_105.f k y0 y1 y2) (api_Node_105.f (k + 1) y0 y1 y2)) ∧ (∀ y0 y1 y2 y3, LeO (api_Node_105.l0 k y0 y1 y2 y3) (api_Node_105.l0 (k + 1) y0 y1 y2 y3))
 | 0 => ⟨fun _ _ _ _ _ _ _ _ r h => by simp [metre_same.f] at h, fun _ _ _ r h => by simp [api_Node_105.f] at h, fun _ _ _ _ r h => by simp [api_Node_105.l0] at h⟩
 | k + 1 => by
  obtain ⟨aA, aC, aD⟩ := metre_same.group.mono_l k;refine ⟨?_, ?_, ?_⟩
  ·intro y0 y1 y2 y3 y4 y5 y6 y7;unfold metre_same.f;exact X120
  ·intro y0 y1 y2;unfold api_Node_105.f;exact X120
  ·intro y0 y1 y2 y3;unfold api_Node_105.l0;exact X120
theorem metre_same.mono : ∀ a0 a1 a2 a3 a4 a5 a6 a7 k, LeO (metre_same.f k a0 a1 a2 a3 a4 a5 a6 a7) (metre_same.f (k + 1) a0 a1 a2 a3 a4 a5 a6 a7) := by
 intro a0 a1 a2 a3 a4 a5 a6 a7 k;obtain ⟨aA, ih1, ih2⟩ := metre_same.group.mono_l k;exact aA a0 a1 a2 a3 a4 a5 a6 a7
@[reducible] def metre_same.Stmt (k : Nat) : Prop := ∀ (a0_0 : Int) (a0_1 : ByteArray) (a0_2 : Int) (A0_3 : Option Addr) (c0_3 : Nat) (l0_3 : List (S25)) (a1_0 : Int) (a1_1 : ByteArray) (a1_2 : Int) (A1_3 : Option Addr) (c1_3 : Nat) (l1_3 : List (S25)) (r : Bool) (w : World) (hr0_3 : Kd.C k25 w A0_3 l0_3.length l0_3) (hc0_3 : l0_3.length ≤ c0_3) (hr1_3 : Kd.C k25 w A1_3 l1_3.length l1_3) (hc1_3 : l1_3.length ≤ c1_3) (h : metre_same.f k a0_0 a0_1 a0_2 l0_3 a1_0 a1_1 a1_2 l1_3 = some r),
  Calls Tryd.prog 72 #[.agg #[.int .i64 a0_0, .string a0_1, .int .i64 a0_2, .slice A0_3 l0_3.length c0_3], .agg #[.int .i64 a1_0, .string a1_1, .int .i64 a1_2, .slice A1_3 l1_3.length c1_3]] w fun e w' => e = .returned (.bool r) ∧ Below w.heap.size w w'
@[reducible] def api_Node_105.Stmt (k : Nat) : Prop := ∀ (A0 : Option Addr) (c0 : Nat) (l0 : List (S25)) (A1 : Option Addr) (c1 : Nat) (l1 : List (S25)) (a2 : Unit) (r : Bool) (w : World) (hr0 : Kd.C k25 w A0 l0.length l0) (hc0 : l0.length ≤ c0) (hr1 : Kd.C k25 w A1 l1.length l1) (hc1 : l1.length ≤ c1) (h : api_Node_105.f k l0 l1 a2 = some r),
  Calls Tryd.prog 105 #[.slice A0 l0.length c0, .slice A1 l1.length c1, .func (.func 72) #[] #[]] w fun e w' => e = .returned (.bool r) ∧ Below w.heap.size w w'

set_option maxHeartbeats 8000000 in
set_option maxRecDepth 100000 in
theorem metre_same.step (k : Nat) (ih : ∀ m_, m_ < k → metre_same.Stmt m_) (ih_api_Node_105 : ∀ m_, m_ < k → api_Node_105.Stmt m_) : metre_same.Stmt k := by
 intro aA aC aD aE aG aH aI aJ aK aM aQ aT r w aU aW aX aY h;cases k with
 | zero => exact absurd h (by simp [metre_same.f])
 | succ k =>
 simp only [metre_same.f] at h;have hu25 := Tryd.underlying25;have aZ := am aU;have bA := am aW;clear aU aW;have bB := am aX;have bC := am aY;clear aX aY;have HB := am (Below.refl w.heap.size w);have H : (if aA = aI then (if aC.toList = aJ.toList then (if aD = aK then ((api_Node_105.f k aH aT ()).bind fun bD => (some bD)) else (some false)) else (some false)) else (some false)) = some r := h;clear h;by_cases c3 : aA = aI
 ·rw [if_pos c3] at H;have c3b0 := eT c3;have c3b1 := eF c3;clear c3;by_cases c4 : aC.toList = aJ.toList
  ·rw [if_pos c4] at H;have c4b0 := eT c4;have c4b1 := eF c4;clear c4;by_cases c5 : aD = aK
   ·rw [if_pos c5] at H;have c5b0 := eT c5;have c5b1 := eF c5;clear c5;replace H := Option.bind_eq_some_iff.mp H;obtain ⟨bD, bE, H⟩ := H;replace H : (some bD) = some r := H;have A6 := am bE;clear bE;obtain rfl := Option.some.inj H;go_enter Tryd.func72, Tryd.ntmps72;go_wp2_with (first | ((with_reducible refine gd 2 ?_); refine be 2 #[.int .i64 aA, .string aC, .int .i64 aD, .slice aE aH.length aG] 25 ?_; intro bF hg w7 hbox hb; have bG := am (hbox); have bH := sG (w := w) hg X35; have bI := sG (w := w) hg X35; replace HB := bS X35 hb; clear hb hbox hg) | ((with_reducible refine gd 3 ?_); refine be 3 #[.int .i64 aI, .string aJ, .int .i64 aK, .slice aM aT.length aQ] 25 ?_; intro bJ hg w8 hbox hb; have bK := am (hbox); have bL := sG (w := w) hg X121; have bM := sG (w := w) hg X121; replace HB := bS X121 hb; have bN := nLT hg bG; have bO := nGT hg bG; replace bG := kB bG hb; clear hb hbox hg; have hnb9 := bN.out; have hnc9 := bO.out; have Z10 := bc4 bG; have Z11 := bc4 bK) | (go_at_call 105; (with_reducible refine (ih_api_Node_105 k (by omega) _ _ aH _ _ aT () bD _ ?side1 ?side2 ?side3 ?side4 A6.out).mono ?_); (case side1 => repeat (first | exact (Kd.C_below aZ.out HB.out) | (with_reducible refine Kd.C_alloc ?_ _) | (with_reducible refine Kd.C_drewN ?_ _) | (with_reducible refine Kd.C_drew ?_))); (case side2 => exact bA.out); (case side3 => exact X122); (case side4 => exact bC.out); rintro e w12 ⟨rfl, hb⟩; replace bG := kB bG hb; replace bK := kB bK hb; replace HB := bS X123 hb; (try clear hb); (try clear hb2); (try clear hk); (try clear hi)))
    go_ret
    exact ⟨X54, X123⟩
   ·rw [if_neg c5] at H;have c5b0 := nF c5;have c5b1 := nT c5;obtain rfl := Option.some.inj H;go_enter Tryd.func72, Tryd.ntmps72;go_wp2_with (first | ((with_reducible refine gd 2 ?_); refine be 2 #[.int .i64 aA, .string aC, .int .i64 aD, .slice aE aH.length aG] 25 ?_; intro bF hg w13 hbox hb; have bG := am (hbox); have bH := sG (w := w) hg X35; have bI := sG (w := w) hg X35; replace HB := bS X35 hb; clear hb hbox hg) | ((with_reducible refine gd 3 ?_); refine be 3 #[.int .i64 aI, .string aJ, .int .i64 aK, .slice aM aT.length aQ] 25 ?_; intro bJ hg w14 hbox hb; have bK := am (hbox); have bL := sG (w := w) hg X121; have bM := sG (w := w) hg X121; replace HB := bS X121 hb; have bN := nLT hg bG; have bO := nGT hg bG; replace bG := kB bG hb; clear hb hbox hg; have hnb15 := bN.out; have hnc15 := bO.out; have Z16 := bc4 bG; have Z17 := bc4 bK))
    go_ret
    exact ⟨X54, X123⟩
  ·rw [if_neg c4] at H;have c4b0 := nF c4;have c4b1 := nT c4;obtain rfl := Option.some.inj H;go_enter Tryd.func72, Tryd.ntmps72;go_wp2_with (first | ((with_reducible refine gd 2 ?_); refine be 2 #[.int .i64 aA, .string aC, .int .i64 aD, .slice aE aH.length aG] 25 ?_; intro bF hg w18 hbox hb; have bG := am (hbox); have bH := sG (w := w) hg X35; have bI := sG (w := w) hg X35; replace HB := bS X35 hb; clear hb hbox hg) | ((with_reducible refine gd 3 ?_); refine be 3 #[.int .i64 aI, .string aJ, .int .i64 aK, .slice aM aT.length aQ] 25 ?_; intro bJ hg w19 hbox hb; have bK := am (hbox); have bL := sG (w := w) hg X121; have bM := sG (w := w) hg X121; replace HB := bS X121 hb; have bN := nLT hg bG; have bO := nGT hg bG; replace bG := kB bG hb; clear hb hbox hg; have hnb20 := bN.out; have hnc20 := bO.out; have Z21 := bc4 bG; have Z22 := bc4 bK))
   go_ret
   exact ⟨X54, X123⟩
 ·rw [if_neg c3] at H;have c3b0 := nF c3;have c3b1 := nT c3;obtain rfl := Option.some.inj H;go_enter Tryd.func72, Tryd.ntmps72;go_wp2_with (first | ((with_reducible refine gd 2 ?_); refine be 2 #[.int .i64 aA, .string aC, .int .i64 aD, .slice aE aH.length aG] 25 ?_; intro bF hg w23 hbox hb; have bG := am (hbox); have bH := sG (w := w) hg X35; have bI := sG (w := w) hg X35; replace HB := bS X35 hb; clear hb hbox hg) | ((with_reducible refine gd 3 ?_); refine be 3 #[.int .i64 aI, .string aJ, .int .i64 aK, .slice aM aT.length aQ] 25 ?_; intro bJ hg w24 hbox hb; have bK := am (hbox); have bL := sG (w := w) hg X121; have bM := sG (w := w) hg X121; replace HB := bS X121 hb; have bN := nLT hg bG; have bO := nGT hg bG; replace bG := kB bG hb; clear hb hbox hg; have hnb25 := bN.out; have hnc25 := bO.out; have Z26 := bc4 bG; have Z27 := bc4 bK))
  go_ret
  exact ⟨X54, X123⟩

set_option maxHeartbeats 8000000 in
set_option maxRecDepth 100000 in
theorem api_Node_105.step (k : Nat) (ih_metre_same : ∀ m_, m_ < k → metre_same.Stmt m_) (ih : ∀ m_, m_ < k → api_Node_105.Stmt m_) : api_Node_105.Stmt k := by
 intro A0 c0 l0 A1 c1 l1 a2 r w aA aC aD aE h;cases k with
 | zero => exact absurd h (by simp [api_Node_105.f])
 | succ k =>
 simp only [api_Node_105.f] at h;have hu25 := Tryd.underlying25;have aG := am aA;have HC0 := am aC;clear aA aC;have aH := am aD;have HC1 := am aE;clear aD aE;have HB := am (Below.refl w.heap.size w);have H : (if (l0.length : Int) = (l1.length : Int) then (api_Node_105.l0 k l1 l0 (l0.length : Int) 0) else (some false)) = some r := h;clear h;by_cases c4 : (l0.length : Int) = (l1.length : Int)
 ·rw [if_pos c4] at H;have c4b0 := eT c4;have c4b1 := eF c4;have c4b2 : (l0.length == l1.length) = true := by first | simpa using c4 | (simp at c4 ⊢; omega)
  clear c4;have H' := am H;clear H;go_enter Tryd.func105, Tryd.ntmps105;go_wp2
  go_loopg [17] k (fun kq aI w' => ∃ (aJ : Int), aI = .int .i64 aJ ∧ Aside0 (api_Node_105.l0 kq l1 l0 (l0.length : Int) aJ = some r) ∧ Aside0 (kq ≤ k) ∧ Aside0 (Below w.heap.size w w'))
  case atStart => exact ⟨(0), X6, H', ⟨Nat.le_refl _⟩, ⟨X35⟩⟩
  case round =>
   clear H';(try clear c1);(try clear p2);(try clear c4);(try clear c4b0);(try clear c4b1);(try clear c4b2);obtain ⟨aJ, rfl, HA, aK, HB⟩ := hrel;cases gk with
   | zero => exact absurd HA.out (by simp [api_Node_105.l0])
   | succ k1 =>
    have H := HA.out;clear HA;simp only [api_Node_105.l0] at H;by_cases c5 : aJ < (l0.length : Int)
    ·rw [if_pos c5] at H;have c5b0 := dT c5;clear c5;by_cases c6 : 0 ≤ aJ
     ·rw [if_pos c6] at H;have c6b0 := dT c6;clear c6;by_cases c7 : aJ < (l0.length : Int)
      ·rw [if_pos c7] at H;have c7b0 := dT c7;clear c7;by_cases c8 : aJ < (l1.length : Int)
       ·rw [if_pos c8] at H;have c8b0 := dT c8;clear c8;replace H := Option.bind_eq_some_iff.mp H;obtain ⟨aM, aQ, H⟩ := H;replace H : (if aM = true then (api_Node_105.l0 k1 l1 l0 (l0.length : Int) (wrap64 (aJ + 1))) else (some false)) = some r := H;have A9 := am aQ;clear aQ;by_cases c10 : aM = true
        ·subst c10;have H1 : (api_Node_105.l0 k1 l1 l0 (l0.length : Int) (wrap64 (aJ + 1))) = some r := by rw [if_pos rfl] at H; exact H
         clear H;have H := H1;clear H1;have H' := am H;clear H;have aT : 0 ≤ (aJ : Int) := of_decide_eq_true X8;have aU : aJ < (l0.length : Int) := of_decide_eq_true X8;obtain ⟨aW, aX, aY, e691, aZ, bA, bB, bC, bD, bE⟩ := at_T25 aG.out aJ aT aU;cases e691;replace aZ := cB HB aZ;replace bA := cB HB bA;replace bB := cB HB bB;replace bC := cB HB bC;have bF := am bE;have bG := am bD;clear bE bD;replace aT := eq_true aT;replace aU := eq_true aU;go_wp2_with (first | ((with_reducible refine gd 8 ?_); refine be 8 #[.int .i64 0, .string (⟨#[]⟩ : ByteArray), .int .i64 0, .slice none 0 0] 25 ?_; intro bH hg w11 hbox hb; have bI := am (hbox); have bJ := sG (w := w) hg X35; have bK := sG (w := w) hg X35; replace HB := bS X35 hb; clear hb hbox hg; have Z12 := bc4 bI; have bL : 0 ≤ (aJ : Int) := of_decide_eq_true X8; have bM : aJ < (l1.length : Int) := of_decide_eq_true X8; obtain ⟨bN, bO, bP, e693, bQ, bR, bT, bU, bV, bW⟩ := at_T25 aH.out aJ bL bM; cases e693; have bX : bN.block ≠ bH := Nat.ne_of_lt (Nat.lt_of_lt_of_le X124 bJ.out); have bY : bN.block ≠ bH := Nat.ne_of_lt (Nat.lt_of_lt_of_le X124 bJ.out); have bZ : bN.block ≠ bH := Nat.ne_of_lt (Nat.lt_of_lt_of_le X124 bJ.out); have cA : bN.block ≠ bH := Nat.ne_of_lt (Nat.lt_of_lt_of_le X124 bJ.out); replace bQ := cB HB bQ; replace bR := cB HB bR; replace bT := cB HB bT; replace bU := cB HB bU; have cC := am bW; have cD := am bV; clear bW bV; replace bQ := (cell_far (p := ⟨bH, 0, none⟩) X125 (.int .i64 ((rd_T25 l0 aJ).f0))).trans bQ; replace bR := (cell_far (p := ⟨bH, 0, none⟩) X125 (.int .i64 ((rd_T25 l0 aJ).f0))).trans bR; replace bT := (cell_far (p := ⟨bH, 0, none⟩) X125 (.int .i64 ((rd_T25 l0 aJ).f0))).trans bT; replace bU := (cell_far (p := ⟨bH, 0, none⟩) X125 (.int .i64 ((rd_T25 l0 aJ).f0))).trans bU; replace bQ := (cell_far (p := ⟨bH, 1, none⟩) X126 (.string ((rd_T25 l0 aJ).f1))).trans bQ; replace bR := (cell_far (p := ⟨bH, 1, none⟩) X126 (.string ((rd_T25 l0 aJ).f1))).trans bR; replace bT := (cell_far (p := ⟨bH, 1, none⟩) X126 (.string ((rd_T25 l0 aJ).f1))).trans bT; replace bU := (cell_far (p := ⟨bH, 1, none⟩) X126 (.string ((rd_T25 l0 aJ).f1))).trans bU; replace bQ := (cell_far (p := ⟨bH, 2, none⟩) X127 (.int .i64 ((rd_T25 l0 aJ).f2))).trans bQ; replace bR := (cell_far (p := ⟨bH, 2, none⟩) X127 (.int .i64 ((rd_T25 l0 aJ).f2))).trans bR; replace bT := (cell_far (p := ⟨bH, 2, none⟩) X127 (.int .i64 ((rd_T25 l0 aJ).f2))).trans bT; replace bU := (cell_far (p := ⟨bH, 2, none⟩) X127 (.int .i64 ((rd_T25 l0 aJ).f2))).trans bU; replace bQ := (cell_far (p := ⟨bH, 3, none⟩) X128 (.slice aX ((rd_T25 l0 aJ).f3).length aY)).trans bQ; replace bR := (cell_far (p := ⟨bH, 3, none⟩) X128 (.slice aX ((rd_T25 l0 aJ).f3).length aY)).trans bR; replace bT := (cell_far (p := ⟨bH, 3, none⟩) X128 (.slice aX ((rd_T25 l0 aJ).f3).length aY)).trans bT; replace bU := (cell_far (p := ⟨bH, 3, none⟩) X128 (.slice aX ((rd_T25 l0 aJ).f3).length aY)).trans bU; clear bX; clear bY; clear bZ; clear cA; replace bL := eq_true bL; replace bM := eq_true bM) | ((with_reducible refine gd 9 ?_); refine be 9 #[.int .i64 0, .string (⟨#[]⟩ : ByteArray), .int .i64 0, .slice none 0 0] 25 ?_; intro cE hg w13 hbox hb; have cF := am (hbox); have cG := sG (w := w) hg X129; have cH := sG (w := w) hg X129; replace HB := bS X129 hb; have cI := am ((X130 : bH ≠ cE)); have cJ := am ((X131 : cE ≠ bH)); replace bI := kBg0 bI hb; clear hb hbox hg; have hnb14 := cJ.out; have hnc14 := cI.out; have Z15 := bc4 cF; have Z16 := bc4 bI) | ((with_reducible refine gate_calleeT (t := 26) rfl ?_); refine goesLT_ (some 29) rfl rfl Tryd.func72 X4 rfl #[.agg #[.int .i64 ((rd_T25 l0 aJ).f0), .string ((rd_T25 l0 aJ).f1), .int .i64 ((rd_T25 l0 aJ).f2), .slice aX ((rd_T25 l0 aJ).f3).length aY], .agg #[.int .i64 ((rd_T25 l1 aJ).f0), .string ((rd_T25 l1 aJ).f1), .int .i64 ((rd_T25 l1 aJ).f2), .slice bO ((rd_T25 l1 aJ).f3).length bP]] rfl X118 ?_; (with_reducible refine (ih_metre_same k1 X116 ((rd_T25 l0 aJ).f0) ((rd_T25 l0 aJ).f1) ((rd_T25 l0 aJ).f2) _ _ ((rd_T25 l0 aJ).f3) ((rd_T25 l1 aJ).f0) ((rd_T25 l1 aJ).f1) ((rd_T25 l1 aJ).f2) _ _ ((rd_T25 l1 aJ).f3) true _ ?side1 ?side2 ?side3 ?side4 A9.out).mono ?_); (case side1 => exact Kd.C_below bF.out X132); (case side2 => exact bG.out); (case side3 => exact Kd.C_below cC.out X132); (case side4 => exact cD.out); rintro e w17 ⟨rfl, hb⟩; refine ⟨_, rfl, ?_⟩; replace bI := kBg1 bI cI hb; replace cF := kBg0 cF hb; replace HB := bS X132 hb; (try clear hb); (try clear cK); (try clear hk); (try clear hi)))
         go_roundg k1
         case measure => have := aK.out; omega
         case rel => exact ⟨(wrap64 (aJ + 1)), X6, H', ⟨X116⟩, ⟨X132⟩⟩
        ·replace c10 := Bool.eq_false_iff.mpr c10;subst c10;have H1 : (some false) = some r := by rw [if_neg (show ¬ (false = true) by decide)] at H; exact H
         clear H;have H := H1;clear H1;obtain rfl := Option.some.inj H;have aT : 0 ≤ (aJ : Int) := of_decide_eq_true X8;have aU : aJ < (l0.length : Int) := of_decide_eq_true X8;obtain ⟨aW, aX, aY, e691, aZ, bA, bB, bC, bD, bE⟩ := at_T25 aG.out aJ aT aU;cases e691;replace aZ := cB HB aZ;replace bA := cB HB bA;replace bB := cB HB bB;replace bC := cB HB bC;have bF := am bE;have bG := am bD;clear bE bD;replace aT := eq_true aT;replace aU := eq_true aU;go_wp2_with (first | ((with_reducible refine gd 8 ?_); refine be 8 #[.int .i64 0, .string (⟨#[]⟩ : ByteArray), .int .i64 0, .slice none 0 0] 25 ?_; intro bH hg w18 hbox hb; have bI := am (hbox); have bJ := sG (w := w) hg X35; have bK := sG (w := w) hg X35; replace HB := bS X35 hb; clear hb hbox hg; have Z19 := bc4 bI; have bL : 0 ≤ (aJ : Int) := of_decide_eq_true X8; have bM : aJ < (l1.length : Int) := of_decide_eq_true X8; obtain ⟨bN, bO, bP, e693, bQ, bR, bT, bU, bV, bW⟩ := at_T25 aH.out aJ bL bM; cases e693; have bX : bN.block ≠ bH := Nat.ne_of_lt (Nat.lt_of_lt_of_le X124 bJ.out); have bY : bN.block ≠ bH := Nat.ne_of_lt (Nat.lt_of_lt_of_le X124 bJ.out); have bZ : bN.block ≠ bH := Nat.ne_of_lt (Nat.lt_of_lt_of_le X124 bJ.out); have cA : bN.block ≠ bH := Nat.ne_of_lt (Nat.lt_of_lt_of_le X124 bJ.out); replace bQ := cB HB bQ; replace bR := cB HB bR; replace bT := cB HB bT; replace bU := cB HB bU; have cC := am bW; have cD := am bV; clear bW bV; replace bQ := (cell_far (p := ⟨bH, 0, none⟩) X125 (.int .i64 ((rd_T25 l0 aJ).f0))).trans bQ; replace bR := (cell_far (p := ⟨bH, 0, none⟩) X125 (.int .i64 ((rd_T25 l0 aJ).f0))).trans bR; replace bT := (cell_far (p := ⟨bH, 0, none⟩) X125 (.int .i64 ((rd_T25 l0 aJ).f0))).trans bT; replace bU := (cell_far (p := ⟨bH, 0, none⟩) X125 (.int .i64 ((rd_T25 l0 aJ).f0))).trans bU; replace bQ := (cell_far (p := ⟨bH, 1, none⟩) X126 (.string ((rd_T25 l0 aJ).f1))).trans bQ; replace bR := (cell_far (p := ⟨bH, 1, none⟩) X126 (.string ((rd_T25 l0 aJ).f1))).trans bR; replace bT := (cell_far (p := ⟨bH, 1, none⟩) X126 (.string ((rd_T25 l0 aJ).f1))).trans bT; replace bU := (cell_far (p := ⟨bH, 1, none⟩) X126 (.string ((rd_T25 l0 aJ).f1))).trans bU; replace bQ := (cell_far (p := ⟨bH, 2, none⟩) X127 (.int .i64 ((rd_T25 l0 aJ).f2))).trans bQ; replace bR := (cell_far (p := ⟨bH, 2, none⟩) X127 (.int .i64 ((rd_T25 l0 aJ).f2))).trans bR; replace bT := (cell_far (p := ⟨bH, 2, none⟩) X127 (.int .i64 ((rd_T25 l0 aJ).f2))).trans bT; replace bU := (cell_far (p := ⟨bH, 2, none⟩) X127 (.int .i64 ((rd_T25 l0 aJ).f2))).trans bU; replace bQ := (cell_far (p := ⟨bH, 3, none⟩) X128 (.slice aX ((rd_T25 l0 aJ).f3).length aY)).trans bQ; replace bR := (cell_far (p := ⟨bH, 3, none⟩) X128 (.slice aX ((rd_T25 l0 aJ).f3).length aY)).trans bR; replace bT := (cell_far (p := ⟨bH, 3, none⟩) X128 (.slice aX ((rd_T25 l0 aJ).f3).length aY)).trans bT; replace bU := (cell_far (p := ⟨bH, 3, none⟩) X128 (.slice aX ((rd_T25 l0 aJ).f3).length aY)).trans bU; clear bX; clear bY; clear bZ; clear cA; replace bL := eq_true bL; replace bM := eq_true bM) | ((with_reducible refine gd 9 ?_); refine be 9 #[.int .i64 0, .string (⟨#[]⟩ : ByteArray), .int .i64 0, .slice none 0 0] 25 ?_; intro cE hg w20 hbox hb; have cF := am (hbox); have cG := sG (w := w) hg X129; have cH := sG (w := w) hg X129; replace HB := bS X129 hb; have cI := am ((X130 : bH ≠ cE)); have cJ := am ((X131 : cE ≠ bH)); replace bI := kBg0 bI hb; clear hb hbox hg; have hnb21 := cJ.out; have hnc21 := cI.out; have Z22 := bc4 cF; have Z23 := bc4 bI) | ((with_reducible refine gate_calleeT (t := 26) rfl ?_); refine goesLT_ (some 29) rfl rfl Tryd.func72 X4 rfl #[.agg #[.int .i64 ((rd_T25 l0 aJ).f0), .string ((rd_T25 l0 aJ).f1), .int .i64 ((rd_T25 l0 aJ).f2), .slice aX ((rd_T25 l0 aJ).f3).length aY], .agg #[.int .i64 ((rd_T25 l1 aJ).f0), .string ((rd_T25 l1 aJ).f1), .int .i64 ((rd_T25 l1 aJ).f2), .slice bO ((rd_T25 l1 aJ).f3).length bP]] rfl X118 ?_; (with_reducible refine (ih_metre_same k1 X116 ((rd_T25 l0 aJ).f0) ((rd_T25 l0 aJ).f1) ((rd_T25 l0 aJ).f2) _ _ ((rd_T25 l0 aJ).f3) ((rd_T25 l1 aJ).f0) ((rd_T25 l1 aJ).f1) ((rd_T25 l1 aJ).f2) _ _ ((rd_T25 l1 aJ).f3) false _ ?side1 ?side2 ?side3 ?side4 A9.out).mono ?_); (case side1 => exact Kd.C_below bF.out X132); (case side2 => exact bG.out); (case side3 => exact Kd.C_below cC.out X132); (case side4 => exact cD.out); rintro e w24 ⟨rfl, hb⟩; refine ⟨_, rfl, ?_⟩; replace bI := kBg1 bI cI hb; replace cF := kBg0 cF hb; replace HB := bS X132 hb; (try clear hb); (try clear cK); (try clear hk); (try clear hi)))
         go_ret
         exact ⟨X54, X132⟩
       ·exact iN c8 H
      ·exact iN c7 H
     ·exact iN c6 H
    ·rw [if_neg c5] at H;have c5b0 := dF c5;clear c5;obtain rfl := Option.some.inj H;go_wp2
     go_ret
     exact ⟨X54, X35⟩
 ·rw [if_neg c4] at H;have c4b0 := nF c4;have c4b1 := nT c4;have c4b2 : (l0.length == l1.length) = false := by first | simpa using c4 | (simp at c4 ⊢; omega)
  obtain rfl := Option.some.inj H;go_enter Tryd.func105, Tryd.ntmps105;go_wp2
  go_ret
  exact ⟨X54, X35⟩

theorem metre_same.group.all (k : Nat) : metre_same.Stmt k ∧ api_Node_105.Stmt k := by
 induction k using Nat.strongRecOn with
 | _ k ih =>
 exact ⟨metre_same.step k (fun m_ h_ => (ih m_ h_).1) (fun m_ h_ => (ih m_ h_).2), api_Node_105.step k (fun m_ h_ => (ih m_ h_).1) (fun m_ h_ => (ih m_ h_).2)⟩
theorem metre_same.calls (k : Nat) : metre_same.Stmt k := (metre_same.group.all k).1
def metre_Same_1.f (k : Nat) (aA : ByteArray) (aC : Int) (aD : ByteArray) (aE : Int) (aG : List (S25)) (aH : ByteArray) (aI : Int) (aJ : ByteArray) (aK : Int) (aM : List (S25)) : Option (Bool) := if aA.toList = aH.toList then ((metre_same.f k aC aD aE aG aI aJ aK aM).bind fun aQ => (some aQ)) else (some false)
theorem metre_Same_1.mono : ∀ a0 a1 a2 a3 a4 a5 a6 a7 a8 a9 k, LeO (metre_Same_1.f k a0 a1 a2 a3 a4 a5 a6 a7 a8 a9) (metre_Same_1.f (k + 1) a0 a1 a2 a3 a4 a5 a6 a7 a8 a9) := by
 intro a0 a1 a2 a3 a4 a5 a6 a7 a8 a9 k;unfold metre_Same_1.f;exact (by repeat' first | (with_reducible apply metre_same.mono) | (with_reducible exact LeO.refl _) | (with_reducible exact LeO.none _) | (with_reducible refine LeO.ite ?_ ?_) | (with_reducible refine LeO.bind ?_ (fun _ => ?_)) | apply metre_same.mono | exact LeO.none _ | refine LeO.ite ?_ ?_ | refine LeO.bind ?_ (fun _ => ?_))
set_option maxHeartbeats 8000000 in
set_option maxRecDepth 100000 in
theorem metre_Same_1.calls (k : Nat) (aA : ByteArray) (aC : Int) (aD : ByteArray) (aE : Int) (aG : Option Addr) (aH : Nat) (aI : List (S25)) (aJ : ByteArray) (aK : Int) (aM : ByteArray) (aQ : Int) (aT : Option Addr) (aU : Nat) (aW : List (S25)) (r : Bool) (w : World) (aX : Kd.C k25 w aG aI.length aI) (aY : aI.length ≤ aH) (aZ : Kd.C k25 w aT aW.length aW) (bA : aW.length ≤ aU) (h : metre_Same_1.f k aA aC aD aE aI aJ aK aM aQ aW = some r) :
  Calls Tryd.prog 74 #[.agg #[.string aA, .int .i64 aC, .string aD, .int .i64 aE, .slice aG aI.length aH], .agg #[.string aJ, .int .i64 aK, .string aM, .int .i64 aQ, .slice aT aW.length aU]] w fun e w' => e = .returned (.bool r) ∧ Below w.heap.size w w' := by
 have hu86 := Tryd.underlying86;have hu25 := Tryd.underlying25;have bB := am aX;have bC := am aY;clear aX aY;have bD := am aZ;have bE := am bA;clear aZ bA;have HB := am (Below.refl w.heap.size w);have H : (if aA.toList = aJ.toList then ((metre_same.f k aC aD aE aI aK aM aQ aW).bind fun bF => (some bF)) else (some false)) = some r := h;clear h;by_cases c3 : aA.toList = aJ.toList
 ·rw [if_pos c3] at H;have c3b0 := eT c3;have c3b1 := eF c3;clear c3;replace H := Option.bind_eq_some_iff.mp H;obtain ⟨bF, bG, H⟩ := H;replace H : (some bF) = some r := H;have A4 := am bG;clear bG;obtain rfl := Option.some.inj H;go_enter Tryd.func74, Tryd.ntmps74;go_wp2_with (first | ((with_reducible refine gd 2 ?_); refine be 2 #[.string aA, .int .i64 aC, .string aD, .int .i64 aE, .slice aG aI.length aH] 86 ?_; intro bH hg w5 hbox hb; have bI := am (hbox); have bJ := sG (w := w) hg X35; have bK := sG (w := w) hg X35; replace HB := bS X35 hb; clear hb hbox hg) | ((with_reducible refine gd 3 ?_); refine be 3 #[.string aJ, .int .i64 aK, .string aM, .int .i64 aQ, .slice aT aW.length aU] 86 ?_; intro bL hg w6 hbox hb; have bM := am (hbox); have bN := sG (w := w) hg X129; have bO := sG (w := w) hg X129; replace HB := bS X129 hb; have bP := nLT hg bI; have bQ := nGT hg bI; replace bI := kB bI hb; clear hb hbox hg; have hnb7 := bP.out; have hnc7 := bQ.out; have Z8 := bc5 bI; have Z9 := bc5 bM) | (go_at_call 72; (with_reducible refine (metre_same.calls k aC aD aE _ _ aI aK aM aQ _ _ aW bF _ ?side1 ?side2 ?side3 ?side4 A4.out).mono ?_); (case side1 => exact X122); (case side2 => exact bC.out); (case side3 => repeat (first | exact (Kd.C_below bD.out HB.out) | (with_reducible refine Kd.C_alloc ?_ _) | (with_reducible refine Kd.C_drewN ?_ _) | (with_reducible refine Kd.C_drew ?_))); (case side4 => exact bE.out); rintro e w10 ⟨rfl, hb⟩; replace bI := kB bI hb; replace bM := kB bM hb; replace HB := bS X133 hb; (try clear hb); (try clear hb2); (try clear hk); (try clear hi)))
  go_ret
  exact ⟨X54, X133⟩
 ·rw [if_neg c3] at H;have c3b0 := nF c3;have c3b1 := nT c3;obtain rfl := Option.some.inj H;go_enter Tryd.func74, Tryd.ntmps74;go_wp2_with (first | ((with_reducible refine gd 2 ?_); refine be 2 #[.string aA, .int .i64 aC, .string aD, .int .i64 aE, .slice aG aI.length aH] 86 ?_; intro bH hg w11 hbox hb; have bI := am (hbox); have bJ := sG (w := w) hg X35; have bK := sG (w := w) hg X35; replace HB := bS X35 hb; clear hb hbox hg) | ((with_reducible refine gd 3 ?_); refine be 3 #[.string aJ, .int .i64 aK, .string aM, .int .i64 aQ, .slice aT aW.length aU] 86 ?_; intro bL hg w12 hbox hb; have bM := am (hbox); have bN := sG (w := w) hg X129; have bO := sG (w := w) hg X129; replace HB := bS X129 hb; have bP := nLT hg bI; have bQ := nGT hg bI; replace bI := kB bI hb; clear hb hbox hg; have hnb13 := bP.out; have hnc13 := bQ.out; have Z14 := bc5 bI; have Z15 := bc5 bM))
  go_ret
  exact ⟨X54, X133⟩

end Go.Proofs.YtmffocankommaaaDoor.P
