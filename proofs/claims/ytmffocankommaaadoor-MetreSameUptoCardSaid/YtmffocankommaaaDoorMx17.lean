/- Walks of functions of the program: what each computes, as a function in Lean (printed by a program of this session's, then shortened by another). The condition is that the Lean function gives a value. -/
import Derived.Test.YtmffocankommaaaDoorMYZed
import Derived.Test.YtmffocankommaaaDoorMx0
namespace Go.Proofs.YtmffocankommaaaDoor.P
open Go.RowKit Go.Proofs.YtmffocankommaaaDoorW.PrintWords Go.Proofs.YtmffocankommaaaDoorW.PrintLast Go.Proofs.YtmffocankommaaaDoorW.PrintMore Go.Proofs.YtmffocankommaaaDoorY Go.Proofs.YtmffocankommaaaDoorS
attribute [local go_sem] cell_twice max2_int min2_int max_two min_two max_three min_three max_four min_four
set_option linter.unusedVariables false
set_option linter.unusedSimpArgs false

def ancepsref22_Strings.l0 : Nat → List ByteArray → List ByteArray → Int → Option (Bool)
 | 0, _, _, _ => none
 | k + 1, x0, x1, x5 => if x5 < (x0.length : Int) then (if 0 ≤ x5 then (if x5 < (x1.length : Int) then (if (rdOf ByteArray.empty x0 x5).toList = (rdOf ByteArray.empty x1 x5).toList then (ancepsref22_Strings.l0 k x0 x1 (wrap64 (x5 + 1))) else (some false)) else (none)) else (none)) else (some true)
def ancepsref22_Strings.f (k : Nat) (l0 : List ByteArray) (l1 : List ByteArray) : Option (Bool) := if (l0.length : Int) = (l1.length : Int) then (ancepsref22_Strings.l0 k l0 l1 0) else (some false)
theorem ancepsref22_Strings.mono_l : ∀ k, (∀ y0 y1 y2, LeO (ancepsref22_Strings.l0 k y0 y1 y2) (ancepsref22_Strings.l0 (k + 1) y0 y1 y2))
 | 0 => fun _ _ _ r h => by simp [ancepsref22_Strings.l0] at h
 | k + 1 => by
  have aA := ancepsref22_Strings.mono_l k
  ·intro y0 y1 y2;unfold ancepsref22_Strings.l0;exact X80
theorem ancepsref22_Strings.mono : ∀ a0 a1 k, LeO (ancepsref22_Strings.f k a0 a1) (ancepsref22_Strings.f (k + 1) a0 a1) := by
 intro a0 a1 k;have aA := ancepsref22_Strings.mono_l k;unfold ancepsref22_Strings.f;exact X80
set_option maxHeartbeats 8000000 in
set_option maxRecDepth 100000 in
theorem ancepsref22_Strings.calls (k : Nat) (A0 : Option Addr) (c0 : Nat) (l0 : List ByteArray) (A1 : Option Addr) (c1 : Nat) (l1 : List ByteArray) (r : Bool) (w : World) (aA : Kd.C Kd.string w A0 l0.length l0) (aC : l0.length ≤ c0) (aD : Kd.C Kd.string w A1 l1.length l1) (aE : l1.length ≤ c1) (h : ancepsref22_Strings.f k l0 l1 = some r) :
  Calls Tryd.prog 46 #[.slice A0 l0.length c0, .slice A1 l1.length c1] w fun e w' => e = .returned (.bool r) ∧ Drawn0 w w' := by
 have aG := am aA;have HC0 := am aC;clear aA aC;have aH := am aD;have HC1 := am aE;clear aD aE;have H : (if (l0.length : Int) = (l1.length : Int) then (ancepsref22_Strings.l0 k l0 l1 0) else (some false)) = some r := h;clear h;by_cases c3 : (l0.length : Int) = (l1.length : Int)
 ·rw [if_pos c3] at H;have c3b0 := eT c3;have c3b1 := eF c3;have c3b2 : (l0.length == l1.length) = true := by first | simpa using c3 | (simp at c3 ⊢; omega)
  clear c3;have H' := am H;clear H;go_enter Tryd.func46, Tryd.ntmps46;go_wp2
  repeat (go_quiet (fail); try go_wp2)
  go_loopg [5] k (fun kq v5 w' => ∃ (aI : Int), v5 = .int .i64 aI ∧ Aside0 (ancepsref22_Strings.l0 kq l0 l1 aI = some r) ∧ Aside0 (kq ≤ k) ∧ Drawn0 w w')
  case atStart => exact ⟨(0), X6, H', ⟨Nat.le_refl _⟩, X7⟩
  case round =>
   clear H';(try clear c1);(try clear p2);(try clear c3);(try clear c3b0);(try clear c3b1);(try clear c3b2);obtain ⟨aI, rfl, HA, aJ, ⟨m1, rfl⟩⟩ := hrel;cases gk with
   | zero => exact absurd HA.out (by simp [ancepsref22_Strings.l0])
   | succ k1 =>
    have H := HA.out;clear HA;simp only [ancepsref22_Strings.l0] at H;by_cases c4 : aI < (l0.length : Int)
    ·rw [if_pos c4] at H;have c4b0 := dT c4;clear c4;by_cases c5 : 0 ≤ aI
     ·rw [if_pos c5] at H;have c5b0 := dT c5;clear c5;by_cases c6 : aI < (l1.length : Int)
      ·rw [if_pos c6] at H;have c6b0 := dT c6;clear c6;by_cases c7 : (rdOf ByteArray.empty l0 aI).toList = (rdOf ByteArray.empty l1 aI).toList
       ·rw [if_pos c7] at H;have c7b0 := eT c7;have c7b1 := eF c7;clear c7;have H' := am H;clear H;have aK : 0 ≤ (aI : Int) := of_decide_eq_true X8;have aM : aI < (l0.length : Int) := of_decide_eq_true X8;obtain ⟨aQ, e613, aT⟩ := Kd.at_string aG.out aI aK aM;cases e613;replace aK := eq_true aK;replace aM := eq_true aM;have aU : 0 ≤ (aI : Int) := of_decide_eq_true X8;have aW : aI < (l1.length : Int) := of_decide_eq_true X8;obtain ⟨aX, e614, aY⟩ := Kd.at_string aH.out aI aU aW;cases e614;replace aU := eq_true aU;replace aW := eq_true aW;go_wp2
        repeat (go_quiet (fail); try go_wp2)
        go_roundg k1
        case measure => have := aJ.out; omega
        case rel => exact ⟨(wrap64 (aI + 1)), X6, H', ⟨by have := aJ.out; omega⟩, X7⟩
       ·rw [if_neg c7] at H;have c7b0 := nF c7;have c7b1 := nT c7;obtain rfl := Option.some.inj H;have aK : 0 ≤ (aI : Int) := of_decide_eq_true X8;have aM : aI < (l0.length : Int) := of_decide_eq_true X8;obtain ⟨aQ, e613, aT⟩ := Kd.at_string aG.out aI aK aM;cases e613;replace aK := eq_true aK;replace aM := eq_true aM;have aU : 0 ≤ (aI : Int) := of_decide_eq_true X8;have aW : aI < (l1.length : Int) := of_decide_eq_true X8;obtain ⟨aX, e614, aY⟩ := Kd.at_string aH.out aI aU aW;cases e614;replace aU := eq_true aU;replace aW := eq_true aW;go_wp2
        repeat (go_quiet (fail); try go_wp2)
        go_ret
        exact ⟨X6, X7⟩
      ·exact iN c6 H
     ·exact iN c5 H
    ·rw [if_neg c4] at H;have c4b0 := dF c4;clear c4;obtain rfl := Option.some.inj H;go_wp2
     repeat (go_quiet (fail); try go_wp2)
     go_ret
     exact ⟨X6, X7⟩
 ·rw [if_neg c3] at H;have c3b0 := nF c3;have c3b1 := nT c3;have c3b2 : (l0.length == l1.length) = false := by first | simpa using c3 | (simp at c3 ⊢; omega)
  obtain rfl := Option.some.inj H;go_enter Tryd.func46, Tryd.ntmps46;go_wp2
  repeat (go_quiet (fail); try go_wp2)
  go_ret
  exact ⟨X6, X7⟩

end Go.Proofs.YtmffocankommaaaDoor.P
