/- Walks of functions of the program: what each computes, as a function in Lean (printed by a program of this session's, then shortened by another). The condition is that the Lean function gives a value. -/
import Derived.Test.YtmffocankommaaaDoorKYZed
import Derived.Test.YtmffocankommaaaDoorKx0
namespace Go.Proofs.YtmffocankommaaaDoor.Z
open Go.RowKit Go.Proofs.YtmffocankommaaaDoorW.PrintWords Go.Proofs.YtmffocankommaaaDoorW.PrintLast Go.Proofs.YtmffocankommaaaDoorW.PrintMore Go.Proofs.YtmffocankommaaaDoorY Go.Proofs.YtmffocankommaaaDoorS Go.Proofs.YtmffocankommaaaDoorS
attribute [local go_sem] cell_twice max2_int min2_int max_two min_two max_three min_three max_four min_four
set_option linter.unusedVariables false
set_option linter.unusedSimpArgs false

def slices_Equal_string_string.l0 : Nat → List ByteArray → List ByteArray → Int → Int → Option (Bool)
 | 0, _, _, _, _ => none
 | k + 1, x0, x1, aA, aC => if aC < aA then (if 0 ≤ aC then (if aC < (x0.length : Int) then (if aC < (x1.length : Int) then (if (rdOf ByteArray.empty x0 aC).toList = (rdOf ByteArray.empty x1 aC).toList then (slices_Equal_string_string.l0 k x0 x1 aA (wrap64 (aC + 1))) else (some false)) else (none)) else (none)) else (none)) else (some true)
def slices_Equal_string_string.f (k : Nat) (l0 : List ByteArray) (l1 : List ByteArray) : Option (Bool) := if (l0.length : Int) = (l1.length : Int) then (slices_Equal_string_string.l0 k l0 l1 (l0.length : Int) 0) else (some false)
theorem slices_Equal_string_string.mono_l : ∀ k, (∀ y0 y1 y2 y3, LeO (slices_Equal_string_string.l0 k y0 y1 y2 y3) (slices_Equal_string_string.l0 (k + 1) y0 y1 y2 y3))
 | 0 => fun _ _ _ _ r h => by simp [slices_Equal_string_string.l0] at h
 | k + 1 => by
  have aA := slices_Equal_string_string.mono_l k
  ·intro y0 y1 y2 y3;unfold slices_Equal_string_string.l0;exact X131
theorem slices_Equal_string_string.mono : ∀ a0 a1 k, LeO (slices_Equal_string_string.f k a0 a1) (slices_Equal_string_string.f (k + 1) a0 a1) := by
 intro a0 a1 k;have aA := slices_Equal_string_string.mono_l k;unfold slices_Equal_string_string.f;exact X131
set_option maxHeartbeats 8000000 in
set_option maxRecDepth 100000 in
theorem slices_Equal_string_string.calls (k : Nat) (A0 : Option Addr) (c0 : Nat) (l0 : List ByteArray) (A1 : Option Addr) (c1 : Nat) (l1 : List ByteArray) (r : Bool) (w : World) (aA : Kd.C Kd.string w A0 l0.length l0) (aC : l0.length ≤ c0) (aD : Kd.C Kd.string w A1 l1.length l1) (aE : l1.length ≤ c1) (h : slices_Equal_string_string.f k l0 l1 = some r) :
  Calls Tryd.prog 31 #[.slice A0 l0.length c0, .slice A1 l1.length c1] w fun e w' => e = .returned (.bool r) ∧ Drawn0 w w' := by
 have aG := am aA;have HC0 := am aC;clear aA aC;have aH := am aD;have HC1 := am aE;clear aD aE;have H : (if (l0.length : Int) = (l1.length : Int) then (slices_Equal_string_string.l0 k l0 l1 (l0.length : Int) 0) else (some false)) = some r := h;clear h;by_cases c3 : (l0.length : Int) = (l1.length : Int)
 ·rw [if_pos c3] at H;have c3b0 := eT c3;have c3b1 := eF c3;have c3b2 : (l0.length == l1.length) = true := by first | simpa using c3 | (simp at c3 ⊢; omega)
  clear c3;have H' := am H;clear H;go_enter Tryd.func31, Tryd.ntmps31;go_wp2
  repeat (go_quiet (fail); try go_wp2)
  go_loopg [13] k (fun kq aI w' => ∃ (aJ : Int), aI = .int .i64 aJ ∧ Aside0 (slices_Equal_string_string.l0 kq l0 l1 (l0.length : Int) aJ = some r) ∧ Aside0 (kq ≤ k) ∧ Drawn0 w w')
  case atStart => exact ⟨(0), X4, H', ⟨Nat.le_refl _⟩, X5⟩
  case round =>
   clear H';(try clear c1);(try clear p2);(try clear c3);(try clear c3b0);(try clear c3b1);(try clear c3b2);obtain ⟨aJ, rfl, HA, aK, ⟨m1, rfl⟩⟩ := hrel;cases gk with
   | zero => exact absurd HA.out (by simp [slices_Equal_string_string.l0])
   | succ k1 =>
    have H := HA.out;clear HA;simp only [slices_Equal_string_string.l0] at H;by_cases c4 : aJ < (l0.length : Int)
    ·rw [if_pos c4] at H;have c4b0 := dT c4;clear c4;by_cases c5 : 0 ≤ aJ
     ·rw [if_pos c5] at H;have c5b0 := dT c5;clear c5;by_cases c6 : aJ < (l0.length : Int)
      ·rw [if_pos c6] at H;have c6b0 := dT c6;clear c6;by_cases c7 : aJ < (l1.length : Int)
       ·rw [if_pos c7] at H;have c7b0 := dT c7;clear c7;by_cases c8 : (rdOf ByteArray.empty l0 aJ).toList = (rdOf ByteArray.empty l1 aJ).toList
        ·rw [if_pos c8] at H;have c8b0 := eT c8;have c8b1 := eF c8;clear c8;have H' := am H;clear H;have aM : 0 ≤ (aJ : Int) := of_decide_eq_true X8;have aQ : aJ < (l0.length : Int) := of_decide_eq_true X8;obtain ⟨aT, e754, aU⟩ := Kd.at_string aG.out aJ aM aQ;cases e754;replace aM := eq_true aM;replace aQ := eq_true aQ;have aW : 0 ≤ (aJ : Int) := of_decide_eq_true X8;have aX : aJ < (l1.length : Int) := of_decide_eq_true X8;obtain ⟨aY, e755, aZ⟩ := Kd.at_string aH.out aJ aW aX;cases e755;replace aW := eq_true aW;replace aX := eq_true aX;go_wp2
         repeat (go_quiet (fail); try go_wp2)
         go_roundg k1
         case measure => have := aK.out; omega
         case rel => exact ⟨(wrap64 (aJ + 1)), X4, H', ⟨by have := aK.out; omega⟩, X5⟩
        ·rw [if_neg c8] at H;have c8b0 := nF c8;have c8b1 := nT c8;obtain rfl := Option.some.inj H;have aM : 0 ≤ (aJ : Int) := of_decide_eq_true X8;have aQ : aJ < (l0.length : Int) := of_decide_eq_true X8;obtain ⟨aT, e754, aU⟩ := Kd.at_string aG.out aJ aM aQ;cases e754;replace aM := eq_true aM;replace aQ := eq_true aQ;have aW : 0 ≤ (aJ : Int) := of_decide_eq_true X8;have aX : aJ < (l1.length : Int) := of_decide_eq_true X8;obtain ⟨aY, e755, aZ⟩ := Kd.at_string aH.out aJ aW aX;cases e755;replace aW := eq_true aW;replace aX := eq_true aX;go_wp2
         repeat (go_quiet (fail); try go_wp2)
         go_ret
         exact ⟨X4, X5⟩
       ·exact iN c7 H
      ·exact iN c6 H
     ·exact iN c5 H
    ·rw [if_neg c4] at H;have c4b0 := dF c4;clear c4;obtain rfl := Option.some.inj H;go_wp2
     repeat (go_quiet (fail); try go_wp2)
     go_ret
     exact ⟨X4, X5⟩
 ·rw [if_neg c3] at H;have c3b0 := nF c3;have c3b1 := nT c3;have c3b2 : (l0.length == l1.length) = false := by first | simpa using c3 | (simp at c3 ⊢; omega)
  obtain rfl := Option.some.inj H;go_enter Tryd.func31, Tryd.ntmps31;go_wp2
  repeat (go_quiet (fail); try go_wp2)
  go_ret
  exact ⟨X4, X5⟩

end Go.Proofs.YtmffocankommaaaDoor.Z
