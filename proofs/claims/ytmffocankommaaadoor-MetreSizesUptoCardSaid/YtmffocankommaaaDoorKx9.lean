/- Walks of functions of the program: what each computes, as a function in Lean (printed by a program of this session's, then shortened by another). The condition is that the Lean function gives a value. -/
import Derived.Test.YtmffocankommaaaDoorKYZed
import Derived.Test.YtmffocankommaaaDoorKx0
namespace Go.Proofs.YtmffocankommaaaDoor.Z
open Go.RowKit Go.Proofs.YtmffocankommaaaDoorW.PrintWords Go.Proofs.YtmffocankommaaaDoorW.PrintLast Go.Proofs.YtmffocankommaaaDoorW.PrintMore Go.Proofs.YtmffocankommaaaDoorY Go.Proofs.YtmffocankommaaaDoorS Go.Proofs.YtmffocankommaaaDoorS
attribute [local go_sem] cell_twice max2_int min2_int max_two min_two max_three min_three max_four min_four
set_option linter.unusedVariables false
set_option linter.unusedSimpArgs false

def slices_Index_string_string.l0 : Nat → List ByteArray → ByteArray → Int → Int → Option (Int)
 | 0, _, _, _, _ => none
 | k + 1, x0, x1, x7, x8 => if x8 < x7 then (if 0 ≤ x8 then (if x8 < (x0.length : Int) then (if x1.toList = (rdOf ByteArray.empty x0 x8).toList then (some x8) else (slices_Index_string_string.l0 k x0 x1 x7 (wrap64 (x8 + 1)))) else (none)) else (none)) else (some (-1))
def slices_Index_string_string.f (k : Nat) (l0 : List ByteArray) (a1 : ByteArray) : Option (Int) := slices_Index_string_string.l0 k l0 a1 (l0.length : Int) 0
theorem slices_Index_string_string.mono_l : ∀ k, (∀ y0 y1 y2 y3, LeO (slices_Index_string_string.l0 k y0 y1 y2 y3) (slices_Index_string_string.l0 (k + 1) y0 y1 y2 y3))
 | 0 => fun _ _ _ _ r h => by simp [slices_Index_string_string.l0] at h
 | k + 1 => by
  have aA := slices_Index_string_string.mono_l k
  ·intro y0 y1 y2 y3;unfold slices_Index_string_string.l0;exact X131
theorem slices_Index_string_string.mono : ∀ a0 a1 k, LeO (slices_Index_string_string.f k a0 a1) (slices_Index_string_string.f (k + 1) a0 a1) := by
 intro a0 a1 k;have aA := slices_Index_string_string.mono_l k;unfold slices_Index_string_string.f;exact X131
set_option maxHeartbeats 8000000 in
set_option maxRecDepth 100000 in
theorem slices_Index_string_string.calls (k : Nat) (A0 : Option Addr) (c0 : Nat) (l0 : List ByteArray) (a1 : ByteArray) (r : Int) (w : World) (aA : Kd.C Kd.string w A0 l0.length l0) (aC : l0.length ≤ c0) (h : slices_Index_string_string.f k l0 a1 = some r) :
  Calls Tryd.prog 123 #[.slice A0 l0.length c0, .string a1] w fun e w' => e = .returned (.int .i64 r) ∧ Drawn0 w w' := by
 have aD := am aA;have HC0 := am aC;clear aA aC;have H : (slices_Index_string_string.l0 k l0 a1 (l0.length : Int) 0) = some r := h;clear h;have H' := am H;clear H;go_enter Tryd.func123, Tryd.ntmps123;go_wp2
 go_loopg [8] k (fun kq v8 w' => ∃ (aE : Int), v8 = .int .i64 aE ∧ Aside0 (slices_Index_string_string.l0 kq l0 a1 (l0.length : Int) aE = some r) ∧ Aside0 (kq ≤ k) ∧ Drawn0 w w')
 case atStart => exact ⟨(0), X4, H', ⟨Nat.le_refl _⟩, X5⟩
 case round =>
  clear H';(try clear c1);(try clear p2);obtain ⟨aE, rfl, HA, aG, ⟨m1, rfl⟩⟩ := hrel;cases gk with
  | zero => exact absurd HA.out (by simp [slices_Index_string_string.l0])
  | succ k1 =>
   have H := HA.out;clear HA;simp only [slices_Index_string_string.l0] at H;by_cases c3 : aE < (l0.length : Int)
   ·rw [if_pos c3] at H;have c3b0 := dT c3;clear c3;by_cases c4 : 0 ≤ aE
    ·rw [if_pos c4] at H;have c4b0 := dT c4;clear c4;by_cases c5 : aE < (l0.length : Int)
     ·rw [if_pos c5] at H;have c5b0 := dT c5;clear c5;by_cases c6 : a1.toList = (rdOf ByteArray.empty l0 aE).toList
      ·rw [if_pos c6] at H;have c6b0 := eT c6;have c6b1 := eF c6;clear c6;obtain rfl := Option.some.inj H;have aH : 0 ≤ (aE : Int) := of_decide_eq_true X8;have aI : aE < (l0.length : Int) := of_decide_eq_true X8;obtain ⟨aJ, e370, aK⟩ := Kd.at_string aD.out aE aH aI;cases e370;replace aH := eq_true aH;replace aI := eq_true aI;go_wp2
       go_ret
       exact ⟨X4, X5⟩
      ·rw [if_neg c6] at H;have c6b0 := nF c6;have c6b1 := nT c6;have H' := am H;clear H;have aH : 0 ≤ (aE : Int) := of_decide_eq_true X8;have aI : aE < (l0.length : Int) := of_decide_eq_true X8;obtain ⟨aJ, e370, aK⟩ := Kd.at_string aD.out aE aH aI;cases e370;replace aH := eq_true aH;replace aI := eq_true aI;go_wp2
       go_roundg k1
       case measure => have := aG.out; omega
       case rel => exact ⟨(wrap64 (aE + 1)), X4, H', ⟨by have := aG.out; omega⟩, X5⟩
     ·exact iN c5 H
    ·exact iN c4 H
   ·rw [if_neg c3] at H;have c3b0 := dF c3;clear c3;obtain rfl := Option.some.inj H;go_wp2
    go_ret
    exact ⟨X4, X5⟩

def slices_Contains_string_string.f (k : Nat) (l0 : List ByteArray) (a1 : ByteArray) : Option (Bool) := (slices_Index_string_string.f k l0 a1).bind fun aA => (some (decide (aA ≥ 0)))
theorem slices_Contains_string_string.mono : ∀ a0 a1 k, LeO (slices_Contains_string_string.f k a0 a1) (slices_Contains_string_string.f (k + 1) a0 a1) := by
 intro a0 a1 k;unfold slices_Contains_string_string.f;exact (by repeat' first | (with_reducible exact slices_Index_string_string.mono _ _ _) | (with_reducible exact LeO.refl _) | (with_reducible exact LeO.none _) | (with_reducible refine LeO.ite ?_ ?_) | (with_reducible refine LeO.bind ?_ (fun _ => ?_)) | apply slices_Index_string_string.mono | exact LeO.none _ | refine LeO.ite ?_ ?_ | refine LeO.bind ?_ (fun _ => ?_))
set_option maxHeartbeats 8000000 in
set_option maxRecDepth 100000 in
theorem slices_Contains_string_string.calls (k : Nat) (A0 : Option Addr) (c0 : Nat) (l0 : List ByteArray) (a1 : ByteArray) (r : Bool) (w : World) (aA : Kd.C Kd.string w A0 l0.length l0) (aC : l0.length ≤ c0) (h : slices_Contains_string_string.f k l0 a1 = some r) :
  Calls Tryd.prog 95 #[.slice A0 l0.length c0, .string a1] w fun e w' => e = .returned (.bool r) ∧ Drawn0 w w' := by
 have aD := am aA;have aE := am aC;clear aA aC;have H : ((slices_Index_string_string.f k l0 a1).bind fun aG => (some (decide (aG ≥ 0)))) = some r := h;clear h;replace H := Option.bind_eq_some_iff.mp H;obtain ⟨aG, aH, H⟩ := H;replace H : (some (decide (aG ≥ 0))) = some r := H;have A3 := am aH;clear aH;obtain rfl := Option.some.inj H;go_enter Tryd.func95, Tryd.ntmps95;go_wp2_with (first | ((with_reducible refine gc 123 ?_); refine gL (some 7) Tryd.func123 #[.slice A0 l0.length c0, .string a1] ?_; (with_reducible refine (slices_Index_string_string.calls k _ _ l0 a1 aG _ ?side1 ?side2 A3.out).mono ?_); (case side1 => exact X200); (case side2 => exact aE.out); rintro e w' ⟨rfl, ⟨nd, rfl⟩⟩; refine ⟨_, rfl, ?_⟩))
 go_ret
 exact ⟨X4, X5⟩

end Go.Proofs.YtmffocankommaaaDoor.Z
