/- Walks of functions of the program: what each computes, as a function in Lean (printed by a program of this session's, then shortened by another). The condition is that the Lean function gives a value. -/
import Derived.Test.YtmffocankommaaaDoorMYZed
import Derived.Test.YtmffocankommaaaDoorMx0
namespace Go.Proofs.YtmffocankommaaaDoor.P
open Go.RowKit Go.Proofs.YtmffocankommaaaDoorW.PrintWords Go.Proofs.YtmffocankommaaaDoorW.PrintLast Go.Proofs.YtmffocankommaaaDoorW.PrintMore Go.Proofs.YtmffocankommaaaDoorY Go.Proofs.YtmffocankommaaaDoorS
attribute [local go_sem] cell_twice max2_int min2_int max_two min_two max_three min_three max_four min_four
set_option linter.unusedVariables false
set_option linter.unusedSimpArgs false

mutual
def ancepsref22_left.l0 : Nat → Int → Int → Int → ByteArray → Int → List (S25) → Option (Int)
 | 0, _, _, _, _, _, _ => none
 | k + 1, x1, x5, aA, aC, aD, aE => if x5 < (aE.length : Int) then (if x1 ≥ 0 then (if 0 ≤ x5 then ((ancepsref22_left.f k ((rd_T25 aE x5).f0) ((rd_T25 aE x5).f1) ((rd_T25 aE x5).f2) ((rd_T25 aE x5).f3) x1).bind fun aG => (ancepsref22_left.l0 k aG (wrap64 (x5 + 1)) aA aC aD aE)) else (none)) else (some x1)) else (some x1)
def ancepsref22_left.f : Nat → Int → ByteArray → Int → List (S25) → Int → Option (Int)
 | 0, _, _, _, _, _ => none
 | k + 1, aA, aC, aD, aE, a1 => ancepsref22_left.l0 k (wrap64 ((wrap64 (a1 - 1)) - (wrap64 ((aC.size : Int) / 40)))) 0 aA aC aD aE
end
theorem ancepsref22_left.mono_l : ∀ k, (∀ y0 y1 y2 y3 y4, LeO (ancepsref22_left.f k y0 y1 y2 y3 y4) (ancepsref22_left.f (k + 1) y0 y1 y2 y3 y4)) ∧ (∀ y0 y1 y2 y3 y4 y5, LeO (ancepsref22_left.l0 k y0 y1 y2 y3 y4 y5) (ancepsref22_left.l0 (k + 1) y0 y1 y2 y3 y4 y5))
 | 0 => ⟨fun _ _ _ _ _ r h => by simp [ancepsref22_left.f] at h, fun _ _ _ _ _ _ r h => by simp [ancepsref22_left.l0] at h⟩
 | k + 1 => by
  obtain ⟨aA, aC⟩ := ancepsref22_left.mono_l k;refine ⟨?_, ?_⟩
  ·intro y0 y1 y2 y3 y4;unfold ancepsref22_left.f;exact X53
  ·intro y0 y1 y2 y3 y4 y5;unfold ancepsref22_left.l0;exact X53
theorem ancepsref22_left.mono : ∀ a0 a1 a2 a3 a4 k, LeO (ancepsref22_left.f k a0 a1 a2 a3 a4) (ancepsref22_left.f (k + 1) a0 a1 a2 a3 a4) := by
 intro a0 a1 a2 a3 a4 k;obtain ⟨aA, ih1⟩ := ancepsref22_left.mono_l k;exact aA a0 a1 a2 a3 a4
set_option maxHeartbeats 8000000 in
set_option maxRecDepth 100000 in
theorem ancepsref22_left.calls (k : Nat) : ∀ (aA : Int) (aC : ByteArray) (aD : Int) (aE : Option Addr) (aG : Nat) (aH : List (S25)) (a1 : Int) (r : Int) (w : World) (aI : Kd.C k25 w aE aH.length aH) (aJ : aH.length ≤ aG) (h : ancepsref22_left.f k aA aC aD aH a1 = some r),
  Calls Tryd.prog 62 #[.agg #[.int .i64 aA, .string aC, .int .i64 aD, .slice aE aH.length aG], .int .i64 a1] w fun e w' => e = .returned (.int .i64 r) ∧ Below w.heap.size w w' := by
 induction k using Nat.strongRecOn with
 | _ k ih =>
 intro aA aC aD aE aG aH a1 r w aI aJ h;cases k with
 | zero => exact absurd h (by simp [ancepsref22_left.f])
 | succ k =>
 simp only [ancepsref22_left.f] at h;have hu25 := Tryd.underlying25;have aK := am aI;have HC0_3 := am aJ;clear aI aJ;have HB := am (Below.refl w.heap.size w);have H : (ancepsref22_left.l0 k (wrap64 ((wrap64 (a1 - 1)) - (wrap64 ((aC.size : Int) / 40)))) 0 aA aC aD aH) = some r := h;clear h;have H' := am H;clear H;go_enter Tryd.func62, Tryd.ntmps62;go_wp2_with (first | ((with_reducible refine gd 2 ?_); refine be 2 #[.int .i64 aA, .string aC, .int .i64 aD, .slice aE aH.length aG] 25 ?_; intro aM hg w3 hbox hb; have aQ := am (hbox); have GW628 := sG (w := w) hg X35; have aT := sG (w := w) hg X35; replace HB := bS X35 hb; clear hb hbox hg; have Z4 := bc4 aQ))
 go_loopg [1, 5] k (fun kq v1 v5 w' => ∃ (aU : Int) (aW : Int), v1 = .int .i64 aU ∧ v5 = .int .i64 aW ∧ Aside0 (ancepsref22_left.l0 kq aU aW aA aC aD aH = some r) ∧ Aside0 (kq ≤ k) ∧ Aside0 (w'.heap[aM]? = some (.cells #[.int .i64 aA, .string aC, .int .i64 aD, (.slice aE aH.length aG)] 25 (0, 0))) ∧ Aside0 (Below w.heap.size w w'))
 case atStart => exact ⟨(wrap64 ((wrap64 (a1 - 1)) - (wrap64 ((aC.size : Int) / 40)))), (0), X6, X6, H', ⟨Nat.le_refl _⟩, ⟨X58⟩, ⟨X59⟩⟩
 case round =>
  clear H';(try clear p2);(try clear Z4);obtain ⟨aU, aW, rfl, rfl, HA, aX, aQ, HB⟩ := hrel;cases gk with
  | zero => exact absurd HA.out (by simp [ancepsref22_left.l0])
  | succ k1 =>
   have H := HA.out;clear HA;simp only [ancepsref22_left.l0] at H;by_cases c5 : aW < (aH.length : Int)
   ·rw [if_pos c5] at H;have c5b0 := dT c5;clear c5;by_cases c6 : aU ≥ 0
    ·rw [if_pos c6] at H;have c6b0 : decide (0 ≤ aU) = true := decide_eq_true c6;clear c6;by_cases c7 : 0 ≤ aW
     ·rw [if_pos c7] at H;have c7b0 := dT c7;clear c7;replace H := Option.bind_eq_some_iff.mp H;obtain ⟨aY, aZ, H⟩ := H;replace H : (ancepsref22_left.l0 k1 aY (wrap64 (aW + 1)) aA aC aD aH) = some r := H;have A8 := am aZ;clear aZ;have H' := am H;clear H;have Z9 := bc4 aQ;have bA : 0 ≤ (aW : Int) := of_decide_eq_true X8;have bB : aW < (aH.length : Int) := of_decide_eq_true X8;obtain ⟨ad629, bC, bD, e629, bE, bF, bG, bH, bI, bJ⟩ := at_T25 aK.out aW bA bB;cases e629;replace bE := cB HB bE;replace bF := cB HB bF;replace bG := cB HB bG;replace bH := cB HB bH;have bK := am bJ;have bL := am bI;clear bJ bI;replace bA := eq_true bA;replace bB := eq_true bB;go_wp2_with (first | ((with_reducible refine gc 62 ?_); refine gL (some 30) Tryd.func62 #[.agg #[.int .i64 ((rd_T25 aH aW).f0), .string ((rd_T25 aH aW).f1), .int .i64 ((rd_T25 aH aW).f2), .slice bC ((rd_T25 aH aW).f3).length bD], .int .i64 aU] ?_; (with_reducible refine (ih k1 (by have := aX.out; omega) ((rd_T25 aH aW).f0) ((rd_T25 aH aW).f1) ((rd_T25 aH aW).f2) _ _ ((rd_T25 aH aW).f3) aU aY _ ?side1 ?side2 A8.out).mono ?_); (case side1 => repeat (first | exact (Kd.C_below bK.out HB.out) | (with_reducible refine Kd.C_alloc ?_ _) | (with_reducible refine Kd.C_drewN ?_ _) | (with_reducible refine Kd.C_drew ?_))); (case side2 => exact bL.out); rintro e w10 ⟨rfl, hb⟩; refine ⟨_, rfl, ?_⟩; replace aQ := kB aQ hb; replace HB := bS X59 hb; (try clear hb); (try clear hb2); (try clear hk); (try clear hi)))
      go_roundg k1
      case measure => have := aX.out; omega
      case rel => exact ⟨(aY), (wrap64 (aW + 1)), X6, X6, H', ⟨by have := aX.out; omega⟩, ⟨X58⟩, ⟨X59⟩⟩
     ·exact iN c7 H
    ·rw [if_neg c6] at H;have c6b0 : decide (0 ≤ aU) = false := decide_eq_false c6;clear c6;obtain rfl := Option.some.inj H;have Z11 := bc4 aQ;go_wp2
     go_ret
     exact ⟨X54, X59⟩
   ·rw [if_neg c5] at H;have c5b0 := dF c5;clear c5;obtain rfl := Option.some.inj H;have Z12 := bc4 aQ;go_wp2
    go_ret
    exact ⟨X54, X59⟩

end Go.Proofs.YtmffocankommaaaDoor.P
