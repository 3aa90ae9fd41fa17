/- Printed walks: what each function of the program computes. Condition: the Lean function gives a value. -/
import Derived.Test.YtmffocankommaaaDoorAYZed
import Derived.Test.YtmffocankommaaaDoorAx3
import Derived.Test.YtmffocankommaaaDoorAx16
import Derived.Test.YtmffocankommaaaDoorAx19
import Derived.Test.YtmffocankommaaaDoorAx20
import Derived.Test.YtmffocankommaaaDoorAx21
import Derived.Test.YtmffocankommaaaDoorAx10
namespace Go.Proofs.YtmffocankommaaaDoor.U
open Go.RowKit Go.Proofs.YtmffocankommaaaDoorW.PrintWords Go.Proofs.YtmffocankommaaaDoorW.PrintLast Go.Proofs.YtmffocankommaaaDoorW.PrintMore Go.Proofs.YtmffocankommaaaDoorY Go.Proofs.YtmffocankommaaaDoorS
attribute [local go_sem] q1T q2i q2l q2u q2v q2d q2c q2j q2k
set_option linter.unusedVariables false
set_option maxHeartbeats 8000000
set_option maxRecDepth 100000
set_option linter.unusedSimpArgs false
theorem q0a.group.all (k : Nat) : q0a.Stmt k ∧ q0e.Stmt k := by
 induction k using Nat.strongRecOn with
 | _ k ih =>
 exact ⟨q0a.step k (fun m_ h_ => (ih m_ h_).1) (fun m_ h_ => (ih m_ h_).2), q0e.step k (fun m_ h_ => (ih m_ h_).1) (fun m_ h_ => (ih m_ h_).2)⟩
theorem q0a.calls (k : Nat) : q0a.Stmt k := (q0a.group.all k).1
mutual
def q0T.l0 : Nat → Int → Int → Int → ByteArray → Int → List (S25) → Option (Int)
 | 0, _, _, _, _, _, _ => none
 | k + 1, x3, x4, aA, aC, aD, aE => if x4 < (aE.length : Int) then (if 0 ≤ x4 then ((q0T.f k ((q0v aE x4).f0) ((q0v aE x4).f1) ((q0v aE x4).f2) ((q0v aE x4).f3)).bind fun aG => (q0T.l0 k (wrap64 (x3 + aG)) (wrap64 (x4 + 1)) aA aC aD aE)) else (none)) else (some x3)
def q0T.f : Nat → Int → ByteArray → Int → List (S25) → Option (Int)
 | 0, _, _, _, _ => none
 | k + 1, aA, aC, aD, aE => q0T.l0 k 1 0 aA aC aD aE
end
theorem q0T.mono_l : ∀ k, (∀ y0 y1 y2 y3, LeO (q0T.f k y0 y1 y2 y3) (q0T.f (k + 1) y0 y1 y2 y3)) ∧ (∀ y0 y1 y2 y3 y4 y5, LeO (q0T.l0 k y0 y1 y2 y3 y4 y5) (q0T.l0 (k + 1) y0 y1 y2 y3 y4 y5))
 | 0 => ⟨fun _ _ _ _ r h => by simp [q0T.f] at h, fun _ _ _ _ _ _ r h => by simp [q0T.l0] at h⟩
 | k + 1 => by
  obtain ⟨aA, aC⟩ := q0T.mono_l k;refine ⟨?_, ?_⟩
  ·intro y0 y1 y2 y3;unfold q0T.f;exact X60
  ·intro y0 y1 y2 y3 y4 y5;unfold q0T.l0;exact X60
theorem q0T.mono : ∀ a0 a1 a2 a3 k, LeO (q0T.f k a0 a1 a2 a3) (q0T.f (k + 1) a0 a1 a2 a3) := by
 intro a0 a1 a2 a3 k;obtain ⟨aA, ih1⟩ := q0T.mono_l k;exact aA a0 a1 a2 a3
theorem q0T.calls (k : Nat) : ∀ (aA : Int) (aC : ByteArray) (aD : Int) (aE : Option Addr) (aG : Nat) (aH : List (S25)) (r : Int) (w : World) (aI : Kd.C k25 w aE aH.length aH) (aJ : aH.length ≤ aG) (h : q0T.f k aA aC aD aH = some r),
  Calls Tryd.prog 69 #[.agg #[.int .i64 aA, .string aC, .int .i64 aD, .slice aE aH.length aG]] w fun e w' => e = .returned (.int .i64 r) ∧ Below w.heap.size w w' := by
 induction k using Nat.strongRecOn with
 | _ k ih =>
 intro aA aC aD aE aG aH r w aI aJ h;cases k with
 | zero => exact absurd h (by simp [q0T.f])
 | succ k =>
 simp only [q0T.f] at h;have hu25 := Tryd.underlying25;have aK := am aI;have HC0_3 := am aJ;clear aI aJ;have HB := am (Below.refl w.heap.size w);have H : (q0T.l0 k 1 0 aA aC aD aH) = some r := h;clear h;have H' := am H;clear H;go_enter Tryd.func69, Tryd.ntmps69;go_wp2_with (first | ((with_reducible refine gd 1 ?_); refine be 1 #[.int .i64 aA, .string aC, .int .i64 aD, .slice aE aH.length aG] 25 ?_; intro aM hg w2 hbox hb; have aQ := am (hbox); have GW944 := sG (w := w) hg X13; have aT := sG (w := w) hg X13; replace HB := bS X13 hb; clear hb hbox hg))
 go_loopg [3, 4] k (fun kq v3 v4 w' => ∃ (aU : Int) (aW : Int), v3 = .int .i64 aU ∧ v4 = .int .i64 aW ∧ q0h (q0T.l0 kq aU aW aA aC aD aH = some r) ∧ q0h (kq ≤ k) ∧ q0h (w'.heap[aM]? = some (.cells #[.int .i64 aA, .string aC, .int .i64 aD, (.slice aE aH.length aG)] 25 (0, 0))) ∧ q0h (Below w.heap.size w w'))
 case atStart => exact ⟨(1), (0), X4, X4, H', ⟨Nat.le_refl _⟩, ⟨X62⟩, ⟨X63⟩⟩
 case round =>
  clear H';(try clear p2);obtain ⟨aU, aW, rfl, rfl, HA, aX, aQ, HB⟩ := hrel;cases gk with
  | zero => exact absurd HA.out (by simp [q0T.l0])
  | succ k1 =>
   have H := HA.out;clear HA;simp only [q0T.l0] at H;by_cases c3 : aW < (aH.length : Int)
   ·rw [if_pos c3] at H;have c3b0 := dT c3;clear c3;by_cases c4 : 0 ≤ aW
    ·rw [if_pos c4] at H;have c4b0 := dT c4;clear c4;obtain ⟨aY, aZ, H⟩ := oB H;(try dsimp only at H);have A5 := am aZ;clear aZ;have H' := am H;clear H;have Z6 := bc4 aQ;have bA : 0 ≤ (aW : Int) := of_decide_eq_true X8;have bB : aW < (aH.length : Int) := of_decide_eq_true X8;obtain ⟨ad945, bC, bD, e945, bE, bF, bG, bH, bI, bJ⟩ := q2M aK.out aW bA bB;cases e945;replace bE := cB HB bE;replace bF := cB HB bF;replace bG := cB HB bG;replace bH := cB HB bH;have bK := am bJ;have bL := am bI;clear bJ bI;replace bA := eq_true bA;replace bB := eq_true bB;go_wp2_with (first | ((with_reducible refine gc 69 ?_); refine gL (some 18) Tryd.func69 #[.agg #[.int .i64 ((q0v aH aW).f0), .string ((q0v aH aW).f1), .int .i64 ((q0v aH aW).f2), .slice bC ((q0v aH aW).f3).length bD]] ?_; (with_reducible refine (ih k1 (by have := aX.out; omega) ((q0v aH aW).f0) ((q0v aH aW).f1) ((q0v aH aW).f2) _ _ ((q0v aH aW).f3) aY _ ?side1 ?side2 A5.out).mono ?_); (case side1 => repeat (first | exact (Kd.C_below bK.out HB.out) | (with_reducible refine Kd.C_alloc ?_ _) | (with_reducible refine Kd.C_drewN ?_ _) | (with_reducible refine Kd.C_drew ?_))); (case side2 => exact bL.out); rintro e w7 ⟨rfl, hb⟩; refine ⟨_, rfl, ?_⟩; replace aQ := kB aQ hb; replace HB := bS X63 hb; clear hb))
     go_roundg k1
     case measure => have := aX.out; omega
     case rel => exact ⟨(wrap64 (aU + aY)), (wrap64 (aW + 1)), X4, X4, H', ⟨by have := aX.out; omega⟩, ⟨X62⟩, ⟨X63⟩⟩
    ·exact iN c4 H
   ·rw [if_neg c3] at H;have c3b0 := dF c3;clear c3;obtain rfl := Option.some.inj H;have Z8 := bc4 aQ;go_wp2
    go_ret
    exact ⟨X14, X63⟩

def q1B.f (k : Nat) (a0 : ByteArray) : Option (Bool) := if a0.toList = ([] : List UInt8) then (some false) else (if (a0.size : Int) ≤ 20 then ((q0r.f k a0).bind fun aA => (some (aA == (a0.size : Int)))) else (some false))
theorem q1B.mono : ∀ a0 k, LeO (q1B.f k a0) (q1B.f (k + 1) a0) := by
 intro a0 k;unfold q1B.f;exact (by repeat' first | (with_reducible exact q0r.mono _ _) | (with_reducible exact LeO.refl _) | (with_reducible exact LeO.none _) | (with_reducible refine LeO.ite ?_ ?_) | (with_reducible refine LeO.bind ?_ (fun _ => ?_)) | exact q0r.mono _ _ | exact LeO.none _ | refine LeO.ite ?_ ?_ | refine LeO.bind ?_ (fun _ => ?_))
theorem q1B.calls (k : Nat) (a0 : ByteArray) (r : Bool) (w : World) (h : q1B.f k a0 = some r) :
  Calls Tryd.prog 67 #[.string a0] w fun e w' => e = .returned (.bool r) ∧ q2b w w' := by
 have H := h;clear h;unfold q1B.f at H;by_cases c2 : a0.toList = ([] : List UInt8)
 ·rw [if_pos c2] at H;have c2b0 := eT c2;have c2b1 := eF c2;clear c2;obtain rfl := Option.some.inj H;go_enter Tryd.func67, Tryd.ntmps67;go_wp2
  go_ret
  exact ⟨X4, X5⟩
 ·rw [if_neg c2] at H;have c2b0 := nF c2;have c2b1 := nT c2;by_cases c3 : (a0.size : Int) ≤ 20
  ·rw [if_pos c3] at H;have c3b0 := dT c3;have c3b1 : decide (a0.size ≤ 20) = true := decide_eq_true (by omega);clear c3;obtain ⟨aA, aC, H⟩ := oB H;(try dsimp only at H);have A4 := am aC;clear aC;obtain rfl := Option.some.inj H;go_enter Tryd.func67, Tryd.ntmps67;go_wp2_with (first | (go_at_call 88; (with_reducible refine (q0r.calls k a0 aA _ A4.out).mono ?_); rintro e w' ⟨rfl, ⟨nd, rfl⟩⟩))
   go_ret
   exact ⟨X4, X5⟩
  ·rw [if_neg c3] at H;have c3b0 := dF c3;have c3b1 : decide (a0.size ≤ 20) = false := decide_eq_false (by omega);clear c3;obtain rfl := Option.some.inj H;go_enter Tryd.func67, Tryd.ntmps67;go_wp2
   go_ret
   exact ⟨X4, X5⟩

def q1G.f (k : Nat) (a0 : ByteArray) : Option (Bool) := (q1B.f k a0).bind fun aA => (if aA = true then (if a0.toList = ([117] : List UInt8) then (some false) else (some (a0.toList != ([120] : List UInt8)))) else (some false))
theorem q1G.mono : ∀ a0 k, LeO (q1G.f k a0) (q1G.f (k + 1) a0) := by
 intro a0 k;unfold q1G.f;exact (by repeat' first | (with_reducible exact q1B.mono _ _) | (with_reducible exact LeO.refl _) | (with_reducible exact LeO.none _) | (with_reducible refine LeO.ite ?_ ?_) | (with_reducible refine LeO.bind ?_ (fun _ => ?_)) | exact q1B.mono _ _ | exact LeO.none _ | refine LeO.ite ?_ ?_ | refine LeO.bind ?_ (fun _ => ?_))
theorem q1G.calls (k : Nat) (a0 : ByteArray) (r : Bool) (w : World) (h : q1G.f k a0 = some r) :
  Calls Tryd.prog 68 #[.string a0] w fun e w' => e = .returned (.bool r) ∧ q2b w w' := by
 have H := h;clear h;unfold q1G.f at H;obtain ⟨aA, aC, H⟩ := oB H;(try dsimp only at H);have A2 := am aC;clear aC;by_cases c3 : aA = true
 ·subst c3;replace H := tP H;by_cases c4 : a0.toList = ([117] : List UInt8)
  ·rw [if_pos c4] at H;have c4b0 := eT c4;have c4b1 := eF c4;clear c4;obtain rfl := Option.some.inj H;go_enter Tryd.func68, Tryd.ntmps68;go_wp2_with (first | ((with_reducible refine gc 67 ?_); refine gL (some 4) Tryd.func67 #[.string a0] ?_; (with_reducible refine (q1B.calls k a0 true _ A2.out).mono ?_); rintro e w' ⟨rfl, ⟨nd, rfl⟩⟩; refine ⟨_, rfl, ?_⟩))
   go_ret
   exact ⟨X4, X5⟩
  ·rw [if_neg c4] at H;have c4b0 := nF c4;have c4b1 := nT c4;obtain rfl := Option.some.inj H;go_enter Tryd.func68, Tryd.ntmps68;go_wp2_with (first | ((with_reducible refine gc 67 ?_); refine gL (some 4) Tryd.func67 #[.string a0] ?_; (with_reducible refine (q1B.calls k a0 true _ A2.out).mono ?_); rintro e w' ⟨rfl, ⟨nd, rfl⟩⟩; refine ⟨_, rfl, ?_⟩))
   go_ret
   exact ⟨X4, X5⟩
 ·replace c3 := Bool.eq_false_iff.mpr c3;subst c3;replace H := tN H;obtain rfl := Option.some.inj H;go_enter Tryd.func68, Tryd.ntmps68;go_wp2_with (first | ((with_reducible refine gc 67 ?_); refine gL (some 4) Tryd.func67 #[.string a0] ?_; (with_reducible refine (q1B.calls k a0 false _ A2.out).mono ?_); rintro e w' ⟨rfl, ⟨nd, rfl⟩⟩; refine ⟨_, rfl, ?_⟩))
  go_ret
  exact ⟨X4, X5⟩
mutual
def q0s.j0 : Nat → Bool → Int → ByteArray → Int → List (S25) → Option (Bool)
 | 0, _, _, _, _, _ => none
 | k + 1, x3, aA, aC, aD, aE => if aA < 1 then (q0s.j1 k true aA aC aD aE) else (if aA > 12 then (q0s.j1 k true aA aC aD aE) else (if x3 = true then (if aA = 7 then (q0s.j1 k false aA aC aD aE) else (q0s.j1 k (aD != 0) aA aC aD aE)) else (if aC.toList = ([] : List UInt8) then (if aA = 7 then (q0s.j1 k false aA aC aD aE) else (q0s.j1 k (aD != 0) aA aC aD aE)) else (q0s.j1 k true aA aC aD aE))))
def q0s.j1 : Nat → Bool → Int → ByteArray → Int → List (S25) → Option (Bool)
 | 0, _, _, _, _, _ => none
 | k + 1, aA, aC, aD, aE, aG => if aA = true then (some false) else (if aC = 5 then (q0s.l0 k 0 aC aD aE aG) else (if aC = 6 then (some (decide ((aG.length : Int) ≥ 2))) else (if aC = 7 then (some ((aG.length : Int) == 1)) else (if aC = 8 then (some ((aG.length : Int) == 1)) else (if aC = 12 then (some ((aG.length : Int) == 1)) else (some ((aG.length : Int) == 0)))))))
def q0s.l0 : Nat → Int → Int → ByteArray → Int → List (S25) → Option (Bool)
 | 0, _, _, _, _, _ => none
 | k + 1, x4, aA, aC, aD, aE => if x4 < (aE.length : Int) then (if 0 ≤ x4 then (if ((q0v aE x4).f0) = 5 then (some false) else (q0s.l0 k (wrap64 (x4 + 1)) aA aC aD aE)) else (none)) else (some ((aE.length : Int) != 1))
end
def q0s.f (k : Nat) (aA : Int) (aC : ByteArray) (aD : Int) (aE : List (S25)) : Option (Bool) := if aA = 4 then (q0s.j0 k true aA aC aD aE) else (if aA = 11 then (q0s.j0 k true aA aC aD aE) else (q0s.j0 k (aA == 12) aA aC aD aE))
theorem q0s.mono_l : ∀ k, (∀ y0 y1 y2 y3 y4, LeO (q0s.j0 k y0 y1 y2 y3 y4) (q0s.j0 (k + 1) y0 y1 y2 y3 y4)) ∧ (∀ y0 y1 y2 y3 y4, LeO (q0s.j1 k y0 y1 y2 y3 y4) (q0s.j1 (k + 1) y0 y1 y2 y3 y4)) ∧ (∀ y0 y1 y2 y3 y4, LeO (q0s.l0 k y0 y1 y2 y3 y4) (q0s.l0 (k + 1) y0 y1 y2 y3 y4))
 | 0 => ⟨fun _ _ _ _ _ r h => by simp [q0s.j0] at h, fun _ _ _ _ _ r h => by simp [q0s.j1] at h, fun _ _ _ _ _ r h => by simp [q0s.l0] at h⟩
 | k + 1 => by
  obtain ⟨aA, aC, aD⟩ := q0s.mono_l k;refine ⟨?_, ?_, ?_⟩
  ·intro y0 y1 y2 y3 y4;unfold q0s.j0;exact X142
  ·intro y0 y1 y2 y3 y4;unfold q0s.j1;exact X142
  ·intro y0 y1 y2 y3 y4;unfold q0s.l0;exact X142
theorem q0s.mono : ∀ a0 a1 a2 a3 k, LeO (q0s.f k a0 a1 a2 a3) (q0s.f (k + 1) a0 a1 a2 a3) := by
 intro a0 a1 a2 a3 k;obtain ⟨aA, aC, aD⟩ := q0s.mono_l k;unfold q0s.f;exact X142
theorem q0s.calls (k : Nat) (aA : Int) (aC : ByteArray) (aD : Int) (aE : Option Addr) (aG : Nat) (aH : List (S25)) (r : Bool) (w : World) (aI : Kd.C k25 w aE aH.length aH) (aJ : aH.length ≤ aG) (h : q0s.f k aA aC aD aH = some r) :
  Calls Tryd.prog 119 #[.agg #[.int .i64 aA, .string aC, .int .i64 aD, .slice aE aH.length aG]] w fun e w' => e = .returned (.bool r) ∧ Below w.heap.size w w' := by
 have hu25 := Tryd.underlying25;have aK := am aI;have HC0_3 := am aJ;clear aI aJ;have HB := am (Below.refl w.heap.size w);have H := h;clear h;unfold q0s.f at H;have aM := am H;clear H;go_enter Tryd.func119, Tryd.ntmps119;go_upto_region 1 with (first | ((with_reducible refine gd 1 ?_); refine be 1 #[.int .i64 aA, .string aC, .int .i64 aD, .slice aE aH.length aG] 25 ?_; intro aQ hg w3 hbox hb; have aT := am (hbox); have GW949 := sG (w := w) hg X13; have aU := sG (w := w) hg X13; replace HB := bS X13 hb; clear hb hbox hg))
 (try simp only [Act.put, List.setIfInBounds_toArray, List.set_cons_zero, List.set_cons_succ]);go_cut [3] (fun v3 wc => ∃ (kq : Nat) (aW : Bool), v3 = .bool aW ∧ q0h (q0s.j0 kq aW aA aC aD aH = some r) ∧ q0h (kq ≤ k) ∧ q0h (wc.heap[aQ]? = some (.cells #[.int .i64 aA, .string aC, .int .i64 aD, (.slice aE aH.length aG)] 25 (0, 0))) ∧ q0h (Below w.heap.size w wc))
 case first =>
  have H := aM.out;clear aM;by_cases c4 : aA = 4
  ·rw [if_pos c4] at H;have c4b0 := eT c4;have c4b1 := eF c4;clear c4;(first | rw [c4b0] | (simp only [q2x, q2G]; rw [c4b0]) | skip);have H' := am H;clear H;have Z5 := bc4 aT;go_wp2
   go_meet
   case rel => exact ⟨_, (true), X4, H', ⟨X7⟩, ⟨X20⟩, ⟨X143⟩⟩
  ·rw [if_neg c4] at H;have c4b0 := nF c4;have c4b1 := nT c4;(first | rw [c4b0] | (simp only [q2x, q2G]; rw [c4b0]) | skip);by_cases c6 : aA = 11
   ·rw [if_pos c6] at H;have c6b0 := eT c6;have c6b1 := eF c6;clear c6;have H' := am H;clear H;have Z7 := bc4 aT;go_wp2
    go_meet
    case rel => exact ⟨_, (true), X4, H', ⟨X7⟩, ⟨X20⟩, ⟨X143⟩⟩
   ·rw [if_neg c6] at H;have c6b0 := nF c6;have c6b1 := nT c6;have H' := am H;clear H;have Z8 := bc4 aT;go_wp2
    go_meet
    case rel => exact ⟨_, ((aA == 12)), X4, H', ⟨X7⟩, ⟨X20⟩, ⟨X143⟩⟩
 case rest =>
  clear aM;(try clear c1);(try clear p2);(try clear c4);(try clear c4b0);(try clear c4b1);(try clear c6);(try clear c6b0);(try clear c6b1);(try clear Z5);(try clear Z7);(try clear Z8);obtain ⟨kq, aW, rfl, HA, aX, aT, HB⟩ := hcut;cases kq with
  | zero => exact absurd HA.out (by simp [q0s.j0])
  | succ aY =>
   have H := HA.out;clear HA;simp only [q0s.j0] at H;have aZ := am H;clear H;go_upto_region 2 with (fail)
   go_cut [44] (fun bA wc => ∃ (kq : Nat) (bB : Bool), bA = .bool bB ∧ q0h (q0s.j1 kq bB aA aC aD aH = some r) ∧ q0h (kq ≤ aY) ∧ q0h (wc.heap[aQ]? = some (.cells #[.int .i64 aA, .string aC, .int .i64 aD, (.slice aE aH.length aG)] 25 (0, 0))) ∧ q0h (Below w.heap.size w wc))
   case first =>
    have H := aZ.out;clear aZ;by_cases c10 : aA < 1
    ·rw [if_pos c10] at H;have c10b0 := dT c10;clear c10;(first | rw [c10b0] | (simp only [q2x, q2G]; rw [c10b0]) | skip);have H' := am H;clear H;have bC := bc4 aT;go_wp2
     go_meet
     case rel => exact ⟨_, (true), X4, H', ⟨X111⟩, ⟨X20⟩, ⟨X143⟩⟩
    ·rw [if_neg c10] at H;have c10b0 := dF c10;clear c10;(first | rw [c10b0] | (simp only [q2x, q2G]; rw [c10b0]) | skip);by_cases bD : aA > 12
     ·rw [if_pos bD] at H;have c12b0 : decide (12 < aA) = true := decide_eq_true bD;clear bD;have H' := am H;clear H;have bE := bc4 aT;go_wp2
      go_meet
      case rel => exact ⟨_, (true), X4, H', ⟨X111⟩, ⟨X20⟩, ⟨X143⟩⟩
     ·rw [if_neg bD] at H;have c12b0 : decide (12 < aA) = false := decide_eq_false bD;clear bD;by_cases bF : aW = true
      ·subst bF;replace H := tP H;by_cases bG : aA = 7
       ·rw [if_pos bG] at H;have c15b0 := eT bG;have c15b1 := eF bG;clear bG;have H' := am H;clear H;have bH := bc4 aT;go_wp2
        go_meet
        case rel => exact ⟨_, (false), X4, H', ⟨X111⟩, ⟨X20⟩, ⟨X143⟩⟩
       ·rw [if_neg bG] at H;have c15b0 := nF bG;have c15b1 := nT bG;have H' := am H;clear H;have bI := bc4 aT;go_wp2
        go_meet
        case rel => exact ⟨_, ((aD != 0)), X4, H', ⟨X111⟩, ⟨X20⟩, ⟨X143⟩⟩
      ·replace bF := Bool.eq_false_iff.mpr bF;subst bF;replace H := tN H;by_cases bJ : aC.toList = ([] : List UInt8)
       ·rw [if_pos bJ] at H;have c18b0 := eT bJ;have c18b1 := eF bJ;clear bJ;by_cases bK : aA = 7
        ·rw [if_pos bK] at H;have c19b0 := eT bK;have c19b1 := eF bK;clear bK;have H' := am H;clear H;have bL := bc4 aT;go_wp2
         go_meet
         case rel => exact ⟨_, (false), X4, H', ⟨X111⟩, ⟨X20⟩, ⟨X143⟩⟩
        ·rw [if_neg bK] at H;have c19b0 := nF bK;have c19b1 := nT bK;have H' := am H;clear H;have bM := bc4 aT;go_wp2
         go_meet
         case rel => exact ⟨_, ((aD != 0)), X4, H', ⟨X111⟩, ⟨X20⟩, ⟨X143⟩⟩
       ·rw [if_neg bJ] at H;have c18b0 := nF bJ;have c18b1 := nT bJ;have H' := am H;clear H;have bN := bc4 aT;go_wp2
        go_meet
        case rel => exact ⟨_, (true), X4, H', ⟨X111⟩, ⟨X20⟩, ⟨X143⟩⟩
   case rest =>
    clear aZ;(try clear c1);(try clear p2 p2);(try clear c4);(try clear c4b0);(try clear c4b1);(try clear c6);(try clear c6b0);(try clear c6b1);(try clear c10);(try clear c10b0);(try clear bO);(try clear bD);(try clear c12b0);(try clear bF);(try clear bG);(try clear c15b0);(try clear c15b1);(try clear bJ);(try clear c18b0);(try clear c18b1);(try clear bK);(try clear c19b0);(try clear c19b1);(try clear bC);(try clear bE);(try clear bH);(try clear bI);(try clear bL);(try clear bM);(try clear bN);(try clear Z5);(try clear Z7);(try clear Z8);obtain ⟨kq, bB, rfl, HA, bP, aT, HB⟩ := hcut;cases kq with
    | zero => exact absurd HA.out (by simp [q0s.j1])
    | succ bQ =>
     have H := HA.out;clear HA;simp only [q0s.j1] at H;by_cases bR : bB = true
     ·subst bR;replace H := tP H;obtain rfl := Option.some.inj H;go_wp2
      go_ret
      exact ⟨X14, X143⟩
     ·replace bR := Bool.eq_false_iff.mpr bR;subst bR;replace H := tN H;by_cases bT : aA = 5
      ·rw [if_pos bT] at H;have c24b0 := eT bT;have c24b1 := eF bT;clear bT;have H' := am H;clear H;have bU := bc4 aT;go_wp2
       go_loopg [4] bQ (fun kq v4 w' => ∃ (bV : Int), v4 = .int .i64 bV ∧ q0h (q0s.l0 kq bV aA aC aD aH = some r) ∧ q0h (kq ≤ bQ) ∧ q0h (w'.heap[aQ]? = some (.cells #[.int .i64 aA, .string aC, .int .i64 aD, (.slice aE aH.length aG)] 25 (0, 0))) ∧ q0h (Below w.heap.size w w'))
       case atStart => exact ⟨(0), X4, H', ⟨Nat.le_refl _⟩, ⟨X20⟩, ⟨X143⟩⟩
       case round =>
        clear H';(try clear c1);(try clear c2);(try clear p2 p2);(try clear c4);(try clear c4b0);(try clear c4b1);(try clear c6);(try clear c6b0);(try clear c6b1);(try clear c10);(try clear c10b0);(try clear bO);(try clear bD);(try clear c12b0);(try clear bF);(try clear bG);(try clear c15b0);(try clear c15b1);(try clear bJ);(try clear c18b0);(try clear c18b1);(try clear bK);(try clear c19b0);(try clear c19b1);(try clear bR);(try clear bT);(try clear c24b0);(try clear c24b1);(try clear bC);(try clear bE);(try clear bH);(try clear bI);(try clear bL);(try clear bM);(try clear bN);(try clear bU);(try clear Z5);(try clear Z7);(try clear Z8);obtain ⟨bV, rfl, HA, bW, aT, HB⟩ := hrel;cases gk with
        | zero => exact absurd HA.out (by simp [q0s.l0])
        | succ k3 =>
         have H := HA.out;clear HA;simp only [q0s.l0] at H;by_cases bX : bV < (aH.length : Int)
         ·rw [if_pos bX] at H;have c26b0 := dT bX;clear bX;by_cases bY : 0 ≤ bV
          ·rw [if_pos bY] at H;have c27b0 := dT bY;clear bY;by_cases bZ : ((q0v aH bV).f0) = 5
           ·rw [if_pos bZ] at H;have c28b0 := eT bZ;have c28b1 := eF bZ;clear bZ;obtain rfl := Option.some.inj H;have Z29 := bc4 aT;have cA : 0 ≤ (bV : Int) := of_decide_eq_true X8;have cC : bV < (aH.length : Int) := of_decide_eq_true X8;obtain ⟨cD, cE, cF, e950, cG, cH, cI, cJ, cK, cL⟩ := q2M aK.out bV cA cC;cases e950;replace cG := cB HB cG;replace cH := cB HB cH;replace cI := cB HB cI;replace cJ := cB HB cJ;have cM := am cL;have cN := am cK;clear cL cK;replace cA := eq_true cA;replace cC := eq_true cC;go_wp2
            go_ret
            exact ⟨X14, X143⟩
           ·rw [if_neg bZ] at H;have c28b0 := nF bZ;have c28b1 := nT bZ;have H' := am H;clear H;have Z30 := bc4 aT;have cA : 0 ≤ (bV : Int) := of_decide_eq_true X8;have cC : bV < (aH.length : Int) := of_decide_eq_true X8;obtain ⟨cD, cE, cF, e950, cG, cH, cI, cJ, cK, cL⟩ := q2M aK.out bV cA cC;cases e950;replace cG := cB HB cG;replace cH := cB HB cH;replace cI := cB HB cI;replace cJ := cB HB cJ;have cM := am cL;have cN := am cK;clear cL cK;replace cA := eq_true cA;replace cC := eq_true cC;go_wp2
            go_roundg k3
            case measure => have := aX.out; have := bP.out; have := bW.out; omega
            case rel => exact ⟨(wrap64 (bV + 1)), X4, H', ⟨by have := aX.out; have := bP.out; have := bW.out; omega⟩, ⟨X20⟩, ⟨X143⟩⟩
          ·exact iN bY H
         ·rw [if_neg bX] at H;have c26b0 := dF bX;clear bX;obtain rfl := Option.some.inj H;have Z31 := bc4 aT;go_wp2
          go_ret
          exact ⟨X14, X143⟩
      ·rw [if_neg bT] at H;have c24b0 := nF bT;have c24b1 := nT bT;by_cases cO : aA = 6
       ·rw [if_pos cO] at H;have c32b0 := eT cO;have c32b1 := eF cO;clear cO;obtain rfl := Option.some.inj H;have Z33 := bc4 aT;go_wp2
        go_ret
        exact ⟨X14, X143⟩
       ·rw [if_neg cO] at H;have c32b0 := nF cO;have c32b1 := nT cO;by_cases cP : aA = 7
        ·rw [if_pos cP] at H;have c34b0 := eT cP;have c34b1 := eF cP;clear cP;obtain rfl := Option.some.inj H;have Z35 := bc4 aT;go_wp2
         go_ret
         exact ⟨X14, X143⟩
        ·rw [if_neg cP] at H;have c34b0 := nF cP;have c34b1 := nT cP;by_cases cQ : aA = 8
         ·rw [if_pos cQ] at H;have c36b0 := eT cQ;have c36b1 := eF cQ;clear cQ;obtain rfl := Option.some.inj H;have Z37 := bc4 aT;go_wp2
          go_ret
          exact ⟨X14, X143⟩
         ·rw [if_neg cQ] at H;have c36b0 := nF cQ;have c36b1 := nT cQ;by_cases cR : aA = 12
          ·rw [if_pos cR] at H;have c38b0 := eT cR;have c38b1 := eF cR;clear cR;obtain rfl := Option.some.inj H;have Z39 := bc4 aT;go_wp2
           go_ret
           exact ⟨X14, X143⟩
          ·rw [if_neg cR] at H;have c38b0 := nF cR;have c38b1 := nT cR;obtain rfl := Option.some.inj H;have Z40 := bc4 aT;go_wp2
           go_ret
           exact ⟨X14, X143⟩
mutual
def q0o.j0 : Nat → Int → Bool → Int → ByteArray → Int → List (S25) → Option (Int)
 | 0, _, _, _, _, _, _ => none
 | k + 1, x1, aA, aC, aD, aE, aG => if aA = true then (some 2) else (if aE < 0 then (q0o.j1 k x1 true aC aD aE aG) else (q0o.j1 k x1 (decide (aE > 9)) aC aD aE aG))
def q0o.j1 : Nat → Int → Bool → Int → ByteArray → Int → List (S25) → Option (Int)
 | 0, _, _, _, _, _, _ => none
 | k + 1, x1, aA, aC, aD, aE, aG => if aA = true then (some 6) else (q0o.l0 k x1 0 aC aD aE aG)
def q0o.l0 : Nat → Int → Int → Int → ByteArray → Int → List (S25) → Option (Int)
 | 0, _, _, _, _, _, _ => none
 | k + 1, x1, x5, aA, aC, aD, aE => if x5 < (aE.length : Int) then (if 0 ≤ x5 then ((q0o.f k ((q0v aE x5).f0) ((q0v aE x5).f1) ((q0v aE x5).f2) ((q0v aE x5).f3) (wrap64 (x1 + 1))).bind fun aG => (if aG = 0 then (q0o.l0 k x1 (wrap64 (x5 + 1)) aA aC aD aE) else (some aG))) else (none)) else (some 0)
def q0o.f : Nat → Int → ByteArray → Int → List (S25) → Int → Option (Int)
 | 0, _, _, _, _, _ => none
 | k + 1, aA, aC, aD, aE, a1 => if a1 > 12 then (some 3) else ((q0s.f k aA aC aD aE).bind fun aG => (if aG = true then (if aA = 4 then ((q1G.f k aC).bind fun aH => (q0o.j0 k a1 (!aH) aA aC aD aE)) else (if aA = 11 then ((q1G.f k aC).bind fun aI => (q0o.j0 k a1 (!aI) aA aC aD aE)) else (if aA = 12 then ((q1G.f k aC).bind fun aJ => (q0o.j0 k a1 (!aJ) aA aC aD aE)) else (q0o.j0 k a1 false aA aC aD aE)))) else (some 1)))
end
theorem q0o.mono_l : ∀ k, (∀ y0 y1 y2 y3 y4, LeO (q0o.f k y0 y1 y2 y3 y4) (q0o.f (k + 1) y0 y1 y2 y3 y4)) ∧ (∀ y0 y1 y2 y3 y4 y5, LeO (q0o.j0 k y0 y1 y2 y3 y4 y5) (q0o.j0 (k + 1) y0 y1 y2 y3 y4 y5)) ∧ (∀ y0 y1 y2 y3 y4 y5, LeO (q0o.j1 k y0 y1 y2 y3 y4 y5) (q0o.j1 (k + 1) y0 y1 y2 y3 y4 y5)) ∧ (∀ y0 y1 y2 y3 y4 y5, LeO (q0o.l0 k y0 y1 y2 y3 y4 y5) (q0o.l0 (k + 1) y0 y1 y2 y3 y4 y5))
 | 0 => ⟨fun _ _ _ _ _ r h => by simp [q0o.f] at h, fun _ _ _ _ _ _ r h => by simp [q0o.j0] at h, fun _ _ _ _ _ _ r h => by simp [q0o.j1] at h, fun _ _ _ _ _ _ r h => by simp [q0o.l0] at h⟩
 | k + 1 => by
  obtain ⟨aA, aC, aD, aE⟩ := q0o.mono_l k;refine ⟨?_, ?_, ?_, ?_⟩
  ·intro y0 y1 y2 y3 y4;unfold q0o.f;exact X144
  ·intro y0 y1 y2 y3 y4 y5;unfold q0o.j0;exact X144
  ·intro y0 y1 y2 y3 y4 y5;unfold q0o.j1;exact X144
  ·intro y0 y1 y2 y3 y4 y5;unfold q0o.l0;exact X144
theorem q0o.mono : ∀ a0 a1 a2 a3 a4 k, LeO (q0o.f k a0 a1 a2 a3 a4) (q0o.f (k + 1) a0 a1 a2 a3 a4) := by
 intro a0 a1 a2 a3 a4 k;obtain ⟨aA, ih1, ih2, ih3⟩ := q0o.mono_l k;exact aA a0 a1 a2 a3 a4
theorem q0o.calls (k : Nat) : ∀ (aA : Int) (aC : ByteArray) (aD : Int) (aE : Option Addr) (aG : Nat) (aH : List (S25)) (a1 : Int) (r : Int) (w : World) (aI : Kd.C k25 w aE aH.length aH) (aJ : aH.length ≤ aG) (h : q0o.f k aA aC aD aH a1 = some r),
  Calls Tryd.prog 87 #[.agg #[.int .i64 aA, .string aC, .int .i64 aD, .slice aE aH.length aG], .int .i64 a1] w fun e w' => e = .returned (.int .i64 r) ∧ Below w.heap.size w w' := by
 induction k using Nat.strongRecOn with
 | _ k ih =>
 intro aA aC aD aE aG aH a1 r w aI aJ h;cases k with
 | zero => exact absurd h (by simp [q0o.f])
 | succ k =>
 simp only [q0o.f] at h;have hu25 := Tryd.underlying25;have aK := am aI;have aM := am aJ;clear aI aJ;have HB := am (Below.refl w.heap.size w);have H : (if a1 > 12 then (some 3) else ((q0s.f k aA aC aD aH).bind fun aQ => (if aQ = true then (if aA = 4 then ((q1G.f k aC).bind fun aT => (q0o.j0 k a1 (!aT) aA aC aD aH)) else (if aA = 11 then ((q1G.f k aC).bind fun aU => (q0o.j0 k a1 (!aU) aA aC aD aH)) else (if aA = 12 then ((q1G.f k aC).bind fun aW => (q0o.j0 k a1 (!aW) aA aC aD aH)) else (q0o.j0 k a1 false aA aC aD aH)))) else (some 1)))) = some r := h;clear h;by_cases c3 : a1 > 12
 ·rw [if_pos c3] at H;have c3b0 : decide (12 < a1) = true := decide_eq_true c3;clear c3;obtain rfl := Option.some.inj H;go_enter Tryd.func87, Tryd.ntmps87;go_wp2_with (first | ((with_reducible refine gd 2 ?_); refine be 2 #[.int .i64 aA, .string aC, .int .i64 aD, .slice aE aH.length aG] 25 ?_; intro aX hg w4 hbox hb; have aY := am (hbox); have aZ := sG (w := w) hg X13; have bA := sG (w := w) hg X13; replace HB := bS X13 hb; clear hb hbox hg))
  go_ret
  exact ⟨X14, X71⟩
 ·rw [if_neg c3] at H;have c3b0 : decide (12 < a1) = false := decide_eq_false c3;clear c3;obtain ⟨aQ, bB, H⟩ := oB H;(try dsimp only at H);have A5 := am bB;clear bB;by_cases c6 : aQ = true
  ·subst c6;replace H := tP H;have bC := am H;clear H;go_enter Tryd.func87, Tryd.ntmps87;go_upto_region 5 with (first | ((with_reducible refine gd 2 ?_); refine be 2 #[.int .i64 aA, .string aC, .int .i64 aD, .slice aE aH.length aG] 25 ?_; intro aX hg w8 hbox hb; have aY := am (hbox); have aZ := sG (w := w) hg X13; have bA := sG (w := w) hg X13; replace HB := bS X13 hb; clear hb hbox hg; have Z9 := bc4 aY) | ((with_reducible refine gc 119 ?_); refine gL (some 10) Tryd.func119 #[.agg #[.int .i64 aA, .string aC, .int .i64 aD, .slice aE aH.length aG]] ?_; (with_reducible refine (q0s.calls k aA aC aD _ _ aH true _ ?side1 ?side2 A5.out).mono ?_); (case side1 => exact X70); (case side2 => exact aM.out); rintro e w10 ⟨rfl, hb⟩; refine ⟨_, rfl, ?_⟩; replace aY := kB aY hb; replace HB := bS X71 hb; clear hb))
   (try simp only [Act.put, List.setIfInBounds_toArray, List.set_cons_zero, List.set_cons_succ]);go_cut [30] (fun bD wc => ∃ (kq : Nat) (bE : Bool), bD = .bool bE ∧ q0h (q0o.j0 kq a1 bE aA aC aD aH = some r) ∧ q0h (kq ≤ k) ∧ q0h (wc.heap[aX]? = some (.cells #[.int .i64 aA, .string aC, .int .i64 aD, (.slice aE aH.length aG)] 25 (0, 0))) ∧ q0h (Below w.heap.size w wc))
   case first =>
    have H := bC.out;clear bC;by_cases bF : aA = 4
    ·rw [if_pos bF] at H;have c11b0 := eT bF;have c11b1 := eF bF;clear bF;(first | rw [c11b0] | (simp only [q2x, q2G]; rw [c11b0]) | skip);obtain ⟨aT, bG, H⟩ := oB H;(try dsimp only at H);have bH := am bG;clear bG;have H' := am H;clear H;have bI := bc4 aY;go_wp2_with (first | (go_at_call 68; (with_reducible refine (q1G.calls k aC aT _ bH.out).mono ?_); rintro e w' ⟨rfl, ⟨nd, rfl⟩⟩))
     go_meet
     case rel => exact ⟨_, (!aT), X4, H', ⟨X7⟩, ⟨X145⟩, ⟨X71⟩⟩
    ·rw [if_neg bF] at H;have c11b0 := nF bF;have c11b1 := nT bF;(first | rw [c11b0] | (simp only [q2x, q2G]; rw [c11b0]) | skip);by_cases bJ : aA = 11
     ·rw [if_pos bJ] at H;have c14b0 := eT bJ;have c14b1 := eF bJ;clear bJ;obtain ⟨aU, bK, H⟩ := oB H;(try dsimp only at H);have bL := am bK;clear bK;have H' := am H;clear H;have bM := bc4 aY;go_wp2_with (first | (go_at_call 68; (with_reducible refine (q1G.calls k aC aU _ bL.out).mono ?_); rintro e w' ⟨rfl, ⟨nd, rfl⟩⟩))
      go_meet
      case rel => exact ⟨_, (!aU), X4, H', ⟨X7⟩, ⟨X145⟩, ⟨X71⟩⟩
     ·rw [if_neg bJ] at H;have c14b0 := nF bJ;have c14b1 := nT bJ;by_cases bN : aA = 12
      ·rw [if_pos bN] at H;have c17b0 := eT bN;have c17b1 := eF bN;clear bN;obtain ⟨aW, bO, H⟩ := oB H;(try dsimp only at H);have bP := am bO;clear bO;have H' := am H;clear H;have bQ := bc4 aY;go_wp2_with (first | (go_at_call 68; (with_reducible refine (q1G.calls k aC aW _ bP.out).mono ?_); rintro e w' ⟨rfl, ⟨nd, rfl⟩⟩))
       go_meet
       case rel => exact ⟨_, (!aW), X4, H', ⟨X7⟩, ⟨X145⟩, ⟨X71⟩⟩
      ·rw [if_neg bN] at H;have c17b0 := nF bN;have c17b1 := nT bN;have H' := am H;clear H;have bR := bc4 aY;go_wp2
       go_meet
       case rel => exact ⟨_, (false), X4, H', ⟨X7⟩, ⟨X145⟩, ⟨X71⟩⟩
   case rest =>
    clear bC;(try clear c1);(try clear p2);(try clear c3);(try clear c3b0);(try clear c6);(try clear c8);(try clear bF);(try clear c11b0);(try clear c11b1);(try clear bJ);(try clear c14b0);(try clear c14b1);(try clear bN);(try clear c17b0);(try clear c17b1);(try clear bI);(try clear bM);(try clear bQ);(try clear bR);(try clear Z9);obtain ⟨kq, bE, rfl, HA, bT, aY, HB⟩ := hcut;cases kq with
    | zero => exact absurd HA.out (by simp [q0o.j0])
    | succ bU =>
     have H := HA.out;clear HA;simp only [q0o.j0] at H;by_cases bV : bE = true
     ·subst bV;replace H := tP H;obtain rfl := Option.some.inj H;go_wp2
      go_ret
      exact ⟨X14, X71⟩
     ·replace bV := Bool.eq_false_iff.mpr bV;subst bV;replace H := tN H;have bW := am H;clear H;go_upto_region 7 with (fail)
      go_cut [38] (fun bX wc => ∃ (kq : Nat) (bY : Bool), bX = .bool bY ∧ q0h (q0o.j1 kq a1 bY aA aC aD aH = some r) ∧ q0h (kq ≤ bU) ∧ q0h (wc.heap[aX]? = some (.cells #[.int .i64 aA, .string aC, .int .i64 aD, (.slice aE aH.length aG)] 25 (0, 0))) ∧ q0h (Below w.heap.size w wc))
      case first =>
       have H := bW.out;clear bW;by_cases bZ : aD < 0
       ·rw [if_pos bZ] at H;have c23b0 := dT bZ;clear bZ;(first | rw [c23b0] | (simp only [q2x, q2G]; rw [c23b0]) | skip);have H' := am H;clear H;have cA := bc4 aY;go_wp2
        go_meet
        case rel => exact ⟨_, (true), X4, H', ⟨by have := bT.out; first | omega | exact Nat.le_refl _⟩, ⟨X145⟩, ⟨X71⟩⟩
       ·rw [if_neg bZ] at H;have c23b0 := dF bZ;clear bZ;(first | rw [c23b0] | (simp only [q2x, q2G]; rw [c23b0]) | skip);have H' := am H;clear H;have cC := bc4 aY;go_wp2
        go_meet
        case rel => exact ⟨_, (decide (aD > 9)), X4, H', ⟨by have := bT.out; first | omega | exact Nat.le_refl _⟩, ⟨X145⟩, ⟨X71⟩⟩
      case rest =>
       clear bW;(try clear c1);(try clear c2);(try clear p2 p2);(try clear c3);(try clear c3b0);(try clear c6);(try clear c8);(try clear bF);(try clear c11b0);(try clear c11b1);(try clear bJ);(try clear c14b0);(try clear c14b1);(try clear bN);(try clear c17b0);(try clear c17b1);(try clear bV);(try clear bZ);(try clear c23b0);(try clear bI);(try clear bM);(try clear bQ);(try clear bR);(try clear cA);(try clear cC);(try clear Z9);obtain ⟨kq, bY, rfl, HA, cD, aY, HB⟩ := hcut;cases kq with
       | zero => exact absurd HA.out (by simp [q0o.j1])
       | succ cE =>
        have H := HA.out;clear HA;simp only [q0o.j1] at H;by_cases cF : bY = true
        ·subst cF;replace H := tP H;obtain rfl := Option.some.inj H;go_wp2
         go_ret
         exact ⟨X14, X71⟩
        ·replace cF := Bool.eq_false_iff.mpr cF;subst cF;replace H := tN H;have H' := am H;clear H;go_wp2
         go_loopg [5] cE (fun kq v5 w' => ∃ (cG : Int), v5 = .int .i64 cG ∧ q0h (q0o.l0 kq a1 cG aA aC aD aH = some r) ∧ q0h (kq ≤ cE) ∧ q0h (w'.heap[aX]? = some (.cells #[.int .i64 aA, .string aC, .int .i64 aD, (.slice aE aH.length aG)] 25 (0, 0))) ∧ q0h (Below w.heap.size w w'))
         case atStart => exact ⟨(0), X4, H', ⟨Nat.le_refl _⟩, ⟨X145⟩, ⟨X71⟩⟩
         case round =>
          clear H';(try clear c1);(try clear c2);(try clear p2 p2);(try clear c3);(try clear c3b0);(try clear c6);(try clear c8);(try clear bF);(try clear c11b0);(try clear c11b1);(try clear bJ);(try clear c14b0);(try clear c14b1);(try clear bN);(try clear c17b0);(try clear c17b1);(try clear bV);(try clear bZ);(try clear c23b0);(try clear cF);(try clear bI);(try clear bM);(try clear bQ);(try clear bR);(try clear cA);(try clear cC);(try clear Z9);obtain ⟨cG, rfl, HA, cH, aY, HB⟩ := hrel;cases gk with
          | zero => exact absurd HA.out (by simp [q0o.l0])
          | succ k3 =>
           have H := HA.out;clear HA;simp only [q0o.l0] at H;by_cases cI : cG < (aH.length : Int)
           ·rw [if_pos cI] at H;have c27b0 := dT cI;clear cI;by_cases cJ : 0 ≤ cG
            ·rw [if_pos cJ] at H;have c28b0 := dT cJ;clear cJ;obtain ⟨cK, cL, H⟩ := oB H;(try dsimp only at H);have cM := am cL;clear cL;by_cases cN : cK = 0
             ·rw [if_pos cN] at H;have c30b0 := eT cN;have c30b1 := eF cN;clear cN;have H' := am H;clear H;have Z31 := bc4 aY;have cO : 0 ≤ (cG : Int) := of_decide_eq_true X8;have cP : cG < (aH.length : Int) := of_decide_eq_true X8;obtain ⟨cQ, cR, cS, e956, cT, cU, cV, cW, cX, cY⟩ := q2M aK.out cG cO cP;cases e956;replace cT := cB HB cT;replace cU := cB HB cU;replace cV := cB HB cV;replace cW := cB HB cW;have cZ := am cY;have dA := am cX;clear cY cX;replace cO := eq_true cO;replace cP := eq_true cP;go_wp2_with (first | ((with_reducible refine gc 87 ?_); refine gL (some 53) Tryd.func87 #[.agg #[.int .i64 ((q0v aH cG).f0), .string ((q0v aH cG).f1), .int .i64 ((q0v aH cG).f2), .slice cR ((q0v aH cG).f3).length cS], .int .i64 (wrap64 (a1 + 1))] ?_; (with_reducible refine (ih k3 X146 ((q0v aH cG).f0) ((q0v aH cG).f1) ((q0v aH cG).f2) _ _ ((q0v aH cG).f3) (wrap64 (a1 + 1)) cK _ ?side1 ?side2 cM.out).mono ?_); (case side1 => exact X147); (case side2 => exact dA.out); rintro e w32 ⟨rfl, hb⟩; refine ⟨_, rfl, ?_⟩; replace aY := kB aY hb; replace HB := bS X71 hb; clear hb))
              go_roundg k3
              case measure => have := bT.out; have := cD.out; have := cH.out; omega
              case rel => exact ⟨(wrap64 (cG + 1)), X4, H', ⟨X146⟩, ⟨X145⟩, ⟨X71⟩⟩
             ·rw [if_neg cN] at H;have c30b0 := nF cN;have c30b1 := nT cN;obtain rfl := Option.some.inj H;have Z33 := bc4 aY;have cO : 0 ≤ (cG : Int) := of_decide_eq_true X8;have cP : cG < (aH.length : Int) := of_decide_eq_true X8;obtain ⟨cQ, cR, cS, e956, cT, cU, cV, cW, cX, cY⟩ := q2M aK.out cG cO cP;cases e956;replace cT := cB HB cT;replace cU := cB HB cU;replace cV := cB HB cV;replace cW := cB HB cW;have cZ := am cY;have dA := am cX;clear cY cX;replace cO := eq_true cO;replace cP := eq_true cP;go_wp2_with (first | ((with_reducible refine gc 87 ?_); refine gL (some 53) Tryd.func87 #[.agg #[.int .i64 ((q0v aH cG).f0), .string ((q0v aH cG).f1), .int .i64 ((q0v aH cG).f2), .slice cR ((q0v aH cG).f3).length cS], .int .i64 (wrap64 (a1 + 1))] ?_; (with_reducible refine (ih k3 X146 ((q0v aH cG).f0) ((q0v aH cG).f1) ((q0v aH cG).f2) _ _ ((q0v aH cG).f3) (wrap64 (a1 + 1)) cK _ ?side1 ?side2 cM.out).mono ?_); (case side1 => exact X147); (case side2 => exact dA.out); rintro e w34 ⟨rfl, hb⟩; refine ⟨_, rfl, ?_⟩; replace aY := kB aY hb; replace HB := bS X71 hb; clear hb))
              go_ret
              exact ⟨X14, X71⟩
            ·exact iN cJ H
           ·rw [if_neg cI] at H;have c27b0 := dF cI;clear cI;obtain rfl := Option.some.inj H;have Z35 := bc4 aY;go_wp2
            go_ret
            exact ⟨X14, X71⟩
  ·replace c6 := Bool.eq_false_iff.mpr c6;subst c6;replace H := tN H;obtain rfl := Option.some.inj H;go_enter Tryd.func87, Tryd.ntmps87;go_wp2_with (first | ((with_reducible refine gd 2 ?_); refine be 2 #[.int .i64 aA, .string aC, .int .i64 aD, .slice aE aH.length aG] 25 ?_; intro aX hg w36 hbox hb; have aY := am (hbox); have aZ := sG (w := w) hg X13; have bA := sG (w := w) hg X13; replace HB := bS X13 hb; clear hb hbox hg; have Z37 := bc4 aY) | ((with_reducible refine gc 119 ?_); refine gL (some 10) Tryd.func119 #[.agg #[.int .i64 aA, .string aC, .int .i64 aD, .slice aE aH.length aG]] ?_; (with_reducible refine (q0s.calls k aA aC aD _ _ aH false _ ?side1 ?side2 A5.out).mono ?_); (case side1 => exact X70); (case side2 => exact aM.out); rintro e w38 ⟨rfl, hb⟩; refine ⟨_, rfl, ?_⟩; replace aY := kB aY hb; replace HB := bS X71 hb; clear hb))
   go_ret
   exact ⟨X14, X71⟩

def q1Y.f (k : Nat) (aA : Int) (aC : ByteArray) (aD : Int) (aE : List (S25)) : Option (Int) := (q0o.f k aA aC aD aE 1).bind fun aG => (if aG = 0 then ((q0T.f k aA aC aD aE).bind fun aH => (if aH > 200 then (some 3) else (some 0))) else (some aG))
theorem q1Y.mono : ∀ a0 a1 a2 a3 k, LeO (q1Y.f k a0 a1 a2 a3) (q1Y.f (k + 1) a0 a1 a2 a3) := by
 intro a0 a1 a2 a3 k;unfold q1Y.f;exact (by repeat' first | (with_reducible apply q0T.mono) | (with_reducible apply q0o.mono) | (with_reducible exact LeO.refl _) | (with_reducible exact LeO.none _) | (with_reducible refine LeO.ite ?_ ?_) | (with_reducible refine LeO.bind ?_ (fun _ => ?_)) | apply q0T.mono | apply q0o.mono | exact LeO.none _ | refine LeO.ite ?_ ?_ | refine LeO.bind ?_ (fun _ => ?_))
theorem q1Y.calls (k : Nat) (aA : Int) (aC : ByteArray) (aD : Int) (aE : Option Addr) (aG : Nat) (aH : List (S25)) (r : Int) (w : World) (aI : Kd.C k25 w aE aH.length aH) (aJ : aH.length ≤ aG) (h : q1Y.f k aA aC aD aH = some r) :
  Calls Tryd.prog 37 #[.agg #[.int .i64 aA, .string aC, .int .i64 aD, .slice aE aH.length aG]] w fun e w' => e = .returned (.int .i64 r) ∧ Below w.heap.size w w' := by
 have hu25 := Tryd.underlying25;have aK := am aI;have aM := am aJ;clear aI aJ;have HB := am (Below.refl w.heap.size w);have H := h;clear h;unfold q1Y.f at H;obtain ⟨aQ, aT, H⟩ := oB H;(try dsimp only at H);have A2 := am aT;clear aT;by_cases c3 : aQ = 0
 ·rw [if_pos c3] at H;have c3b0 := eT c3;have c3b1 := eF c3;clear c3;obtain ⟨aU, aW, H⟩ := oB H;(try dsimp only at H);have A4 := am aW;clear aW;by_cases c5 : aU > 200
  ·rw [if_pos c5] at H;have c5b0 : decide (200 < aU) = true := decide_eq_true c5;clear c5;obtain rfl := Option.some.inj H;go_enter Tryd.func37, Tryd.ntmps37;go_wp2_with (first | ((with_reducible refine gd 1 ?_); refine be 1 #[.int .i64 aA, .string aC, .int .i64 aD, .slice aE aH.length aG] 25 ?_; intro aX hg w6 hbox hb; have aY := am (hbox); have aZ := sG (w := w) hg X13; have bA := sG (w := w) hg X13; replace HB := bS X13 hb; clear hb hbox hg; have Z7 := bc4 aY) | ((with_reducible refine gc 87 ?_); refine gL (some 5) Tryd.func87 #[.agg #[.int .i64 aA, .string aC, .int .i64 aD, .slice aE aH.length aG], .int .i64 1] ?_; (with_reducible refine (q0o.calls k aA aC aD _ _ aH 1 aQ _ ?side1 ?side2 A2.out).mono ?_); (case side1 => exact X70); (case side2 => exact aM.out); rintro e w8 ⟨rfl, hb⟩; refine ⟨_, rfl, ?_⟩; replace aY := kB aY hb; replace HB := bS X71 hb; clear hb; have Z9 := bc4 aY) | ((with_reducible refine gc 69 ?_); refine gL (some 10) Tryd.func69 #[.agg #[.int .i64 aA, .string aC, .int .i64 aD, .slice aE aH.length aG]] ?_; (with_reducible refine (q0T.calls k aA aC aD _ _ aH aU _ ?side1 ?side2 A4.out).mono ?_); (case side1 => exact X70); (case side2 => exact aM.out); rintro e w10 ⟨rfl, hb⟩; refine ⟨_, rfl, ?_⟩; replace aY := kB aY hb; replace HB := bS X71 hb; clear hb))
   go_ret
   exact ⟨X14, X71⟩
  ·rw [if_neg c5] at H;have c5b0 : decide (200 < aU) = false := decide_eq_false c5;clear c5;obtain rfl := Option.some.inj H;go_enter Tryd.func37, Tryd.ntmps37;go_wp2_with (first | ((with_reducible refine gd 1 ?_); refine be 1 #[.int .i64 aA, .string aC, .int .i64 aD, .slice aE aH.length aG] 25 ?_; intro aX hg w11 hbox hb; have aY := am (hbox); have aZ := sG (w := w) hg X13; have bA := sG (w := w) hg X13; replace HB := bS X13 hb; clear hb hbox hg; have Z12 := bc4 aY) | ((with_reducible refine gc 87 ?_); refine gL (some 5) Tryd.func87 #[.agg #[.int .i64 aA, .string aC, .int .i64 aD, .slice aE aH.length aG], .int .i64 1] ?_; (with_reducible refine (q0o.calls k aA aC aD _ _ aH 1 aQ _ ?side1 ?side2 A2.out).mono ?_); (case side1 => exact X70); (case side2 => exact aM.out); rintro e w13 ⟨rfl, hb⟩; refine ⟨_, rfl, ?_⟩; replace aY := kB aY hb; replace HB := bS X71 hb; clear hb; have Z14 := bc4 aY) | ((with_reducible refine gc 69 ?_); refine gL (some 10) Tryd.func69 #[.agg #[.int .i64 aA, .string aC, .int .i64 aD, .slice aE aH.length aG]] ?_; (with_reducible refine (q0T.calls k aA aC aD _ _ aH aU _ ?side1 ?side2 A4.out).mono ?_); (case side1 => exact X70); (case side2 => exact aM.out); rintro e w15 ⟨rfl, hb⟩; refine ⟨_, rfl, ?_⟩; replace aY := kB aY hb; replace HB := bS X71 hb; clear hb))
   go_ret
   exact ⟨X14, X71⟩
 ·rw [if_neg c3] at H;have c3b0 := nF c3;have c3b1 := nT c3;obtain rfl := Option.some.inj H;go_enter Tryd.func37, Tryd.ntmps37;go_wp2_with (first | ((with_reducible refine gd 1 ?_); refine be 1 #[.int .i64 aA, .string aC, .int .i64 aD, .slice aE aH.length aG] 25 ?_; intro aX hg w16 hbox hb; have aY := am (hbox); have aZ := sG (w := w) hg X13; have bA := sG (w := w) hg X13; replace HB := bS X13 hb; clear hb hbox hg; have Z17 := bc4 aY) | ((with_reducible refine gc 87 ?_); refine gL (some 5) Tryd.func87 #[.agg #[.int .i64 aA, .string aC, .int .i64 aD, .slice aE aH.length aG], .int .i64 1] ?_; (with_reducible refine (q0o.calls k aA aC aD _ _ aH 1 aQ _ ?side1 ?side2 A2.out).mono ?_); (case side1 => exact X70); (case side2 => exact aM.out); rintro e w18 ⟨rfl, hb⟩; refine ⟨_, rfl, ?_⟩; replace aY := kB aY hb; replace HB := bS X71 hb; clear hb))
  go_ret
  exact ⟨X14, X71⟩

def q1C.f (k : Nat) (a0 : ByteArray) : Option (Int × ByteArray × Int × (List S25) × Int) := (q0N.f k a0).bind fun t => if t.2.2 = 0 then (q0a.f k t.1 0 false).bind fun s => if s.2.2.2.2.2 = true then some (0, (⟨#[]⟩ : ByteArray), 0, ([] : List S25), 2) else if s.2.2.2.2.1 < (t.1.length : Int) then some (0, (⟨#[]⟩ : ByteArray), 0, ([] : List S25), 2) else (q1Y.f k s.1 s.2.1 s.2.2.1 s.2.2.2.1).bind fun b => if b = 0 then some (s.1, s.2.1, s.2.2.1, s.2.2.2.1, 0) else some (0, (⟨#[]⟩ : ByteArray), 0, ([] : List S25), b)
 else some (0, (⟨#[]⟩ : ByteArray), 0, ([] : List S25), t.2.2)
theorem q1C.mono : ∀ a0 k, LeO (q1C.f k a0) (q1C.f (k + 1) a0) := by
 intro a0 k;unfold q1C.f;exact (by repeat' first | exact q0N.mono _ _ | apply q0a.mono | apply q1Y.mono | exact LeO.refl _ | refine LeO.ite ?_ ?_ | refine LeO.bind ?_ (fun _ => ?_))
theorem q1C.calls (k : Nat) (a0 : ByteArray) (r1 : Int) (r2 : ByteArray) (r3 : Int) (r4 : List S25) (r5 : Int) (w : World) (h : q1C.f k a0 = some (r1, r2, r3, r4, r5)) :
  Calls Tryd.prog 11 #[.string a0] w fun e w' => ∃ aA : Value, e = .returned (.tuple #[.agg #[.int .i64 r1, .string r2, .int .i64 r3, aA], .int .i64 r5]) ∧ Kd.V k25 25 w' w.heap.size (fun k_ => w.heap.size ≤ k_) aA r4 ∧ Below w.heap.size w w' := by
 have hu25 := Tryd.underlying25;have hu70 := Tryd.underlying75;have HB := am (Below.refl w.heap.size w);unfold q1C.f at h;obtain ⟨⟨l, ln, er⟩, aC, h⟩ := Option.bind_eq_some_iff.mp h;have A2 := am aC;clear aC;simp only at h
 by_cases c1 : er = 0
 ·subst c1;rw [if_pos rfl] at h;obtain ⟨⟨s1, s2, s3, s4, s5, s6⟩, aD, h⟩ := Option.bind_eq_some_iff.mp h;have A3 := am aD;clear aD;(try simp only at h);cases s6 with
  | true =>
   rw [if_pos rfl] at h;simp only [Option.some.injEq, Prod.mk.injEq] at h;obtain ⟨rfl, rfl, rfl, rfl, rfl⟩ := h;go_enter Tryd.func11, Tryd.ntmps11;go_wp2_with (first | ((with_reducible refine gd 2 ?_); (try (refine q1c (by rfl) ?_; dsimp only)); refine be 2 #[.int .i64 0, .string ⟨#[]⟩, .int .i64 0, .slice none 0 0] 25 ?_; intro aE hg w1 hbox hb; have aG := am (hbox); have aH := am ((X42 : w.heap.size ≤ aE)); replace HB := bS X13 hb; clear hb hbox hg) | ((with_reducible refine gc 13 ?_); refine gL (some 12) Tryd.func13 #[.string a0] ?_; (with_reducible refine (q0N.calls k a0 l ln _ _ A2.out).mono ?_); rintro e w2 ⟨vt, rfl, ho_, hb⟩; refine ⟨_, rfl, ?_⟩; replace HB := bS X88 hb; replace aG := kBg0 aG hb; clear hb; obtain ⟨At, ct, et⟩ := Kd.R_slice ho_; subst et; have HT := am (Kd.R_reads' ho_).2.2; clear ho_) | ((with_reducible refine gd 22 ?_); (try (refine q1c (by rfl) ?_; dsimp only)); refine be 22 #[.slice At l.length ct, .int .i64 0, .bool false] 75 ?_; intro gp hg w3 hbox hb; have hst_ : ∃ aI : World, q0L aI w3 gp l 0 false ∧ Below aI.heap.size aI w3 := ⟨_, ⟨_, _, hbox, Nat.le_of_eq hg.symm, X44⟩, hb⟩; obtain ⟨w0, hi_, hs_⟩ := hst_; have HI := am (hi_); have HS := am (hs_); have GWp := am ((X148 : w.heap.size ≤ gp)); replace HB := bS X88 hb; have NB2_p := am ((X149 : aE ≠ gp)); have aJ := am ((X150 : gp ≠ aE)); replace aG := kBg0 aG hb; clear hb hbox hg hi_ hs_) | ((with_reducible refine gc 36 ?_); refine gL (some 24) Tryd.func36 #[.pointer (some ⟨gp, 0, none⟩)] ?_; (with_reducible refine (q0a.calls k gp l 0 false s1 s2 s3 s4 s5 _ w0 _ ?side1 ?side2 A3.out).mono ?_); (case side1 => exact X151); (case side2 => exact X152); rintro e w4 ⟨vs, rfl, ho_, hi_, hs_, hk_⟩; refine ⟨_, rfl, ?_⟩; have HVs := am (Kd.V_mono ho_ (ok' := fun k_ => w.heap.size ≤ k_ ∧ k_ ≠ aE ∧ k_ ≠ gp) (fun k_ h_ => ⟨Nat.le_trans (X153 : Below w.heap.size w _).size h_, Nat.ne_of_gt (Nat.lt_of_lt_of_le (q2J (show (_ : World).heap[aE]? = some (.cells #[.int .i64 0, .string ⟨#[]⟩, .int .i64 0, .slice none 0 0] 25 (0, 0)) from X154)) h_), Nat.ne_of_gt (Nat.lt_of_lt_of_le (q0L.lt X151) h_)⟩)); replace HB := am (q2y X153 X152 hs_ hk_ GWp.out); replace HI := am (hi_); replace HS := am (hs_); replace aG := kKg1 aG NB2_p hk_ NB2_p; clear hi_ hs_ hk_ ho_; obtain ⟨Avs, cvs, evs⟩ := Kd.V_slice HVs.out; subst evs) | ((with_reducible refine gd 8 ?_); (try (refine q1c (by rfl) ?_; dsimp only)); refine be 8 #[.int .i64 0, .string ⟨#[]⟩, .int .i64 0, .slice none 0 0] 25 ?_; intro aK hg w5 hbox hb; have aM := am (hbox); have aQ := am ((X155 : w.heap.size ≤ aK)); replace HB := bS X153 hb; have aT := am ((X156 : aE ≠ aK)); have aU := am ((X157 : aK ≠ aE)); replace aG := kBg1 aG NB2_p hb; have aW := am ((X158 : gp ≠ aK)); have NB8_p := am ((X159 : aK ≠ gp)); have aX := am ((X160 : w0.heap.size ≤ aK)); replace HS := bS X152 hb; replace HI := am (q0L.below X151 hb); replace HVs := am (Kd.V_mono (Kd.V_below (Kd.V_bound (show Kd.V k25 25 _ w.heap.size (fun k_ => w.heap.size ≤ k_ ∧ k_ ≠ aE ∧ k_ ≠ gp) (.slice Avs _ cvs) s4 from X161)) hb) (ok' := fun k_ => w.heap.size ≤ k_ ∧ k_ ≠ aE ∧ k_ ≠ gp ∧ k_ ≠ aK) (fun k_ hk_ => ⟨hk_.1.1, hk_.1.2.1, hk_.1.2.2, X162⟩)); clear hb hbox hg; obtain ⟨aY, aZ⟩ := b4_0 aG; obtain ⟨bA, bB⟩ := b4_1 aG; obtain ⟨bC, bD⟩ := b4_2 aG; obtain ⟨bE, bF⟩ := b4_3 aG; obtain ⟨bG, bH⟩ := b4_0 aM; obtain ⟨bI, bJ⟩ := b4_1 aM; obtain ⟨bK, bL⟩ := b4_2 aM; obtain ⟨bM, bN⟩ := b4_3 aM; obtain ⟨bO, bP, bQ, bR, bT⟩ := HI.out; have bU := q1n bQ; have bV := q1p bQ; have bW := q1o bQ; have bX := q0d bQ 1; have bY := q0d bQ 2; clear bQ bR bT; have bZ := aJ.out; have cA := NB2_p.out; have cC := aW.out; have cD := NB8_p.out; have cE := aT.out; have cF := aU.out))
   refine bodyPost_ret (q1z rfl _ _ aE 25 #[.int .i64 0, .string ⟨#[]⟩, .int .i64 0, .slice none 0 0] (0, 0) _ rfl (show (_ : World).heap[aE]? = some (.cells #[.int .i64 0, .string ⟨#[]⟩, .int .i64 0, .slice none 0 0] 25 (0, 0)) from X163) Tryd.underlying25 rfl X39) rfl ?_;exact ⟨_, rfl, Kd.V_nil _ _ _ _ _, X164⟩
  | false =>
   rw [if_neg (by decide)] at h;by_cases c2 : s5 < (l.length : Int)
   ·rw [if_pos c2] at h;have c2b := decide_eq_true c2;simp only [Option.some.injEq, Prod.mk.injEq] at h;obtain ⟨rfl, rfl, rfl, rfl, rfl⟩ := h;go_enter Tryd.func11, Tryd.ntmps11;go_wp2_with (first | ((with_reducible refine gd 2 ?_); (try (refine q1c (by rfl) ?_; dsimp only)); refine be 2 #[.int .i64 0, .string ⟨#[]⟩, .int .i64 0, .slice none 0 0] 25 ?_; intro aE hg w1 hbox hb; have aG := am (hbox); have aH := am ((X42 : w.heap.size ≤ aE)); replace HB := bS X13 hb; clear hb hbox hg) | ((with_reducible refine gc 13 ?_); refine gL (some 12) Tryd.func13 #[.string a0] ?_; (with_reducible refine (q0N.calls k a0 l ln _ _ A2.out).mono ?_); rintro e w2 ⟨vt, rfl, ho_, hb⟩; refine ⟨_, rfl, ?_⟩; replace HB := bS X88 hb; replace aG := kBg0 aG hb; clear hb; obtain ⟨At, ct, et⟩ := Kd.R_slice ho_; subst et; have HT := am (Kd.R_reads' ho_).2.2; clear ho_) | ((with_reducible refine gd 22 ?_); (try (refine q1c (by rfl) ?_; dsimp only)); refine be 22 #[.slice At l.length ct, .int .i64 0, .bool false] 75 ?_; intro gp hg w3 hbox hb; have hst_ : ∃ aI : World, q0L aI w3 gp l 0 false ∧ Below aI.heap.size aI w3 := ⟨_, ⟨_, _, hbox, Nat.le_of_eq hg.symm, X44⟩, hb⟩; obtain ⟨w0, hi_, hs_⟩ := hst_; have HI := am (hi_); have HS := am (hs_); have GWp := am ((X148 : w.heap.size ≤ gp)); replace HB := bS X88 hb; have NB2_p := am ((X149 : aE ≠ gp)); have aJ := am ((X150 : gp ≠ aE)); replace aG := kBg0 aG hb; clear hb hbox hg hi_ hs_) | ((with_reducible refine gc 36 ?_); refine gL (some 24) Tryd.func36 #[.pointer (some ⟨gp, 0, none⟩)] ?_; (with_reducible refine (q0a.calls k gp l 0 false s1 s2 s3 s4 s5 _ w0 _ ?side1 ?side2 A3.out).mono ?_); (case side1 => exact X151); (case side2 => exact X152); rintro e w4 ⟨vs, rfl, ho_, hi_, hs_, hk_⟩; refine ⟨_, rfl, ?_⟩; have HVs := am (Kd.V_mono ho_ (ok' := fun k_ => w.heap.size ≤ k_ ∧ k_ ≠ aE ∧ k_ ≠ gp) (fun k_ h_ => ⟨Nat.le_trans (X153 : Below w.heap.size w _).size h_, Nat.ne_of_gt (Nat.lt_of_lt_of_le (q2J (show (_ : World).heap[aE]? = some (.cells #[.int .i64 0, .string ⟨#[]⟩, .int .i64 0, .slice none 0 0] 25 (0, 0)) from X154)) h_), Nat.ne_of_gt (Nat.lt_of_lt_of_le (q0L.lt X151) h_)⟩)); replace HB := am (q2y X153 X152 hs_ hk_ GWp.out); replace HI := am (hi_); replace HS := am (hs_); replace aG := kKg1 aG NB2_p hk_ NB2_p; clear hi_ hs_ hk_ ho_; obtain ⟨Avs, cvs, evs⟩ := Kd.V_slice HVs.out; subst evs) | ((with_reducible refine gd 8 ?_); (try (refine q1c (by rfl) ?_; dsimp only)); refine be 8 #[.int .i64 0, .string ⟨#[]⟩, .int .i64 0, .slice none 0 0] 25 ?_; intro aK hg w5 hbox hb; have aM := am (hbox); have aQ := am ((X155 : w.heap.size ≤ aK)); replace HB := bS X153 hb; have aT := am ((X156 : aE ≠ aK)); have aU := am ((X157 : aK ≠ aE)); replace aG := kBg1 aG NB2_p hb; have aW := am ((X158 : gp ≠ aK)); have NB8_p := am ((X159 : aK ≠ gp)); have aX := am ((X160 : w0.heap.size ≤ aK)); replace HS := bS X152 hb; replace HI := am (q0L.below X151 hb); replace HVs := am (Kd.V_mono (Kd.V_below (Kd.V_bound (show Kd.V k25 25 _ w.heap.size (fun k_ => w.heap.size ≤ k_ ∧ k_ ≠ aE ∧ k_ ≠ gp) (.slice Avs _ cvs) s4 from X161)) hb) (ok' := fun k_ => w.heap.size ≤ k_ ∧ k_ ≠ aE ∧ k_ ≠ gp ∧ k_ ≠ aK) (fun k_ hk_ => ⟨hk_.1.1, hk_.1.2.1, hk_.1.2.2, X162⟩)); clear hb hbox hg; obtain ⟨aY, aZ⟩ := b4_0 aG; obtain ⟨bA, bB⟩ := b4_1 aG; obtain ⟨bC, bD⟩ := b4_2 aG; obtain ⟨bE, bF⟩ := b4_3 aG; obtain ⟨bG, bH⟩ := b4_0 aM; obtain ⟨bI, bJ⟩ := b4_1 aM; obtain ⟨bK, bL⟩ := b4_2 aM; obtain ⟨bM, bN⟩ := b4_3 aM; obtain ⟨bO, bP, bQ, bR, bT⟩ := HI.out; have bU := q1n bQ; have bV := q1p bQ; have bW := q1o bQ; have bX := q0d bQ 1; have bY := q0d bQ 2; clear bQ bR bT; have bZ := aJ.out; have cA := NB2_p.out; have cC := aW.out; have cD := NB8_p.out; have cE := aT.out; have cF := aU.out))
    refine bodyPost_ret (q1z rfl _ _ aE 25 #[.int .i64 0, .string ⟨#[]⟩, .int .i64 0, .slice none 0 0] (0, 0) _ rfl (show (_ : World).heap[aE]? = some (.cells #[.int .i64 0, .string ⟨#[]⟩, .int .i64 0, .slice none 0 0] 25 (0, 0)) from X163) Tryd.underlying25 rfl X39) rfl ?_;exact ⟨_, rfl, Kd.V_nil _ _ _ _ _, X164⟩
   ·rw [if_neg c2] at h;have c2b := decide_eq_false c2;obtain ⟨b, cG, h⟩ := Option.bind_eq_some_iff.mp h;have A4 := am cG;clear cG;(try simp only at h);by_cases c3 : b = 0
    ·subst c3;rw [if_pos rfl] at h;simp only [Option.some.injEq, Prod.mk.injEq] at h;obtain ⟨rfl, rfl, rfl, rfl, rfl⟩ := h;go_enter Tryd.func11, Tryd.ntmps11;go_wp2_with (first | ((with_reducible refine gd 2 ?_); (try (refine q1c (by rfl) ?_; dsimp only)); refine be 2 #[.int .i64 0, .string ⟨#[]⟩, .int .i64 0, .slice none 0 0] 25 ?_; intro aE hg w1 hbox hb; have aG := am (hbox); have aH := am ((X42 : w.heap.size ≤ aE)); replace HB := bS X13 hb; clear hb hbox hg) | ((with_reducible refine gc 13 ?_); refine gL (some 12) Tryd.func13 #[.string a0] ?_; (with_reducible refine (q0N.calls k a0 l ln _ _ A2.out).mono ?_); rintro e w2 ⟨vt, rfl, ho_, hb⟩; refine ⟨_, rfl, ?_⟩; replace HB := bS X88 hb; replace aG := kBg0 aG hb; clear hb; obtain ⟨At, ct, et⟩ := Kd.R_slice ho_; subst et; have HT := am (Kd.R_reads' ho_).2.2; clear ho_) | ((with_reducible refine gd 22 ?_); (try (refine q1c (by rfl) ?_; dsimp only)); refine be 22 #[.slice At l.length ct, .int .i64 0, .bool false] 75 ?_; intro gp hg w3 hbox hb; have hst_ : ∃ aI : World, q0L aI w3 gp l 0 false ∧ Below aI.heap.size aI w3 := ⟨_, ⟨_, _, hbox, Nat.le_of_eq hg.symm, X44⟩, hb⟩; obtain ⟨w0, hi_, hs_⟩ := hst_; have HI := am (hi_); have HS := am (hs_); have GWp := am ((X148 : w.heap.size ≤ gp)); replace HB := bS X88 hb; have NB2_p := am ((X149 : aE ≠ gp)); have aJ := am ((X150 : gp ≠ aE)); replace aG := kBg0 aG hb; clear hb hbox hg hi_ hs_) | ((with_reducible refine gc 36 ?_); refine gL (some 24) Tryd.func36 #[.pointer (some ⟨gp, 0, none⟩)] ?_; (with_reducible refine (q0a.calls k gp l 0 false s1 s2 s3 s4 s5 _ w0 _ ?side1 ?side2 A3.out).mono ?_); (case side1 => exact X151); (case side2 => exact X152); rintro e w4 ⟨vs, rfl, ho_, hi_, hs_, hk_⟩; refine ⟨_, rfl, ?_⟩; have HVs := am (Kd.V_mono ho_ (ok' := fun k_ => w.heap.size ≤ k_ ∧ k_ ≠ aE ∧ k_ ≠ gp) (fun k_ h_ => ⟨Nat.le_trans (X153 : Below w.heap.size w _).size h_, Nat.ne_of_gt (Nat.lt_of_lt_of_le (q2J (show (_ : World).heap[aE]? = some (.cells #[.int .i64 0, .string ⟨#[]⟩, .int .i64 0, .slice none 0 0] 25 (0, 0)) from X154)) h_), Nat.ne_of_gt (Nat.lt_of_lt_of_le (q0L.lt X151) h_)⟩)); replace HB := am (q2y X153 X152 hs_ hk_ GWp.out); replace HI := am (hi_); replace HS := am (hs_); replace aG := kKg1 aG NB2_p hk_ NB2_p; clear hi_ hs_ hk_ ho_; obtain ⟨Avs, cvs, evs⟩ := Kd.V_slice HVs.out; subst evs) | ((with_reducible refine gd 8 ?_); (try (refine q1c (by rfl) ?_; dsimp only)); refine be 8 #[.int .i64 0, .string ⟨#[]⟩, .int .i64 0, .slice none 0 0] 25 ?_; intro aK hg w5 hbox hb; have aM := am (hbox); have aQ := am ((X155 : w.heap.size ≤ aK)); replace HB := bS X153 hb; have aT := am ((X156 : aE ≠ aK)); have aU := am ((X157 : aK ≠ aE)); replace aG := kBg1 aG NB2_p hb; have aW := am ((X158 : gp ≠ aK)); have NB8_p := am ((X159 : aK ≠ gp)); have aX := am ((X160 : w0.heap.size ≤ aK)); replace HS := bS X152 hb; replace HI := am (q0L.below X151 hb); replace HVs := am (Kd.V_mono (Kd.V_below (Kd.V_bound (show Kd.V k25 25 _ w.heap.size (fun k_ => w.heap.size ≤ k_ ∧ k_ ≠ aE ∧ k_ ≠ gp) (.slice Avs _ cvs) s4 from X161)) hb) (ok' := fun k_ => w.heap.size ≤ k_ ∧ k_ ≠ aE ∧ k_ ≠ gp ∧ k_ ≠ aK) (fun k_ hk_ => ⟨hk_.1.1, hk_.1.2.1, hk_.1.2.2, X162⟩)); clear hb hbox hg; obtain ⟨aY, aZ⟩ := b4_0 aG; obtain ⟨bA, bB⟩ := b4_1 aG; obtain ⟨bC, bD⟩ := b4_2 aG; obtain ⟨bE, bF⟩ := b4_3 aG; obtain ⟨bG, bH⟩ := b4_0 aM; obtain ⟨bI, bJ⟩ := b4_1 aM; obtain ⟨bK, bL⟩ := b4_2 aM; obtain ⟨bM, bN⟩ := b4_3 aM; obtain ⟨bO, bP, bQ, bR, bT⟩ := HI.out; have bU := q1n bQ; have bV := q1p bQ; have bW := q1o bQ; have bX := q0d bQ 1; have bY := q0d bQ 2; clear bQ bR bT; have bZ := aJ.out; have cA := NB2_p.out; have cC := aW.out; have cD := NB8_p.out; have cE := aT.out; have cF := aU.out) | ((with_reducible refine gc 37 ?_); refine gL (some 40) Tryd.func37 #[.agg #[.int .i64 s1, .string s2, .int .i64 s3, .slice Avs s4.length cvs]] ?_; (with_reducible refine (q1Y.calls k s1 s2 s3 _ _ s4 _ _ ?side1 ?side2 A4.out).mono ?_); (case side1 => exact (Kd.V_reads' (show Kd.V k25 25 _ w.heap.size (fun k_ => w.heap.size ≤ k_ ∧ k_ ≠ aE ∧ k_ ≠ gp ∧ k_ ≠ aK) (.slice Avs _ cvs) s4 from X165)).2.2); (case side2 => exact (Kd.V_at HVs.out).2.1); rintro e w7 ⟨rfl, hb⟩; refine ⟨_, rfl, ?_⟩; replace HB := bS X164 hb; replace HS := bS X166 hb; replace HI := am (q0L.below X167 hb); replace aG := kBg2 aG aT NB2_p hb; replace aM := kBg2 aM aU NB8_p hb; replace HVs := am (Kd.V_below (show Kd.V k25 25 _ w.heap.size (fun k_ => w.heap.size ≤ k_ ∧ k_ ≠ aE ∧ k_ ≠ gp ∧ k_ ≠ aK) (.slice Avs _ cvs) s4 from X165) hb); clear hb; obtain ⟨cH, cI⟩ := b4_0 aG; obtain ⟨cJ, cK⟩ := b4_1 aG; obtain ⟨cL, cM⟩ := b4_2 aG; obtain ⟨cN, cO⟩ := b4_3 aG; obtain ⟨cP, cQ⟩ := b4_0 aM; obtain ⟨cR, cS⟩ := b4_1 aM; obtain ⟨cT, cU⟩ := b4_2 aM; obtain ⟨cV, cW⟩ := b4_3 aM; obtain ⟨cX, cY, cZ, dA, dB⟩ := HI.out; have dC := q1n cZ; have dD := q1p cZ; have dE := q1o cZ; have dG := q0d cZ 1; have dH := q0d cZ 2; clear cZ dA dB; have dI := aJ.out; have dJ := NB2_p.out; have dK := aW.out; have dL := NB8_p.out; have dM := aT.out; have dN := aU.out))
     refine bodyPost_ret (q1z rfl _ _ aE 25 #[.int .i64 s1, .string s2, .int .i64 s3, .slice Avs s4.length cvs] (0, 0) _ rfl (show (_ : World).heap[aE]? = some (.cells #[.int .i64 s1, .string s2, .int .i64 s3, .slice Avs s4.length cvs] 25 (0, 0)) from X168) Tryd.underlying25 rfl X39) rfl ?_;exact ⟨_, rfl, Kd.V_mono (show Kd.V k25 25 _ w.heap.size (fun k_ => w.heap.size ≤ k_ ∧ k_ ≠ aE ∧ k_ ≠ gp ∧ k_ ≠ aK) (.slice Avs _ cvs) s4 from X165) (fun _ h_ => h_.1), X164⟩
    ·rw [if_neg c3] at h;have c3b : (b != 0) = true := bne_iff_ne.mpr c3;simp only [Option.some.injEq, Prod.mk.injEq] at h;obtain ⟨rfl, rfl, rfl, rfl, rfl⟩ := h;go_enter Tryd.func11, Tryd.ntmps11;go_wp2_with (first | ((with_reducible refine gd 2 ?_); (try (refine q1c (by rfl) ?_; dsimp only)); refine be 2 #[.int .i64 0, .string ⟨#[]⟩, .int .i64 0, .slice none 0 0] 25 ?_; intro aE hg w1 hbox hb; have aG := am (hbox); have aH := am ((X42 : w.heap.size ≤ aE)); replace HB := bS X13 hb; clear hb hbox hg) | ((with_reducible refine gc 13 ?_); refine gL (some 12) Tryd.func13 #[.string a0] ?_; (with_reducible refine (q0N.calls k a0 l ln _ _ A2.out).mono ?_); rintro e w2 ⟨vt, rfl, ho_, hb⟩; refine ⟨_, rfl, ?_⟩; replace HB := bS X88 hb; replace aG := kBg0 aG hb; clear hb; obtain ⟨At, ct, et⟩ := Kd.R_slice ho_; subst et; have HT := am (Kd.R_reads' ho_).2.2; clear ho_) | ((with_reducible refine gd 22 ?_); (try (refine q1c (by rfl) ?_; dsimp only)); refine be 22 #[.slice At l.length ct, .int .i64 0, .bool false] 75 ?_; intro gp hg w3 hbox hb; have hst_ : ∃ aI : World, q0L aI w3 gp l 0 false ∧ Below aI.heap.size aI w3 := ⟨_, ⟨_, _, hbox, Nat.le_of_eq hg.symm, X44⟩, hb⟩; obtain ⟨w0, hi_, hs_⟩ := hst_; have HI := am (hi_); have HS := am (hs_); have GWp := am ((X148 : w.heap.size ≤ gp)); replace HB := bS X88 hb; have NB2_p := am ((X149 : aE ≠ gp)); have aJ := am ((X150 : gp ≠ aE)); replace aG := kBg0 aG hb; clear hb hbox hg hi_ hs_) | ((with_reducible refine gc 36 ?_); refine gL (some 24) Tryd.func36 #[.pointer (some ⟨gp, 0, none⟩)] ?_; (with_reducible refine (q0a.calls k gp l 0 false s1 s2 s3 s4 s5 _ w0 _ ?side1 ?side2 A3.out).mono ?_); (case side1 => exact X151); (case side2 => exact X152); rintro e w4 ⟨vs, rfl, ho_, hi_, hs_, hk_⟩; refine ⟨_, rfl, ?_⟩; have HVs := am (Kd.V_mono ho_ (ok' := fun k_ => w.heap.size ≤ k_ ∧ k_ ≠ aE ∧ k_ ≠ gp) (fun k_ h_ => ⟨Nat.le_trans (X153 : Below w.heap.size w _).size h_, Nat.ne_of_gt (Nat.lt_of_lt_of_le (q2J (show (_ : World).heap[aE]? = some (.cells #[.int .i64 0, .string ⟨#[]⟩, .int .i64 0, .slice none 0 0] 25 (0, 0)) from X154)) h_), Nat.ne_of_gt (Nat.lt_of_lt_of_le (q0L.lt X151) h_)⟩)); replace HB := am (q2y X153 X152 hs_ hk_ GWp.out); replace HI := am (hi_); replace HS := am (hs_); replace aG := kKg1 aG NB2_p hk_ NB2_p; clear hi_ hs_ hk_ ho_; obtain ⟨Avs, cvs, evs⟩ := Kd.V_slice HVs.out; subst evs) | ((with_reducible refine gd 8 ?_); (try (refine q1c (by rfl) ?_; dsimp only)); refine be 8 #[.int .i64 0, .string ⟨#[]⟩, .int .i64 0, .slice none 0 0] 25 ?_; intro aK hg w5 hbox hb; have aM := am (hbox); have aQ := am ((X155 : w.heap.size ≤ aK)); replace HB := bS X153 hb; have aT := am ((X156 : aE ≠ aK)); have aU := am ((X157 : aK ≠ aE)); replace aG := kBg1 aG NB2_p hb; have aW := am ((X158 : gp ≠ aK)); have NB8_p := am ((X159 : aK ≠ gp)); have aX := am ((X160 : w0.heap.size ≤ aK)); replace HS := bS X152 hb; replace HI := am (q0L.below X151 hb); replace HVs := am (Kd.V_mono (Kd.V_below (Kd.V_bound (show Kd.V k25 25 _ w.heap.size (fun k_ => w.heap.size ≤ k_ ∧ k_ ≠ aE ∧ k_ ≠ gp) (.slice Avs _ cvs) s4 from X161)) hb) (ok' := fun k_ => w.heap.size ≤ k_ ∧ k_ ≠ aE ∧ k_ ≠ gp ∧ k_ ≠ aK) (fun k_ hk_ => ⟨hk_.1.1, hk_.1.2.1, hk_.1.2.2, X162⟩)); clear hb hbox hg; obtain ⟨aY, aZ⟩ := b4_0 aG; obtain ⟨bA, bB⟩ := b4_1 aG; obtain ⟨bC, bD⟩ := b4_2 aG; obtain ⟨bE, bF⟩ := b4_3 aG; obtain ⟨bG, bH⟩ := b4_0 aM; obtain ⟨bI, bJ⟩ := b4_1 aM; obtain ⟨bK, bL⟩ := b4_2 aM; obtain ⟨bM, bN⟩ := b4_3 aM; obtain ⟨bO, bP, bQ, bR, bT⟩ := HI.out; have bU := q1n bQ; have bV := q1p bQ; have bW := q1o bQ; have bX := q0d bQ 1; have bY := q0d bQ 2; clear bQ bR bT; have bZ := aJ.out; have cA := NB2_p.out; have cC := aW.out; have cD := NB8_p.out; have cE := aT.out; have cF := aU.out) | ((with_reducible refine gc 37 ?_); refine gL (some 40) Tryd.func37 #[.agg #[.int .i64 s1, .string s2, .int .i64 s3, .slice Avs s4.length cvs]] ?_; (with_reducible refine (q1Y.calls k s1 s2 s3 _ _ s4 _ _ ?side1 ?side2 A4.out).mono ?_); (case side1 => exact (Kd.V_reads' (show Kd.V k25 25 _ w.heap.size (fun k_ => w.heap.size ≤ k_ ∧ k_ ≠ aE ∧ k_ ≠ gp ∧ k_ ≠ aK) (.slice Avs _ cvs) s4 from X165)).2.2); (case side2 => exact (Kd.V_at HVs.out).2.1); rintro e w7 ⟨rfl, hb⟩; refine ⟨_, rfl, ?_⟩; replace HB := bS X164 hb; replace HS := bS X166 hb; replace HI := am (q0L.below X167 hb); replace aG := kBg2 aG aT NB2_p hb; replace aM := kBg2 aM aU NB8_p hb; replace HVs := am (Kd.V_below (show Kd.V k25 25 _ w.heap.size (fun k_ => w.heap.size ≤ k_ ∧ k_ ≠ aE ∧ k_ ≠ gp ∧ k_ ≠ aK) (.slice Avs _ cvs) s4 from X165) hb); clear hb; obtain ⟨cH, cI⟩ := b4_0 aG; obtain ⟨cJ, cK⟩ := b4_1 aG; obtain ⟨cL, cM⟩ := b4_2 aG; obtain ⟨cN, cO⟩ := b4_3 aG; obtain ⟨cP, cQ⟩ := b4_0 aM; obtain ⟨cR, cS⟩ := b4_1 aM; obtain ⟨cT, cU⟩ := b4_2 aM; obtain ⟨cV, cW⟩ := b4_3 aM; obtain ⟨cX, cY, cZ, dA, dB⟩ := HI.out; have dC := q1n cZ; have dD := q1p cZ; have dE := q1o cZ; have dG := q0d cZ 1; have dH := q0d cZ 2; clear cZ dA dB; have dI := aJ.out; have dJ := NB2_p.out; have dK := aW.out; have dL := NB8_p.out; have dM := aT.out; have dN := aU.out))
     refine bodyPost_ret (q1z rfl _ _ aE 25 #[.int .i64 0, .string ⟨#[]⟩, .int .i64 0, .slice none 0 0] (0, 0) _ rfl (show (_ : World).heap[aE]? = some (.cells #[.int .i64 0, .string ⟨#[]⟩, .int .i64 0, .slice none 0 0] 25 (0, 0)) from X163) Tryd.underlying25 rfl X39) rfl ?_;exact ⟨_, rfl, Kd.V_nil _ _ _ _ _, X164⟩
 ·rw [if_neg c1] at h;have c1b : (er != 0) = true := bne_iff_ne.mpr c1;simp only [Option.some.injEq, Prod.mk.injEq] at h;obtain ⟨rfl, rfl, rfl, rfl, rfl⟩ := h;go_enter Tryd.func11, Tryd.ntmps11;go_wp2_with (first | ((with_reducible refine gd 2 ?_); (try (refine q1c (by rfl) ?_; dsimp only)); refine be 2 #[.int .i64 0, .string ⟨#[]⟩, .int .i64 0, .slice none 0 0] 25 ?_; intro aE hg w1 hbox hb; have aG := am (hbox); have aH := am ((X42 : w.heap.size ≤ aE)); replace HB := bS X13 hb; clear hb hbox hg) | ((with_reducible refine gc 13 ?_); refine gL (some 12) Tryd.func13 #[.string a0] ?_; (with_reducible refine (q0N.calls k a0 l ln _ _ A2.out).mono ?_); rintro e w2 ⟨vt, rfl, ho_, hb⟩; refine ⟨_, rfl, ?_⟩; replace HB := bS X88 hb; replace aG := kBg0 aG hb; clear hb; obtain ⟨At, ct, et⟩ := Kd.R_slice ho_; subst et; have HT := am (Kd.R_reads' ho_).2.2; clear ho_; obtain ⟨Z3_2_0, Y3_2_0⟩ := b4_0 aG; obtain ⟨Z3_2_1, Y3_2_1⟩ := b4_1 aG; obtain ⟨Z3_2_2, Y3_2_2⟩ := b4_2 aG; obtain ⟨Z3_2_3, Y3_2_3⟩ := b4_3 aG))
  refine bodyPost_ret (q1z rfl _ _ aE 25 #[.int .i64 0, .string ⟨#[]⟩, .int .i64 0, .slice none 0 0] (0, 0) _ rfl (show (_ : World).heap[aE]? = some (.cells #[.int .i64 0, .string ⟨#[]⟩, .int .i64 0, .slice none 0 0] 25 (0, 0)) from X169) Tryd.underlying25 rfl X39) rfl ?_;exact ⟨_, rfl, Kd.V_nil _ _ _ _ _, X88⟩
mutual
def q0m.j0 : Nat → Bool → Int → ByteArray → Int → List (S25) → Int → ByteArray → Int → List (S25) → Option (Bool)
 | 0, _, _, _, _, _, _, _, _, _ => none
 | k + 1, aA, aC, aD, aE, aG, aH, aI, aJ, aK => if aA = true then (some false) else (q0m.l0 k 0 aC aD aE aG aH aI aJ aK)
def q0m.l0 : Nat → Int → Int → ByteArray → Int → List (S25) → Int → ByteArray → Int → List (S25) → Option (Bool)
 | 0, _, _, _, _, _, _, _, _, _ => none
 | k + 1, x5, aA, aC, aD, aE, aG, aH, aI, aJ => if x5 < (aE.length : Int) then (if 0 ≤ x5 then (if x5 < (aJ.length : Int) then ((q0m.f k ((q0v aE x5).f0) ((q0v aE x5).f1) ((q0v aE x5).f2) ((q0v aE x5).f3) ((q0v aJ x5).f0) ((q0v aJ x5).f1) ((q0v aJ x5).f2) ((q0v aJ x5).f3)).bind fun aK => (if aK = true then (q0m.l0 k (wrap64 (x5 + 1)) aA aC aD aE aG aH aI aJ) else (some false))) else (none)) else (none)) else (some true)
def q0m.f : Nat → Int → ByteArray → Int → List (S25) → Int → ByteArray → Int → List (S25) → Option (Bool)
 | 0, _, _, _, _, _, _, _, _ => none
 | k + 1, aA, aC, aD, aE, aG, aH, aI, aJ => if aA = aG then (if aC.toList = aH.toList then (if aD = aI then (q0m.j0 k ((aE.length : Int) != (aJ.length : Int)) aA aC aD aE aG aH aI aJ) else (q0m.j0 k true aA aC aD aE aG aH aI aJ)) else (q0m.j0 k true aA aC aD aE aG aH aI aJ)) else (q0m.j0 k true aA aC aD aE aG aH aI aJ)
end
theorem q0m.mono_l : ∀ k, (∀ y0 y1 y2 y3 y4 y5 y6 y7, LeO (q0m.f k y0 y1 y2 y3 y4 y5 y6 y7) (q0m.f (k + 1) y0 y1 y2 y3 y4 y5 y6 y7)) ∧ (∀ y0 y1 y2 y3 y4 y5 y6 y7 y8, LeO (q0m.j0 k y0 y1 y2 y3 y4 y5 y6 y7 y8) (q0m.j0 (k + 1) y0 y1 y2 y3 y4 y5 y6 y7 y8)) ∧ (∀ y0 y1 y2 y3 y4 y5 y6 y7 y8, LeO (q0m.l0 k y0 y1 y2 y3 y4 y5 y6 y7 y8) (q0m.l0 (k + 1) y0 y1 y2 y3 y4 y5 y6 y7 y8))
 | 0 => ⟨fun _ _ _ _ _ _ _ _ r h => by simp [q0m.f] at h, fun _ _ _ _ _ _ _ _ _ r h => by simp [q0m.j0] at h, fun _ _ _ _ _ _ _ _ _ r h => by simp [q0m.l0] at h⟩
 | k + 1 => by
  obtain ⟨aA, aC, aD⟩ := q0m.mono_l k;refine ⟨?_, ?_, ?_⟩
  ·intro y0 y1 y2 y3 y4 y5 y6 y7;unfold q0m.f;exact X142
  ·intro y0 y1 y2 y3 y4 y5 y6 y7 y8;unfold q0m.j0;exact X142
  ·intro y0 y1 y2 y3 y4 y5 y6 y7 y8;unfold q0m.l0;exact X142
theorem q0m.mono : ∀ a0 a1 a2 a3 a4 a5 a6 a7 k, LeO (q0m.f k a0 a1 a2 a3 a4 a5 a6 a7) (q0m.f (k + 1) a0 a1 a2 a3 a4 a5 a6 a7) := by
 intro a0 a1 a2 a3 a4 a5 a6 a7 k;obtain ⟨aA, ih1, ih2⟩ := q0m.mono_l k;exact aA a0 a1 a2 a3 a4 a5 a6 a7
def q0m.T6 : Bool × List (List Nat × List Nat) := (true, [([], []), ([0], [0]), ([], []), ([1, 2], [1, 2]), ([3], [3]), ([], []), ([5], [5]), ([], []), ([6, 7], [6, 7]), ([8], [8]), ([4, 9], [4, 9]), ([10], [10])])
def q0m.B6 : List Nat := [0, 1, 0, 7, 15, 0, 32, 0, 224, 480, 1023, 2047]
theorem q0m.tab6 : rtab .any (q5z Tryd.f12 6) = q0m.T6 := by kernel_rfl
theorem q0m.bits6 : q2O q0m.T6.2 q0m.B6 = true := by kernel_rfl
theorem q0m.calls (k : Nat) : ∀ (aA : Int) (aC : ByteArray) (aD : Int) (aE : Option Addr) (aG : Nat) (aH : List (S25)) (aI : Int) (aJ : ByteArray) (aK : Int) (aM : Option Addr) (aQ : Nat) (aT : List (S25)) (r : Bool) (w : World) (aU : Kd.C k25 w aE aH.length aH) (aW : aH.length ≤ aG) (aX : Kd.C k25 w aM aT.length aT) (aY : aT.length ≤ aQ) (h : q0m.f k aA aC aD aH aI aJ aK aT = some r),
  Calls Tryd.prog 12 #[.agg #[.int .i64 aA, .string aC, .int .i64 aD, .slice aE aH.length aG], .agg #[.int .i64 aI, .string aJ, .int .i64 aK, .slice aM aT.length aQ]] w fun e w' => e = .returned (.bool r) ∧ Below w.heap.size w w' := by
 induction k using Nat.strongRecOn with
 | _ k ih =>
 intro aA aC aD aE aG aH aI aJ aK aM aQ aT r w aU aW aX aY h;cases k with
 | zero => exact absurd h (by simp [q0m.f])
 | succ k =>
 simp only [q0m.f] at h;have hu25 := Tryd.underlying25;have aZ := am aU;have HC0_3 := am aW;clear aU aW;have bA := am aX;have HC1_3 := am aY;clear aX aY;have HB := am (Below.refl w.heap.size w);have H : (if aA = aI then (if aC.toList = aJ.toList then (if aD = aK then (q0m.j0 k ((aH.length : Int) != (aT.length : Int)) aA aC aD aH aI aJ aK aT) else (q0m.j0 k true aA aC aD aH aI aJ aK aT)) else (q0m.j0 k true aA aC aD aH aI aJ aK aT)) else (q0m.j0 k true aA aC aD aH aI aJ aK aT)) = some r := h;clear h;have bB := am H;clear H;go_enter Tryd.func12, Tryd.ntmps12;go_upto_region 1 with (first | ((with_reducible refine gd 2 ?_); (try (refine q1c (by rfl) ?_; dsimp only)); refine be 2 #[.int .i64 aA, .string aC, .int .i64 aD, .slice aE aH.length aG] 25 ?_; intro bC hg w4 hbox hb; have bD := am (hbox); have GW961 := sG (w := w) hg X13; have bE := sG (w := w) hg X13; replace HB := bS X13 hb; clear hb hbox hg) | ((with_reducible refine gd 3 ?_); (try (refine q1c (by rfl) ?_; dsimp only)); refine be 3 #[.int .i64 aI, .string aJ, .int .i64 aK, .slice aM aT.length aQ] 25 ?_; intro bF hg w5 hbox hb; have bG := am (hbox); have GW962 := sG (w := w) hg X170; have bH := sG (w := w) hg X170; replace HB := bS X170 hb; have bI := nLT hg bD; have bJ := nGT hg bD; replace bD := kB bD hb; clear hb hbox hg))
 (try simp only [Act.put, List.setIfInBounds_toArray, List.set_cons_zero, List.set_cons_succ]);go_cut [33] (fun bK wc => ∃ (kq : Nat) (bL : Bool), bK = .bool bL ∧ q0h (q0m.j0 kq bL aA aC aD aH aI aJ aK aT = some r) ∧ q0h (kq ≤ k) ∧ q0h (wc.heap[bC]? = some (.cells #[.int .i64 aA, .string aC, .int .i64 aD, (.slice aE aH.length aG)] 25 (0, 0))) ∧ q0h (wc.heap[bF]? = some (.cells #[.int .i64 aI, .string aJ, .int .i64 aK, (.slice aM aT.length aQ)] 25 (0, 0))) ∧ q0h (Below w.heap.size w wc))
 case first =>
  have H := bB.out;clear bB;by_cases c6 : aA = aI
  ·rw [if_pos c6] at H;have c6b0 := eT c6;have c6b1 := eF c6;clear c6;(first | rw [c6b0] | (simp only [q2x, q2G]; rw [c6b0]) | skip);by_cases c7 : aC.toList = aJ.toList
   ·rw [if_pos c7] at H;have c7b0 := eT c7;have c7b1 := eF c7;clear c7;by_cases c8 : aD = aK
    ·rw [if_pos c8] at H;have c8b0 := eT c8;have c8b1 := eF c8;clear c8;have H' := am H;clear H;have hnb9 := bI.out;have hnc9 := bJ.out;have bM := bc4 bD;have bN := bc4 bG;go_wp2
     go_meet
     case rel => exact ⟨_, (((aH.length : Int) != (aT.length : Int))), X4, H', ⟨X7⟩, ⟨X171⟩, ⟨X172⟩, ⟨X173⟩⟩
    ·rw [if_neg c8] at H;have c8b0 := nF c8;have c8b1 := nT c8;have H' := am H;clear H;have hnb12 := bI.out;have hnc12 := bJ.out;have bO := bc4 bD;have bP := bc4 bG;go_wp2
     go_meet
     case rel => exact ⟨_, (true), X4, H', ⟨X7⟩, ⟨X171⟩, ⟨X172⟩, ⟨X173⟩⟩
   ·rw [if_neg c7] at H;have c7b0 := nF c7;have c7b1 := nT c7;have H' := am H;clear H;have hnb15 := bI.out;have hnc15 := bJ.out;have bQ := bc4 bD;have bR := bc4 bG;go_wp2
    go_meet
    case rel => exact ⟨_, (true), X4, H', ⟨X7⟩, ⟨X171⟩, ⟨X172⟩, ⟨X173⟩⟩
  ·rw [if_neg c6] at H;have c6b0 := nF c6;have c6b1 := nT c6;(first | rw [c6b0] | (simp only [q2x, q2G]; rw [c6b0]) | skip);have H' := am H;clear H;have hnb18 := bI.out;have hnc18 := bJ.out;have bT := bc4 bD;have bU := bc4 bG;go_wp2
   go_meet
   case rel => exact ⟨_, (true), X4, H', ⟨X7⟩, ⟨X171⟩, ⟨X172⟩, ⟨X173⟩⟩
 case rest =>
  clear bB;(try clear c1);(try clear p2);(try clear c6);(try clear c6b0);(try clear c6b1);(try clear c7);(try clear c7b0);(try clear c7b1);(try clear c8);(try clear c8b0);(try clear c8b1);(try clear c9);(try clear bV);(try clear bW);(try clear bX);(try clear bM);(try clear bN);(try clear bO);(try clear bP);(try clear bQ);(try clear bR);(try clear bT);(try clear bU);obtain ⟨kq, bL, rfl, HA, bY, bD, bG, HB⟩ := hcut;cases kq with
  | zero => exact absurd HA.out (by simp [q0m.j0])
  | succ bZ =>
   have H := HA.out;clear HA;simp only [q0m.j0] at H;by_cases cA : bL = true
   ·subst cA;replace H := tP H;obtain rfl := Option.some.inj H;go_wp2
    go_ret
    exact ⟨X14, X173⟩
   ·replace cA := Bool.eq_false_iff.mpr cA;subst cA;replace H := tN H;have H' := am H;clear H;go_wp2
    go_loopg [5] bZ (fun kq v5 w' => ∃ (cC : Int), v5 = .int .i64 cC ∧ q0h (q0m.l0 kq cC aA aC aD aH aI aJ aK aT = some r) ∧ q0h (kq ≤ bZ) ∧ q0h (w'.heap[bC]? = some (.cells #[.int .i64 aA, .string aC, .int .i64 aD, (.slice aE aH.length aG)] 25 (0, 0))) ∧ q0h (w'.heap[bF]? = some (.cells #[.int .i64 aI, .string aJ, .int .i64 aK, (.slice aM aT.length aQ)] 25 (0, 0))) ∧ q0h (Below w.heap.size w w'))
    case atStart => exact ⟨(0), X4, H', ⟨Nat.le_refl _⟩, ⟨X171⟩, ⟨X172⟩, ⟨X173⟩⟩
    case round =>
     clear H';(try clear c1);(try clear c2);(try clear p2 p2);(try clear c6);(try clear c6b0);(try clear c6b1);(try clear c7);(try clear c7b0);(try clear c7b1);(try clear c8);(try clear c8b0);(try clear c8b1);(try clear c9);(try clear bV);(try clear bW);(try clear bX);(try clear cA);(try clear bM);(try clear bN);(try clear bO);(try clear bP);(try clear bQ);(try clear bR);(try clear bT);(try clear bU);obtain ⟨cC, rfl, HA, cD, bD, bG, HB⟩ := hrel;cases gk with
     | zero => exact absurd HA.out (by simp [q0m.l0])
     | succ k2 =>
      have H := HA.out;clear HA;simp only [q0m.l0] at H;by_cases cE : cC < (aH.length : Int)
      ·rw [if_pos cE] at H;have c22b0 := dT cE;clear cE;by_cases cF : 0 ≤ cC
       ·rw [if_pos cF] at H;have c23b0 := dT cF;clear cF;by_cases cG : cC < (aT.length : Int)
        ·rw [if_pos cG] at H;have c24b0 := dT cG;clear cG;obtain ⟨cH, cI, H⟩ := oB H;(try dsimp only at H);have cJ := am cI;clear cI;by_cases cK : cH = true
         ·subst cK;replace H := tP H;have H' := am H;clear H;have hnb27 := bI.out;have hnc27 := bJ.out;have Z28 := bc4 bD;try go_wp2
          replace bD := am (q0u bD.out);replace bG := am (q0u bG.out);replace HB := am (q0C HB.out);have cL : 0 ≤ (cC : Int) := of_decide_eq_true X8;have cM : cC < (aH.length : Int) := of_decide_eq_true X8;obtain ⟨cN, cO, cP, e963, cQ, cR, cS, cT, cU, cV⟩ := q2M aZ.out cC cL cM;have cW := cT;have cX := cS;have cY := cR;have cZ := cQ;cases e963;replace cQ := cB HB cQ;replace cR := cB HB cR;replace cS := cB HB cS;replace cT := cB HB cT;have dA := am cV;have dB := am cU;clear cV cU;replace cL := eq_true cL;replace cM := eq_true cM;have dC : 0 ≤ (cC : Int) := of_decide_eq_true X8;have dD : cC < (aT.length : Int) := of_decide_eq_true X8;obtain ⟨dE, dG, dH, e964, dI, dJ, dK, dL, dM, dN⟩ := q2M bA.out cC dC dD;have dO := dL;have dP := dK;have dQ := dJ;have dR := dI;cases e964;replace dI := cB HB dI;replace dJ := cB HB dJ;replace dK := cB HB dK;replace dL := cB HB dL;have dS := am dN;have dU := am dM;clear dN dM;replace dC := eq_true dC;replace dD := eq_true dD;refine q2S (n := 12) (S := fun w' => c4 w' bC (.int .i64 aA) (.string aC) (.int .i64 aD) (.slice (some cN) aH.length aG) (c4 w' bF (.int .i64 aI) (.string aJ) (.int .i64 aK) (.slice (some dE) aT.length aQ) (w'.cell? (cN.add ((cC).toNat * 4)) = some (.int .i64 ((q0v aH cC).f0)) ∧ w'.cell? ⟨(cN.add ((cC).toNat * 4)).block, (cN.add ((cC).toNat * 4)).off + 1, none⟩ = some (.string ((q0v aH cC).f1)) ∧ w'.cell? ⟨(cN.add ((cC).toNat * 4)).block, (cN.add ((cC).toNat * 4)).off + 2, none⟩ = some (.int .i64 ((q0v aH cC).f2)) ∧ w'.cell? ⟨(cN.add ((cC).toNat * 4)).block, (cN.add ((cC).toNat * 4)).off + 3, none⟩ = some (.slice cO ((q0v aH cC).f3).length cP) ∧ w'.cell? (dE.add ((cC).toNat * 4)) = some (.int .i64 ((q0v aT cC).f0)) ∧ w'.cell? ⟨(dE.add ((cC).toNat * 4)).block, (dE.add ((cC).toNat * 4)).off + 1, none⟩ = some (.string ((q0v aT cC).f1)) ∧ w'.cell? ⟨(dE.add ((cC).toNat * 4)).block, (dE.add ((cC).toNat * 4)).off + 2, none⟩ = some (.int .i64 ((q0v aT cC).f2)) ∧ w'.cell? ⟨(dE.add ((cC).toNat * 4)).block, (dE.add ((cC).toNat * 4)).off + 3, none⟩ = some (.slice dG ((q0v aT cC).f3).length dH)))) (ds := []) #[false, false, false, false, false, false, false, false, false, false, false, false] X39 rfl rfl (b4 bD (b4 bG ⟨((HB.out.cell (World.block_lt_of_cell? w _ cZ)).trans cZ), ((HB.out.cell (World.block_lt_of_cell? w _ cY)).trans cY), ((HB.out.cell (World.block_lt_of_cell? w _ cX)).trans cX), ((HB.out.cell (World.block_lt_of_cell? w _ cW)).trans cW), ((HB.out.cell (World.block_lt_of_cell? w _ dR)).trans dR), ((HB.out.cell (World.block_lt_of_cell? w _ dQ)).trans dQ), ((HB.out.cell (World.block_lt_of_cell? w _ dP)).trans dP), ((HB.out.cell (World.block_lt_of_cell? w _ dO)).trans dO)⟩)) (fun hHeld => ?_); refine q2h q0m.tab6 q0m.bits6 (fun HT_ HW_ => ?_);generalize wr.drew = w29 at bD bG HB dA dS cQ cR cS cT dI dJ dK dL hHeld ⊢
          refine pu 0 (some 41) (lb 12 1) HT_ ?_;refine pu 2 (some 43) (lb 12 5) HT_ ?_;refine pu 5 (some 46) (lb 12 37) HT_ ?_;refine pu 7 (some 48) (lb 12 165) HT_ ?_;refine tk 1 (some 42) (lb 12 167) HT_ HW_ hHeld ?_;refine pu 3 (some 44) (lb 12 175) HT_ ?_;refine tk 4 (some 45) (lb 12 191) HT_ HW_ hHeld ?_;refine tk 6 (some 47) (lb 12 255) HT_ HW_ hHeld ?_;refine pu 8 (some 49) (lb 12 511) HT_ ?_;refine tk 9 (some 50) (lb 12 1023) HT_ HW_ hHeld ?_;refine oo 10 (some 51) (lb 12 2047) HT_ (fun K hK => ?_);refine gO Tryd.func12 #[.agg #[.int .i64 ((q0v aH cC).f0), .string ((q0v aH cC).f1), .int .i64 ((q0v aH cC).f2), .slice cO ((q0v aH cC).f3).length cP], .agg #[.int .i64 ((q0v aT cC).f0), .string ((q0v aT cC).f1), .int .i64 ((q0v aT cC).f2), .slice dG ((q0v aT cC).f3).length dH]] ?_;with_reducible refine (ih k2 (by have := bY.out; have := cD.out; omega) ((q0v aH cC).f0) ((q0v aH cC).f1) ((q0v aH cC).f2) _ _ ((q0v aH cC).f3) ((q0v aT cC).f0) ((q0v aT cC).f1) ((q0v aT cC).f2) _ _ ((q0v aT cC).f3) true _ ?side1 ?side2 ?side3 ?side4 cJ.out).mono ?_
          (case side1 => exact X174);(case side2 => exact dB.out);(case side3 => exact X175);(case side4 => exact dU.out);rintro e w30 ⟨rfl, hb⟩;refine ⟨_, rfl, ?_⟩;replace bD := kB bD hb;replace bG := kB bG hb;replace HB := bS X173 hb;(try clear hb);(try clear dV);(try clear hk);(try clear hi);refine hK.out _ _ (b4 bD (b4 bG ⟨((HB.out.cell (World.block_lt_of_cell? w _ cZ)).trans cZ), ((HB.out.cell (World.block_lt_of_cell? w _ cY)).trans cY), ((HB.out.cell (World.block_lt_of_cell? w _ cX)).trans cX), ((HB.out.cell (World.block_lt_of_cell? w _ cW)).trans cW), ((HB.out.cell (World.block_lt_of_cell? w _ dR)).trans dR), ((HB.out.cell (World.block_lt_of_cell? w _ dQ)).trans dQ), ((HB.out.cell (World.block_lt_of_cell? w _ dP)).trans dP), ((HB.out.cell (World.block_lt_of_cell? w _ dO)).trans dO)⟩)) (fun hHeld => ?_);clear hK K;refine q3H (a' := ?_) ?_ ?_;rotate_left
          ·exact pA (some 51)
          refine pu 11 (some 52) (lb 12 4095) HT_ ?_;refine q3v (q2F HT_.out X39) ?_;try go_wp2
          go_roundg k2
          case measure => have := bY.out; have := cD.out; omega
          case rel => exact ⟨(wrap64 (cC + 1)), X4, H', ⟨by have := bY.out; have := cD.out; omega⟩, ⟨X171⟩, ⟨X172⟩, ⟨X173⟩⟩
         ·replace cK := Bool.eq_false_iff.mpr cK;subst cK;replace H := tN H;obtain rfl := Option.some.inj H;have hnb31 := bI.out;have hnc31 := bJ.out;have Z32 := bc4 bD;try go_wp2
          replace bD := am (q0u bD.out);replace bG := am (q0u bG.out);replace HB := am (q0C HB.out);have cL : 0 ≤ (cC : Int) := of_decide_eq_true X8;have cM : cC < (aH.length : Int) := of_decide_eq_true X8;obtain ⟨cN, cO, cP, e963, cQ, cR, cS, cT, cU, cV⟩ := q2M aZ.out cC cL cM;have cW := cT;have cX := cS;have cY := cR;have cZ := cQ;cases e963;replace cQ := cB HB cQ;replace cR := cB HB cR;replace cS := cB HB cS;replace cT := cB HB cT;have dA := am cV;have dB := am cU;clear cV cU;replace cL := eq_true cL;replace cM := eq_true cM;have dC : 0 ≤ (cC : Int) := of_decide_eq_true X8;have dD : cC < (aT.length : Int) := of_decide_eq_true X8;obtain ⟨dE, dG, dH, e964, dI, dJ, dK, dL, dM, dN⟩ := q2M bA.out cC dC dD;have dO := dL;have dP := dK;have dQ := dJ;have dR := dI;cases e964;replace dI := cB HB dI;replace dJ := cB HB dJ;replace dK := cB HB dK;replace dL := cB HB dL;have dS := am dN;have dU := am dM;clear dN dM;replace dC := eq_true dC;replace dD := eq_true dD;refine q2S (n := 12) (S := fun w' => c4 w' bC (.int .i64 aA) (.string aC) (.int .i64 aD) (.slice (some cN) aH.length aG) (c4 w' bF (.int .i64 aI) (.string aJ) (.int .i64 aK) (.slice (some dE) aT.length aQ) (w'.cell? (cN.add ((cC).toNat * 4)) = some (.int .i64 ((q0v aH cC).f0)) ∧ w'.cell? ⟨(cN.add ((cC).toNat * 4)).block, (cN.add ((cC).toNat * 4)).off + 1, none⟩ = some (.string ((q0v aH cC).f1)) ∧ w'.cell? ⟨(cN.add ((cC).toNat * 4)).block, (cN.add ((cC).toNat * 4)).off + 2, none⟩ = some (.int .i64 ((q0v aH cC).f2)) ∧ w'.cell? ⟨(cN.add ((cC).toNat * 4)).block, (cN.add ((cC).toNat * 4)).off + 3, none⟩ = some (.slice cO ((q0v aH cC).f3).length cP) ∧ w'.cell? (dE.add ((cC).toNat * 4)) = some (.int .i64 ((q0v aT cC).f0)) ∧ w'.cell? ⟨(dE.add ((cC).toNat * 4)).block, (dE.add ((cC).toNat * 4)).off + 1, none⟩ = some (.string ((q0v aT cC).f1)) ∧ w'.cell? ⟨(dE.add ((cC).toNat * 4)).block, (dE.add ((cC).toNat * 4)).off + 2, none⟩ = some (.int .i64 ((q0v aT cC).f2)) ∧ w'.cell? ⟨(dE.add ((cC).toNat * 4)).block, (dE.add ((cC).toNat * 4)).off + 3, none⟩ = some (.slice dG ((q0v aT cC).f3).length dH)))) (ds := []) #[false, false, false, false, false, false, false, false, false, false, false, false] X39 rfl rfl (b4 bD (b4 bG ⟨((HB.out.cell (World.block_lt_of_cell? w _ cZ)).trans cZ), ((HB.out.cell (World.block_lt_of_cell? w _ cY)).trans cY), ((HB.out.cell (World.block_lt_of_cell? w _ cX)).trans cX), ((HB.out.cell (World.block_lt_of_cell? w _ cW)).trans cW), ((HB.out.cell (World.block_lt_of_cell? w _ dR)).trans dR), ((HB.out.cell (World.block_lt_of_cell? w _ dQ)).trans dQ), ((HB.out.cell (World.block_lt_of_cell? w _ dP)).trans dP), ((HB.out.cell (World.block_lt_of_cell? w _ dO)).trans dO)⟩)) (fun hHeld => ?_); refine q2h q0m.tab6 q0m.bits6 (fun HT_ HW_ => ?_);generalize wr.drew = w33 at bD bG HB dA dS cQ cR cS cT dI dJ dK dL hHeld ⊢
          refine pu 0 (some 41) (lb 12 1) HT_ ?_;refine pu 2 (some 43) (lb 12 5) HT_ ?_;refine pu 5 (some 46) (lb 12 37) HT_ ?_;refine pu 7 (some 48) (lb 12 165) HT_ ?_;refine tk 1 (some 42) (lb 12 167) HT_ HW_ hHeld ?_;refine pu 3 (some 44) (lb 12 175) HT_ ?_;refine tk 4 (some 45) (lb 12 191) HT_ HW_ hHeld ?_;refine tk 6 (some 47) (lb 12 255) HT_ HW_ hHeld ?_;refine pu 8 (some 49) (lb 12 511) HT_ ?_;refine tk 9 (some 50) (lb 12 1023) HT_ HW_ hHeld ?_;refine oo 10 (some 51) (lb 12 2047) HT_ (fun K hK => ?_);refine gO Tryd.func12 #[.agg #[.int .i64 ((q0v aH cC).f0), .string ((q0v aH cC).f1), .int .i64 ((q0v aH cC).f2), .slice cO ((q0v aH cC).f3).length cP], .agg #[.int .i64 ((q0v aT cC).f0), .string ((q0v aT cC).f1), .int .i64 ((q0v aT cC).f2), .slice dG ((q0v aT cC).f3).length dH]] ?_;with_reducible refine (ih k2 (by have := bY.out; have := cD.out; omega) ((q0v aH cC).f0) ((q0v aH cC).f1) ((q0v aH cC).f2) _ _ ((q0v aH cC).f3) ((q0v aT cC).f0) ((q0v aT cC).f1) ((q0v aT cC).f2) _ _ ((q0v aT cC).f3) false _ ?side1 ?side2 ?side3 ?side4 cJ.out).mono ?_
          (case side1 => exact X174);(case side2 => exact dB.out);(case side3 => exact X175);(case side4 => exact dU.out);rintro e w34 ⟨rfl, hb⟩;refine ⟨_, rfl, ?_⟩;replace bD := kB bD hb;replace bG := kB bG hb;replace HB := bS X173 hb;(try clear hb);(try clear dV);(try clear hk);(try clear hi);refine hK.out _ _ (b4 bD (b4 bG ⟨((HB.out.cell (World.block_lt_of_cell? w _ cZ)).trans cZ), ((HB.out.cell (World.block_lt_of_cell? w _ cY)).trans cY), ((HB.out.cell (World.block_lt_of_cell? w _ cX)).trans cX), ((HB.out.cell (World.block_lt_of_cell? w _ cW)).trans cW), ((HB.out.cell (World.block_lt_of_cell? w _ dR)).trans dR), ((HB.out.cell (World.block_lt_of_cell? w _ dQ)).trans dQ), ((HB.out.cell (World.block_lt_of_cell? w _ dP)).trans dP), ((HB.out.cell (World.block_lt_of_cell? w _ dO)).trans dO)⟩)) (fun hHeld => ?_);clear hK K;refine q3H (a' := ?_) ?_ ?_;rotate_left
          ·exact pA (some 51)
          refine pu 11 (some 52) (lb 12 4095) HT_ ?_;refine q3v (q2F HT_.out X39) ?_;try go_wp2
          go_ret
          exact ⟨X14, X173⟩
        ·exact iN cG H
       ·exact iN cF H
      ·rw [if_neg cE] at H;have c22b0 := dF cE;clear cE;obtain rfl := Option.some.inj H;have hnb35 := bI.out;have hnc35 := bJ.out;have Z36 := bc4 bD;go_wp2
       go_ret
       exact ⟨X14, X173⟩
def q1i.j0 : Nat → ByteArray → Bool → Option (Bool)
 | 0, _, _ => none
 | k + 1, x0, aA => if aA = true then ((q1K.f k).bind fun aC => (some aC)) else ((q1H.f k x0).bind fun aD => ((q1C.f k x0).bind fun aE => (if aD.2.2.2.2 = aE.2.2.2.2 then ((q0m.f k aD.1 aD.2.1 aD.2.2.1 aD.2.2.2.1 aE.1 aE.2.1 aE.2.2.1 aE.2.2.2.1).bind fun aG => (some aG)) else (some false))))
def q1i.f (k : Nat) (a0 : ByteArray) : Option (Bool) := (q1K.f k).bind fun aA => (if aA = true then (q1i.j0 k a0 (decide ((a0.size : Int) > 2000))) else (q1i.j0 k a0 true))
theorem q1i.calls (k : Nat) (a0 : ByteArray) (r : Bool) (w : World) (h : q1i.f k a0 = some r) :
  Calls Tryd.prog 3 #[.string a0] w fun e w' => e = .returned (.bool r) ∧ Below w.heap.size w w' := by
 have hu25 := Tryd.underlying25;have HB := am (Below.refl w.heap.size w);have H := h;clear h;unfold q1i.f at H;have aA := am H;clear H;go_enter Tryd.func3, Tryd.ntmps3;go_upto_region 1 with (fail)
 go_cut [13] (fun aC wc => ∃ (kq : Nat) (aD : Bool), aC = .bool aD ∧ q0h (q1i.j0 kq a0 aD = some r) ∧ q0h (kq ≤ k) ∧ q0h (Below w.heap.size w wc))
 case first =>
  have H := aA.out;clear aA;obtain ⟨aE, aG, H⟩ := oB H;(try dsimp only at H);have A3 := am aG;clear aG;by_cases c4 : aE = true
  ·subst c4;replace H := tP H;have H' := am H;clear H;go_wp2_with (first | ((with_reducible refine gc 9 ?_); refine gL (some 7) Tryd.func9 #[] ?_; (with_reducible refine (q1K.calls k  true _ A3.out).mono ?_); rintro e w5 ⟨rfl, hb⟩; refine ⟨_, rfl, ?_⟩; replace HB := bS X13 hb; clear hb))
   go_meet
   case rel => exact ⟨_, (decide ((a0.size : Int) > 2000)), X4, H', ⟨X7⟩, ⟨X13⟩⟩
  ·replace c4 := Bool.eq_false_iff.mpr c4;subst c4;replace H := tN H;have H' := am H;clear H;go_wp2_with (first | ((with_reducible refine gc 9 ?_); refine gL (some 7) Tryd.func9 #[] ?_; (with_reducible refine (q1K.calls k  false _ A3.out).mono ?_); rintro e w6 ⟨rfl, hb⟩; refine ⟨_, rfl, ?_⟩; replace HB := bS X13 hb; clear hb))
   go_meet
   case rel => exact ⟨_, (true), X4, H', ⟨X7⟩, ⟨X13⟩⟩
 case rest =>
  clear aA;(try clear p2);(try clear c3);(try clear c4);obtain ⟨kq, aD, rfl, HA, HJ1, HB⟩ := hcut;cases kq with
  | zero => exact absurd HA.out (by simp [q1i.j0])
  | succ aH =>
   have H := HA.out;clear HA;simp only [q1i.j0] at H;by_cases c7 : aD = true
   ·subst c7;replace H := tP H;obtain ⟨aI, aJ, H⟩ := oB H;(try dsimp only at H);have A8 := am aJ;clear aJ;obtain rfl := Option.some.inj H;go_wp2_with (first | ((with_reducible refine gc 9 ?_); refine gL (some 14) Tryd.func9 #[] ?_; (with_reducible refine (q1K.calls aH  aI _ A8.out).mono ?_); rintro e w9 ⟨rfl, hb⟩; refine ⟨_, rfl, ?_⟩; replace HB := bS X13 hb; clear hb))
    go_ret
    exact ⟨X14, X13⟩
   ·replace c7 := Bool.eq_false_iff.mpr c7;subst c7;replace H := tN H;obtain ⟨⟨aK, aM, aQ, aT, aU⟩, aW, H⟩ := oB H;(try dsimp only at H);have aX := am aW;clear aW;obtain ⟨⟨aY, aZ, bA, bB, bC⟩, bD, H⟩ := oB H;(try dsimp only at H);have bE := am bD;clear bD;by_cases bF : aU = bC
    ·rw [if_pos bF] at H;have c12b0 := eT bF;have c12b1 := eF bF;clear bF;obtain ⟨bG, bH, H⟩ := oB H;(try dsimp only at H);have bI := am bH;clear bH;obtain rfl := Option.some.inj H;go_wp2_with (first | ((with_reducible refine gc 10 ?_); refine gL (some 17) Tryd.func10 #[.string a0] ?_; (with_reducible refine (q1H.calls aH a0 aK aM aQ aT aU _ aX.out).mono ?_); rintro e w14 ⟨bJ, rfl, bK, hb⟩; refine ⟨_, rfl, ?_⟩; have bL := am (Kd.V_lower (Kd.V_mono (ok' := fun k_ => True) bK (fun k_ hk_ => trivial)) (q1l X13)); replace HB := bS X13 hb; clear hb; (try clear bK)) | ((with_reducible refine gd 3 ?_); (try (refine q1c (by rfl) ?_; dsimp only)); refine be 3 #[.int .i64 0, .string ⟨#[]⟩, .int .i64 0, .slice none 0 0] 25 ?_; intro bM hg w15 hbox hb; replace bL := am (Kd.V_below (Kd.V_elderB (aV bL.out) bM (Nat.le_of_eq hg.symm)) hb); have bN := am (hbox); have bO := sG (w := w) hg X13; have bP := sG (w := w) hg X13; replace HB := bS X13 hb; clear hb hbox hg; have Z16 := bc4 bN; obtain ⟨bQ, bR, bT⟩ := Kd.V_slice bL.out; subst bT) | ((with_reducible refine gc 11 ?_); refine gL (some 22) Tryd.func11 #[.string a0] ?_; (with_reducible refine (q1C.calls aH a0 aY aZ bA bB bC _ bE.out).mono ?_); rintro e w18 ⟨bU, rfl, bK, hb⟩; refine ⟨_, rfl, ?_⟩; replace bL := am (Kd.V_below (aV (Kd.V_mono (Kd.V_far (p := ⟨bM, 3, none⟩) (Kd.V_far (p := ⟨bM, 2, none⟩) (Kd.V_far (p := ⟨bM, 1, none⟩) (Kd.V_far (p := ⟨bM, 0, none⟩) (Kd.V_mono bL.out (fun k_ hk => (⟨hk, hk.2⟩ : _ ∧ k_ ≠ bM))) (fun _ hk => hk.2) (.int .i64 aK)) (fun _ hk => hk.2) (.string aM)) (fun _ hk => hk.2) (.int .i64 aQ)) (fun _ hk => hk.2) (.slice bQ aT.length bR)) (fun _ h_ => h_.1))) hb); have bV := am (Kd.V_lower (Kd.V_mono (ok' := fun k_ => k_ ≠ bM) bK (fun k_ hk_ => (Kd.freshB (g := bM) (o := .cells #[.int .i64 aK, .string aM, .int .i64 aQ, .slice bQ aT.length bR] 25 (0, 0)) (bq0 bN) k_ hk_))) (q1l X177)); replace bN := kBg0 bN hb; replace HB := bS X177 hb; clear hb; (try clear bK)) | ((with_reducible refine gd 5 ?_); (try (refine q1c (by rfl) ?_; dsimp only)); refine be 5 #[.int .i64 0, .string ⟨#[]⟩, .int .i64 0, .slice none 0 0] 25 ?_; intro bW hg w19 hbox hb; replace bL := am (Kd.V_below (Kd.V_elderB (aV bL.out) bW (Nat.le_of_eq hg.symm)) hb); replace bV := am (Kd.V_below (Kd.V_elderB (aV bV.out) bW (Nat.le_of_eq hg.symm)) hb); have bX := am (hbox); have bY := sG (w := w) hg X177; have bZ := sG (w := w) hg X177; replace HB := bS X177 hb; have cA := nLT hg bN; have cC := nGT hg bN; replace bN := kB bN hb; clear hb hbox hg; have hnb20 := cC.out; have hnc20 := cA.out; have Z21 := bc4 bX; obtain ⟨cD, cE, cF⟩ := Kd.V_slice bV.out; subst cF; have Z23 := bc4 bN) | (go_at_call 12; (with_reducible refine (q0m.calls aH aK aM aQ _ _ aT aY aZ bA _ _ bB bG _ ?side1 ?side2 ?side3 ?side4 bI.out).mono ?_); (case side1 => refine (Kd.V_reads' (e := 25) (base := w.heap.size) (ok := fun k_ => ((True ∧ k_ ≠ bM) ∧ k_ ≠ bW)) (n := aT.length) (c := bR) ?_).2.2; exact (aV (Kd.V_mono (Kd.V_far (p := ⟨bW, 3, none⟩) (Kd.V_far (p := ⟨bW, 2, none⟩) (Kd.V_far (p := ⟨bW, 1, none⟩) (Kd.V_far (p := ⟨bW, 0, none⟩) (Kd.V_mono bL.out (fun k_ hk => (⟨hk, hk.2⟩ : _ ∧ k_ ≠ bW))) (fun _ hk => hk.2) (.int .i64 aY)) (fun _ hk => hk.2) (.string aZ)) (fun _ hk => hk.2) (.int .i64 bA)) (fun _ hk => hk.2) (.slice cD bB.length cE)) (fun _ h_ => h_.1)))); (case side2 => exact (Kd.V_reads' bL.out).2.1); (case side3 => refine (Kd.V_reads' (e := 25) (base := w.heap.size) (ok := fun k_ => (k_ ≠ bM ∧ k_ ≠ bW)) (n := bB.length) (c := cE) ?_).2.2; exact (aV (Kd.V_mono (Kd.V_far (p := ⟨bW, 3, none⟩) (Kd.V_far (p := ⟨bW, 2, none⟩) (Kd.V_far (p := ⟨bW, 1, none⟩) (Kd.V_far (p := ⟨bW, 0, none⟩) (Kd.V_mono bV.out (fun k_ hk => (⟨hk, hk.2⟩ : _ ∧ k_ ≠ bW))) (fun _ hk => hk.2) (.int .i64 aY)) (fun _ hk => hk.2) (.string aZ)) (fun _ hk => hk.2) (.int .i64 bA)) (fun _ hk => hk.2) (.slice cD bB.length cE)) (fun _ h_ => h_.1)))); (case side4 => exact (Kd.V_reads' bV.out).2.1); rintro e w24 ⟨rfl, hb⟩; replace bL := am (Kd.V_below (aV (Kd.V_mono (Kd.V_far (p := ⟨bW, 3, none⟩) (Kd.V_far (p := ⟨bW, 2, none⟩) (Kd.V_far (p := ⟨bW, 1, none⟩) (Kd.V_far (p := ⟨bW, 0, none⟩) (Kd.V_mono bL.out (fun k_ hk => (⟨hk, hk.2⟩ : _ ∧ k_ ≠ bW))) (fun _ hk => hk.2) (.int .i64 aY)) (fun _ hk => hk.2) (.string aZ)) (fun _ hk => hk.2) (.int .i64 bA)) (fun _ hk => hk.2) (.slice cD bB.length cE)) (fun _ h_ => h_.1))) hb); replace bV := am (Kd.V_below (aV (Kd.V_mono (Kd.V_far (p := ⟨bW, 3, none⟩) (Kd.V_far (p := ⟨bW, 2, none⟩) (Kd.V_far (p := ⟨bW, 1, none⟩) (Kd.V_far (p := ⟨bW, 0, none⟩) (Kd.V_mono bV.out (fun k_ hk => (⟨hk, hk.2⟩ : _ ∧ k_ ≠ bW))) (fun _ hk => hk.2) (.int .i64 aY)) (fun _ hk => hk.2) (.string aZ)) (fun _ hk => hk.2) (.int .i64 bA)) (fun _ hk => hk.2) (.slice cD bB.length cE)) (fun _ h_ => h_.1))) hb); replace bN := kBg1 bN cA hb; replace bX := kBg0 bX hb; replace HB := bS X178 hb; clear hb))
     go_ret
     exact ⟨X14, X178⟩
    ·rw [if_neg bF] at H;have c12b0 := nF bF;have c12b1 := nT bF;obtain rfl := Option.some.inj H;go_wp2_with (first | ((with_reducible refine gc 10 ?_); refine gL (some 17) Tryd.func10 #[.string a0] ?_; (with_reducible refine (q1H.calls aH a0 aK aM aQ aT aU _ aX.out).mono ?_); rintro e w25 ⟨bJ, rfl, bK, hb⟩; refine ⟨_, rfl, ?_⟩; have bL := am (Kd.V_lower (Kd.V_mono (ok' := fun k_ => True) bK (fun k_ hk_ => trivial)) (q1l X13)); replace HB := bS X13 hb; clear hb; (try clear bK)) | ((with_reducible refine gd 3 ?_); (try (refine q1c (by rfl) ?_; dsimp only)); refine be 3 #[.int .i64 0, .string ⟨#[]⟩, .int .i64 0, .slice none 0 0] 25 ?_; intro bM hg w26 hbox hb; replace bL := am (Kd.V_below (Kd.V_elderB (aV bL.out) bM (Nat.le_of_eq hg.symm)) hb); have bN := am (hbox); have bO := sG (w := w) hg X13; have bP := sG (w := w) hg X13; replace HB := bS X13 hb; clear hb hbox hg; have Z27 := bc4 bN; obtain ⟨cG, cH, cI⟩ := Kd.V_slice bL.out; subst cI) | ((with_reducible refine gc 11 ?_); refine gL (some 22) Tryd.func11 #[.string a0] ?_; (with_reducible refine (q1C.calls aH a0 aY aZ bA bB bC _ bE.out).mono ?_); rintro e w29 ⟨bU, rfl, bK, hb⟩; refine ⟨_, rfl, ?_⟩; replace bL := am (Kd.V_below (aV (Kd.V_mono (Kd.V_far (p := ⟨bM, 3, none⟩) (Kd.V_far (p := ⟨bM, 2, none⟩) (Kd.V_far (p := ⟨bM, 1, none⟩) (Kd.V_far (p := ⟨bM, 0, none⟩) (Kd.V_mono bL.out (fun k_ hk => (⟨hk, hk.2⟩ : _ ∧ k_ ≠ bM))) (fun _ hk => hk.2) (.int .i64 aK)) (fun _ hk => hk.2) (.string aM)) (fun _ hk => hk.2) (.int .i64 aQ)) (fun _ hk => hk.2) (.slice cG aT.length cH)) (fun _ h_ => h_.1))) hb); have bV := am (Kd.V_lower (Kd.V_mono (ok' := fun k_ => k_ ≠ bM) bK (fun k_ hk_ => (Kd.freshB (g := bM) (o := .cells #[.int .i64 aK, .string aM, .int .i64 aQ, .slice cG aT.length cH] 25 (0, 0)) (bq0 bN) k_ hk_))) (q1l X177)); replace bN := kBg0 bN hb; replace HB := bS X177 hb; clear hb; (try clear bK)) | ((with_reducible refine gd 5 ?_); (try (refine q1c (by rfl) ?_; dsimp only)); refine be 5 #[.int .i64 0, .string ⟨#[]⟩, .int .i64 0, .slice none 0 0] 25 ?_; intro bW hg w30 hbox hb; replace bL := am (Kd.V_below (Kd.V_elderB (aV bL.out) bW (Nat.le_of_eq hg.symm)) hb); replace bV := am (Kd.V_below (Kd.V_elderB (aV bV.out) bW (Nat.le_of_eq hg.symm)) hb); have bX := am (hbox); have bY := sG (w := w) hg X177; have bZ := sG (w := w) hg X177; replace HB := bS X177 hb; have cA := nLT hg bN; have cC := nGT hg bN; replace bN := kB bN hb; clear hb hbox hg; have hnb31 := cC.out; have hnc31 := cA.out; have Z32 := bc4 bX; obtain ⟨Ao33, co33, cJ⟩ := Kd.V_slice bV.out; subst cJ))
     go_ret
     exact ⟨X14, X178⟩
end Go.Proofs.YtmffocankommaaaDoor.U
