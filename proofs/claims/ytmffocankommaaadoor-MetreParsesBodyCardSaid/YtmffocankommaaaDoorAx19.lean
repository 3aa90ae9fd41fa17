/- Printed walks: what each function of the program computes. Condition: the Lean function gives a value. -/
import Derived.Test.YtmffocankommaaaDoorAYZed
import Derived.Test.YtmffocankommaaaDoorAx3
import Derived.Test.YtmffocankommaaaDoorAx16
namespace Go.Proofs.YtmffocankommaaaDoor.U
open Go.RowKit Go.Proofs.YtmffocankommaaaDoorW.PrintWords Go.Proofs.YtmffocankommaaaDoorW.PrintLast Go.Proofs.YtmffocankommaaaDoorW.PrintMore Go.Proofs.YtmffocankommaaaDoorY Go.Proofs.YtmffocankommaaaDoorS
attribute [local go_sem] q1T q2i q2l q2u q2v q2d q2c q2j q2k
set_option linter.unusedVariables false
set_option maxHeartbeats 8000000
set_option maxRecDepth 100000
set_option linter.unusedSimpArgs false
mutual
def q0n.j1 : Nat → ByteArray → Int → Option (Int × ByteArray × Int × Int × Int)
 | 0, _, _ => none
 | k + 1, x0, x5 => if x5 = (x0.size : Int) then (q0n.j2 k x0 x5 true) else (if 0 ≤ x5 then (if x5 < (x0.size : Int) then (q0n.j2 k x0 x5 ((bt x0 x5) != 34)) else (none)) else (none))
def q0n.j2 : Nat → ByteArray → Int → Bool → Option (Int × ByteArray × Int × Int × Int)
 | 0, _, _, _ => none
 | k + 1, x0, x5, aA => if aA = true then (some (0, (⟨#[]⟩ : ByteArray), 0, 0, 2)) else (if (wrap64 (x5 - 1)) > 60 then (some (0, (⟨#[]⟩ : ByteArray), 0, 0, 3)) else (if 1 ≤ x5 then (if x5 ≤ (x0.size : Int) then (some (3, x0.extract 1 (x5 : Int).toNat, 0, wrap64 (x5 + 1), 0)) else (none)) else (none)))
def q0n.l0 : Nat → ByteArray → Int → Option (Int × ByteArray × Int × Int × Int)
 | 0, _, _ => none
 | k + 1, x0, x5 => if x5 < (x0.size : Int) then (if 0 ≤ x5 then ((q2m.f (bt x0 x5)).bind fun aA => (if aA = true then (q0n.l0 k x0 (wrap64 (x5 + 1))) else (q0n.j1 k x0 x5))) else (none)) else (q0n.j1 k x0 x5)
end
def q0n.f (k : Nat) (a0 : ByteArray) : Option (Int × ByteArray × Int × Int × Int) := q0n.l0 k a0 1
theorem q0n.mono_l : ∀ k, (∀ y0 y1, LeO (q0n.j1 k y0 y1) (q0n.j1 (k + 1) y0 y1)) ∧ (∀ y0 y1 y2, LeO (q0n.j2 k y0 y1 y2) (q0n.j2 (k + 1) y0 y1 y2)) ∧ (∀ y0 y1, LeO (q0n.l0 k y0 y1) (q0n.l0 (k + 1) y0 y1))
 | 0 => ⟨fun _ _ r h => by simp [q0n.j1] at h, fun _ _ _ r h => by simp [q0n.j2] at h, fun _ _ r h => by simp [q0n.l0] at h⟩
 | k + 1 => by
  obtain ⟨aA, aC, aD⟩ := q0n.mono_l k;refine ⟨?_, ?_, ?_⟩
  ·intro y0 y1;unfold q0n.j1;exact X83
  ·intro y0 y1 y2;unfold q0n.j2;exact X83
  ·intro y0 y1;unfold q0n.l0;exact X83
theorem q0n.mono : ∀ a0 k, LeO (q0n.f k a0) (q0n.f (k + 1) a0) := by
 intro a0 k;obtain ⟨aA, aC, aD⟩ := q0n.mono_l k;unfold q0n.f;exact X83
theorem q0n.calls (k : Nat) (a0 : ByteArray) (r1 : Int) (r2 : ByteArray) (r3 : Int) (r4 : Int) (r5 : Int) (w : World) (h : q0n.f k a0 = some (r1, r2, r3, r4, r5)) :
  Calls Tryd.prog 90 #[.string a0] w fun e w' => e = .returned (.tuple #[.agg #[.int .i64 r1, .string r2, .int .i64 r3], .int .i64 r4, .int .i64 r5]) ∧ Below w.heap.size w w' := by
 have hu36 := Tryd.underlying36;have HB := am (Below.refl w.heap.size w);have H := h;clear h;unfold q0n.f at H;have aA := am H;clear H;go_enter Tryd.func90, Tryd.ntmps90;go_upto_block 0 with (first | ((with_reducible refine gd 2 ?_); refine be 2 #[.int .i64 0, .string ⟨#[]⟩, .int .i64 0] 36 ?_; intro aC hg w3 hbox hb; have aD := am (hbox); have GW684 := sG (w := w) hg X13; have aE := sG (w := w) hg X13; replace HB := bS X13 hb; clear hb hbox hg))
 (try simp only [Act.put, List.setIfInBounds_toArray, List.set_cons_zero, List.set_cons_succ]);go_cut [5] (fun v5 wc => ∃ (kq : Nat) (aG : Int), v5 = .int .i64 aG ∧ q0h (q0n.j1 kq a0 aG = some (r1, r2, r3, r4, r5)) ∧ q0h (kq ≤ k) ∧ q0h (wc.heap[aC]? = some (.cells #[.int .i64 0, .string ⟨#[]⟩, .int .i64 0] 36 (0, 0))) ∧ q0h (Below w.heap.size w wc))
 case first =>
  have H := aA.out;clear aA;have H' := am H;clear H;go_wp2
  go_loopg [5] k (fun kq v5 w' => ∃ (aG : Int), v5 = .int .i64 aG ∧ q0h (q0n.l0 kq a0 aG = some (r1, r2, r3, r4, r5)) ∧ q0h (kq ≤ k) ∧ q0h (w'.heap[aC]? = some (.cells #[.int .i64 0, .string ⟨#[]⟩, .int .i64 0] 36 (0, 0))) ∧ q0h (Below w.heap.size w w'))
  case atStart => exact ⟨(1), X4, H', ⟨Nat.le_refl _⟩, ⟨X84⟩, ⟨X85⟩⟩
  case round =>
   clear H';(try clear p2);obtain ⟨aG, rfl, HA, aH, aD, HB⟩ := hrel;cases gk with
   | zero => exact absurd HA.out (by simp [q0n.l0])
   | succ k1 =>
    have H := HA.out;clear HA;simp only [q0n.l0] at H;by_cases c4 : aG < (a0.size : Int)
    ·rw [if_pos c4] at H;have c4b0 := dT c4;clear c4;(first | rw [c4b0] | (simp only [q2x, q2G]; rw [c4b0]) | skip);by_cases c5 : 0 ≤ aG
     ·rw [if_pos c5] at H;have c5b0 := dT c5;clear c5;obtain ⟨aI, aJ, H⟩ := oB H;(try dsimp only at H);have A7 := am aJ;clear aJ;by_cases c8 : aI = true
      ·subst c8;replace H := tP H;have H' := am H;clear H;have p6 : 0 ≤ (aG : Int) := of_decide_eq_true X8;have q6 : aG < (a0.size : Int) := of_decide_eq_true X8;have aK := q2p a0 aG;replace p6 := eq_true p6;replace q6 := eq_true q6;go_wp2_with (first | (go_at_call 122; (with_reducible refine (q2m.calls (bt a0 aG) true _ A7.out).mono ?_); rintro e w' ⟨rfl, ⟨nd, rfl⟩⟩))
       go_roundg k1
       case measure => have := aH.out; omega
       case rel => exact ⟨(wrap64 (aG + 1)), X4, H', ⟨by have := aH.out; omega⟩, ⟨X84⟩, ⟨X85⟩⟩
      ·replace c8 := Bool.eq_false_iff.mpr c8;subst c8;replace H := tN H;have H' := am H;clear H;have p6 : 0 ≤ (aG : Int) := of_decide_eq_true X8;have q6 : aG < (a0.size : Int) := of_decide_eq_true X8;have aK := q2p a0 aG;replace p6 := eq_true p6;replace q6 := eq_true q6;go_wp2_with (first | (go_at_call 122; (with_reducible refine (q2m.calls (bt a0 aG) false _ A7.out).mono ?_); rintro e w' ⟨rfl, ⟨nd, rfl⟩⟩))
       go_meet
       case rel => exact ⟨_, (aG), X4, H', ⟨by have := aH.out; first | omega | exact Nat.le_refl _⟩, ⟨X84⟩, ⟨X85⟩⟩
     ·exact iN c5 H
    ·rw [if_neg c4] at H;have c4b0 := dF c4;clear c4;(first | rw [c4b0] | (simp only [q2x, q2G]; rw [c4b0]) | skip);have H' := am H;clear H;go_wp2
     go_meet
     case rel => exact ⟨_, (aG), X4, H', ⟨by have := aH.out; first | omega | exact Nat.le_refl _⟩, ⟨X84⟩, ⟨X85⟩⟩
 case rest =>
  clear aA;(try clear p2 p2);(try clear c4);(try clear c4b0);(try clear c5);(try clear c5b0);(try clear p6 p6);(try clear q6 q6);(try clear aK);(try clear c8);obtain ⟨kq, aG, rfl, HA, aM, aD, HB⟩ := hcut;cases kq with
  | zero => exact absurd HA.out (by simp [q0n.j1])
  | succ aQ =>
   have H := HA.out;clear HA;simp only [q0n.j1] at H;have aT := am H;clear H;go_upto_region 4 with (fail)
   go_cut [27] (fun aU wc => ∃ (kq : Nat) (aW : Bool), aU = .bool aW ∧ q0h (q0n.j2 kq a0 aG aW = some (r1, r2, r3, r4, r5)) ∧ q0h (kq ≤ aQ) ∧ q0h (wc.heap[aC]? = some (.cells #[.int .i64 0, .string ⟨#[]⟩, .int .i64 0] 36 (0, 0))) ∧ q0h (Below w.heap.size w wc))
   case first =>
    have H := aT.out;clear aT;by_cases c10 : aG = (a0.size : Int)
    ·rw [if_pos c10] at H;have c10b0 := eT c10;have c10b1 := eF c10;clear c10;(first | rw [c10b0] | (simp only [q2x, q2G]; rw [c10b0]) | skip);have H' := am H;clear H;go_wp2
     go_meet
     case rel => exact ⟨_, (true), X4, H', ⟨by have := aM.out; first | omega | exact Nat.le_refl _⟩, ⟨X84⟩, ⟨X85⟩⟩
    ·rw [if_neg c10] at H;have c10b0 := nF c10;have c10b1 := nT c10;(first | rw [c10b0] | (simp only [q2x, q2G]; rw [c10b0]) | skip);by_cases aX : 0 ≤ aG
     ·rw [if_pos aX] at H;have c11b0 := dT aX;clear aX;by_cases aY : aG < (a0.size : Int)
      ·rw [if_pos aY] at H;have c12b0 := dT aY;clear aY;have H' := am H;clear H;have aZ : 0 ≤ (aG : Int) := of_decide_eq_true X8;have bA : aG < (a0.size : Int) := of_decide_eq_true X8;have bB := q2p a0 aG;replace aZ := eq_true aZ;replace bA := eq_true bA;go_wp2
       go_meet
       case rel => exact ⟨_, (((bt a0 aG) != 34)), X4, H', ⟨by have := aM.out; first | omega | exact Nat.le_refl _⟩, ⟨X84⟩, ⟨X85⟩⟩
      ·exact iN aY H
     ·exact iN aX H
   case rest =>
    clear aT;(try clear c1);(try clear p1);(try clear q1);(try clear hx1);(try clear p2 p2);(try clear c4);(try clear c4b0);(try clear c5);(try clear c5b0);(try clear p6 p6);(try clear q6 q6);(try clear aK);(try clear c8);(try clear c9);(try clear c10);(try clear c10b0);(try clear c10b1);(try clear aX);(try clear c11b0);(try clear aY);(try clear c12b0);(try clear aZ aZ);(try clear bA bA);(try clear bB);obtain ⟨kq, aW, rfl, HA, HJ8, aD, HB⟩ := hcut;cases kq with
    | zero => exact absurd HA.out (by simp [q0n.j2])
    | succ kj8 =>
     have H := HA.out;clear HA;simp only [q0n.j2] at H;by_cases bC : aW = true
     ·subst bC;replace H := tP H;simp only [Option.some.injEq, Prod.mk.injEq] at H;obtain ⟨rfl, rfl, rfl, rfl, rfl⟩ := H;have Z15 := bc3 aD;go_wp2
      refine bodyPost_ret (q2a rfl _ _ aC 36 #[.int .i64 0, .string ⟨#[]⟩, .int .i64 0] (0, 0) _ rfl (bq0 aD) Tryd.underlying36 rfl X39) rfl ?_;exact ⟨X14, X85⟩
     ·replace bC := Bool.eq_false_iff.mpr bC;subst bC;replace H := tN H;by_cases bD : (wrap64 (aG - 1)) > 60
      ·rw [if_pos bD] at H;have c16b0 : decide (60 < (wrap64 (aG - 1))) = true := decide_eq_true bD;clear bD;simp only [Option.some.injEq, Prod.mk.injEq] at H;obtain ⟨rfl, rfl, rfl, rfl, rfl⟩ := H;have Z17 := bc3 aD;go_wp2
       refine bodyPost_ret (q2a rfl _ _ aC 36 #[.int .i64 0, .string ⟨#[]⟩, .int .i64 0] (0, 0) _ rfl (bq0 aD) Tryd.underlying36 rfl X39) rfl ?_;exact ⟨X14, X85⟩
      ·rw [if_neg bD] at H;have c16b0 : decide (60 < (wrap64 (aG - 1))) = false := decide_eq_false bD;clear bD;by_cases bE : 1 ≤ aG
       ·rw [if_pos bE] at H;have c18b0 := eq_true bE;have c18b1 := dT bE;clear bE;by_cases bF : aG ≤ (a0.size : Int)
        ·rw [if_pos bF] at H;have c19b0 := eq_true bF;have c19b1 := dT bF;clear bF;simp only [Option.some.injEq, Prod.mk.injEq] at H;obtain ⟨rfl, rfl, rfl, rfl, rfl⟩ := H;have Z20 := bc3 aD;go_wp2
         refine bodyPost_ret (q2a rfl _ _ aC 36 #[.int .i64 3, .string (a0.extract 1 (aG : Int).toNat), .int .i64 0] (0, 0) _ rfl (bq0 aD) Tryd.underlying36 rfl X39) rfl ?_;exact ⟨X14, X85⟩
        ·exact iN bF H
       ·exact iN bE H

def q1e.l0 : Nat → Int → Int → Option (Bool)
 | 0, _, _ => none
 | k + 1, x0, x3 => if x3 < 21 then (if 0 ≤ x3 then (if (bt (⟨#[123, 125, 40, 41, 91, 93, 47, 59, 58, 126, 64, 61, 94, 44, 46, 124, 43, 42, 60, 62, 45]⟩ : ByteArray) x3) = x0 then (some true) else (q1e.l0 k x0 (wrap64 (x3 + 1)))) else (none)) else (some false)
def q1e.f (k : Nat) (a0 : Int) : Option (Bool) := q1e.l0 k a0 0
theorem q1e.mono_l : ∀ k, (∀ y0 y1, LeO (q1e.l0 k y0 y1) (q1e.l0 (k + 1) y0 y1))
 | 0 => fun _ _ r h => by simp [q1e.l0] at h
 | k + 1 => by
  have aA := q1e.mono_l k
  ·intro y0 y1;unfold q1e.l0;exact X11
theorem q1e.mono : ∀ a0 k, LeO (q1e.f k a0) (q1e.f (k + 1) a0) := by
 intro a0 k;have aA := q1e.mono_l k;unfold q1e.f;exact X11
theorem q1e.calls (k : Nat) (a0 : Int) (r : Bool) (w : World) (h : q1e.f k a0 = some r) :
  Calls Tryd.prog 91 #[.int .u8 a0] w fun e w' => e = .returned (.bool r) ∧ q2b w w' := by
 have H := h;clear h;unfold q1e.f at H;have H' := am H;clear H;go_enter Tryd.func91, Tryd.ntmps91;go_wp2
 go_loopg [3] k (fun kq v3 w' => ∃ (aA : Int), v3 = .int .i64 aA ∧ q0h (q1e.l0 kq a0 aA = some r) ∧ q0h (kq ≤ k) ∧ q2b w w')
 case atStart => exact ⟨(0), X4, H', ⟨Nat.le_refl _⟩, X5⟩
 case round =>
  clear H';obtain ⟨aA, rfl, HA, aC, ⟨m1, rfl⟩⟩ := hrel;cases gk with
  | zero => exact absurd HA.out (by simp [q1e.l0])
  | succ k1 =>
   have H := HA.out;clear HA;simp only [q1e.l0] at H;by_cases c2 : aA < 21
   ·rw [if_pos c2] at H;have c2b0 := dT c2;clear c2;by_cases c3 : 0 ≤ aA
    ·rw [if_pos c3] at H;have c3b0 := dT c3;clear c3;by_cases c5 : (bt (⟨#[123, 125, 40, 41, 91, 93, 47, 59, 58, 126, 64, 61, 94, 44, 46, 124, 43, 42, 60, 62, 45]⟩ : ByteArray) aA) = a0
     ·rw [if_pos c5] at H;have c5b0 := eT c5;have c5b1 := eF c5;clear c5;obtain rfl := Option.some.inj H;have p4 : 0 ≤ (aA : Int) := of_decide_eq_true X8;have q4 : aA < (21 : Int) := of_decide_eq_true X8;have aD := q2p (⟨#[123, 125, 40, 41, 91, 93, 47, 59, 58, 126, 64, 61, 94, 44, 46, 124, 43, 42, 60, 62, 45]⟩ : ByteArray) aA;replace p4 := eq_true p4;replace q4 := eq_true q4;go_wp2
      go_ret
      exact ⟨X4, X5⟩
     ·rw [if_neg c5] at H;have c5b0 := nF c5;have c5b1 := nT c5;have H' := am H;clear H;have p4 : 0 ≤ (aA : Int) := of_decide_eq_true X8;have q4 : aA < (21 : Int) := of_decide_eq_true X8;have aD := q2p (⟨#[123, 125, 40, 41, 91, 93, 47, 59, 58, 126, 64, 61, 94, 44, 46, 124, 43, 42, 60, 62, 45]⟩ : ByteArray) aA;replace p4 := eq_true p4;replace q4 := eq_true q4;go_wp2
      go_roundg k1
      case measure => have := aC.out; omega
      case rel => exact ⟨(wrap64 (aA + 1)), X4, H', ⟨by have := aC.out; omega⟩, X5⟩
    ·exact iN c3 H
   ·rw [if_neg c2] at H;have c2b0 := dF c2;clear c2;obtain rfl := Option.some.inj H;go_wp2
    go_ret
    exact ⟨X4, X5⟩

def q1q.f (k : Nat) (a0 : ByteArray) : Option (Int × ByteArray × Int × Int × Int) := (q0r.f k a0).bind fun aA => (if aA > 0 then (if aA > 20 then (some (0, (⟨#[]⟩ : ByteArray), 0, 0, 3)) else (if 0 ≤ aA then (if aA ≤ (a0.size : Int) then (some (1, a0.extract 0 (aA : Int).toNat, 0, aA, 0)) else (none)) else (none))) else ((q0I.f k a0).bind fun aC => (if aC > 0 then (if aC > 6 then (some (0, (⟨#[]⟩ : ByteArray), 0, 0, 3)) else (if 0 < (a0.size : Int) then (if (bt a0 0) = 48 then (if aC > 1 then (some (0, (⟨#[]⟩ : ByteArray), 0, 0, 2)) else (if 0 ≤ aC then (if aC ≤ (a0.size : Int) then (some (2, a0.extract 0 (aC : Int).toNat, 0, aC, 0)) else (none)) else (none))) else (if 0 ≤ aC then (if aC ≤ (a0.size : Int) then (some (2, a0.extract 0 (aC : Int).toNat, 0, aC, 0)) else (none)) else (none))) else (none))) else (if 0 < (a0.size : Int) then (if (bt a0 0) = 34 then ((q0n.f k a0).bind fun aD => (some (aD.1, aD.2.1, aD.2.2.1, aD.2.2.2.1, aD.2.2.2.2))) else ((q1e.f k (bt a0 0)).bind fun aE => (if aE = true then (if 0 ≤ 1 then (if 1 ≤ (a0.size : Int) then (some (4, a0.extract 0 1, 0, 1, 0)) else (none)) else (none)) else (some (0, (⟨#[]⟩ : ByteArray), 0, 0, 2))))) else (none)))))
theorem q1q.mono : ∀ a0 k, LeO (q1q.f k a0) (q1q.f (k + 1) a0) := by
 intro a0 k;unfold q1q.f;exact (by repeat' first | (with_reducible exact q0I.mono _ _) | (with_reducible exact q0n.mono _ _) | (with_reducible exact q0r.mono _ _) | (with_reducible exact q1e.mono _ _) | (with_reducible exact LeO.refl _) | (with_reducible exact LeO.none _) | (with_reducible refine LeO.ite ?_ ?_) | (with_reducible refine LeO.bind ?_ (fun _ => ?_)) | exact q0I.mono _ _ | exact q0n.mono _ _ | exact q0r.mono _ _ | exact q1e.mono _ _ | exact LeO.none _ | refine LeO.ite ?_ ?_ | refine LeO.bind ?_ (fun _ => ?_))
theorem q1q.calls (k : Nat) (a0 : ByteArray) (r1 : Int) (r2 : ByteArray) (r3 : Int) (r4 : Int) (r5 : Int) (w : World) (h : q1q.f k a0 = some (r1, r2, r3, r4, r5)) :
  Calls Tryd.prog 40 #[.string a0] w fun e w' => e = .returned (.tuple #[.agg #[.int .i64 r1, .string r2, .int .i64 r3], .int .i64 r4, .int .i64 r5]) ∧ Below w.heap.size w w' := by
 have hu36 := Tryd.underlying36;have HB := am (Below.refl w.heap.size w);have H := h;clear h;unfold q1q.f at H;obtain ⟨aA, aC, H⟩ := oB H;(try dsimp only at H);have A2 := am aC;clear aC;by_cases c3 : aA > 0
 ·rw [if_pos c3] at H;have c3b0 : decide (0 < aA) = true := decide_eq_true c3;clear c3;by_cases c4 : aA > 20
  ·rw [if_pos c4] at H;have c4b0 : decide (20 < aA) = true := decide_eq_true c4;clear c4;simp only [Option.some.injEq, Prod.mk.injEq] at H;obtain ⟨rfl, rfl, rfl, rfl, rfl⟩ := H;go_enter Tryd.func40, Tryd.ntmps40;go_wp2_with (first | ((with_reducible refine gd 2 ?_); refine be 2 #[.int .i64 0, .string ⟨#[]⟩, .int .i64 0] 36 ?_; intro aD hg w5 hbox hb; have aE := am (hbox); have aG := sG (w := w) hg X13; have aH := sG (w := w) hg X13; replace HB := bS X13 hb; clear hb hbox hg) | ((with_reducible refine gc 88 ?_); refine gL (some 8) Tryd.func88 #[.string a0] ?_; (with_reducible refine (q0r.calls k a0 aA _ A2.out).mono ?_); rintro e w' ⟨rfl, ⟨nd, rfl⟩⟩; refine ⟨_, rfl, ?_⟩; (try (rw [q1m w5]; generalize hq_ : World.drewN w5 _ = w5; replace aE : q0h (w5.heap[aD]? = some (.cells #[.int .i64 0, .string ⟨#[]⟩, .int .i64 0] 36 (0, 0))) := ⟨X86⟩; replace HB : q0h (Below w.heap.size w w5) := ⟨X87⟩; clear hq_)); have Z6 := bc3 aE))
   refine bodyPost_ret (q2a rfl _ _ aD 36 #[.int .i64 0, .string ⟨#[]⟩, .int .i64 0] (0, 0) _ rfl (bq0 aE) Tryd.underlying36 rfl X39) rfl ?_;exact ⟨X14, X88⟩
  ·rw [if_neg c4] at H;have c4b0 : decide (20 < aA) = false := decide_eq_false c4;clear c4;by_cases c7 : 0 ≤ aA
   ·rw [if_pos c7] at H;have c7b0 := eq_true c7;have c7b1 := dT c7;clear c7;by_cases c8 : aA ≤ (a0.size : Int)
    ·rw [if_pos c8] at H;have c8b0 := eq_true c8;have c8b1 := dT c8;clear c8;simp only [Option.some.injEq, Prod.mk.injEq] at H;obtain ⟨rfl, rfl, rfl, rfl, rfl⟩ := H;go_enter Tryd.func40, Tryd.ntmps40;go_wp2_with (first | ((with_reducible refine gd 2 ?_); refine be 2 #[.int .i64 0, .string ⟨#[]⟩, .int .i64 0] 36 ?_; intro aD hg w9 hbox hb; have aE := am (hbox); have aG := sG (w := w) hg X13; have aH := sG (w := w) hg X13; replace HB := bS X13 hb; clear hb hbox hg) | ((with_reducible refine gc 88 ?_); refine gL (some 8) Tryd.func88 #[.string a0] ?_; (with_reducible refine (q0r.calls k a0 aA _ A2.out).mono ?_); rintro e w' ⟨rfl, ⟨nd, rfl⟩⟩; refine ⟨_, rfl, ?_⟩; (try (rw [q1m w9]; generalize hq_ : World.drewN w9 _ = w9; replace aE : q0h (w9.heap[aD]? = some (.cells #[.int .i64 0, .string ⟨#[]⟩, .int .i64 0] 36 (0, 0))) := ⟨X86⟩; replace HB : q0h (Below w.heap.size w w9) := ⟨X87⟩; clear hq_)); have Z10 := bc3 aE))
     refine bodyPost_ret (q2a rfl _ _ aD 36 #[.int .i64 1, .string (a0.extract 0 (aA : Int).toNat), .int .i64 0] (0, 0) _ rfl (bq0 aE) Tryd.underlying36 rfl X39) rfl ?_;exact ⟨X14, X88⟩
    ·exact iN c8 H
   ·exact iN c7 H
 ·rw [if_neg c3] at H;have c3b0 : decide (0 < aA) = false := decide_eq_false c3;clear c3;obtain ⟨aI, aJ, H⟩ := oB H;(try dsimp only at H);have aK := am aJ;clear aJ;by_cases aM : aI > 0
  ·rw [if_pos aM] at H;have c12b0 : decide (0 < aI) = true := decide_eq_true aM;clear aM;by_cases aQ : aI > 6
   ·rw [if_pos aQ] at H;have c13b0 : decide (6 < aI) = true := decide_eq_true aQ;clear aQ;simp only [Option.some.injEq, Prod.mk.injEq] at H;obtain ⟨rfl, rfl, rfl, rfl, rfl⟩ := H;go_enter Tryd.func40, Tryd.ntmps40;go_wp2_with (first | ((with_reducible refine gd 2 ?_); refine be 2 #[.int .i64 0, .string ⟨#[]⟩, .int .i64 0] 36 ?_; intro aD hg aT hbox hb; have aE := am (hbox); have aG := sG (w := w) hg X13; have aH := sG (w := w) hg X13; replace HB := bS X13 hb; clear hb hbox hg) | ((with_reducible refine gc 88 ?_); refine gL (some 8) Tryd.func88 #[.string a0] ?_; (with_reducible refine (q0r.calls k a0 aA _ A2.out).mono ?_); rintro e w' ⟨rfl, ⟨nd, rfl⟩⟩; refine ⟨_, rfl, ?_⟩; (try (rw [q1m aT]; generalize hq_ : World.drewN aT _ = aT; replace aE : q0h (aT.heap[aD]? = some (.cells #[.int .i64 0, .string ⟨#[]⟩, .int .i64 0] 36 (0, 0))) := ⟨X86⟩; replace HB : q0h (Below w.heap.size w aT) := ⟨X87⟩; clear hq_))) | ((with_reducible refine gc 89 ?_); refine gL (some 20) Tryd.func89 #[.string a0] ?_; (with_reducible refine (q0I.calls k a0 aI _ aK.out).mono ?_); rintro e w' ⟨rfl, ⟨nd, rfl⟩⟩; refine ⟨_, rfl, ?_⟩; (try (rw [q1m aT]; generalize hq_ : World.drewN aT _ = aT; replace aE : q0h (aT.heap[aD]? = some (.cells #[.int .i64 0, .string ⟨#[]⟩, .int .i64 0] 36 (0, 0))) := ⟨X86⟩; replace HB : q0h (Below w.heap.size w aT) := ⟨X87⟩; clear hq_)); have Z15 := bc3 aE))
    refine bodyPost_ret (q2a rfl _ _ aD 36 #[.int .i64 0, .string ⟨#[]⟩, .int .i64 0] (0, 0) _ rfl (bq0 aE) Tryd.underlying36 rfl X39) rfl ?_;exact ⟨X14, X88⟩
   ·rw [if_neg aQ] at H;have c13b0 : decide (6 < aI) = false := decide_eq_false aQ;clear aQ;by_cases aU : 0 < (a0.size : Int)
    ·rw [if_pos aU] at H;have c16b0 := dT aU;have c16b1 : decide (0 < a0.size) = true := decide_eq_true (by omega);clear aU;by_cases aW : (bt a0 0) = 48
     ·rw [if_pos aW] at H;have c18b0 := eT aW;have c18b1 := eF aW;clear aW;by_cases aX : aI > 1
      ·rw [if_pos aX] at H;have c19b0 : decide (1 < aI) = true := decide_eq_true aX;clear aX;simp only [Option.some.injEq, Prod.mk.injEq] at H;obtain ⟨rfl, rfl, rfl, rfl, rfl⟩ := H;go_enter Tryd.func40, Tryd.ntmps40;go_wp2_with (first | ((with_reducible refine gd 2 ?_); refine be 2 #[.int .i64 0, .string ⟨#[]⟩, .int .i64 0] 36 ?_; intro aD hg aY hbox hb; have aE := am (hbox); have aG := sG (w := w) hg X13; have aH := sG (w := w) hg X13; replace HB := bS X13 hb; clear hb hbox hg) | ((with_reducible refine gc 88 ?_); refine gL (some 8) Tryd.func88 #[.string a0] ?_; (with_reducible refine (q0r.calls k a0 aA _ A2.out).mono ?_); rintro e w' ⟨rfl, ⟨nd, rfl⟩⟩; refine ⟨_, rfl, ?_⟩; (try (rw [q1m aY]; generalize hq_ : World.drewN aY _ = aY; replace aE : q0h (aY.heap[aD]? = some (.cells #[.int .i64 0, .string ⟨#[]⟩, .int .i64 0] 36 (0, 0))) := ⟨X86⟩; replace HB : q0h (Below w.heap.size w aY) := ⟨X87⟩; clear hq_))) | ((with_reducible refine gc 89 ?_); refine gL (some 20) Tryd.func89 #[.string a0] ?_; (with_reducible refine (q0I.calls k a0 aI _ aK.out).mono ?_); rintro e w' ⟨rfl, ⟨nd, rfl⟩⟩; refine ⟨_, rfl, ?_⟩; (try (rw [q1m aY]; generalize hq_ : World.drewN aY _ = aY; replace aE : q0h (aY.heap[aD]? = some (.cells #[.int .i64 0, .string ⟨#[]⟩, .int .i64 0] 36 (0, 0))) := ⟨X86⟩; replace HB : q0h (Below w.heap.size w aY) := ⟨X87⟩; clear hq_)); have aZ : 0 ≤ (0 : Int) := (by omega); have bA : 0 < a0.size := (by have : (0 : Int) < (a0.size : Int) := of_decide_eq_true X8; omega); have bB : ∀ h : 0 < a0.size, ((a0[0]'h).toNat : Int) = bt a0 0 := q2p a0 0; clear aZ; have bC : (0 < (a0.size : Int)) = True := eq_true (of_decide_eq_true X8); replace bA := eq_true bA; have Z21 := bc3 aE))
       refine bodyPost_ret (q2a rfl _ _ aD 36 #[.int .i64 0, .string ⟨#[]⟩, .int .i64 0] (0, 0) _ rfl (bq0 aE) Tryd.underlying36 rfl X39) rfl ?_;exact ⟨X14, X88⟩
      ·rw [if_neg aX] at H;have c19b0 : decide (1 < aI) = false := decide_eq_false aX;clear aX;by_cases bD : 0 ≤ aI
       ·rw [if_pos bD] at H;have c22b0 := eq_true bD;have c22b1 := dT bD;clear bD;by_cases bE : aI ≤ (a0.size : Int)
        ·rw [if_pos bE] at H;have c23b0 := eq_true bE;have c23b1 := dT bE;clear bE;simp only [Option.some.injEq, Prod.mk.injEq] at H;obtain ⟨rfl, rfl, rfl, rfl, rfl⟩ := H;go_enter Tryd.func40, Tryd.ntmps40;go_wp2_with (first | ((with_reducible refine gd 2 ?_); refine be 2 #[.int .i64 0, .string ⟨#[]⟩, .int .i64 0] 36 ?_; intro aD hg bF hbox hb; have aE := am (hbox); have aG := sG (w := w) hg X13; have aH := sG (w := w) hg X13; replace HB := bS X13 hb; clear hb hbox hg) | ((with_reducible refine gc 88 ?_); refine gL (some 8) Tryd.func88 #[.string a0] ?_; (with_reducible refine (q0r.calls k a0 aA _ A2.out).mono ?_); rintro e w' ⟨rfl, ⟨nd, rfl⟩⟩; refine ⟨_, rfl, ?_⟩; (try (rw [q1m bF]; generalize hq_ : World.drewN bF _ = bF; replace aE : q0h (bF.heap[aD]? = some (.cells #[.int .i64 0, .string ⟨#[]⟩, .int .i64 0] 36 (0, 0))) := ⟨X86⟩; replace HB : q0h (Below w.heap.size w bF) := ⟨X87⟩; clear hq_))) | ((with_reducible refine gc 89 ?_); refine gL (some 20) Tryd.func89 #[.string a0] ?_; (with_reducible refine (q0I.calls k a0 aI _ aK.out).mono ?_); rintro e w' ⟨rfl, ⟨nd, rfl⟩⟩; refine ⟨_, rfl, ?_⟩; (try (rw [q1m bF]; generalize hq_ : World.drewN bF _ = bF; replace aE : q0h (bF.heap[aD]? = some (.cells #[.int .i64 0, .string ⟨#[]⟩, .int .i64 0] 36 (0, 0))) := ⟨X86⟩; replace HB : q0h (Below w.heap.size w bF) := ⟨X87⟩; clear hq_)); have aZ : 0 ≤ (0 : Int) := (by omega); have bA : 0 < a0.size := (by have : (0 : Int) < (a0.size : Int) := of_decide_eq_true X8; omega); have bB : ∀ h : 0 < a0.size, ((a0[0]'h).toNat : Int) = bt a0 0 := q2p a0 0; clear aZ; have bC : (0 < (a0.size : Int)) = True := eq_true (of_decide_eq_true X8); replace bA := eq_true bA; have Z25 := bc3 aE))
         refine bodyPost_ret (q2a rfl _ _ aD 36 #[.int .i64 2, .string (a0.extract 0 (aI : Int).toNat), .int .i64 0] (0, 0) _ rfl (bq0 aE) Tryd.underlying36 rfl X39) rfl ?_;exact ⟨X14, X88⟩
        ·exact iN bE H
       ·exact iN bD H
     ·rw [if_neg aW] at H;have c18b0 := nF aW;have c18b1 := nT aW;by_cases bG : 0 ≤ aI
      ·rw [if_pos bG] at H;have c26b0 := eq_true bG;have c26b1 := dT bG;clear bG;by_cases bH : aI ≤ (a0.size : Int)
       ·rw [if_pos bH] at H;have c27b0 := eq_true bH;have c27b1 := dT bH;clear bH;simp only [Option.some.injEq, Prod.mk.injEq] at H;obtain ⟨rfl, rfl, rfl, rfl, rfl⟩ := H;go_enter Tryd.func40, Tryd.ntmps40;go_wp2_with (first | ((with_reducible refine gd 2 ?_); refine be 2 #[.int .i64 0, .string ⟨#[]⟩, .int .i64 0] 36 ?_; intro aD hg bI hbox hb; have aE := am (hbox); have aG := sG (w := w) hg X13; have aH := sG (w := w) hg X13; replace HB := bS X13 hb; clear hb hbox hg) | ((with_reducible refine gc 88 ?_); refine gL (some 8) Tryd.func88 #[.string a0] ?_; (with_reducible refine (q0r.calls k a0 aA _ A2.out).mono ?_); rintro e w' ⟨rfl, ⟨nd, rfl⟩⟩; refine ⟨_, rfl, ?_⟩; (try (rw [q1m bI]; generalize hq_ : World.drewN bI _ = bI; replace aE : q0h (bI.heap[aD]? = some (.cells #[.int .i64 0, .string ⟨#[]⟩, .int .i64 0] 36 (0, 0))) := ⟨X86⟩; replace HB : q0h (Below w.heap.size w bI) := ⟨X87⟩; clear hq_))) | ((with_reducible refine gc 89 ?_); refine gL (some 20) Tryd.func89 #[.string a0] ?_; (with_reducible refine (q0I.calls k a0 aI _ aK.out).mono ?_); rintro e w' ⟨rfl, ⟨nd, rfl⟩⟩; refine ⟨_, rfl, ?_⟩; (try (rw [q1m bI]; generalize hq_ : World.drewN bI _ = bI; replace aE : q0h (bI.heap[aD]? = some (.cells #[.int .i64 0, .string ⟨#[]⟩, .int .i64 0] 36 (0, 0))) := ⟨X86⟩; replace HB : q0h (Below w.heap.size w bI) := ⟨X87⟩; clear hq_)); have aZ : 0 ≤ (0 : Int) := (by omega); have bA : 0 < a0.size := (by have : (0 : Int) < (a0.size : Int) := of_decide_eq_true X8; omega); have bB : ∀ h : 0 < a0.size, ((a0[0]'h).toNat : Int) = bt a0 0 := q2p a0 0; clear aZ; have bC : (0 < (a0.size : Int)) = True := eq_true (of_decide_eq_true X8); replace bA := eq_true bA; have Z29 := bc3 aE))
        refine bodyPost_ret (q2a rfl _ _ aD 36 #[.int .i64 2, .string (a0.extract 0 (aI : Int).toNat), .int .i64 0] (0, 0) _ rfl (bq0 aE) Tryd.underlying36 rfl X39) rfl ?_;exact ⟨X14, X88⟩
       ·exact iN bH H
      ·exact iN bG H
    ·exact iN aU H
  ·rw [if_neg aM] at H;have c12b0 : decide (0 < aI) = false := decide_eq_false aM;clear aM;by_cases bJ : 0 < (a0.size : Int)
   ·rw [if_pos bJ] at H;have c30b0 := dT bJ;have c30b1 : decide (0 < a0.size) = true := decide_eq_true (by omega);clear bJ;by_cases bK : (bt a0 0) = 34
    ·rw [if_pos bK] at H;have c32b0 := eT bK;have c32b1 := eF bK;clear bK;obtain ⟨⟨bL, bM, bN, bO, bP⟩, bQ, H⟩ := oB H;(try dsimp only at H);have bR := am bQ;clear bQ;simp only [Option.some.injEq, Prod.mk.injEq] at H;obtain ⟨rfl, rfl, rfl, rfl, rfl⟩ := H;go_enter Tryd.func40, Tryd.ntmps40;go_wp2_with (first | ((with_reducible refine gd 2 ?_); refine be 2 #[.int .i64 0, .string ⟨#[]⟩, .int .i64 0] 36 ?_; intro aD hg bT hbox hb; have aE := am (hbox); have aG := sG (w := w) hg X13; have aH := sG (w := w) hg X13; replace HB := bS X13 hb; clear hb hbox hg) | ((with_reducible refine gc 88 ?_); refine gL (some 8) Tryd.func88 #[.string a0] ?_; (with_reducible refine (q0r.calls k a0 aA _ A2.out).mono ?_); rintro e w' ⟨rfl, ⟨nd, rfl⟩⟩; refine ⟨_, rfl, ?_⟩; (try (rw [q1m bT]; generalize hq_ : World.drewN bT _ = bT; replace aE : q0h (bT.heap[aD]? = some (.cells #[.int .i64 0, .string ⟨#[]⟩, .int .i64 0] 36 (0, 0))) := ⟨X86⟩; replace HB : q0h (Below w.heap.size w bT) := ⟨X87⟩; clear hq_))) | ((with_reducible refine gc 89 ?_); refine gL (some 20) Tryd.func89 #[.string a0] ?_; (with_reducible refine (q0I.calls k a0 aI _ aK.out).mono ?_); rintro e w' ⟨rfl, ⟨nd, rfl⟩⟩; refine ⟨_, rfl, ?_⟩; (try (rw [q1m bT]; generalize hq_ : World.drewN bT _ = bT; replace aE : q0h (bT.heap[aD]? = some (.cells #[.int .i64 0, .string ⟨#[]⟩, .int .i64 0] 36 (0, 0))) := ⟨X86⟩; replace HB : q0h (Below w.heap.size w bT) := ⟨X87⟩; clear hq_)); have bU : 0 ≤ (0 : Int) := (by omega); have bV : 0 < a0.size := (by have : (0 : Int) < (a0.size : Int) := of_decide_eq_true X8; omega); have bW : ∀ h : 0 < a0.size, ((a0[0]'h).toNat : Int) = bt a0 0 := q2p a0 0; clear bU; have bX : (0 < (a0.size : Int)) = True := eq_true (of_decide_eq_true X8); replace bV := eq_true bV) | ((with_reducible refine gc 90 ?_); refine gL (some 43) Tryd.func90 #[.string a0] ?_; (with_reducible refine (q0n.calls k a0 bL bM bN bO bP _ bR.out).mono ?_); rintro e w35 ⟨rfl, hb⟩; refine ⟨_, rfl, ?_⟩; replace aE := kB aE hb; replace HB := bS X88 hb; clear hb; have Z36 := bc3 aE))
     refine bodyPost_ret (q2a rfl _ _ aD 36 #[.int .i64 bL, .string bM, .int .i64 bN] (0, 0) _ rfl (bq0 aE) Tryd.underlying36 rfl X39) rfl ?_;exact ⟨X14, X88⟩
    ·rw [if_neg bK] at H;have c32b0 := nF bK;have c32b1 := nT bK;obtain ⟨bY, bZ, H⟩ := oB H;(try dsimp only at H);have cA := am bZ;clear bZ;by_cases cC : bY = true
     ·subst cC;replace H := tP H;by_cases cD : 0 ≤ 1
      ·rw [if_pos cD] at H;have c40b0 := eq_true cD;have c40b1 := dT cD;clear cD;by_cases cE : 1 ≤ (a0.size : Int)
       ·rw [if_pos cE] at H;have c41b0 := eq_true cE;have c41b1 := dT cE;clear cE;simp only [Option.some.injEq, Prod.mk.injEq] at H;obtain ⟨rfl, rfl, rfl, rfl, rfl⟩ := H;go_enter Tryd.func40, Tryd.ntmps40;go_wp2_with (first | ((with_reducible refine gd 2 ?_); refine be 2 #[.int .i64 0, .string ⟨#[]⟩, .int .i64 0] 36 ?_; intro aD hg cF hbox hb; have aE := am (hbox); have aG := sG (w := w) hg X13; have aH := sG (w := w) hg X13; replace HB := bS X13 hb; clear hb hbox hg) | ((with_reducible refine gc 88 ?_); refine gL (some 8) Tryd.func88 #[.string a0] ?_; (with_reducible refine (q0r.calls k a0 aA _ A2.out).mono ?_); rintro e w' ⟨rfl, ⟨nd, rfl⟩⟩; refine ⟨_, rfl, ?_⟩; (try (rw [q1m cF]; generalize hq_ : World.drewN cF _ = cF; replace aE : q0h (cF.heap[aD]? = some (.cells #[.int .i64 0, .string ⟨#[]⟩, .int .i64 0] 36 (0, 0))) := ⟨X86⟩; replace HB : q0h (Below w.heap.size w cF) := ⟨X87⟩; clear hq_))) | ((with_reducible refine gc 89 ?_); refine gL (some 20) Tryd.func89 #[.string a0] ?_; (with_reducible refine (q0I.calls k a0 aI _ aK.out).mono ?_); rintro e w' ⟨rfl, ⟨nd, rfl⟩⟩; refine ⟨_, rfl, ?_⟩; (try (rw [q1m cF]; generalize hq_ : World.drewN cF _ = cF; replace aE : q0h (cF.heap[aD]? = some (.cells #[.int .i64 0, .string ⟨#[]⟩, .int .i64 0] 36 (0, 0))) := ⟨X86⟩; replace HB : q0h (Below w.heap.size w cF) := ⟨X87⟩; clear hq_)); have bU : 0 ≤ (0 : Int) := (by omega); have bV : 0 < a0.size := (by have : (0 : Int) < (a0.size : Int) := of_decide_eq_true X8; omega); have bW : ∀ h : 0 < a0.size, ((a0[0]'h).toNat : Int) = bt a0 0 := q2p a0 0; clear bU; have bX : (0 < (a0.size : Int)) = True := eq_true (of_decide_eq_true X8); replace bV := eq_true bV; have cG : 0 ≤ (0 : Int) := (by omega); have cH : 0 < a0.size := (by have : (0 : Int) < (a0.size : Int) := of_decide_eq_true X8; omega); have cI : ∀ h : 0 < a0.size, ((a0[0]'h).toNat : Int) = bt a0 0 := q2p a0 0; clear cG; have cJ : (0 < (a0.size : Int)) = True := eq_true (of_decide_eq_true X8); replace cH := eq_true cH) | ((with_reducible refine gc 91 ?_); refine gL (some 49) Tryd.func91 #[.int .u8 (bt a0 0)] ?_; (with_reducible refine (q1e.calls k (bt a0 0) true _ cA.out).mono ?_); rintro e w' ⟨rfl, ⟨nd, rfl⟩⟩; refine ⟨_, rfl, ?_⟩; (try (rw [q1m cF]; generalize hq_ : World.drewN cF _ = cF; replace aE : q0h (cF.heap[aD]? = some (.cells #[.int .i64 0, .string ⟨#[]⟩, .int .i64 0] 36 (0, 0))) := ⟨X86⟩; replace HB : q0h (Below w.heap.size w cF) := ⟨X87⟩; clear hq_)); have Z43 := bc3 aE))
        refine bodyPost_ret (q2a rfl _ _ aD 36 #[.int .i64 4, .string (a0.extract 0 1), .int .i64 0] (0, 0) _ rfl (bq0 aE) Tryd.underlying36 rfl X39) rfl ?_;exact ⟨X14, X88⟩
       ·exact iN cE H
      ·exact iN cD H
     ·replace cC := Bool.eq_false_iff.mpr cC;subst cC;replace H := tN H;simp only [Option.some.injEq, Prod.mk.injEq] at H;obtain ⟨rfl, rfl, rfl, rfl, rfl⟩ := H;go_enter Tryd.func40, Tryd.ntmps40;go_wp2_with (first | ((with_reducible refine gd 2 ?_); refine be 2 #[.int .i64 0, .string ⟨#[]⟩, .int .i64 0] 36 ?_; intro aD hg cK hbox hb; have aE := am (hbox); have aG := sG (w := w) hg X13; have aH := sG (w := w) hg X13; replace HB := bS X13 hb; clear hb hbox hg) | ((with_reducible refine gc 88 ?_); refine gL (some 8) Tryd.func88 #[.string a0] ?_; (with_reducible refine (q0r.calls k a0 aA _ A2.out).mono ?_); rintro e w' ⟨rfl, ⟨nd, rfl⟩⟩; refine ⟨_, rfl, ?_⟩; (try (rw [q1m cK]; generalize hq_ : World.drewN cK _ = cK; replace aE : q0h (cK.heap[aD]? = some (.cells #[.int .i64 0, .string ⟨#[]⟩, .int .i64 0] 36 (0, 0))) := ⟨X86⟩; replace HB : q0h (Below w.heap.size w cK) := ⟨X87⟩; clear hq_))) | ((with_reducible refine gc 89 ?_); refine gL (some 20) Tryd.func89 #[.string a0] ?_; (with_reducible refine (q0I.calls k a0 aI _ aK.out).mono ?_); rintro e w' ⟨rfl, ⟨nd, rfl⟩⟩; refine ⟨_, rfl, ?_⟩; (try (rw [q1m cK]; generalize hq_ : World.drewN cK _ = cK; replace aE : q0h (cK.heap[aD]? = some (.cells #[.int .i64 0, .string ⟨#[]⟩, .int .i64 0] 36 (0, 0))) := ⟨X86⟩; replace HB : q0h (Below w.heap.size w cK) := ⟨X87⟩; clear hq_)); have bU : 0 ≤ (0 : Int) := (by omega); have bV : 0 < a0.size := (by have : (0 : Int) < (a0.size : Int) := of_decide_eq_true X8; omega); have bW : ∀ h : 0 < a0.size, ((a0[0]'h).toNat : Int) = bt a0 0 := q2p a0 0; clear bU; have bX : (0 < (a0.size : Int)) = True := eq_true (of_decide_eq_true X8); replace bV := eq_true bV; have cG : 0 ≤ (0 : Int) := (by omega); have cH : 0 < a0.size := (by have : (0 : Int) < (a0.size : Int) := of_decide_eq_true X8; omega); have cI : ∀ h : 0 < a0.size, ((a0[0]'h).toNat : Int) = bt a0 0 := q2p a0 0; clear cG; have cJ : (0 < (a0.size : Int)) = True := eq_true (of_decide_eq_true X8); replace cH := eq_true cH) | ((with_reducible refine gc 91 ?_); refine gL (some 49) Tryd.func91 #[.int .u8 (bt a0 0)] ?_; (with_reducible refine (q1e.calls k (bt a0 0) false _ cA.out).mono ?_); rintro e w' ⟨rfl, ⟨nd, rfl⟩⟩; refine ⟨_, rfl, ?_⟩; (try (rw [q1m cK]; generalize hq_ : World.drewN cK _ = cK; replace aE : q0h (cK.heap[aD]? = some (.cells #[.int .i64 0, .string ⟨#[]⟩, .int .i64 0] 36 (0, 0))) := ⟨X86⟩; replace HB : q0h (Below w.heap.size w cK) := ⟨X87⟩; clear hq_)); have Z45 := bc3 aE))
      refine bodyPost_ret (q2a rfl _ _ aD 36 #[.int .i64 0, .string ⟨#[]⟩, .int .i64 0] (0, 0) _ rfl (bq0 aE) Tryd.underlying36 rfl X39) rfl ?_;exact ⟨X14, X88⟩
   ·exact iN bJ H

def q0N.l0 : Nat → ByteArray → List (S36) → Int → Int → Option ((List (S36)) × Int × Int)
 | 0, _, _, _, _ => none
 | k + 1, x0, x5, x6, x7 => if 0 ≤ x7 then (if x7 ≤ (x0.size : Int) then ((q0p.f k (x0.extract (x7 : Int).toNat x0.size)).bind fun aA => (if x7 ≤ (wrap64 (x7 + aA)) then (if (wrap64 (x7 + aA)) ≤ (x0.size : Int) then ((q0W.f k (x0.extract (x7 : Int).toNat ((wrap64 (x7 + aA)) : Int).toNat)).bind fun aC => (if (wrap64 (x7 + aA)) = (x0.size : Int) then (some (x5, 0, 0)) else (if 0 ≤ (wrap64 (x7 + aA)) then ((q1q.f k (x0.extract ((wrap64 (x7 + aA)) : Int).toNat x0.size)).bind fun aD => (if aD.2.2.2.2 = 0 then (if x5.length < 4398046511104 then (q0N.l0 k x0 (x5 ++ [(⟨aD.1, aD.2.1, wrap64 (x6 + aC)⟩ : S36)]) (wrap64 (x6 + aC)) (wrap64 ((wrap64 (x7 + aA)) + aD.2.2.2.1))) else (none)) else (some (([] : List (S36)), wrap64 (x6 + aC), aD.2.2.2.2)))) else (none)))) else (none)) else (none))) else (none)) else (none)
def q0N.f (k : Nat) (a0 : ByteArray) : Option ((List (S36)) × Int × Int) := if (a0.size : Int) > 20000 then (some (([] : List (S36)), 0, 3)) else (q0N.l0 k a0 ([] : List (S36)) 1 0)
theorem q0N.mono_l : ∀ k, (∀ y0 y1 y2 y3, LeO (q0N.l0 k y0 y1 y2 y3) (q0N.l0 (k + 1) y0 y1 y2 y3))
 | 0 => fun _ _ _ _ r h => by simp [q0N.l0] at h
 | k + 1 => by
  have aA := q0N.mono_l k
  ·intro y0 y1 y2 y3;unfold q0N.l0;exact X89
theorem q0N.mono : ∀ a0 k, LeO (q0N.f k a0) (q0N.f (k + 1) a0) := by
 intro a0 k;have aA := q0N.mono_l k;unfold q0N.f;exact X89
theorem q0N.calls (k : Nat) (a0 : ByteArray) (r1 : List (S36)) (r2 : Int) (r3 : Int) (w : World) (h : q0N.f k a0 = some (r1, r2, r3)) :
  Calls Tryd.prog 13 #[.string a0] w fun e w' => ∃ aA : Value, e = .returned (.tuple #[aA, .int .i64 r2, .int .i64 r3]) ∧ Kd.R k36 36 w' w.heap.size (fun _ => True) aA r1 ∧ Below w.heap.size w w' := by
 have hu36 := Tryd.underlying36;have HB := am (Below.refl w.heap.size w);have H := h;clear h;unfold q0N.f at H;by_cases c2 : (a0.size : Int) > 20000
 ·rw [if_pos c2] at H;have c2b0 : decide (20000 < (a0.size : Int)) = true := decide_eq_true c2;have c2b1 : decide (20000 < a0.size) = true := decide_eq_true (by omega);clear c2;simp only [Option.some.injEq, Prod.mk.injEq] at H;obtain ⟨rfl, rfl, rfl⟩ := H;go_enter Tryd.func13, Tryd.ntmps13;go_wp2
  go_ret3
  exact ⟨_, X14, X18, X13⟩
 ·rw [if_neg c2] at H;have c2b0 : decide (20000 < (a0.size : Int)) = false := decide_eq_false c2;have c2b1 : decide (20000 < a0.size) = false := decide_eq_false (by omega);clear c2;have H' := am H;clear H;go_enter Tryd.func13, Tryd.ntmps13;go_wp2
  go_loopg [5, 6, 7] k (fun kq v5 v6 v7 w' => ∃ (aC : List (S36)) (aD : Int) (aE : Int), v6 = .int .i64 aD ∧ v7 = .int .i64 aE ∧ q0h (q0N.l0 kq a0 aC aD aE = some (r1, r2, r3)) ∧ q0h (kq ≤ k) ∧ q0h (Kd.R k36 36 w' w.heap.size (fun _ => True) v5 aC) ∧ q0h (Below w.heap.size w w'))
  case atStart => exact ⟨(([] : List (S36))), (1), (0), X4, X4, H', ⟨Nat.le_refl _⟩, ⟨X18⟩, ⟨X13⟩⟩
  case round =>
   clear H';(try clear c1);(try clear c2);(try clear c2b0);(try clear c2b1);(try clear p2);obtain ⟨aC, aD, aE, rfl, rfl, HA, aG, aH, HB⟩ := hrel;cases gk with
   | zero => exact absurd HA.out (by simp [q0N.l0])
   | succ k1 =>
    have H := HA.out;clear HA;simp only [q0N.l0] at H;by_cases c3 : 0 ≤ aE
    ·rw [if_pos c3] at H;have c3b0 := eq_true c3;have c3b1 := dT c3;clear c3;by_cases c4 : aE ≤ (a0.size : Int)
     ·rw [if_pos c4] at H;have c4b0 := eq_true c4;have c4b1 := dT c4;clear c4;obtain ⟨aI, aJ, H⟩ := oB H;(try dsimp only at H);have A5 := am aJ;clear aJ;have c6b0 := eq_true (of_decide_eq_true X8 : 0 ≤ aE);by_cases c7 : aE ≤ (wrap64 (aE + aI))
      ·rw [if_pos c7] at H;have c7b0 := eq_true c7;have c7b1 := dT c7;by_cases c8 : (wrap64 (aE + aI)) ≤ (a0.size : Int)
       ·rw [if_pos c8] at H;have c8b0 := eq_true c8;have c8b1 := dT c8;obtain ⟨aK, aM, H⟩ := oB H;(try dsimp only at H);have A9 := am aM;clear aM;by_cases c10 : (wrap64 (aE + aI)) = (a0.size : Int)
        ·rw [if_pos c10] at H;have c10b0 := eT c10;have c10b1 := eF c10;clear c10;simp only [Option.some.injEq, Prod.mk.injEq] at H;obtain ⟨rfl, rfl, rfl⟩ := H;go_wp2_with (first | ((with_reducible refine gc 38 ?_); refine gL (some 17) Tryd.func38 #[.string (a0.extract (aE : Int).toNat a0.size)] ?_; (with_reducible refine (q0p.calls k1 (a0.extract (aE : Int).toNat a0.size) aI _ A5.out).mono ?_); rintro e w' ⟨rfl, ⟨nd, rfl⟩⟩; refine ⟨_, rfl, ?_⟩) | ((with_reducible refine gc 39 ?_); refine gL (some 25) Tryd.func39 #[.string (a0.extract (aE : Int).toNat ((wrap64 (aE + aI)) : Int).toNat)] ?_; (with_reducible refine (q0W.calls k1 (a0.extract (aE : Int).toNat ((wrap64 (aE + aI)) : Int).toNat) aK _ A9.out).mono ?_); rintro e w' ⟨rfl, ⟨nd, rfl⟩⟩; refine ⟨_, rfl, ?_⟩))
         go_ret3
         exact ⟨_, X14, aR aH.out, X13⟩
        ·rw [if_neg c10] at H;have c10b0 := nF c10;have c10b1 := nT c10;obtain ⟨aQ, aT⟩ : ∃ j_ : Int, (wrap64 (aE + aI)) = j_ := ⟨_, rfl⟩;replace H : (if 0 ≤ (aQ) then ((q1q.f k1 (a0.extract ((aQ) : Int).toNat a0.size)).bind fun aU => (if aU.2.2.2.2 = 0 then (if aC.length < 4398046511104 then (q0N.l0 k1 a0 (aC ++ [(⟨aU.1, aU.2.1, wrap64 (aD + aK)⟩ : S36)]) (wrap64 (aD + aK)) (wrap64 ((aQ) + aU.2.2.2.1))) else (none)) else (some (([] : List (S36)), wrap64 (aD + aK), aU.2.2.2.2)))) else (none)) = some (r1, r2, r3) := by first | (rw [aT] at H; exact H) | (simp only [aT] at H ⊢; exact H)
         (try rw [aT] at c7b0);(try rw [aT] at c7b1);(try rw [aT] at c7);(try rw [aT] at c8b0);(try rw [aT] at c8b1);(try rw [aT] at c8);(try rw [aT] at c10b0);(try rw [aT] at c10b1);(try rw [aT] at A5);(try rw [aT] at A9);have hji11w : (IntKind.i64.wrap (aE + aI)) = aQ := (q2x _).trans aT;by_cases aW : 0 ≤ (aQ)
         ·rw [if_pos aW] at H;have c12b0 := eq_true aW;have c12b1 := dT aW;clear aW;have c13b0 := eq_true (of_decide_eq_true X8 : (aQ) ≤ (a0.size : Int));obtain ⟨⟨aX, aY, aZ, bA, bB⟩, bC, H⟩ := oB H;(try dsimp only at H);have bD := am bC;clear bC;by_cases bE : bB = 0
          ·rw [if_pos bE] at H;have c15b0 := eT bE;have c15b1 := eF bE;clear bE;by_cases bF : aC.length < 4398046511104
           ·rw [if_pos bF] at H;have bG := am bF;clear bF;obtain ⟨bH, bI⟩ : ∃ y_ : List (S36), y_ = (aC ++ [(⟨aX, aY, wrap64 (aD + aK)⟩ : S36)]) := ⟨_, rfl⟩;replace H : (q0N.l0 k1 a0 bH (wrap64 (aD + aK)) (wrap64 ((aQ) + bA))) = some (r1, r2, r3) := by first | (rw [bI]; with_reducible exact H) | (have bJ := (Option.bind_some _ _).symm.trans H; rw [bI]; with_reducible exact bJ) | (have bJ := (Option.bind_some _ _).symm.trans H; with_reducible exact bJ) | with_reducible exact H | (rw [bI]; exact H) | exact H
            have bK := am bI;clear bI;have H' := am H;clear H;go_wp2_with (first | ((with_reducible refine gc 38 ?_); refine gL (some 17) Tryd.func38 #[.string (a0.extract (aE : Int).toNat a0.size)] ?_; (with_reducible refine (q0p.calls k1 (a0.extract (aE : Int).toNat a0.size) aI _ A5.out).mono ?_); rintro e w' ⟨rfl, ⟨nd, rfl⟩⟩; refine ⟨_, rfl, ?_⟩; (try (rw [q1m wr]; generalize hq_ : World.drewN wr _ = wr; replace aH : q0h (Kd.R k36 36 wr w.heap.size (fun _ => True) u5 aC) := ⟨X90⟩; replace HB : q0h (Below w.heap.size w wr) := ⟨X91⟩; clear hq_))) | ((with_reducible refine gc 39 ?_); refine q4J (some 25) rfl rfl Tryd.func39 X39 rfl #[.string (a0.extract (aE : Int).toNat ((aQ) : Int).toNat)] rfl X92 ?_; (with_reducible refine (q0W.calls k1 (a0.extract (aE : Int).toNat ((aQ) : Int).toNat) aK _ A9.out).mono ?_); rintro e w' ⟨rfl, ⟨nd, rfl⟩⟩; refine ⟨_, rfl, ?_⟩; (try (rw [q1m wr]; generalize hq_ : World.drewN wr _ = wr; replace aH : q0h (Kd.R k36 36 wr w.heap.size (fun _ => True) u5 aC) := ⟨X90⟩; replace HB : q0h (Below w.heap.size w wr) := ⟨X91⟩; clear hq_))) | ((with_reducible refine gc 40 ?_); refine q4J (some 39) rfl rfl Tryd.func40 X39 rfl #[.string (a0.extract ((aQ) : Int).toNat a0.size)] rfl X92 ?_; (with_reducible refine (q1q.calls k1 (a0.extract ((aQ) : Int).toNat a0.size) aX aY aZ bA bB _ bD.out).mono ?_); rintro e w17 ⟨rfl, hb⟩; refine ⟨_, rfl, ?_⟩; replace aH := am (Kd.R_below (aR aH.out) hb); replace HB := bS X13 hb; clear hb) | ((with_reducible refine gd 9 ?_); refine be 9 #[.int .i64 0, .string ⟨#[]⟩, .int .i64 0] 36 ?_; intro bL hg w18 hbox hb; replace aH := am (Kd.R_below (Kd.R_elderB (aR aH.out) bL (Nat.le_of_eq hg.symm)) hb); have bM := am (hbox); have bN := sG (w := w) hg X13; have bO := sG (w := w) hg X13; replace HB := bS X13 hb; clear hb hbox hg; have Z19 := bc3 bM) | ((with_reducible refine q1V (b := .append) (xs := #[.tmp 49, .tmp 51]) rfl ?_); at_builtin; refine Kd.R_append k36 (w0 := w) w.heap.size rfl (.tmp 49) (.tmp 51) 32 36 (.agg #[(.int .i64 0), (.string ⟨#[]⟩), (.int .i64 0)]) 32 rfl Tryd.underlying32 q8a rfl (by decide) (by omega) u5 aC (⟨aX, aY, wrap64 (aD + aK)⟩ : S36) [.int .i64 aX, .string aY, .int .i64 (wrap64 (aD + aK))] (fun k_ => k_ ≠ bL) (fun _ => False) rfl X32 ?aP (fun _ hk => hk.elim) ?aF ?aO ?aB ?aS ?aL ?_; (case aP => exact q7h _ _ _ (⟨aX, aY, wrap64 (aD + aK)⟩ : S36)); (case aB => exact X93); (case aF => exact (fun k_ hk => Kd.freshB (g := bL) (o := .cells #[.int .i64 aX, .string aY, .int .i64 (wrap64 (aD + aK))] 36 (0, 0)) X94 k_ hk)); (case aO => exact (aR (Kd.R_mono (Kd.R_far (p := ⟨bL, 2, none⟩) (Kd.R_far (p := ⟨bL, 2, none⟩) (Kd.R_far (p := ⟨bL, 1, none⟩) (Kd.R_far (p := ⟨bL, 0, none⟩) (Kd.R_mono aH.out (fun k_ hk => (⟨hk, hk.2⟩ : _ ∧ k_ ≠ bL))) (fun _ hk => hk.2) (.int .i64 aX)) (fun _ hk => hk.2) (.string aY)) (fun _ hk => hk.2) (.int .i64 aZ)) (fun _ hk => hk.2) (.int .i64 (wrap64 (aD + aK)))) (fun _ hk => hk.1.2)))); (case aS => exact (q1l X93)); (case aL => have := bG.out; omega); intro v704 w20 ho hb hg hat; rw [← bK.out] at ho; replace bM := am (q1N (g := bL) (o := .cells #[.int .i64 aX, .string aY, .int .i64 (wrap64 (aD + aK))] 36 (0, 0)) X94 hg (Kd.R_away aH.out (fun _ hk => hk.2))); replace HB := am (hb); have bP := am (ho); clear aH; clear ho hb hg hat))
            go_roundg k1
            case measure => have := aG.out; omega
            case rel => exact ⟨(bH), (wrap64 (aD + aK)), (wrap64 ((aQ) + bA)), X4, (by first | rfl | (simp; done) | (simp only [← aT] <;> (first | rfl | simp)) | (simp [*]; done)), H', ⟨by have := aG.out; omega⟩, ⟨aR (Kd.R_mono bP.out (fun _ hk => trivial))⟩, ⟨X93⟩⟩
           ·exact iN bF H
          ·rw [if_neg bE] at H;have c15b0 := nF bE;have c15b1 := nT bE;simp only [Option.some.injEq, Prod.mk.injEq] at H;obtain ⟨rfl, rfl, rfl⟩ := H;go_wp2_with (first | ((with_reducible refine gc 38 ?_); refine gL (some 17) Tryd.func38 #[.string (a0.extract (aE : Int).toNat a0.size)] ?_; (with_reducible refine (q0p.calls k1 (a0.extract (aE : Int).toNat a0.size) aI _ A5.out).mono ?_); rintro e w' ⟨rfl, ⟨nd, rfl⟩⟩; refine ⟨_, rfl, ?_⟩; (try (rw [q1m wr]; generalize hq_ : World.drewN wr _ = wr; replace aH : q0h (Kd.R k36 36 wr w.heap.size (fun _ => True) u5 aC) := ⟨X90⟩; replace HB : q0h (Below w.heap.size w wr) := ⟨X91⟩; clear hq_))) | ((with_reducible refine gc 39 ?_); refine q4J (some 25) rfl rfl Tryd.func39 X39 rfl #[.string (a0.extract (aE : Int).toNat ((aQ) : Int).toNat)] rfl X92 ?_; (with_reducible refine (q0W.calls k1 (a0.extract (aE : Int).toNat ((aQ) : Int).toNat) aK _ A9.out).mono ?_); rintro e w' ⟨rfl, ⟨nd, rfl⟩⟩; refine ⟨_, rfl, ?_⟩; (try (rw [q1m wr]; generalize hq_ : World.drewN wr _ = wr; replace aH : q0h (Kd.R k36 36 wr w.heap.size (fun _ => True) u5 aC) := ⟨X90⟩; replace HB : q0h (Below w.heap.size w wr) := ⟨X91⟩; clear hq_))) | ((with_reducible refine gc 40 ?_); refine q4J (some 39) rfl rfl Tryd.func40 X39 rfl #[.string (a0.extract ((aQ) : Int).toNat a0.size)] rfl X92 ?_; (with_reducible refine (q1q.calls k1 (a0.extract ((aQ) : Int).toNat a0.size) aX aY aZ bA bB _ bD.out).mono ?_); rintro e w21 ⟨rfl, hb⟩; refine ⟨_, rfl, ?_⟩; replace aH := am (Kd.R_below (aR aH.out) hb); replace HB := bS X13 hb; clear hb) | ((with_reducible refine gd 9 ?_); refine be 9 #[.int .i64 0, .string ⟨#[]⟩, .int .i64 0] 36 ?_; intro bL hg w22 hbox hb; replace aH := am (Kd.R_below (Kd.R_elderB (aR aH.out) bL (Nat.le_of_eq hg.symm)) hb); have bM := am (hbox); have bN := sG (w := w) hg X13; have bO := sG (w := w) hg X13; replace HB := bS X13 hb; clear hb hbox hg; have Z23 := bc3 bM))
           go_ret3
           exact ⟨_, by first | rfl | (simp [q3i, q3h] <;> rfl) | (simp only [← aT]; first | rfl | (simp [q3i, q3h] <;> rfl)) | (simp [*, q3i, q3h] <;> rfl), X18, X93⟩
         ·exact iN aW H
       ·exact iN c8 H
      ·exact iN c7 H
     ·exact iN c4 H
    ·exact iN c3 H
def q2s.f (l0 : List (S25)) : Option (Int × ByteArray × Int × (List (S25))) := if (l0.length : Int) = 1 then (if 0 < (l0.length : Int) then (some ((q0v l0 0).f0, (q0v l0 0).f1, (q0v l0 0).f2, (q0v l0 0).f3)) else (none)) else (some (5, (⟨#[]⟩ : ByteArray), 0, l0))
theorem q2s.calls (aA : Nat → Prop) (A0 : Option Addr) (c0 : Nat) (l0 : List (S25)) (r1 : Int) (r2 : ByteArray) (r3 : Int) (r4 : List (S25)) (w : World) (aC : Kd.V k25 25 w w.heap.size (fun k_ => aA k_) (.slice A0 l0.length c0) l0) (h : q2s.f l0 = some (r1, r2, r3, r4)) :
  Calls Tryd.prog 49 #[.slice A0 l0.length c0] w fun e w' => ∃ aD : Value, e = .returned (.agg #[.int .i64 r1, .string r2, .int .i64 r3, aD]) ∧ Kd.V k25 25 w' w.heap.size (fun k_ => (aA k_ ∨ w.heap.size ≤ k_)) aD r4 ∧ Below w.heap.size w w' := by
 have hu25 := Tryd.underlying25;have aE := am (show Kd.V k25 25 w w.heap.size (fun k_ => (aA k_ ∨ w.heap.size ≤ k_)) (.slice A0 l0.length c0) l0 from Kd.V_mono aC (fun k_ hk => .inl hk));have HB := am (Below.refl w.heap.size w);have H := h;clear h;unfold q2s.f at H;by_cases c2 : (l0.length : Int) = 1
 ·rw [if_pos c2] at H;have c2b0 := eT c2;have c2b1 := eF c2;clear c2;by_cases c3 : 0 < (l0.length : Int)
  ·rw [if_pos c3] at H;have c3b0 := dT c3;have c3b1 : decide (0 < l0.length) = true := decide_eq_true (by omega);clear c3;simp only [Option.some.injEq, Prod.mk.injEq] at H;obtain ⟨rfl, rfl, rfl, rfl⟩ := H;go_enter Tryd.func49, Tryd.ntmps49;go_wp2_with (first | ((with_reducible refine gd 2 ?_); refine be 2 #[.int .i64 0, .string ⟨#[]⟩, .int .i64 0, .slice none 0 0] 25 ?_; intro aG hg w4 hbox hb; replace aE := am (Kd.V_below (Kd.V_elderB (aV aE.out) aG (Nat.le_of_eq hg.symm)) hb); have aH := am (hbox); have aI := sG (w := w) hg X13; have aJ := sG (w := w) hg X13; replace HB := bS X13 hb; clear hb hbox hg; have aK : 0 ≤ (0 : Int) := (by omega); have aM : 0 < (l0.length : Int) := of_decide_eq_true X8; obtain ⟨ad707, aQ, aT, e707, aU, aW, aX, aY, aZ, bA⟩ := q2M (Kd.V_reads' aE.out).2.2 0 aK aM; cases e707; obtain ⟨ce707, bB, bC, bD⟩ := Kd.V_get aE.out z25 0 aK (by first | exact aM | exact of_decide_eq_true X8 | (have e_ := (Kd.V_reads' aE.out).1; omega)); obtain ⟨ua707_3, uc707_3, rfl, bE, bF⟩ := q3z bC; have bG := bD 3 _ rfl; rw [q2W _ _ 3 (by omega)] at bG; replace bG := Option.some.inj (bG.symm.trans aY); injection bG with hva_ hvn_ hvc_; rw [hva_] at bF; rw [hvc_] at bE; have bH := am (show Kd.V k25 25 _ w.heap.size _ _ ((q0v l0 0).f3) from Kd.V_mk bE bF); clear hva_ hvn_ hvc_ bF bE; clear bD bB; have qi707 : (0 < l0.length) = True := eq_true (by omega); (try rw [show ((0 : Int)).toNat = 0 from rfl] at aU); (try rw [show 0 * 4 = 0 from rfl] at aU); (try rw [Addr.add_zero'] at aU); (try rw [show ((0 : Int)).toNat = 0 from rfl] at aW); (try rw [show 0 * 4 = 0 from rfl] at aW); (try rw [Addr.add_zero'] at aW); (try rw [show ((0 : Int)).toNat = 0 from rfl] at aX); (try rw [show 0 * 4 = 0 from rfl] at aX); (try rw [Addr.add_zero'] at aX); (try rw [show ((0 : Int)).toNat = 0 from rfl] at aY); (try rw [show 0 * 4 = 0 from rfl] at aY); (try rw [Addr.add_zero'] at aY); have HR707_3 := am bA; have HC707_3 := am aZ; clear bA aZ; replace aK := eq_true aK; replace aM := eq_true aM; have Z5 := bc4 aH))
   refine bodyPost_ret (results_cell_row rfl _ _ aG 25 #[.int .i64 ((q0v l0 0).f0), .string ((q0v l0 0).f1), .int .i64 ((q0v l0 0).f2), .slice aQ ((q0v l0 0).f3).length aT] (0, 0) _ rfl (bq0 aH) Tryd.underlying25 rfl X39) rfl ?_;exact ⟨_, X14, aV (Kd.V_mono (Kd.V_far (p := ⟨aG, 3, none⟩) (Kd.V_far (p := ⟨aG, 2, none⟩) (Kd.V_far (p := ⟨aG, 1, none⟩) (Kd.V_far (p := ⟨aG, 0, none⟩) (Kd.V_mono bH.out (fun k_ hk => (⟨hk, hk.2⟩ : _ ∧ k_ ≠ aG))) (fun _ hk => hk.2) (.int .i64 ((q0v l0 0).f0))) (fun _ hk => hk.2) (.string ((q0v l0 0).f1))) (fun _ hk => hk.2) (.int .i64 ((q0v l0 0).f2))) (fun _ hk => hk.2) (.slice aQ ((q0v l0 0).f3).length aT)) (fun _ hk => hk.1.1)), X95⟩
  ·exact iN c3 H
 ·rw [if_neg c2] at H;have c2b0 := nF c2;have c2b1 := nT c2;simp only [Option.some.injEq, Prod.mk.injEq] at H;obtain ⟨rfl, rfl, rfl, rfl⟩ := H;go_enter Tryd.func49, Tryd.ntmps49;go_wp2_with (first | ((with_reducible refine gd 2 ?_); refine be 2 #[.int .i64 0, .string ⟨#[]⟩, .int .i64 0, .slice none 0 0] 25 ?_; intro aG hg w6 hbox hb; replace aE := am (Kd.V_below (Kd.V_elderB (aV aE.out) aG (Nat.le_of_eq hg.symm)) hb); have aH := am (hbox); have aI := sG (w := w) hg X13; have aJ := sG (w := w) hg X13; replace HB := bS X13 hb; clear hb hbox hg; have Z7 := bc4 aH))
  refine bodyPost_ret (results_cell_row rfl _ _ aG 25 #[.int .i64 5, .string ⟨#[]⟩, .int .i64 0, .slice A0 l0.length c0] (0, 0) _ rfl (bq0 aH) Tryd.underlying25 rfl X39) rfl ?_;exact ⟨_, X14, aV (Kd.V_mono (Kd.V_far (p := ⟨aG, 3, none⟩) (Kd.V_far (p := ⟨aG, 2, none⟩) (Kd.V_far (p := ⟨aG, 1, none⟩) (Kd.V_far (p := ⟨aG, 0, none⟩) (Kd.V_mono aE.out (fun k_ hk => (⟨hk, hk.2⟩ : _ ∧ k_ ≠ aG))) (fun _ hk => hk.2) (.int .i64 5)) (fun _ hk => hk.2) (.string ⟨#[]⟩)) (fun _ hk => hk.2) (.int .i64 0)) (fun _ hk => hk.2) (.slice A0 l0.length c0)) (fun _ hk => hk.1.1)), X95⟩

/-- A state of type 75 at block g of W; what its slices lead to came in by w0. -/
def q0L (w0 W : World) (g : Nat) (f0 : List (S36)) (f1 : Int) (f2 : Bool) : Prop := ∃ A0 c0, W.heap[g]? = some (.cells #[.slice A0 f0.length c0, .int .i64 f1, .bool f2] 75 (0, 0)) ∧ w0.heap.size ≤ g ∧ Kd.C k36 w0 A0 f0.length f0
theorem q0L.grown {w0 W : World} {g : Nat} {f0 : List (S36)} {f1 : Int} {f2 : Bool} {W1 : World} {row : Option Nat} (h : q0L w0 W g f0 f1 f2) (hw : W.grownBy W1 row) (hne : some g ≠ row) : q0L w0 W1 g f0 f1 f2 := by
 obtain ⟨A0, c0, hb, hg, aA⟩ := h;exact ⟨A0, c0, q1N hb hw hne, hg, aA⟩
theorem q0L.own_neN {w0 W : World} {g : Nat} {f0 : List (S36)} {f1 : Int} {f2 : Bool} {α : Type} {d : Kd α} {e : Nat} {base : Nat} {ok : Nat → Prop} {v : Value} {xs : List α} (h : q0L w0 W g f0 f1 f2) (ho : Kd.N d e W base ok v xs) (ht : e ≠ 75) : some g ≠ v.ownBlock := by
 obtain ⟨A0, c0, hb, hg, hr0⟩ := h;exact Kd.N_ne ho hb ht
theorem q0L.below {w0 W : World} {g : Nat} {f0 : List (S36)} {f1 : Int} {f2 : Bool} {W1 : World} (h : q0L w0 W g f0 f1 f2) (hw : Below W.heap.size W W1) : q0L w0 W1 g f0 f1 f2 := h.grown (q3w hw none) (by simp)
theorem q0L.alloc {w0 W : World} {g : Nat} {f0 : List (S36)} {f1 : Int} {f2 : Bool} (h : q0L w0 W g f0 f1 f2) (o : Obj) : q0L w0 (W.alloc o) g f0 f1 f2 := h.below (q0J (Below.refl _ _) o)
theorem q0L.drewN {w0 W : World} {g : Nat} {f0 : List (S36)} {f1 : Int} {f2 : Bool} (h : q0L w0 W g f0 f1 f2) (m : Nat) : q0L w0 (W.drewN m) g f0 f1 f2 := h
theorem q0L.drew {w0 W : World} {g : Nat} {f0 : List (S36)} {f1 : Int} {f2 : Bool} (h : q0L w0 W g f0 f1 f2) : q0L w0 W.drew g f0 f1 f2 := h
theorem q0L.apart {w0 W : World} {g : Nat} {f0 : List (S36)} {f1 : Int} {f2 : Bool} {α : Type} {d : Kd α} {e : Nat} {base : Nat} {ok : Nat → Prop} {v : Value} {xs : List α} (h : q0L w0 W g f0 f1 f2) (ho : d.R e W base ok v xs) (ht : ∀ q, q ∈ e :: d.E → q ≠ 75) : d.R e W base (fun k => ok k ∧ k ≠ g) v xs := by
 obtain ⟨A0, c0, hb, hg, hr0⟩ := h;exact Kd.R_types ho hb ht
theorem q0L.lt {w0 W : World} {g : Nat} {f0 : List (S36)} {f1 : Int} {f2 : Bool} (h : q0L w0 W g f0 f1 f2) : g < W.heap.size := by
 obtain ⟨A0, c0, hb, hg, hr0⟩ := h;exact q2J hb
theorem q0L.ge {w0 W : World} {g : Nat} {f0 : List (S36)} {f1 : Int} {f2 : Bool} (h : q0L w0 W g f0 f1 f2) : w0.heap.size ≤ g := by
 obtain ⟨A0, c0, hb, hg, hr0⟩ := h;exact hg
theorem q0L.farB {w0 W : World} {g : Nat} {f0 : List (S36)} {f1 : Int} {f2 : Bool} {b o : Nat} {sp : _} {u : Value} (hne : g ≠ b) (h : q0L w0 W g f0 f1 f2) : q0L w0 (W.setCell ⟨b, o, sp⟩ u) g f0 f1 f2 := by
 obtain ⟨A0, c0, hb, hg, aA⟩ := h;exact ⟨A0, c0, q1r hb hne u, hg, aA⟩
theorem q1n {W : World} {g : Nat} {A0 : Option Addr} {c0 : Nat} {f0 : List (S36)} {f1 : Int} {f2 : Bool} (h : W.heap[g]? = some (.cells #[.slice A0 f0.length c0, .int .i64 f1, .bool f2] 75 (0, 0))) : W.cell? ⟨g, 0, none⟩ = some (.slice A0 f0.length c0) := (q0H h 0).trans rfl
theorem q1p {W : World} {g : Nat} {A0 : Option Addr} {c0 : Nat} {f0 : List (S36)} {f1 : Int} {f2 : Bool} (h : W.heap[g]? = some (.cells #[.slice A0 f0.length c0, .int .i64 f1, .bool f2] 75 (0, 0))) : W.cell? ⟨g, 1, none⟩ = some (.int .i64 f1) := (q0H h 1).trans rfl
theorem q0L.set_1 {w0 W : World} {g : Nat} {f0 : List (S36)} {f1 : Int} {f2 : Bool} (h : q0L w0 W g f0 f1 f2) (x : Int) : q0L w0 (W.setCell ⟨g, 1, none⟩ (.int .i64 x)) g f0 x f2 := by
 obtain ⟨A0, c0, hb, hg, aA⟩ := h;exact ⟨A0, c0, by simpa using q4k hb 1 (.int .i64 x), hg, aA⟩
theorem q1o {W : World} {g : Nat} {A0 : Option Addr} {c0 : Nat} {f0 : List (S36)} {f1 : Int} {f2 : Bool} (h : W.heap[g]? = some (.cells #[.slice A0 f0.length c0, .int .i64 f1, .bool f2] 75 (0, 0))) : W.cell? ⟨g, 2, none⟩ = some (.bool f2) := (q0H h 2).trans rfl
theorem q0L.set_2 {w0 W : World} {g : Nat} {f0 : List (S36)} {f1 : Int} {f2 : Bool} (h : q0L w0 W g f0 f1 f2) (x : Bool) : q0L w0 (W.setCell ⟨g, 2, none⟩ (.bool x)) g f0 f1 x := by
 obtain ⟨A0, c0, hb, hg, aA⟩ := h;exact ⟨A0, c0, by simpa using q4k hb 2 (.bool x), hg, aA⟩
def q0R.f (aA : List (S36)) (aC : Int) (aD : Bool) (a1 : ByteArray) : Option (Bool × Int × Bool) := if aD = true then (some (false, aC, aD)) else (if aC < (aA.length : Int) then (if 0 ≤ aC then (if ((q1d aA aC).f0) = 4 then (some ((((q1d aA aC).f1).toList == a1.toList), aC, aD)) else (some (false, aC, aD))) else (none)) else (some (false, aC, aD)))
theorem q0R.calls (g : Nat) (aA : List (S36)) (aC : Int) (aD : Bool) (a1 : ByteArray) (r1 : Bool) (r2 : Int) (r3 : Bool) (w0 w : World) (hI : q0L w0 w g aA aC aD) (hB : Below w0.heap.size w0 w) (h : q0R.f aA aC aD a1 = some (r1, r2, r3)) :
  Calls Tryd.prog 85 #[.pointer (some ⟨g, 0, none⟩), .string a1] w fun e w' => e = .returned (.bool r1) ∧ q0L w0 w' g aA r2 r3 ∧ Below w0.heap.size w0 w' ∧ q0f w w' g none := by
 have aE := am hI;have HK := am (q0f.refl w g none);have HL := am hB.size;have HGL := am (q0L.lt hI);clear hI;have HW0 := am hB.size;have HB := am hB;clear hB;have H := h;clear h;unfold q0R.f at H;by_cases c3 : aD = true
 ·subst c3;replace H := tP H;simp only [Option.some.injEq, Prod.mk.injEq] at H;obtain ⟨rfl, rfl, rfl⟩ := H;obtain ⟨ASz4_0, cSz4_0, aG, aH, HSz4_0⟩ := aE.out;have Z4_0 := q1n aG;have Z4_1 := q1p aG;have Z4_2 := q1o aG;have Y4_1 := q0d aG 1;have Y4_2 := q0d aG 2;clear aG aH;go_enter Tryd.func85, Tryd.ntmps85;go_wp2
  repeat (go_quiet (fail); try go_wp2)
  go_ret
  exact ⟨X14, X96, X97, X98⟩
 ·replace c3 := Bool.eq_false_iff.mpr c3;subst c3;replace H := tN H;by_cases c5 : aC < (aA.length : Int)
  ·rw [if_pos c5] at H;have c5b0 := dT c5;clear c5;by_cases c6 : 0 ≤ aC
   ·rw [if_pos c6] at H;have c6b0 := dT c6;clear c6;by_cases c7 : ((q1d aA aC).f0) = 4
    ·rw [if_pos c7] at H;have c7b0 := eT c7;have c7b1 := eF c7;clear c7;simp only [Option.some.injEq, Prod.mk.injEq] at H;obtain ⟨rfl, rfl, rfl⟩ := H;obtain ⟨ASz8_0, cSz8_0, aI, aJ, aK⟩ := aE.out;have Z8_0 := q1n aI;have Z8_1 := q1p aI;have Z8_2 := q1o aI;have Y8_1 := q0d aI 1;have Y8_2 := q0d aI 2;clear aI aJ;have aM : 0 ≤ (aC : Int) := of_decide_eq_true X8;have aQ : aC < (aA.length : Int) := of_decide_eq_true X8;obtain ⟨aT, e708, aU, aW, aX⟩ := q2Q aK aC aM aQ;cases e708;replace aU := q0g HB.out aU;replace aW := q0g HB.out aW;replace aX := q0g HB.out aX;replace aM := eq_true aM;replace aQ := eq_true aQ;have aY : 0 ≤ (aC : Int) := of_decide_eq_true X8;have aZ : aC < (aA.length : Int) := of_decide_eq_true X8;obtain ⟨bA, e709, bB, bC, bD⟩ := q2Q aK aC aY aZ;obtain rfl : aT = bA := (by injection e709);replace bB := q0g HB.out bB;replace bC := q0g HB.out bC;replace bD := q0g HB.out bD;replace aY := eq_true aY;replace aZ := eq_true aZ;go_enter Tryd.func85, Tryd.ntmps85;go_wp2
     repeat (go_quiet (fail); try go_wp2)
     go_ret
     exact ⟨X14, X96, X97, X98⟩
    ·rw [if_neg c7] at H;have c7b0 := nF c7;have c7b1 := nT c7;simp only [Option.some.injEq, Prod.mk.injEq] at H;obtain ⟨rfl, rfl, rfl⟩ := H;obtain ⟨ASz9_0, cSz9_0, bE, bF, bG⟩ := aE.out;have Z9_0 := q1n bE;have Z9_1 := q1p bE;have Z9_2 := q1o bE;have Y9_1 := q0d bE 1;have Y9_2 := q0d bE 2;clear bE bF;have aM : 0 ≤ (aC : Int) := of_decide_eq_true X8;have aQ : aC < (aA.length : Int) := of_decide_eq_true X8;obtain ⟨aT, e708, aU, aW, aX⟩ := q2Q bG aC aM aQ;cases e708;replace aU := q0g HB.out aU;replace aW := q0g HB.out aW;replace aX := q0g HB.out aX;replace aM := eq_true aM;replace aQ := eq_true aQ;go_enter Tryd.func85, Tryd.ntmps85;go_wp2
     repeat (go_quiet (fail); try go_wp2)
     go_ret
     exact ⟨X14, X96, X97, X98⟩
   ·exact iN c6 H
  ·rw [if_neg c5] at H;have c5b0 := dF c5;clear c5;simp only [Option.some.injEq, Prod.mk.injEq] at H;obtain ⟨rfl, rfl, rfl⟩ := H;obtain ⟨ASz10_0, cSz10_0, bH, bI, HSz10_0⟩ := aE.out;have Z10_0 := q1n bH;have Z10_1 := q1p bH;have Z10_2 := q1o bH;have Y10_1 := q0d bH 1;have Y10_2 := q0d bH 2;clear bH bI;go_enter Tryd.func85, Tryd.ntmps85;go_wp2
   repeat (go_quiet (fail); try go_wp2)
   go_ret
   exact ⟨X14, X96, X97, X98⟩

def q0X.f (aA : List (S36)) (aC : Int) (aD : Bool) (a1 : ByteArray) : Option (Int × Bool) := (q0R.f aA aC aD a1).bind fun aE => (if aE.1 = true then (some (wrap64 (aE.2.1 + 1), aE.2.2)) else (some (aE.2.1, true)))
theorem q0X.calls (g : Nat) (aA : List (S36)) (aC : Int) (aD : Bool) (a1 : ByteArray) (r1 : Int) (r2 : Bool) (w0 w : World) (hI : q0L w0 w g aA aC aD) (hB : Below w0.heap.size w0 w) (h : q0X.f aA aC aD a1 = some (r1, r2)) :
  Calls Tryd.prog 116 #[.pointer (some ⟨g, 0, none⟩), .string a1] w fun e w' => e = .returned (.tuple #[]) ∧ q0L w0 w' g aA r1 r2 ∧ Below w0.heap.size w0 w' ∧ q0f w w' g none := by
 have aE := am hI;have HK := am (q0f.refl w g none);have HL := am hB.size;have HGL := am (q0L.lt hI);clear hI;have HW0 := am hB.size;have HB := am hB;clear hB;have H := h;clear h;unfold q0X.f at H;obtain ⟨⟨aG, aH, aI⟩, aJ, H⟩ := oB H;(try dsimp only at H);have A3 := am aJ;clear aJ;by_cases c4 : aG = true
 ·subst c4;replace H := tP H;simp only [Option.some.injEq, Prod.mk.injEq] at H;obtain ⟨rfl, rfl⟩ := H;go_enter Tryd.func116, Tryd.ntmps116;go_wp2_with (first | ((with_reducible refine gc 85 ?_); refine gL (some 6) Tryd.func85 #[.pointer (some ⟨g, 0, none⟩), .string a1] ?_; (with_reducible refine (q0R.calls g aA aC aD a1 true aH aI w0 _ ?side1 ?side2 A3.out).mono ?_); (case side1 => exact X96); (case side2 => exact X97); rintro e w5 ⟨rfl, hi, hb, hk⟩; refine ⟨_, rfl, ?_⟩; replace HK := am (q0f.trans X98 hk (.inl rfl)); replace HB := am (hb); replace aE := am (hi); clear hi hb hk; obtain ⟨ASz6_0, cSz6_0, aK, aM, HSz6_0⟩ := aE.out; have Z6_0 := q1n aK; have Z6_1 := q1p aK; have Z6_2 := q1o aK; have Y6_1 := q0d aK 1; have Y6_2 := q0d aK 2; clear aK aM))
  first | go_end0 | ((try simp only [Exit.inBlock, Exit.then]); refine bodyPost_ret (results_none rfl _ _ _) rfl ?_)
  exact ⟨X14, X96, X97, X98⟩
 ·replace c4 := Bool.eq_false_iff.mpr c4;subst c4;replace H := tN H;simp only [Option.some.injEq, Prod.mk.injEq] at H;obtain ⟨rfl, rfl⟩ := H;go_enter Tryd.func116, Tryd.ntmps116;go_wp2_with (first | ((with_reducible refine gc 85 ?_); refine gL (some 6) Tryd.func85 #[.pointer (some ⟨g, 0, none⟩), .string a1] ?_; (with_reducible refine (q0R.calls g aA aC aD a1 false aH aI w0 _ ?side1 ?side2 A3.out).mono ?_); (case side1 => exact X96); (case side2 => exact X97); rintro e w7 ⟨rfl, hi, hb, hk⟩; refine ⟨_, rfl, ?_⟩; replace HK := am (q0f.trans X98 hk (.inl rfl)); replace HB := am (hb); replace aE := am (hi); clear hi hb hk; obtain ⟨ASz8_0, cSz8_0, aQ, aT, HSz8_0⟩ := aE.out; have Z8_0 := q1n aQ; have Z8_1 := q1p aQ; have Z8_2 := q1o aQ; have Y8_1 := q0d aQ 1; have Y8_2 := q0d aQ 2; clear aQ aT))
  first | go_end0 | ((try simp only [Exit.inBlock, Exit.then]); refine bodyPost_ret (results_none rfl _ _ _) rfl ?_)
  exact ⟨X14, X96, X97, X98⟩

def q0K.f (aA : List (S36)) (aC : Int) (aD : Bool) (a1 : Int) : Option (ByteArray × Int × Bool) := if aD = true then (some ((⟨#[]⟩ : ByteArray), aC, true)) else (if aC = (aA.length : Int) then (some ((⟨#[]⟩ : ByteArray), aC, true)) else (if 0 ≤ aC then (if aC < (aA.length : Int) then (if ((q1d aA aC).f0) = a1 then (if 0 ≤ (wrap64 ((wrap64 (aC + 1)) - 1)) then (if (wrap64 ((wrap64 (aC + 1)) - 1)) < (aA.length : Int) then (some ((q1d aA (wrap64 ((wrap64 (aC + 1)) - 1))).f1, wrap64 (aC + 1), aD)) else (none)) else (none)) else (some ((⟨#[]⟩ : ByteArray), aC, true))) else (none)) else (none)))
theorem q0K.calls (g : Nat) (aA : List (S36)) (aC : Int) (aD : Bool) (a1 : Int) (r1 : ByteArray) (r2 : Int) (r3 : Bool) (w0 w : World) (hI : q0L w0 w g aA aC aD) (hB : Below w0.heap.size w0 w) (h : q0K.f aA aC aD a1 = some (r1, r2, r3)) :
  Calls Tryd.prog 118 #[.pointer (some ⟨g, 0, none⟩), .int .i64 a1] w fun e w' => e = .returned (.string r1) ∧ q0L w0 w' g aA r2 r3 ∧ Below w0.heap.size w0 w' ∧ q0f w w' g none := by
 have aE := am hI;have HK := am (q0f.refl w g none);have HL := am hB.size;have HGL := am (q0L.lt hI);clear hI;have HW0 := am hB.size;have HB := am hB;clear hB;have H := h;clear h;unfold q0K.f at H;by_cases c3 : aD = true
 ·subst c3;replace H := tP H;simp only [Option.some.injEq, Prod.mk.injEq] at H;obtain ⟨rfl, rfl, rfl⟩ := H;obtain ⟨ASz4_0, cSz4_0, aG, aH, HSz4_0⟩ := aE.out;have Z4_0 := q1n aG;have Z4_1 := q1p aG;have Z4_2 := q1o aG;have Y4_1 := q0d aG 1;have Y4_2 := q0d aG 2;clear aG aH;go_enter Tryd.func118, Tryd.ntmps118;go_wp2
  repeat (go_quiet (fail); try go_wp2)
  go_ret
  exact ⟨X14, X96, X97, X98⟩
 ·replace c3 := Bool.eq_false_iff.mpr c3;subst c3;replace H := tN H;by_cases c5 : aC = (aA.length : Int)
  ·rw [if_pos c5] at H;have c5b0 := eT c5;have c5b1 := eF c5;clear c5;simp only [Option.some.injEq, Prod.mk.injEq] at H;obtain ⟨rfl, rfl, rfl⟩ := H;obtain ⟨ASz6_0, cSz6_0, aI, aJ, HSz6_0⟩ := aE.out;have Z6_0 := q1n aI;have Z6_1 := q1p aI;have Z6_2 := q1o aI;have Y6_1 := q0d aI 1;have Y6_2 := q0d aI 2;clear aI aJ;go_enter Tryd.func118, Tryd.ntmps118;go_wp2
   repeat (go_quiet (fail); try go_wp2)
   go_ret
   exact ⟨X14, X96, X97, X98⟩
  ·rw [if_neg c5] at H;have c5b0 := nF c5;have c5b1 := nT c5;by_cases c7 : 0 ≤ aC
   ·rw [if_pos c7] at H;have c7b0 := dT c7;clear c7;by_cases c8 : aC < (aA.length : Int)
    ·rw [if_pos c8] at H;have c8b0 := dT c8;clear c8;by_cases c9 : ((q1d aA aC).f0) = a1
     ·rw [if_pos c9] at H;have c9b0 := eT c9;have c9b1 := eF c9;clear c9;obtain ⟨aK, aM⟩ : ∃ j_ : Int, (wrap64 ((wrap64 (aC + 1)) - 1)) = j_ := ⟨_, rfl⟩;replace H : (if 0 ≤ (aK) then (if (aK) < (aA.length : Int) then (some ((q1d aA (aK)).f1, wrap64 (aC + 1), false)) else (none)) else (none)) = some (r1, r2, r3) := by first | (rw [aM] at H; exact H) | (simp only [aM] at H ⊢; exact H)
      have hji10w : (IntKind.i64.wrap ((wrap64 (aC + 1)) - 1)) = aK := (q2x _).trans aM;by_cases aQ : 0 ≤ (aK)
      ·rw [if_pos aQ] at H;have c11b0 := dT aQ;clear aQ;by_cases aT : (aK) < (aA.length : Int)
       ·rw [if_pos aT] at H;have c12b0 := dT aT;clear aT;simp only [Option.some.injEq, Prod.mk.injEq] at H;obtain ⟨rfl, rfl, rfl⟩ := H;obtain ⟨ASz13_0, cSz13_0, aU, aW, aX⟩ := aE.out;have Z13_0 := q1n aU;have Z13_1 := q1p aU;have Z13_2 := q1o aU;have Y13_1 := q0d aU 1;have Y13_2 := q0d aU 2;clear aU aW;have aY : 0 ≤ (aC : Int) := of_decide_eq_true X8;have aZ : aC < (aA.length : Int) := of_decide_eq_true X8;obtain ⟨bA, e713, bB, bC, bD⟩ := q2Q aX aC aY aZ;cases e713;replace bB := q0g HB.out bB;replace bC := q0g HB.out bC;replace bD := q0g HB.out bD;replace aY := eq_true aY;replace aZ := eq_true aZ;have bE : 0 ≤ ((aK) : Int) := of_decide_eq_true X8;have bF : (aK) < (aA.length : Int) := of_decide_eq_true X8;obtain ⟨bG, e714, bH, bI, bJ⟩ := q2Q aX (aK) bE bF;obtain rfl : bA = bG := (by injection e714);have bK : bA.block ≠ g := Nat.ne_of_lt (Nat.lt_of_lt_of_le (by have := World.block_lt_of_cell? _ _ bH; first | rwa [q1v] at this | exact this) (q0L.ge aE.out));replace bH := q0g HB.out bH;replace bI := q0g HB.out bI;replace bJ := q0g HB.out bJ;replace bH := (q0i (p := ⟨g, 1, none⟩) X99 (.int .i64 (wrap64 (aC + 1)))).trans bH;replace bI := (q0i (p := ⟨g, 1, none⟩) X99 (.int .i64 (wrap64 (aC + 1)))).trans bI;replace bJ := (q0i (p := ⟨g, 1, none⟩) X99 (.int .i64 (wrap64 (aC + 1)))).trans bJ;(try have hy714_0 := fun (n_ : Nat) => (show (((w.drewN n_).setCell ⟨g, 1, none⟩ (.int .i64 (wrap64 (aC + 1))))).cell? _ = some _ from bH));(try have hy714_1 := fun (n_ : Nat) => (show (((w.drewN n_).setCell ⟨g, 1, none⟩ (.int .i64 (wrap64 (aC + 1))))).cell? _ = some _ from bI));(try have hy714_2 := fun (n_ : Nat) => (show (((w.drewN n_).setCell ⟨g, 1, none⟩ (.int .i64 (wrap64 (aC + 1))))).cell? _ = some _ from bJ));clear bK;replace bE := eq_true bE;replace bF := eq_true bF;go_enter Tryd.func118, Tryd.ntmps118;go_wp2
        repeat (go_quiet (fail); try go_wp2)
        go_ret
        exact ⟨by first | rfl | (simp [q3i, q3h] <;> rfl) | (simp only [← aM]; first | rfl | (simp [q3i, q3h] <;> rfl)) | (simp [*, q3i, q3h] <;> rfl), X96, X97, X98⟩
       ·exact iN aT H
      ·exact iN aQ H
     ·rw [if_neg c9] at H;have c9b0 := nF c9;have c9b1 := nT c9;simp only [Option.some.injEq, Prod.mk.injEq] at H;obtain ⟨rfl, rfl, rfl⟩ := H;obtain ⟨ASz14_0, cSz14_0, bL, bM, bN⟩ := aE.out;have Z14_0 := q1n bL;have Z14_1 := q1p bL;have Z14_2 := q1o bL;have Y14_1 := q0d bL 1;have Y14_2 := q0d bL 2;clear bL bM;have aY : 0 ≤ (aC : Int) := of_decide_eq_true X8;have aZ : aC < (aA.length : Int) := of_decide_eq_true X8;obtain ⟨bA, e713, bB, bC, bD⟩ := q2Q bN aC aY aZ;cases e713;replace bB := q0g HB.out bB;replace bC := q0g HB.out bC;replace bD := q0g HB.out bD;replace aY := eq_true aY;replace aZ := eq_true aZ;go_enter Tryd.func118, Tryd.ntmps118;go_wp2
      repeat (go_quiet (fail); try go_wp2)
      go_ret
      exact ⟨X14, X96, X97, X98⟩
    ·exact iN c8 H
   ·exact iN c7 H

def q1L.f (aA : List (S36)) (aC : Int) (aD : Bool) : Option (ByteArray × Int × Bool) := if aD = true then ((q0K.f aA aC aD 1).bind fun aE => (some (aE.1, aE.2.1, aE.2.2))) else (if aC < (aA.length : Int) then (if 0 ≤ aC then (if ((q1d aA aC).f1).toList = ([117] : List UInt8) then ((q0K.f aA aC true 1).bind fun aG => (some (aG.1, aG.2.1, aG.2.2))) else (if ((q1d aA aC).f1).toList = ([120] : List UInt8) then ((q0K.f aA aC true 1).bind fun aH => (some (aH.1, aH.2.1, aH.2.2))) else ((q0K.f aA aC aD 1).bind fun aI => (some (aI.1, aI.2.1, aI.2.2))))) else (none)) else ((q0K.f aA aC aD 1).bind fun aJ => (some (aJ.1, aJ.2.1, aJ.2.2))))
theorem q1L.calls (g : Nat) (aA : List (S36)) (aC : Int) (aD : Bool) (r1 : ByteArray) (r2 : Int) (r3 : Bool) (w0 w : World) (hI : q0L w0 w g aA aC aD) (hB : Below w0.heap.size w0 w) (h : q1L.f aA aC aD = some (r1, r2, r3)) :
  Calls Tryd.prog 117 #[.pointer (some ⟨g, 0, none⟩)] w fun e w' => e = .returned (.string r1) ∧ q0L w0 w' g aA r2 r3 ∧ Below w0.heap.size w0 w' ∧ q0f w w' g none := by
 have aE := am hI;have HK := am (q0f.refl w g none);have HL := am hB.size;have HGL := am (q0L.lt hI);clear hI;have HW0 := am hB.size;have HB := am hB;clear hB;have H := h;clear h;unfold q1L.f at H;by_cases c2 : aD = true
 ·subst c2;replace H := tP H;obtain ⟨⟨aG, aH, aI⟩, aJ, H⟩ := oB H;(try dsimp only at H);have A3 := am aJ;clear aJ;simp only [Option.some.injEq, Prod.mk.injEq] at H;obtain ⟨rfl, rfl, rfl⟩ := H;obtain ⟨ASz4_0, cSz4_0, aK, aM, HSz4_0⟩ := aE.out;have Z4_0 := q1n aK;have Z4_1 := q1p aK;have Z4_2 := q1o aK;have Y4_1 := q0d aK 1;have Y4_2 := q0d aK 2;clear aK aM;go_enter Tryd.func117, Tryd.ntmps117;go_wp2_with (first | (go_at_call 118; (with_reducible refine (q0K.calls g aA aC true 1 aG aH aI w0 _ ?side1 ?side2 A3.out).mono ?_); (case side1 => exact X96); (case side2 => exact X97); rintro e w5 ⟨rfl, hi, hb, hk⟩; replace HK := am (q0f.trans X98 hk (.inl rfl)); replace HB := am (hb); replace aE := am (hi); clear hi hb hk))
  repeat (go_quiet (first | (go_at_call 118; (with_reducible refine (q0K.calls g aA aC true 1 aG aH aI w0 _ ?side1 ?side2 A3.out).mono ?_); (case side1 => exact X96); (case side2 => exact X97); rintro e w5 ⟨rfl, hi, hb, hk⟩; replace HK := am (q0f.trans X98 hk (.inl rfl)); replace HB := am (hb); replace aE := am (hi); clear hi hb hk)); try go_wp2_with (first | (go_at_call 118; (with_reducible refine (q0K.calls g aA aC true 1 aG aH aI w0 _ ?side1 ?side2 A3.out).mono ?_); (case side1 => exact X96); (case side2 => exact X97); rintro e w5 ⟨rfl, hi, hb, hk⟩; replace HK := am (q0f.trans X98 hk (.inl rfl)); replace HB := am (hb); replace aE := am (hi); clear hi hb hk)))
  go_ret
  exact ⟨X14, X96, X97, X98⟩
 ·replace c2 := Bool.eq_false_iff.mpr c2;subst c2;replace H := tN H;by_cases c6 : aC < (aA.length : Int)
  ·rw [if_pos c6] at H;have c6b0 := dT c6;clear c6;by_cases c7 : 0 ≤ aC
   ·rw [if_pos c7] at H;have c7b0 := dT c7;clear c7;by_cases c8 : ((q1d aA aC).f1).toList = ([117] : List UInt8)
    ·rw [if_pos c8] at H;have c8b0 := eT c8;have c8b1 := eF c8;clear c8;obtain ⟨⟨aQ, aT, aU⟩, aW, H⟩ := oB H;(try dsimp only at H);have A9 := am aW;clear aW;simp only [Option.some.injEq, Prod.mk.injEq] at H;obtain ⟨rfl, rfl, rfl⟩ := H;obtain ⟨ASz10_0, cSz10_0, aX, aY, aZ⟩ := aE.out;have Z10_0 := q1n aX;have Z10_1 := q1p aX;have Z10_2 := q1o aX;have Y10_1 := q0d aX 1;have Y10_2 := q0d aX 2;clear aX aY;have bA : 0 ≤ (aC : Int) := of_decide_eq_true X8;have bB : aC < (aA.length : Int) := of_decide_eq_true X8;obtain ⟨bC, e718, bD, bE, bF⟩ := q2Q aZ aC bA bB;cases e718;replace bD := q0g HB.out bD;replace bE := q0g HB.out bE;replace bF := q0g HB.out bF;replace bA := eq_true bA;replace bB := eq_true bB;go_enter Tryd.func117, Tryd.ntmps117;go_wp2_with (first | (go_at_call 118; (with_reducible refine (q0K.calls g aA aC true 1 aQ aT aU w0 _ ?side1 ?side2 A9.out).mono ?_); (case side1 => exact X96); (case side2 => exact X97); rintro e bG ⟨rfl, hi, hb, hk⟩; replace HK := am (q0f.trans X98 hk (.inl rfl)); replace HB := am (hb); replace aE := am (hi); clear hi hb hk))
     repeat (go_quiet (first | (go_at_call 118; (with_reducible refine (q0K.calls g aA aC true 1 aQ aT aU w0 _ ?side1 ?side2 A9.out).mono ?_); (case side1 => exact X96); (case side2 => exact X97); rintro e bG ⟨rfl, hi, hb, hk⟩; replace HK := am (q0f.trans X98 hk (.inl rfl)); replace HB := am (hb); replace aE := am (hi); clear hi hb hk)); try go_wp2_with (first | (go_at_call 118; (with_reducible refine (q0K.calls g aA aC true 1 aQ aT aU w0 _ ?side1 ?side2 A9.out).mono ?_); (case side1 => exact X96); (case side2 => exact X97); rintro e bG ⟨rfl, hi, hb, hk⟩; replace HK := am (q0f.trans X98 hk (.inl rfl)); replace HB := am (hb); replace aE := am (hi); clear hi hb hk)))
     go_ret
     exact ⟨X14, X96, X97, X98⟩
    ·rw [if_neg c8] at H;have c8b0 := nF c8;have c8b1 := nT c8;by_cases bH : ((q1d aA aC).f1).toList = ([120] : List UInt8)
     ·rw [if_pos bH] at H;have c12b0 := eT bH;have c12b1 := eF bH;clear bH;obtain ⟨⟨bI, bJ, bK⟩, bL, H⟩ := oB H;(try dsimp only at H);have bM := am bL;clear bL;simp only [Option.some.injEq, Prod.mk.injEq] at H;obtain ⟨rfl, rfl, rfl⟩ := H;obtain ⟨ASz14_0, cSz14_0, bN, bO, bP⟩ := aE.out;have Z14_0 := q1n bN;have Z14_1 := q1p bN;have Z14_2 := q1o bN;have Y14_1 := q0d bN 1;have Y14_2 := q0d bN 2;clear bN bO;have bA : 0 ≤ (aC : Int) := of_decide_eq_true X8;have bB : aC < (aA.length : Int) := of_decide_eq_true X8;obtain ⟨bC, e718, bD, bE, bF⟩ := q2Q bP aC bA bB;cases e718;replace bD := q0g HB.out bD;replace bE := q0g HB.out bE;replace bF := q0g HB.out bF;replace bA := eq_true bA;replace bB := eq_true bB;have bQ : 0 ≤ (aC : Int) := of_decide_eq_true X8;have bR : aC < (aA.length : Int) := of_decide_eq_true X8;obtain ⟨bT, e722, bU, bV, bW⟩ := q2Q bP aC bQ bR;obtain rfl : bC = bT := (by injection e722);replace bU := q0g HB.out bU;replace bV := q0g HB.out bV;replace bW := q0g HB.out bW;replace bQ := eq_true bQ;replace bR := eq_true bR;go_enter Tryd.func117, Tryd.ntmps117;go_wp2_with (first | (go_at_call 118; (with_reducible refine (q0K.calls g aA aC true 1 bI bJ bK w0 _ ?side1 ?side2 bM.out).mono ?_); (case side1 => exact X96); (case side2 => exact X97); rintro e bX ⟨rfl, hi, hb, hk⟩; replace HK := am (q0f.trans X98 hk (.inl rfl)); replace HB := am (hb); replace aE := am (hi); clear hi hb hk))
      repeat (go_quiet (first | (go_at_call 118; (with_reducible refine (q0K.calls g aA aC true 1 bI bJ bK w0 _ ?side1 ?side2 bM.out).mono ?_); (case side1 => exact X96); (case side2 => exact X97); rintro e bX ⟨rfl, hi, hb, hk⟩; replace HK := am (q0f.trans X98 hk (.inl rfl)); replace HB := am (hb); replace aE := am (hi); clear hi hb hk)); try go_wp2_with (first | (go_at_call 118; (with_reducible refine (q0K.calls g aA aC true 1 bI bJ bK w0 _ ?side1 ?side2 bM.out).mono ?_); (case side1 => exact X96); (case side2 => exact X97); rintro e bX ⟨rfl, hi, hb, hk⟩; replace HK := am (q0f.trans X98 hk (.inl rfl)); replace HB := am (hb); replace aE := am (hi); clear hi hb hk)))
      go_ret
      exact ⟨X14, X96, X97, X98⟩
     ·rw [if_neg bH] at H;have c12b0 := nF bH;have c12b1 := nT bH;obtain ⟨⟨bY, bZ, cA⟩, cC, H⟩ := oB H;(try dsimp only at H);have cD := am cC;clear cC;simp only [Option.some.injEq, Prod.mk.injEq] at H;obtain ⟨rfl, rfl, rfl⟩ := H;obtain ⟨ASz17_0, cSz17_0, cE, cF, cG⟩ := aE.out;have Z17_0 := q1n cE;have Z17_1 := q1p cE;have Z17_2 := q1o cE;have Y17_1 := q0d cE 1;have Y17_2 := q0d cE 2;clear cE cF;have bA : 0 ≤ (aC : Int) := of_decide_eq_true X8;have bB : aC < (aA.length : Int) := of_decide_eq_true X8;obtain ⟨bC, e718, bD, bE, bF⟩ := q2Q cG aC bA bB;cases e718;replace bD := q0g HB.out bD;replace bE := q0g HB.out bE;replace bF := q0g HB.out bF;replace bA := eq_true bA;replace bB := eq_true bB;have bQ : 0 ≤ (aC : Int) := of_decide_eq_true X8;have bR : aC < (aA.length : Int) := of_decide_eq_true X8;obtain ⟨bT, e722, bU, bV, bW⟩ := q2Q cG aC bQ bR;obtain rfl : bC = bT := (by injection e722);replace bU := q0g HB.out bU;replace bV := q0g HB.out bV;replace bW := q0g HB.out bW;replace bQ := eq_true bQ;replace bR := eq_true bR;go_enter Tryd.func117, Tryd.ntmps117;go_wp2_with (first | (go_at_call 118; (with_reducible refine (q0K.calls g aA aC false 1 bY bZ cA w0 _ ?side1 ?side2 cD.out).mono ?_); (case side1 => exact X96); (case side2 => exact X97); rintro e cH ⟨rfl, hi, hb, hk⟩; replace HK := am (q0f.trans X98 hk (.inl rfl)); replace HB := am (hb); replace aE := am (hi); clear hi hb hk))
      repeat (go_quiet (first | (go_at_call 118; (with_reducible refine (q0K.calls g aA aC false 1 bY bZ cA w0 _ ?side1 ?side2 cD.out).mono ?_); (case side1 => exact X96); (case side2 => exact X97); rintro e cH ⟨rfl, hi, hb, hk⟩; replace HK := am (q0f.trans X98 hk (.inl rfl)); replace HB := am (hb); replace aE := am (hi); clear hi hb hk)); try go_wp2_with (first | (go_at_call 118; (with_reducible refine (q0K.calls g aA aC false 1 bY bZ cA w0 _ ?side1 ?side2 cD.out).mono ?_); (case side1 => exact X96); (case side2 => exact X97); rintro e cH ⟨rfl, hi, hb, hk⟩; replace HK := am (q0f.trans X98 hk (.inl rfl)); replace HB := am (hb); replace aE := am (hi); clear hi hb hk)))
      go_ret
      exact ⟨X14, X96, X97, X98⟩
   ·exact iN c7 H
  ·rw [if_neg c6] at H;have c6b0 := dF c6;clear c6;obtain ⟨⟨cI, cJ, cK⟩, cL, H⟩ := oB H;(try dsimp only at H);have cM := am cL;clear cL;simp only [Option.some.injEq, Prod.mk.injEq] at H;obtain ⟨rfl, rfl, rfl⟩ := H;obtain ⟨ASz20_0, cSz20_0, cN, cO, HSz20_0⟩ := aE.out;have Z20_0 := q1n cN;have Z20_1 := q1p cN;have Z20_2 := q1o cN;have Y20_1 := q0d cN 1;have Y20_2 := q0d cN 2;clear cN cO;go_enter Tryd.func117, Tryd.ntmps117;go_wp2_with (first | (go_at_call 118; (with_reducible refine (q0K.calls g aA aC false 1 cI cJ cK w0 _ ?side1 ?side2 cM.out).mono ?_); (case side1 => exact X96); (case side2 => exact X97); rintro e cP ⟨rfl, hi, hb, hk⟩; replace HK := am (q0f.trans X98 hk (.inl rfl)); replace HB := am (hb); replace aE := am (hi); clear hi hb hk))
   repeat (go_quiet (first | (go_at_call 118; (with_reducible refine (q0K.calls g aA aC false 1 cI cJ cK w0 _ ?side1 ?side2 cM.out).mono ?_); (case side1 => exact X96); (case side2 => exact X97); rintro e cP ⟨rfl, hi, hb, hk⟩; replace HK := am (q0f.trans X98 hk (.inl rfl)); replace HB := am (hb); replace aE := am (hi); clear hi hb hk)); try go_wp2_with (first | (go_at_call 118; (with_reducible refine (q0K.calls g aA aC false 1 cI cJ cK w0 _ ?side1 ?side2 cM.out).mono ?_); (case side1 => exact X96); (case side2 => exact X97); rintro e cP ⟨rfl, hi, hb, hk⟩; replace HK := am (q0f.trans X98 hk (.inl rfl)); replace HB := am (hb); replace aE := am (hi); clear hi hb hk)))
   go_ret
   exact ⟨X14, X96, X97, X98⟩
mutual
def q0B.j0 : Nat → ByteArray → Bool → Option (Int × Bool)
 | 0, _, _ => none
 | k + 1, x0, aA => if aA = true then (some (0, false)) else (q0B.l0 k x0 0 0)
def q0B.l0 : Nat → ByteArray → Int → Int → Option (Int × Bool)
 | 0, _, _, _ => none
 | k + 1, x0, x4, x5 => if x5 < (x0.size : Int) then (if 0 ≤ x5 then (q0B.l0 k x0 (wrap64 ((wrap64 (10 * x4)) + (((bt x0 x5) - 48) % 256))) (wrap64 (x5 + 1))) else (none)) else (some (x4, true))
end
def q0B.f (k : Nat) (a0 : ByteArray) : Option (Int × Bool) := if a0.toList = ([] : List UInt8) then (q0B.j0 k a0 true) else (if (a0.size : Int) > 6 then (q0B.j0 k a0 true) else ((q0I.f k a0).bind fun aA => (if aA = (a0.size : Int) then (if 0 < (a0.size : Int) then (if (bt a0 0) = 48 then (q0B.j0 k a0 (decide ((a0.size : Int) > 1))) else (q0B.j0 k a0 false)) else (none)) else (q0B.j0 k a0 true))))
theorem q0B.mono_l : ∀ k, (∀ y0 y1, LeO (q0B.j0 k y0 y1) (q0B.j0 (k + 1) y0 y1)) ∧ (∀ y0 y1 y2, LeO (q0B.l0 k y0 y1 y2) (q0B.l0 (k + 1) y0 y1 y2))
 | 0 => ⟨fun _ _ r h => by simp [q0B.j0] at h, fun _ _ _ r h => by simp [q0B.l0] at h⟩
 | k + 1 => by
  obtain ⟨aA, aC⟩ := q0B.mono_l k;refine ⟨?_, ?_⟩
  ·intro y0 y1;unfold q0B.j0;exact X100
  ·intro y0 y1 y2;unfold q0B.l0;exact X100
theorem q0B.mono : ∀ a0 k, LeO (q0B.f k a0) (q0B.f (k + 1) a0) := by
 intro a0 k;obtain ⟨aA, aC⟩ := q0B.mono_l k;unfold q0B.f;exact X100
theorem q0B.calls (k : Nat) (a0 : ByteArray) (r1 : Int) (r2 : Bool) (w : World) (h : q0B.f k a0 = some (r1, r2)) :
  Calls Tryd.prog 92 #[.string a0] w fun e w' => e = .returned (.tuple #[.int .i64 r1, .bool r2]) ∧ q2b w w' := by
 have H := h;clear h;unfold q0B.f at H;have aA := am H;clear H;go_enter Tryd.func92, Tryd.ntmps92;go_upto_region 1 with (fail)
 go_cut [29] (fun aC wc => ∃ (kq : Nat) (aD : Bool), aC = .bool aD ∧ q0h (q0B.j0 kq a0 aD = some (r1, r2)) ∧ q0h (kq ≤ k) ∧ q2b w wc)
 case first =>
  have H := aA.out;clear aA;by_cases c3 : a0.toList = ([] : List UInt8)
  ·rw [if_pos c3] at H;have c3b0 := eT c3;have c3b1 := eF c3;clear c3;(first | rw [c3b0] | (simp only [q2x, q2G]; rw [c3b0]) | skip);have H' := am H;clear H;go_wp2
   go_meet
   case rel => exact ⟨_, (true), X4, H', ⟨X7⟩, X5⟩
  ·rw [if_neg c3] at H;have c3b0 := nF c3;have c3b1 := nT c3;(first | rw [c3b0] | (simp only [q2x, q2G]; rw [c3b0]) | skip);by_cases c4 : (a0.size : Int) > 6
   ·rw [if_pos c4] at H;have c4b0 : decide (6 < (a0.size : Int)) = true := decide_eq_true c4;have c4b1 : decide (6 < a0.size) = true := decide_eq_true (by omega);clear c4;have H' := am H;clear H;go_wp2
    go_meet
    case rel => exact ⟨_, (true), X4, H', ⟨X7⟩, X5⟩
   ·rw [if_neg c4] at H;have c4b0 : decide (6 < (a0.size : Int)) = false := decide_eq_false c4;have c4b1 : decide (6 < a0.size) = false := decide_eq_false (by omega);clear c4;obtain ⟨aE, aG, H⟩ := oB H;(try dsimp only at H);have A5 := am aG;clear aG;by_cases c6 : aE = (a0.size : Int)
    ·rw [if_pos c6] at H;have c6b0 := eT c6;have c6b1 := eF c6;clear c6;by_cases c7 : 0 < (a0.size : Int)
     ·rw [if_pos c7] at H;have c7b0 := dT c7;have c7b1 : decide (0 < a0.size) = true := decide_eq_true (by omega);clear c7;by_cases c9 : (bt a0 0) = 48
      ·rw [if_pos c9] at H;have c9b0 := eT c9;have c9b1 := eF c9;clear c9;have H' := am H;clear H;go_wp2_with (first | (go_at_call 89; (with_reducible refine (q0I.calls k a0 aE _ A5.out).mono ?_); rintro e w' ⟨rfl, ⟨nd, rfl⟩⟩; have p8 : 0 ≤ (0 : Int) := (by omega); have q8 : 0 < a0.size := (by have : (0 : Int) < (a0.size : Int) := of_decide_eq_true X8; omega); have aH : ∀ h : 0 < a0.size, ((a0[0]'h).toNat : Int) = bt a0 0 := q2p a0 0; clear p8; have aI : (0 < (a0.size : Int)) = True := eq_true (of_decide_eq_true X8); replace q8 := eq_true q8))
       go_meet
       case rel => exact ⟨_, (decide ((a0.size : Int) > 1)), X4, H', ⟨X7⟩, X5⟩
      ·rw [if_neg c9] at H;have c9b0 := nF c9;have c9b1 := nT c9;have H' := am H;clear H;go_wp2_with (first | (go_at_call 89; (with_reducible refine (q0I.calls k a0 aE _ A5.out).mono ?_); rintro e w' ⟨rfl, ⟨nd, rfl⟩⟩; have p8 : 0 ≤ (0 : Int) := (by omega); have q8 : 0 < a0.size := (by have : (0 : Int) < (a0.size : Int) := of_decide_eq_true X8; omega); have aH : ∀ h : 0 < a0.size, ((a0[0]'h).toNat : Int) = bt a0 0 := q2p a0 0; clear p8; have aI : (0 < (a0.size : Int)) = True := eq_true (of_decide_eq_true X8); replace q8 := eq_true q8))
       go_meet
       case rel => exact ⟨_, (false), X4, H', ⟨X7⟩, X5⟩
     ·exact iN c7 H
    ·rw [if_neg c6] at H;have c6b0 := nF c6;have c6b1 := nT c6;have H' := am H;clear H;go_wp2_with (first | (go_at_call 89; (with_reducible refine (q0I.calls k a0 aE _ A5.out).mono ?_); rintro e w' ⟨rfl, ⟨nd, rfl⟩⟩))
     go_meet
     case rel => exact ⟨_, (true), X4, H', ⟨X7⟩, X5⟩
 case rest =>
  clear aA;(try clear p2);(try clear c3);(try clear c3b0);(try clear c3b1);(try clear c4);(try clear c4b0);(try clear c4b1);(try clear c6);(try clear c6b0);(try clear c6b1);(try clear c7);(try clear c7b0);(try clear c7b1);(try clear p8 p8);(try clear q8 q8);(try clear aH);(try clear aI);(try clear c9);(try clear c9b0);(try clear c9b1);obtain ⟨kq, aD, rfl, HA, aJ, ⟨mc1, rfl⟩⟩ := hcut;cases kq with
  | zero => exact absurd HA.out (by simp [q0B.j0])
  | succ aK =>
   have H := HA.out;clear HA;simp only [q0B.j0] at H;by_cases c10 : aD = true
   ·subst c10;replace H := tP H;simp only [Option.some.injEq, Prod.mk.injEq] at H;obtain ⟨rfl, rfl⟩ := H;go_wp2
    go_ret2
    exact ⟨X4, X5⟩
   ·replace c10 := Bool.eq_false_iff.mpr c10;subst c10;replace H := tN H;have H' := am H;clear H;go_wp2
    go_loopg [4, 5] aK (fun kq v4 v5 w' => ∃ (aM : Int) (aQ : Int), v4 = .int .i64 aM ∧ v5 = .int .i64 aQ ∧ q0h (q0B.l0 kq a0 aM aQ = some (r1, r2)) ∧ q0h (kq ≤ aK) ∧ q2b w w')
    case atStart => exact ⟨(0), (0), X4, X4, H', ⟨Nat.le_refl _⟩, X5⟩
    case round =>
     clear H';(try clear c1);(try clear p2 p2);(try clear c3);(try clear c3b0);(try clear c3b1);(try clear c4);(try clear c4b0);(try clear c4b1);(try clear c6);(try clear c6b0);(try clear c6b1);(try clear c7);(try clear c7b0);(try clear c7b1);(try clear p8 p8);(try clear q8 q8);(try clear aH);(try clear aI);(try clear c9);(try clear c9b0);(try clear c9b1);(try clear c10);obtain ⟨aM, aQ, rfl, rfl, HA, aT, ⟨m2, rfl⟩⟩ := hrel;cases gk with
     | zero => exact absurd HA.out (by simp [q0B.l0])
     | succ k2 =>
      have H := HA.out;clear HA;simp only [q0B.l0] at H;by_cases aU : aQ < (a0.size : Int)
      ·rw [if_pos aU] at H;have c11b0 := dT aU;clear aU;by_cases aW : 0 ≤ aQ
       ·rw [if_pos aW] at H;have c12b0 := dT aW;clear aW;have H' := am H;clear H;have aX : 0 ≤ (aQ : Int) := of_decide_eq_true X8;have aY : aQ < (a0.size : Int) := of_decide_eq_true X8;have hx13 := q2p a0 aQ;replace aX := eq_true aX;replace aY := eq_true aY;go_wp2
        go_roundg k2
        case measure => have := aJ.out; have := aT.out; omega
        case rel => exact ⟨(wrap64 ((wrap64 (10 * aM)) + (((bt a0 aQ) - 48) % 256))), (wrap64 (aQ + 1)), X4, X4, H', ⟨by have := aJ.out; have := aT.out; omega⟩, X5⟩
       ·exact iN aW H
      ·rw [if_neg aU] at H;have c11b0 := dF aU;clear aU;simp only [Option.some.injEq, Prod.mk.injEq] at H;obtain ⟨rfl, rfl⟩ := H;go_wp2
       go_ret2
       exact ⟨X4, X5⟩

def q1j.f (k : Nat) (aA : List (S36)) (aC : Int) (aD : Bool) : Option (Int × Int × Bool) := (q0K.f aA aC aD 2).bind fun aE => ((q0B.f k aE.1).bind fun aG => (some (aG.1, aE.2.1, aE.2.2)))
theorem q1j.mono : ∀ a0 a1 a2 k, LeO (q1j.f k a0 a1 a2) (q1j.f (k + 1) a0 a1 a2) := by
 intro a0 a1 a2 k;unfold q1j.f;exact (by repeat' first | (with_reducible exact q0B.mono _ _) | (with_reducible exact LeO.refl _) | (with_reducible exact LeO.none _) | (with_reducible refine LeO.ite ?_ ?_) | (with_reducible refine LeO.bind ?_ (fun _ => ?_)) | exact q0B.mono _ _ | exact LeO.none _ | refine LeO.ite ?_ ?_ | refine LeO.bind ?_ (fun _ => ?_))
theorem q1j.calls (k : Nat) (g : Nat) (aA : List (S36)) (aC : Int) (aD : Bool) (r1 : Int) (r2 : Int) (r3 : Bool) (w0 w : World) (hI : q0L w0 w g aA aC aD) (hB : Below w0.heap.size w0 w) (h : q1j.f k aA aC aD = some (r1, r2, r3)) :
  Calls Tryd.prog 86 #[.pointer (some ⟨g, 0, none⟩)] w fun e w' => e = .returned (.int .i64 r1) ∧ q0L w0 w' g aA r2 r3 ∧ Below w0.heap.size w0 w' ∧ q0f w w' g none := by
 have aE := am hI;have HK := am (q0f.refl w g none);have HL := am hB.size;have HGL := am (q0L.lt hI);clear hI;have HW0 := am hB.size;have HB := am hB;clear hB;have H := h;clear h;unfold q1j.f at H;obtain ⟨⟨aG, aH, aI⟩, aJ, H⟩ := oB H;(try dsimp only at H);have A2 := am aJ;clear aJ;obtain ⟨⟨aK, aM⟩, aQ, H⟩ := oB H;(try dsimp only at H);have A3 := am aQ;clear aQ;simp only [Option.some.injEq, Prod.mk.injEq] at H;obtain ⟨rfl, rfl, rfl⟩ := H;go_enter Tryd.func86, Tryd.ntmps86;go_wp2_with (first | ((with_reducible refine gc 118 ?_); refine gL (some 7) Tryd.func118 #[.pointer (some ⟨g, 0, none⟩), .int .i64 2] ?_; (with_reducible refine (q0K.calls g aA aC aD 2 aG aH aI w0 _ ?side1 ?side2 A2.out).mono ?_); (case side1 => exact X96); (case side2 => exact X97); rintro e w4 ⟨rfl, hi, hb, hk⟩; refine ⟨_, rfl, ?_⟩; replace HK := am (q0f.trans X98 hk (.inl rfl)); replace HB := am (hb); replace aE := am (hi); clear hi hb hk) | ((with_reducible refine gc 92 ?_); refine gL (some 8) Tryd.func92 #[.string aG] ?_; (with_reducible refine (q0B.calls k aG aK aM _ A3.out).mono ?_); rintro e w' ⟨rfl, ⟨nd, rfl⟩⟩; refine ⟨_, rfl, ?_⟩))
 go_ret
 exact ⟨X14, X96, X97, X98⟩

mutual
def q0a.l0 : Nat → List (S25) → List (S36) → Int → Bool → Option (Int × ByteArray × Int × (List (S25)) × Int × Bool)
 | 0, _, _, _, _ => none
 | k + 1, x3, aA, aC, aD => if aD = true then (q0a.j1 k x3 false aA aC aD) else (q0a.j1 k x3 (decide (aC < (aA.length : Int))) aA aC aD)
def q0a.j1 : Nat → List (S25) → Bool → List (S36) → Int → Bool → Option (Int × ByteArray × Int × (List (S25)) × Int × Bool)
 | 0, _, _, _, _, _ => none
 | k + 1, x3, aA, aC, aD, aE => if aA = true then ((q0e.f k aC aD aE).bind fun aG => (if aG.2.2.2.2.1 = true then (q0a.l1 k x3 aC aG.2.2.2.2.2.1 aG.2.2.2.2.2.2 aG.1 aG.2.1 aG.2.2.1 aG.2.2.2.1) else ((q2s.f x3).bind fun aH => (some (aH.1, aH.2.1, aH.2.2.1, aH.2.2.2, aG.2.2.2.2.2.1, aG.2.2.2.2.2.2))))) else ((q2s.f x3).bind fun aI => (some (aI.1, aI.2.1, aI.2.2.1, aI.2.2.2, aD, aE)))
def q0a.l1 : Nat → List (S25) → List (S36) → Int → Bool → Int → ByteArray → Int → List (S25) → Option (Int × ByteArray × Int × (List (S25)) × Int × Bool)
 | 0, _, _, _, _, _, _, _, _ => none
 | k + 1, x3, aA, aC, aD, aE, aG, aH, aI => (q0R.f aA aC aD (⟨#[94]⟩ : ByteArray)).bind fun aJ => (if aJ.1 = true then ((q1j.f k aA (wrap64 (aJ.2.1 + 1)) aJ.2.2).bind fun aK => (q0a.l1 k x3 aA aK.2.1 aK.2.2 7 (⟨#[]⟩ : ByteArray) aK.1 (([(⟨aE, aG, aH, aI⟩ : S25)] : List (S25))))) else (if aE = 5 then (if x3.length + aI.length < 2513169434916 then (q0a.l0 k (x3 ++ aI) aA aJ.2.1 aJ.2.2) else (none)) else (if x3.length < 2513169434916 then (q0a.l0 k (x3 ++ [(⟨aE, aG, aH, aI⟩ : S25)]) aA aJ.2.1 aJ.2.2) else (none))))
def q0a.f : Nat → List (S36) → Int → Bool → Option (Int × ByteArray × Int × (List (S25)) × Int × Bool)
 | 0, _, _, _ => none
 | k + 1, aA, aC, aD => q0a.l0 k ([] : List (S25)) aA aC aD
def q0e.l0 : Nat → List (S25) → List (S36) → Int → Bool → Option (Int × ByteArray × Int × (List (S25)) × Bool × Int × Bool)
 | 0, _, _, _, _ => none
 | k + 1, x7, aA, aC, aD => (q0R.f aA aC aD (⟨#[47]⟩ : ByteArray)).bind fun aE => (if aE.1 = true then ((q0a.f k aA (wrap64 (aE.2.1 + 1)) aE.2.2).bind fun aG => (if x7.length < 2513169434916 then (q0e.l0 k (x7 ++ [(⟨aG.1, aG.2.1, aG.2.2.1, aG.2.2.2.1⟩ : S25)]) aA aG.2.2.2.2.1 aG.2.2.2.2.2) else (none))) else ((q0X.f aA aE.2.1 aE.2.2 (⟨#[41]⟩ : ByteArray)).bind fun aH => (if (x7.length : Int) = 1 then (if 0 < (x7.length : Int) then (some ((q0v x7 0).f0, (q0v x7 0).f1, (q0v x7 0).f2, (q0v x7 0).f3, true, aH.1, aH.2)) else (none)) else (some (6, (⟨#[]⟩ : ByteArray), 0, x7, true, aH.1, aH.2)))))
def q0e.f : Nat → List (S36) → Int → Bool → Option (Int × ByteArray × Int × (List (S25)) × Bool × Int × Bool)
 | 0, _, _, _ => none
 | k + 1, aA, aC, aD => if 0 ≤ aC then (if aC < (aA.length : Int) then (if ((q1d aA aC).f0) = 1 then (if ((q1d aA aC).f1).toList = ([117] : List UInt8) then (some (1, (⟨#[]⟩ : ByteArray), 0, ([] : List (S25)), true, wrap64 (aC + 1), aD)) else (if ((q1d aA aC).f1).toList = ([120] : List UInt8) then (some (3, (⟨#[]⟩ : ByteArray), 0, ([] : List (S25)), true, wrap64 (aC + 1), aD)) else ((q0R.f aA (wrap64 (aC + 1)) aD (⟨#[123]⟩ : ByteArray)).bind fun aE => (if aE.1 = true then ((q0a.f k aA (wrap64 (aE.2.1 + 1)) aE.2.2).bind fun aG => ((q0X.f aA aG.2.2.2.2.1 aG.2.2.2.2.2 (⟨#[125]⟩ : ByteArray)).bind fun aH => (some (12, (q1d aA aC).f1, 0, (([(⟨aG.1, aG.2.1, aG.2.2.1, aG.2.2.2.1⟩ : S25)] : List (S25))), true, aH.1, aH.2)))) else (some (4, (q1d aA aC).f1, 0, ([] : List (S25)), true, aE.2.1, aE.2.2)))))) else (if ((q1d aA aC).f0) = 4 then (if ((q1d aA aC).f1).toList = ([45] : List UInt8) then (some (2, (⟨#[]⟩ : ByteArray), 0, ([] : List (S25)), true, wrap64 (aC + 1), aD)) else (if ((q1d aA aC).f1).toList = ([58] : List UInt8) then (some (9, (⟨#[]⟩ : ByteArray), 0, ([] : List (S25)), true, wrap64 (aC + 1), aD)) else (if ((q1d aA aC).f1).toList = ([126] : List UInt8) then (some (10, (⟨#[]⟩ : ByteArray), 0, ([] : List (S25)), true, wrap64 (aC + 1), aD)) else (if ((q1d aA aC).f1).toList = ([64] : List UInt8) then ((q1L.f aA (wrap64 (aC + 1)) aD).bind fun aI => (some (11, aI.1, 0, ([] : List (S25)), true, aI.2.1, aI.2.2))) else (if ((q1d aA aC).f1).toList = ([91] : List UInt8) then ((q0a.f k aA (wrap64 (aC + 1)) aD).bind fun aJ => ((q0X.f aA aJ.2.2.2.2.1 aJ.2.2.2.2.2 (⟨#[93]⟩ : ByteArray)).bind fun aK => (some (8, (⟨#[]⟩ : ByteArray), 0, (([(⟨aJ.1, aJ.2.1, aJ.2.2.1, aJ.2.2.2.1⟩ : S25)] : List (S25))), true, aK.1, aK.2)))) else (if ((q1d aA aC).f1).toList = ([40] : List UInt8) then ((q0a.f k aA (wrap64 (aC + 1)) aD).bind fun aM => (q0e.l0 k (([(⟨aM.1, aM.2.1, aM.2.2.1, aM.2.2.2.1⟩ : S25)] : List (S25))) aA aM.2.2.2.2.1 aM.2.2.2.2.2)) else (some (0, (⟨#[]⟩ : ByteArray), 0, ([] : List (S25)), false, wrap64 ((wrap64 (aC + 1)) - 1), aD)))))))) else (some (0, (⟨#[]⟩ : ByteArray), 0, ([] : List (S25)), false, aC, aD)))) else (none)) else (none)
end
theorem q0a.group.mono_l : ∀ k, (∀ y0 y1 y2, LeO (q0a.f k y0 y1 y2) (q0a.f (k + 1) y0 y1 y2)) ∧ (∀ y0 y1 y2 y3, LeO (q0a.l0 k y0 y1 y2 y3) (q0a.l0 (k + 1) y0 y1 y2 y3)) ∧ (∀ y0 y1 y2 y3 y4, LeO (q0a.j1 k y0 y1 y2 y3 y4) (q0a.j1 (k + 1) y0 y1 y2 y3 y4)) ∧ (∀ y0 y1 y2 y3 y4 y5 y6 y7, LeO (q0a.l1 k y0 y1 y2 y3 y4 y5 y6 y7) (q0a.l1 (k + 1) y0 y1 y2 y3 y4 y5 y6 y7)) ∧ (∀ y0 y1 y2, LeO (q0e.f k y0 y1 y2) (q0e.f (k + 1) y0 y1 y2)) ∧ (∀ y0 y1 y2 y3, LeO (q0e.l0 k y0 y1 y2 y3) (q0e.l0 (k + 1) y0 y1 y2 y3))
 | 0 => ⟨fun _ _ _ r h => by simp [q0a.f] at h, fun _ _ _ _ r h => by simp [q0a.l0] at h, fun _ _ _ _ _ r h => by simp [q0a.j1] at h, fun _ _ _ _ _ _ _ _ r h => by simp [q0a.l1] at h, fun _ _ _ r h => by simp [q0e.f] at h, fun _ _ _ _ r h => by simp [q0e.l0] at h⟩
 | k + 1 => by
  obtain ⟨aA, aC, aD, aE, aG, aH⟩ := q0a.group.mono_l k;refine ⟨?_, ?_, ?_, ?_, ?_, ?_⟩
  ·intro y0 y1 y2;unfold q0a.f;exact X101
  ·intro y0 y1 y2 y3;unfold q0a.l0;exact X101
  ·intro y0 y1 y2 y3 y4;unfold q0a.j1;exact X101
  ·intro y0 y1 y2 y3 y4 y5 y6 y7;unfold q0a.l1;exact X101
  ·intro y0 y1 y2;unfold q0e.f;exact X101
  ·intro y0 y1 y2 y3;unfold q0e.l0;exact X101
theorem q0a.mono : ∀ a0 a1 a2 k, LeO (q0a.f k a0 a1 a2) (q0a.f (k + 1) a0 a1 a2) := by
 intro a0 a1 a2 k;obtain ⟨aA, ih1, ih2, ih3, ih4, ih5⟩ := q0a.group.mono_l k;exact aA a0 a1 a2
def q0a.T2 : Bool × List (List Nat × List Nat) := (true, [([], []), ([0], [0]), ([1], [1]), ([2], [2]), ([3], [3]), ([4], [4]), ([5], [5]), ([6, 5], [5, 6]), ([7, 5], [5, 7]), ([8, 5], [5, 8]), ([5], [5]), ([10, 5], [5, 10]), ([11, 5], [5, 11]), ([12, 5], [5, 12]), ([13, 5], [5, 13]), ([9, 14, 5], [5, 9, 14]), ([5, 15], [5, 15])])
def q0a.B2 : List Nat := [0, 1, 3, 7, 15, 31, 63, 127, 255, 511, 63, 1087, 3135, 7231, 15423, 32767, 65535]
theorem q0a.tab2 : rtab .any (q5z Tryd.f36 2) = q0a.T2 := by kernel_rfl
theorem q0a.bits2 : q2O q0a.T2.2 q0a.B2 = true := by kernel_rfl
def q0a.T7 : Bool × List (List Nat × List Nat) := (true, [([], []), ([0], [0]), ([], []), ([2], [2]), ([1, 3], [1, 3]), ([4, 1, 0, 1, 2, 3, 4], [4])])
def q0a.B7 : List Nat := [0, 1, 0, 4, 15, 31]
theorem q0a.tab7 : rtab .any (q5z Tryd.f36 7) = q0a.T7 := by kernel_rfl
theorem q0a.bits7 : q2O q0a.T7.2 q0a.B7 = true := by kernel_rfl

def q0e.T1 : Bool × List (List Nat × List Nat) := (true, [([], []), ([0], [0]), ([1], [1]), ([2], [2]), ([], []), ([4], [4]), ([5], [5]), ([6], [6]), ([3, 7], [3, 7]), ([8], [8]), ([], []), ([10, 9, 0, 1, 2, 3, 4, 5, 6, 7, 8, 9, 10], [9, 10])])
def q0e.B1 : List Nat := [0, 1, 3, 7, 0, 16, 48, 112, 255, 511, 0, 2047]
theorem q0e.tab1 : rtab .any (q5z Tryd.f84 1) = q0e.T1 := by kernel_rfl
theorem q0e.bits1 : q2O q0e.T1.2 q0e.B1 = true := by kernel_rfl

@[reducible] def q0a.Stmt (k : Nat) : Prop := ∀ (g : Nat) (s0_0 : List (S36)) (s0_1 : Int) (s0_2 : Bool) (r1 : Int) (r2 : ByteArray) (r3 : Int) (r4 : List (S25)) (r5 : Int) (r6 : Bool) (w0 w : World) (hI : q0L w0 w g s0_0 s0_1 s0_2) (hB : Below w0.heap.size w0 w) (h : q0a.f k s0_0 s0_1 s0_2 = some (r1, r2, r3, r4, r5, r6)),
  Calls Tryd.prog 36 #[.pointer (some ⟨g, 0, none⟩)] w fun e w' => ∃ v3_ : Value, e = .returned (.agg #[.int .i64 r1, .string r2, .int .i64 r3, v3_]) ∧ Kd.V k25 25 w' w.heap.size (fun k_ => (w.heap.size ≤ k_)) v3_ r4 ∧ q0L w0 w' g s0_0 r5 r6 ∧ Below w0.heap.size w0 w' ∧ q0f w w' g none
@[reducible] def q0e.Stmt (k : Nat) : Prop := ∀ (g : Nat) (s0_0 : List (S36)) (s0_1 : Int) (s0_2 : Bool) (r1 : Int) (r2 : ByteArray) (r3 : Int) (r4 : List (S25)) (r5 : Bool) (r6 : Int) (r7 : Bool) (w0 w : World) (hI : q0L w0 w g s0_0 s0_1 s0_2) (hB : Below w0.heap.size w0 w) (h : q0e.f k s0_0 s0_1 s0_2 = some (r1, r2, r3, r4, r5, r6, r7)),
  Calls Tryd.prog 84 #[.pointer (some ⟨g, 0, none⟩)] w fun e w' => ∃ v3_ : Value, e = .returned (.tuple #[.agg #[.int .i64 r1, .string r2, .int .i64 r3, v3_], .bool r5]) ∧ Kd.V k25 25 w' w.heap.size (fun k_ => (w.heap.size ≤ k_)) v3_ r4 ∧ q0L w0 w' g s0_0 r6 r7 ∧ Below w0.heap.size w0 w' ∧ q0f w w' g none
end Go.Proofs.YtmffocankommaaaDoor.U
