/- Walks of functions of the program: what each computes, as a function in Lean (printed by a program of this session's, then shortened by another). The condition is that the Lean function gives a value. -/
import Derived.Test.YtmffocankommaaaDoorKYZed
import Derived.Test.YtmffocankommaaaDoorKx0
import Derived.Test.YtmffocankommaaaDoorKx5
namespace Go.Proofs.YtmffocankommaaaDoor.Z
open Go.RowKit Go.Proofs.YtmffocankommaaaDoorW.PrintWords Go.Proofs.YtmffocankommaaaDoorW.PrintLast Go.Proofs.YtmffocankommaaaDoorW.PrintMore Go.Proofs.YtmffocankommaaaDoorY Go.Proofs.YtmffocankommaaaDoorS Go.Proofs.YtmffocankommaaaDoorS
attribute [local go_sem] cell_twice max2_int min2_int max_two min_two max_three min_three max_four min_four
set_option linter.unusedVariables false
set_option linter.unusedSimpArgs false

def api_Node_140.f (k : Nat) (l0 : List (S25)) (a1 : Unit) : Option (Bool) := (api_Node_154.f k l0 a1).bind fun aA => (some (decide (aA ≥ 0)))
theorem api_Node_140.mono : ∀ a0 a1 k, LeO (api_Node_140.f k a0 a1) (api_Node_140.f (k + 1) a0 a1) := by
 intro a0 a1 k;unfold api_Node_140.f;exact (by repeat' first | (with_reducible exact api_Node_154.mono _ _ _) | (with_reducible exact LeO.refl _) | (with_reducible exact LeO.none _) | (with_reducible refine LeO.ite ?_ ?_) | (with_reducible refine LeO.bind ?_ (fun _ => ?_)) | apply api_Node_154.mono | exact LeO.none _ | refine LeO.ite ?_ ?_ | refine LeO.bind ?_ (fun _ => ?_))
set_option maxHeartbeats 8000000 in
set_option maxRecDepth 100000 in
theorem api_Node_140.calls (k : Nat) (A0 : Option Addr) (c0 : Nat) (l0 : List (S25)) (a1 : Unit) (r : Bool) (w : World) (aA : Kd.C k25 w A0 l0.length l0) (aC : l0.length ≤ c0) (h : api_Node_140.f k l0 a1 = some r) :
  Calls Tryd.prog 140 #[.slice A0 l0.length c0, .func (.func 141) #[] #[]] w fun e w' => e = .returned (.bool r) ∧ Below w.heap.size w w' := by
 have aD := am aA;have aE := am aC;clear aA aC;have HB := am (Below.refl w.heap.size w);have H : ((api_Node_154.f k l0 a1).bind fun aG => (some (decide (aG ≥ 0)))) = some r := h;clear h;replace H := Option.bind_eq_some_iff.mp H;obtain ⟨aG, aH, H⟩ := H;replace H : (some (decide (aG ≥ 0))) = some r := H;have A3 := am aH;clear aH;obtain rfl := Option.some.inj H;go_enter Tryd.func140, Tryd.ntmps140;go_wp2_with (first | ((with_reducible refine gc 154 ?_); refine gL (some 7) Tryd.func154 #[.slice A0 l0.length c0, .func (.func 141) #[] #[]] ?_; (with_reducible refine (api_Node_154.calls k _ _ l0 a1 aG _ ?side1 ?side2 A3.out).mono ?_); (case side1 => exact X200); (case side2 => exact aE.out); rintro e w4 ⟨rfl, hb⟩; refine ⟨_, rfl, ?_⟩; replace HB := bS X11 hb; (try clear hb); (try clear hb2); (try clear hk); (try clear hi)))
 go_ret
 exact ⟨X12, X11⟩

mutual
def metre_shaped.j2 : Nat → Int → ByteArray → Int → List (S25) → Option (Bool)
 | 0, _, _, _, _ => none
 | k + 1, aA, x341001, x341002, aC => if aA = 5 then (if (aC.length : Int) = 1 then (some false) else ((api_Node_140.f k aC ()).bind fun aD => (some (!aD)))) else (if aA = 6 then (some (decide ((aC.length : Int) ≥ 2))) else (if aA = 7 then (some ((aC.length : Int) == 1)) else (if aA = 8 then (some ((aC.length : Int) == 1)) else (if aA = 12 then (some ((aC.length : Int) == 1)) else (some ((aC.length : Int) == 0))))))
def metre_shaped.j0 : Nat → Bool → Int → ByteArray → Int → List (S25) → Option (Bool)
 | 0, _, _, _, _, _ => none
 | k + 1, x3, aA, aC, aD, aE => if x3 = true then (none) else ((metre_named.f aA).bind fun aG => (if aG = true then (metre_shaped.j1 k false aA aC aD aE) else (metre_shaped.j1 k (aC.toList != ([] : List UInt8)) aA aC aD aE)))
def metre_shaped.j1 : Nat → Bool → Int → ByteArray → Int → List (S25) → Option (Bool)
 | 0, _, _, _, _, _ => none
 | k + 1, aA, aC, aD, aE, aG => if aA = true then (none) else (if aC = 7 then (metre_shaped.j2 k aC aD aE aG) else (if aE = 0 then (metre_shaped.j2 k aC aD aE aG) else (none)))
end
def metre_shaped.f (k : Nat) (aA : Int) (aC : ByteArray) (aD : Int) (aE : List (S25)) : Option (Bool) := if aA < 1 then (metre_shaped.j0 k true aA aC aD aE) else (metre_shaped.j0 k (decide (aA > 12)) aA aC aD aE)
theorem metre_shaped.mono_l : ∀ k, (∀ y0 y1 y2 y3, LeO (metre_shaped.j2 k y0 y1 y2 y3) (metre_shaped.j2 (k + 1) y0 y1 y2 y3)) ∧ (∀ y0 y1 y2 y3 y4, LeO (metre_shaped.j0 k y0 y1 y2 y3 y4) (metre_shaped.j0 (k + 1) y0 y1 y2 y3 y4)) ∧ (∀ y0 y1 y2 y3 y4, LeO (metre_shaped.j1 k y0 y1 y2 y3 y4) (metre_shaped.j1 (k + 1) y0 y1 y2 y3 y4))
 | 0 => ⟨fun _ _ _ _ r h => by simp [metre_shaped.j2] at h, fun _ _ _ _ _ r h => by simp [metre_shaped.j0] at h, fun _ _ _ _ _ r h => by simp [metre_shaped.j1] at h⟩
 | k + 1 => by
  obtain ⟨aA, aC, aD⟩ := metre_shaped.mono_l k;refine ⟨?_, ?_, ?_⟩
  ·intro y0 y1 y2 y3;unfold metre_shaped.j2;exact X201
  ·intro y0 y1 y2 y3 y4;unfold metre_shaped.j0;exact X201
  ·intro y0 y1 y2 y3 y4;unfold metre_shaped.j1;exact X201
theorem metre_shaped.mono : ∀ a0 a1 a2 a3 k, LeO (metre_shaped.f k a0 a1 a2 a3) (metre_shaped.f (k + 1) a0 a1 a2 a3) := by
 intro a0 a1 a2 a3 k;obtain ⟨aA, aC, aD⟩ := metre_shaped.mono_l k;unfold metre_shaped.f;exact X201
set_option maxHeartbeats 8000000 in
set_option maxRecDepth 100000 in
theorem metre_shaped.calls (k : Nat) (aA : Int) (aC : ByteArray) (aD : Int) (aE : Option Addr) (aG : Nat) (aH : List (S25)) (r : Bool) (w : World) (aI : Kd.C k25 w aE aH.length aH) (aJ : aH.length ≤ aG) (h : metre_shaped.f k aA aC aD aH = some r) :
  Calls Tryd.prog 115 #[.agg #[.int .i64 aA, .string aC, .int .i64 aD, .slice aE aH.length aG]] w fun e w' => e = .returned (.bool r) ∧ Below w.heap.size w w' := by
 have hu25 := Tryd.underlying25;have aK := am aI;have aM := am aJ;clear aI aJ;have HB := am (Below.refl w.heap.size w);have H : (if aA < 1 then (metre_shaped.j0 k true aA aC aD aH) else (metre_shaped.j0 k (decide (aA > 12)) aA aC aD aH)) = some r := h;clear h;have aQ := am H;clear H;go_enter Tryd.func115, Tryd.ntmps115;go_upto_block 0 with (first | ((with_reducible refine gd 1 ?_); refine be 1 #[.int .i64 aA, .string aC, .int .i64 aD, .slice aE aH.length aG] 25 ?_; intro aT hg w3 hbox hb; have aU := am (hbox); have GW340 := sG (w := w) hg X11; have aW := sG (w := w) hg X11; replace HB := bS X11 hb; clear hb hbox hg))
 (try simp only [Act.put, List.setIfInBounds_toArray, List.set_cons_zero, List.set_cons_succ]);go_cut [] (fun wc => ∃ (kq : Nat), Aside0 (metre_shaped.j2 kq aA aC aD aH = some r) ∧ Aside0 (kq ≤ k) ∧ Aside0 (wc.heap[aT]? = some (.cells #[.int .i64 aA, .string aC, .int .i64 aD, (.slice aE aH.length aG)] 25 (0, 0))) ∧ Aside0 (Below w.heap.size w wc))
 case first =>
  have H := aQ.out;clear aQ;have aX := am H;clear H;go_upto_region 1 with (fail)
  go_cut [3] (fun v3 wc => ∃ (kq : Nat) (aY : Bool), v3 = .bool aY ∧ Aside0 (metre_shaped.j0 kq aY aA aC aD aH = some r) ∧ Aside0 (kq ≤ k) ∧ Aside0 (wc.heap[aT]? = some (.cells #[.int .i64 aA, .string aC, .int .i64 aD, (.slice aE aH.length aG)] 25 (0, 0))) ∧ Aside0 (Below w.heap.size w wc))
  case first =>
   have H := aX.out;clear aX;by_cases c5 : aA < 1
   ·rw [if_pos c5] at H;have c5b0 := dT c5;clear c5;(first | rw [c5b0] | (simp only [i64_w, i32_w]; rw [c5b0]) | skip);have H' := am H;clear H;have Z6 := bc4 aU;go_wp2
    go_meet
    case rel => exact ⟨_, (true), X4, H', ⟨X7⟩, ⟨X202⟩, ⟨X75⟩⟩
   ·rw [if_neg c5] at H;have c5b0 := dF c5;clear c5;(first | rw [c5b0] | (simp only [i64_w, i32_w]; rw [c5b0]) | skip);have H' := am H;clear H;have Z7 := bc4 aU;go_wp2
    go_meet
    case rel => exact ⟨_, (decide (aA > 12)), X4, H', ⟨X7⟩, ⟨X202⟩, ⟨X75⟩⟩
  case rest =>
   clear aX;(try clear c1);(try clear p2);(try clear c5);(try clear c5b0);(try clear Z6);(try clear Z7);obtain ⟨kq, aY, rfl, HA, aZ, aU, HB⟩ := hcut;cases kq with
   | zero => exact absurd HA.out (by simp [metre_shaped.j0])
   | succ bA =>
    have H := HA.out;clear HA;simp only [metre_shaped.j0] at H;by_cases c8 : aY = true
    ·subst c8;have H1 : (none) = some r := by rw [if_pos rfl] at H; exact H
     clear H;have H := H1;clear H1;exact absurd H (by simp)
    ·replace c8 := Bool.eq_false_iff.mpr c8;subst c8;have H1 : ((metre_named.f aA).bind fun bB => (if bB = true then (metre_shaped.j1 bA false aA aC aD aH) else (metre_shaped.j1 bA (aC.toList != ([] : List UInt8)) aA aC aD aH))) = some r := by rw [if_neg (show ¬ (false = true) by decide)] at H; exact H
     clear H;have H := H1;clear H1;have bC := am H;clear H;go_upto_region 3 with (fail)
     go_cut [12] (fun bD wc => ∃ (kq : Nat) (bE : Bool), bD = .bool bE ∧ Aside0 (metre_shaped.j1 kq bE aA aC aD aH = some r) ∧ Aside0 (kq ≤ bA) ∧ Aside0 (wc.heap[aT]? = some (.cells #[.int .i64 aA, .string aC, .int .i64 aD, (.slice aE aH.length aG)] 25 (0, 0))) ∧ Aside0 (Below w.heap.size w wc))
     case first =>
      have H := bC.out;clear bC;replace H := Option.bind_eq_some_iff.mp H;obtain ⟨bB, bF, H⟩ := H;replace H : (if bB = true then (metre_shaped.j1 bA false aA aC aD aH) else (metre_shaped.j1 bA (aC.toList != ([] : List UInt8)) aA aC aD aH)) = some r := H;have bG := am bF;clear bF;by_cases bH : bB = true
      ·subst bH;have H1 : (metre_shaped.j1 bA false aA aC aD aH) = some r := by rw [if_pos rfl] at H; exact H
       clear H;have H := H1;clear H1;have H' := am H;clear H;have bI := bc4 aU;go_wp2_with (first | ((with_reducible refine gc 106 ?_); refine gL (some 15) Tryd.func106 #[.int .i64 aA] ?_; (with_reducible refine (metre_named.calls aA true _ bG.out).mono ?_); rintro e w' ⟨rfl, ⟨nd, rfl⟩⟩; refine ⟨_, rfl, ?_⟩))
       go_meet
       case rel => exact ⟨_, (false), X4, H', ⟨by have := aZ.out; first | omega | exact Nat.le_refl _⟩, ⟨X202⟩, ⟨X75⟩⟩
      ·replace bH := Bool.eq_false_iff.mpr bH;subst bH;have H1 : (metre_shaped.j1 bA (aC.toList != ([] : List UInt8)) aA aC aD aH) = some r := by rw [if_neg (show ¬ (false = true) by decide)] at H; exact H
       clear H;have H := H1;clear H1;have H' := am H;clear H;have bJ := bc4 aU;go_wp2_with (first | ((with_reducible refine gc 106 ?_); refine gL (some 15) Tryd.func106 #[.int .i64 aA] ?_; (with_reducible refine (metre_named.calls aA false _ bG.out).mono ?_); rintro e w' ⟨rfl, ⟨nd, rfl⟩⟩; refine ⟨_, rfl, ?_⟩))
       go_meet
       case rel => exact ⟨_, ((aC.toList != ([] : List UInt8))), X4, H', ⟨by have := aZ.out; first | omega | exact Nat.le_refl _⟩, ⟨X202⟩, ⟨X75⟩⟩
     case rest =>
      clear bC;(try clear c1);(try clear p2 p2);(try clear c5);(try clear c5b0);(try clear c8);(try clear c10);(try clear bH);(try clear bI);(try clear bJ);(try clear Z6);(try clear Z7);obtain ⟨kq, bE, rfl, HA, bK, aU, HB⟩ := hcut;cases kq with
      | zero => exact absurd HA.out (by simp [metre_shaped.j1])
      | succ bL =>
       have H := HA.out;clear HA;simp only [metre_shaped.j1] at H;by_cases bM : bE = true
       ·subst bM;have H1 : (none) = some r := by rw [if_pos rfl] at H; exact H
        clear H;have H := H1;clear H1;exact absurd H (by simp)
       ·replace bM := Bool.eq_false_iff.mpr bM;subst bM;have H1 : (if aA = 7 then (metre_shaped.j2 bL aA aC aD aH) else (if aD = 0 then (metre_shaped.j2 bL aA aC aD aH) else (none))) = some r := by rw [if_neg (show ¬ (false = true) by decide)] at H; exact H
        clear H;have H := H1;clear H1;by_cases bN : aA = 7
        ·rw [if_pos bN] at H;have c15b0 := eT bN;have c15b1 := eF bN;clear bN;have H' := am H;clear H;have bO := bc4 aU;go_wp2
         go_meet
         case rel => exact ⟨_, H', ⟨by have := aZ.out; have := bK.out; first | omega | exact Nat.le_refl _⟩, ⟨X202⟩, ⟨X75⟩⟩
        ·rw [if_neg bN] at H;have c15b0 := nF bN;have c15b1 := nT bN;by_cases bP : aD = 0
         ·rw [if_pos bP] at H;have c17b0 := eT bP;have c17b1 := eF bP;clear bP;have H' := am H;clear H;have bQ := bc4 aU;go_wp2
          go_meet
          case rel => exact ⟨_, H', ⟨by have := aZ.out; have := bK.out; first | omega | exact Nat.le_refl _⟩, ⟨X202⟩, ⟨X75⟩⟩
         ·exact iN bP H
 case rest =>
  clear aQ;(try clear c1);(try clear p2 p2);(try clear c5);(try clear c5b0);(try clear c8);(try clear c10);(try clear bH);(try clear bM);(try clear bN);(try clear c15b0);(try clear c15b1);(try clear bP);(try clear c17b0);(try clear c17b1);(try clear bI);(try clear bJ);(try clear bO);(try clear bQ);(try clear Z6);(try clear Z7);obtain ⟨kq, HA, HJ1, aU, HB⟩ := hcut;cases kq with
  | zero => exact absurd HA.out (by simp [metre_shaped.j2])
  | succ bR =>
   have H := HA.out;clear HA;simp only [metre_shaped.j2] at H;by_cases bT : aA = 5
   ·rw [if_pos bT] at H;have c19b0 := eT bT;have c19b1 := eF bT;clear bT;by_cases bU : (aH.length : Int) = 1
    ·rw [if_pos bU] at H;have c20b0 := eT bU;have c20b1 := eF bU;clear bU;obtain rfl := Option.some.inj H;have Z21 := bc4 aU;go_wp2
     go_ret
     exact ⟨X12, X75⟩
    ·rw [if_neg bU] at H;have c20b0 := nF bU;have c20b1 := nT bU;replace H := Option.bind_eq_some_iff.mp H;obtain ⟨bV, bW, H⟩ := H;replace H : (some (!bV)) = some r := H;have bX := am bW;clear bW;obtain rfl := Option.some.inj H;have Z23 := bc4 aU;go_wp2_with (first | (go_at_call 140; (with_reducible refine (api_Node_140.calls bR _ _ aH () bV _ ?side1 ?side2 bX.out).mono ?_); (case side1 => exact X68); (case side2 => exact aM.out); rintro e w24 ⟨rfl, hb⟩; replace aU := kB aU hb; replace HB := bS X75 hb; (try clear hb); (try clear hb2); (try clear hk); (try clear hi)))
     go_ret
     exact ⟨X12, X75⟩
   ·rw [if_neg bT] at H;have c19b0 := nF bT;have c19b1 := nT bT;by_cases bY : aA = 6
    ·rw [if_pos bY] at H;have c25b0 := eT bY;have c25b1 := eF bY;clear bY;obtain rfl := Option.some.inj H;have Z26 := bc4 aU;go_wp2
     go_ret
     exact ⟨X12, X75⟩
    ·rw [if_neg bY] at H;have c25b0 := nF bY;have c25b1 := nT bY;by_cases bZ : aA = 7
     ·rw [if_pos bZ] at H;have c27b0 := eT bZ;have c27b1 := eF bZ;clear bZ;obtain rfl := Option.some.inj H;have Z28 := bc4 aU;go_wp2
      go_ret
      exact ⟨X12, X75⟩
     ·rw [if_neg bZ] at H;have c27b0 := nF bZ;have c27b1 := nT bZ;by_cases cA : aA = 8
      ·rw [if_pos cA] at H;have c29b0 := eT cA;have c29b1 := eF cA;clear cA;obtain rfl := Option.some.inj H;have Z30 := bc4 aU;go_wp2
       go_ret
       exact ⟨X12, X75⟩
      ·rw [if_neg cA] at H;have c29b0 := nF cA;have c29b1 := nT cA;by_cases cC : aA = 12
       ·rw [if_pos cC] at H;have c31b0 := eT cC;have c31b1 := eF cC;clear cC;obtain rfl := Option.some.inj H;have Z32 := bc4 aU;go_wp2
        go_ret
        exact ⟨X12, X75⟩
       ·rw [if_neg cC] at H;have c31b0 := nF cC;have c31b1 := nT cC;obtain rfl := Option.some.inj H;have Z33 := bc4 aU;go_wp2
        go_ret
        exact ⟨X12, X75⟩

end Go.Proofs.YtmffocankommaaaDoor.Z
