/- Walks of functions of the program: what each computes, as a function in Lean (printed by a program of this session's, then shortened by another). The condition is that the Lean function gives a value. -/
import Derived.Test.YtmffocankommaaaDoorMYZed
import Derived.Test.YtmffocankommaaaDoorMx0
import Derived.Test.YtmffocankommaaaDoorMx19
namespace Go.Proofs.YtmffocankommaaaDoor.P
open Go.RowKit Go.Proofs.YtmffocankommaaaDoorW.PrintWords Go.Proofs.YtmffocankommaaaDoorW.PrintLast Go.Proofs.YtmffocankommaaaDoorW.PrintMore Go.Proofs.YtmffocankommaaaDoorY Go.Proofs.YtmffocankommaaaDoorS
attribute [local go_sem] cell_twice max2_int min2_int max_two min_two max_three min_three max_four min_four
set_option linter.unusedVariables false
set_option linter.unusedSimpArgs false

mutual
def ancepsref22_Few.j0 : Nat → Bool → ByteArray → List (S86) → List (S88) → List (List ByteArray) → Int → ByteArray → Int → List (S25) → Option (Bool)
 | 0, _, _, _, _, _, _, _, _, _ => none
 | k + 1, aA, aC, aD, aE, aG, aH, aI, aJ, aK => if aA = true then (some false) else (ancepsref22_Few.l0 k 260 0 aC aD aE aG aH aI aJ aK)
def ancepsref22_Few.j2 : Nat → Int → ByteArray → List (S86) → List (S88) → List (List ByteArray) → Int → ByteArray → Int → List (S25) → Option (Bool)
 | 0, _, _, _, _, _, _, _, _, _ => none
 | k + 1, x3, aA, aC, aD, aE, aG, aH, aI, aJ => ancepsref22_Few.l1 k x3 0 aA aC aD aE aG aH aI aJ
def ancepsref22_Few.l1 : Nat → Int → Int → ByteArray → List (S86) → List (S88) → List (List ByteArray) → Int → ByteArray → Int → List (S25) → Option (Bool)
 | 0, _, _, _, _, _, _, _, _, _, _ => none
 | k + 1, x3, x5, aA, aC, aD, aE, aG, aH, aI, aJ => if x5 < (aE.length : Int) then (if 0 ≤ x5 then (if ((rd_L7 aE x5).length : Int) > 10 then (some false) else (ancepsref22_Few.l1 k x3 (wrap64 (x5 + 1)) aA aC aD aE aG aH aI aJ)) else (none)) else (if x3 ≥ 0 then ((ancepsref22_left.f k aG aH aI aJ x3).bind fun aK => (some (decide (aK ≥ 0)))) else (some false))
def ancepsref22_Few.l0 : Nat → Int → Int → ByteArray → List (S86) → List (S88) → List (List ByteArray) → Int → ByteArray → Int → List (S25) → Option (Bool)
 | 0, _, _, _, _, _, _, _, _, _, _ => none
 | k + 1, x3, x4, aA, aC, aD, aE, aG, aH, aI, aJ => if x4 < (aC.length : Int) then (if x3 ≥ 0 then (if 0 ≤ x4 then ((ancepsref22_left.f k ((rd_T86 aC x4).f1.f0) ((rd_T86 aC x4).f1.f1) ((rd_T86 aC x4).f1.f2) ((rd_T86 aC x4).f1.f3) (wrap64 ((wrap64 (x3 - 1)) - (wrap64 ((((rd_T86 aC x4).f0).size : Int) / 40))))).bind fun aK => (ancepsref22_Few.l0 k aK (wrap64 (x4 + 1)) aA aC aD aE aG aH aI aJ)) else (none)) else (ancepsref22_Few.j2 k x3 aA aC aD aE aG aH aI aJ)) else (ancepsref22_Few.j2 k x3 aA aC aD aE aG aH aI aJ)
end
def ancepsref22_Few.f (k : Nat) (aA : ByteArray) (aC : List (S86)) (aD : List (S88)) (aE : List (List ByteArray)) (aG : Int) (aH : ByteArray) (aI : Int) (aJ : List (S25)) : Option (Bool) := if (aA.size : Int) > 60 then (ancepsref22_Few.j0 k true aA aC aD aE aG aH aI aJ) else (if (aC.length : Int) > 25 then (ancepsref22_Few.j0 k true aA aC aD aE aG aH aI aJ) else (if (aD.length : Int) > 6 then (ancepsref22_Few.j0 k true aA aC aD aE aG aH aI aJ) else (ancepsref22_Few.j0 k (decide ((aE.length : Int) > 6)) aA aC aD aE aG aH aI aJ)))
def ancepsref22_Few.T7 : Bool × List (List Nat × List Nat) := (true, [([], []), ([0], [0]), ([], []), ([1, 2], [1, 2]), ([3], [3]), ([4], [4]), ([], []), ([6], [6]), ([], []), ([8], [8]), ([], []), ([9, 10], [9, 10]), ([11], [11]), ([12], [12]), ([13], [13]), ([14], [14]), ([7, 15], [7, 15]), ([5, 16], [5, 16]), ([17, 17, 0, 1, 2, 3, 4, 5, 6, 7, 8, 9, 10, 11, 12, 13, 14, 15, 16, 17], [6, 17])])
def ancepsref22_Few.B7 : List Nat := [0, 1, 0, 7, 15, 31, 0, 64, 0, 256, 0, 1792, 3840, 7936, 16128, 32512, 65472, 131071, 262143]
theorem ancepsref22_Few.tab7 : rtab .any (opsOf Tryd.f20 7) = ancepsref22_Few.T7 := by kernel_rfl
theorem ancepsref22_Few.bits7 : waitsOk ancepsref22_Few.T7.2 ancepsref22_Few.B7 = true := by kernel_rfl
set_option maxHeartbeats 8000000 in
set_option maxRecDepth 100000 in
theorem ancepsref22_Few.calls (k : Nat) (aA : ByteArray) (aC : Option Addr) (aD : Nat) (aE : List (S86)) (aG : Option Addr) (aH : Nat) (aI : List (S88)) (aJ : Option Addr) (aK : Nat) (aM : List (List ByteArray)) (aQ : Int) (aT : ByteArray) (aU : Int) (aW : Option Addr) (aX : Nat) (aY : List (S25)) (r : Bool) (w : World) (aZ : Kd.C k86 w aC aE.length aE) (bA : aE.length ≤ aD) (bB : Kd.C k88 w aG aI.length aI) (bC : aI.length ≤ aH) (bD : Kd.C (Kd.slice 9 Kd.string) w aJ aM.length aM) (bE : aM.length ≤ aK) (bF : Kd.C k25 w aW aY.length aY) (bG : aY.length ≤ aX) (h : ancepsref22_Few.f k aA aE aI aM aQ aT aU aY = some r) :
  Calls Tryd.prog 20 #[.agg #[.string aA, .slice aC aE.length aD, .slice aG aI.length aH, .slice aJ aM.length aK, .int .i64 aQ, .string aT, .int .i64 aU, .slice aW aY.length aX]] w fun e w' => e = .returned (.bool r) ∧ Below w.heap.size w w' := by
 have hu44 := Tryd.underlying44;have hu25 := Tryd.underlying25;have bH := am aZ;have HC0_1 := am bA;clear aZ bA;have HR0_2 := am bB;have HC0_2 := am bC;clear bB bC;have bI := am bD;have HC0_3 := am bE;clear bD bE;have bJ := am bF;have bK := am bG;clear bF bG;have HB := am (Below.refl w.heap.size w);have H : (if (aA.size : Int) > 60 then (ancepsref22_Few.j0 k true aA aE aI aM aQ aT aU aY) else (if (aE.length : Int) > 25 then (ancepsref22_Few.j0 k true aA aE aI aM aQ aT aU aY) else (if (aI.length : Int) > 6 then (ancepsref22_Few.j0 k true aA aE aI aM aQ aT aU aY) else (ancepsref22_Few.j0 k (decide ((aM.length : Int) > 6)) aA aE aI aM aQ aT aU aY)))) = some r := h;clear h;have bL := am H;clear H;go_enter Tryd.func20, Tryd.ntmps20;go_upto_region 1 with (first | ((with_reducible refine gd 1 ?_); (try (refine gate_guard (by rfl) ?_; dsimp only)); refine be 1 #[.string aA, .slice aC aE.length aD, .slice aG aI.length aH, .slice aJ aM.length aK, .int .i64 aQ, .string aT, .int .i64 aU, .slice aW aY.length aX] 44 ?_; intro bM hg w3 hbox hb; have bN := am (hbox); have GW631 := sG (w := w) hg X35; have bO := sG (w := w) hg X35; replace HB := bS X35 hb; clear hb hbox hg))
 (try simp only [Act.put, List.setIfInBounds_toArray, List.set_cons_zero, List.set_cons_succ]);go_cut [27] (fun bP wc => ∃ (kq : Nat) (bQ : Bool), bP = .bool bQ ∧ Aside0 (ancepsref22_Few.j0 kq bQ aA aE aI aM aQ aT aU aY = some r) ∧ Aside0 (kq ≤ k) ∧ Aside0 (wc.heap[bM]? = some (.cells #[.string aA, (.slice aC aE.length aD), (.slice aG aI.length aH), (.slice aJ aM.length aK), .int .i64 aQ, .string aT, .int .i64 aU, (.slice aW aY.length aX)] 44 (0, 0))) ∧ Aside0 (Below w.heap.size w wc))
 case first =>
  have H := bL.out;clear bL;by_cases c4 : (aA.size : Int) > 60
  ·rw [if_pos c4] at H;have c4b0 : decide (60 < (aA.size : Int)) = true := decide_eq_true c4;have c4b1 : decide (60 < aA.size) = true := decide_eq_true (by omega);clear c4;(first | rw [c4b0] | (simp only [i64_w, i32_w]; rw [c4b0]) | skip);have H' := am H;clear H;have Z5 := bc8 bN;go_wp2
   go_meet
   case rel => exact ⟨_, (true), X6, H', ⟨X56⟩, ⟨X94⟩, ⟨X95⟩⟩
  ·rw [if_neg c4] at H;have c4b0 : decide (60 < (aA.size : Int)) = false := decide_eq_false c4;have c4b1 : decide (60 < aA.size) = false := decide_eq_false (by omega);clear c4;(first | rw [c4b0] | (simp only [i64_w, i32_w]; rw [c4b0]) | skip);by_cases c6 : (aE.length : Int) > 25
   ·rw [if_pos c6] at H;have c6b0 : decide (25 < (aE.length : Int)) = true := decide_eq_true c6;have c6b1 : decide (25 < aE.length) = true := decide_eq_true (by omega);clear c6;have H' := am H;clear H;have Z7 := bc8 bN;go_wp2
    go_meet
    case rel => exact ⟨_, (true), X6, H', ⟨X56⟩, ⟨X94⟩, ⟨X95⟩⟩
   ·rw [if_neg c6] at H;have c6b0 : decide (25 < (aE.length : Int)) = false := decide_eq_false c6;have c6b1 : decide (25 < aE.length) = false := decide_eq_false (by omega);clear c6;by_cases c8 : (aI.length : Int) > 6
    ·rw [if_pos c8] at H;have c8b0 : decide (6 < (aI.length : Int)) = true := decide_eq_true c8;have c8b1 : decide (6 < aI.length) = true := decide_eq_true (by omega);clear c8;have H' := am H;clear H;have Z9 := bc8 bN;go_wp2
     go_meet
     case rel => exact ⟨_, (true), X6, H', ⟨X56⟩, ⟨X94⟩, ⟨X95⟩⟩
    ·rw [if_neg c8] at H;have c8b0 : decide (6 < (aI.length : Int)) = false := decide_eq_false c8;have c8b1 : decide (6 < aI.length) = false := decide_eq_false (by omega);clear c8;have H' := am H;clear H;have bR := bc8 bN;go_wp2
     go_meet
     case rel => exact ⟨_, (decide ((aM.length : Int) > 6)), X6, H', ⟨X56⟩, ⟨X94⟩, ⟨X95⟩⟩
 case rest =>
  clear bL;(try clear c2);(try clear p2);(try clear c4);(try clear c4b0);(try clear c4b1);(try clear c6);(try clear c6b0);(try clear c6b1);(try clear c8);(try clear c8b0);(try clear c8b1);(try clear bR);(try clear Z5);(try clear Z7);(try clear Z9);obtain ⟨kq, bQ, rfl, HA, bT, bN, HB⟩ := hcut;cases kq with
  | zero => exact absurd HA.out (by simp [ancepsref22_Few.j0])
  | succ bU =>
   have H := HA.out;clear HA;simp only [ancepsref22_Few.j0] at H;by_cases bV : bQ = true
   ·subst bV;have H1 : (some false) = some r := by rw [if_pos rfl] at H; exact H
    clear H;have H := H1;clear H1;obtain rfl := Option.some.inj H;go_wp2
    go_ret
    exact ⟨X54, X95⟩
   ·replace bV := Bool.eq_false_iff.mpr bV;subst bV;have H1 : (ancepsref22_Few.l0 bU 260 0 aA aE aI aM aQ aT aU aY) = some r := by rw [if_neg (show ¬ (false = true) by decide)] at H; exact H
    clear H;have H := H1;clear H1;have bW := am H;clear H;go_upto_block 0 with (fail)
    go_cut [3] (fun v3 wc => ∃ (kq : Nat) (bX : Int), v3 = .int .i64 bX ∧ Aside0 (ancepsref22_Few.j2 kq bX aA aE aI aM aQ aT aU aY = some r) ∧ Aside0 (kq ≤ bU) ∧ Aside0 (wc.heap[bM]? = some (.cells #[.string aA, (.slice aC aE.length aD), (.slice aG aI.length aH), (.slice aJ aM.length aK), .int .i64 aQ, .string aT, .int .i64 aU, (.slice aW aY.length aX)] 44 (0, 0))) ∧ Aside0 (Below w.heap.size w wc))
    case first =>
     have H := bW.out;clear bW;have H' := am H;clear H;go_wp2
     go_loopg [3, 4] bU (fun kq v3 v4 w' => ∃ (bY : Int) (bZ : Int), v3 = .int .i64 bY ∧ v4 = .int .i64 bZ ∧ Aside0 (ancepsref22_Few.l0 kq bY bZ aA aE aI aM aQ aT aU aY = some r) ∧ Aside0 (kq ≤ bU) ∧ Aside0 (w'.heap[bM]? = some (.cells #[.string aA, (.slice aC aE.length aD), (.slice aG aI.length aH), (.slice aJ aM.length aK), .int .i64 aQ, .string aT, .int .i64 aU, (.slice aW aY.length aX)] 44 (0, 0))) ∧ Aside0 (Below w.heap.size w w'))
     case atStart => exact ⟨(260), (0), X6, X6, H', ⟨Nat.le_refl _⟩, ⟨X94⟩, ⟨X95⟩⟩
     case round =>
      clear H';(try clear c1);(try clear c2);(try clear p2 p2);(try clear c4);(try clear c4b0);(try clear c4b1);(try clear c6);(try clear c6b0);(try clear c6b1);(try clear c8);(try clear c8b0);(try clear c8b1);(try clear bV);(try clear bR);(try clear Z5);(try clear Z7);(try clear Z9);obtain ⟨bY, bZ, rfl, rfl, HA, cA, bN, HB⟩ := hrel;cases gk with
      | zero => exact absurd HA.out (by simp [ancepsref22_Few.l0])
      | succ k2 =>
       have H := HA.out;clear HA;simp only [ancepsref22_Few.l0] at H;by_cases cC : bZ < (aE.length : Int)
       ·rw [if_pos cC] at H;have c13b0 := dT cC;clear cC;(first | rw [c13b0] | (simp only [i64_w, i32_w]; rw [c13b0]) | skip);by_cases cD : bY ≥ 0
        ·rw [if_pos cD] at H;have c14b0 : decide (0 ≤ bY) = true := decide_eq_true cD;clear cD;by_cases cE : 0 ≤ bZ
         ·rw [if_pos cE] at H;have c15b0 := dT cE;clear cE;replace H := Option.bind_eq_some_iff.mp H;obtain ⟨cF, cG, H⟩ := H;replace H : (ancepsref22_Few.l0 k2 cF (wrap64 (bZ + 1)) aA aE aI aM aQ aT aU aY) = some r := H;have cH := am cG;clear cG;have H' := am H;clear H;have cI := bc8 bN;try go_wp2
          replace bN := am (blk_drew bN.out);replace HB := am (below_drew1 HB.out);have cJ : 0 ≤ (bZ : Int) := of_decide_eq_true X8;have cK : bZ < (aE.length : Int) := of_decide_eq_true X8;obtain ⟨cL, cM, cN, e632, cO, cP, cQ, cR, cS, cT, cU⟩ := at_T86 bH.out bZ cJ cK;have cV := cS;have cW := cR;have cX := cQ;have cY := cP;have cZ := cO;cases e632;replace cO := cB HB cO;replace cP := cB HB cP;replace cQ := cB HB cQ;replace cR := cB HB cR;replace cS := cB HB cS;have dA := am cU;have dB := am cT;clear cU cT;replace cJ := eq_true cJ;replace cK := eq_true cK;have dC : 0 ≤ (bZ : Int) := of_decide_eq_true X8;have dD : bZ < (aE.length : Int) := of_decide_eq_true X8;obtain ⟨dE, A633_4, c633_4, e633, dG, dH, dI, dJ, dK, dL, dM⟩ := at_T86 bH.out bZ dC dD;have dN := dK;have dO := dJ;have dP := dI;have dQ := dH;have dR := dG;obtain rfl : cL = dE := (by injection e633);replace dG := cB HB dG;replace dH := cB HB dH;replace dI := cB HB dI;replace dJ := cB HB dJ;replace dK := cB HB dK;have dS := am dM;have HC633_4 := am dL;clear dM dL;replace dC := eq_true dC;replace dD := eq_true dD;have ea_ := Option.some.inj (cS.symm.trans dK);injection ea_ with ea_ en_ ec_;subst ea_;subst ec_;clear en_;refine start_ (n := 19) (S := fun w' => c8 w' bM (.string aA) (.slice (some cL) aE.length aD) (.slice aG aI.length aH) (.slice aJ aM.length aK) (.int .i64 aQ) (.string aT) (.int .i64 aU) (.slice aW aY.length aX) (w'.cell? (cL.add ((bZ).toNat * 5)) = some (.string ((rd_T86 aE bZ).f0)) ∧ w'.cell? ⟨(cL.add ((bZ).toNat * 5)).block, (cL.add ((bZ).toNat * 5)).off + 1, none⟩ = some (.int .i64 ((rd_T86 aE bZ).f1.f0)) ∧ w'.cell? ⟨(cL.add ((bZ).toNat * 5)).block, (cL.add ((bZ).toNat * 5)).off + 2, none⟩ = some (.string ((rd_T86 aE bZ).f1.f1)) ∧ w'.cell? ⟨(cL.add ((bZ).toNat * 5)).block, (cL.add ((bZ).toNat * 5)).off + 3, none⟩ = some (.int .i64 ((rd_T86 aE bZ).f1.f2)) ∧ w'.cell? ⟨(cL.add ((bZ).toNat * 5)).block, (cL.add ((bZ).toNat * 5)).off + 4, none⟩ = some (.slice cM ((rd_T86 aE bZ).f1.f3).length cN) ∧ w'.cell? (cL.add ((bZ).toNat * 5)) = some (.string ((rd_T86 aE bZ).f0)) ∧ w'.cell? ⟨(cL.add ((bZ).toNat * 5)).block, (cL.add ((bZ).toNat * 5)).off + 1, none⟩ = some (.int .i64 ((rd_T86 aE bZ).f1.f0)) ∧ w'.cell? ⟨(cL.add ((bZ).toNat * 5)).block, (cL.add ((bZ).toNat * 5)).off + 2, none⟩ = some (.string ((rd_T86 aE bZ).f1.f1)) ∧ w'.cell? ⟨(cL.add ((bZ).toNat * 5)).block, (cL.add ((bZ).toNat * 5)).off + 3, none⟩ = some (.int .i64 ((rd_T86 aE bZ).f1.f2)) ∧ w'.cell? ⟨(cL.add ((bZ).toNat * 5)).block, (cL.add ((bZ).toNat * 5)).off + 4, none⟩ = some (.slice cM ((rd_T86 aE bZ).f1.f3).length cN))) (ds := []) #[false, false, false, false, false, false, false, false, false, false, false, false, false, false, false, false, false, false, false] X4 rfl rfl (b8 bN ⟨((HB.out.cell (World.block_lt_of_cell? w _ cZ)).trans cZ), ((HB.out.cell (World.block_lt_of_cell? w _ cY)).trans cY), ((HB.out.cell (World.block_lt_of_cell? w _ cX)).trans cX), ((HB.out.cell (World.block_lt_of_cell? w _ cW)).trans cW), ((HB.out.cell (World.block_lt_of_cell? w _ cV)).trans cV), ((HB.out.cell (World.block_lt_of_cell? w _ dR)).trans dR), ((HB.out.cell (World.block_lt_of_cell? w _ dQ)).trans dQ), ((HB.out.cell (World.block_lt_of_cell? w _ dP)).trans dP), ((HB.out.cell (World.block_lt_of_cell? w _ dO)).trans dO), ((HB.out.cell (World.block_lt_of_cell? w _ dN)).trans dN)⟩) (fun hHeld => ?_); refine with_tabW ancepsref22_Few.tab7 ancepsref22_Few.bits7 (fun HT_ HW_ => ?_);generalize wr.drew = w18 at bN HB dA dS cO cP cQ cR cS dG dH dI dJ dK hHeld ⊢
          refine pu 0 (some 39) (lb 19 1) HT_ ?_;refine pu 2 (some 41) (lb 19 5) HT_ ?_;refine pu 6 (some 45) (lb 19 69) HT_ ?_;refine pu 7 (some 46) (lb 19 197) HT_ ?_;refine pu 8 (some 47) (lb 19 453) HT_ ?_;refine pu 10 (some 49) (lb 19 1477) HT_ ?_;refine tk 1 (some 40) (lb 19 1479) HT_ HW_ hHeld ?_;refine pu 3 (some 42) (lb 19 1487) HT_ ?_;refine pu 4 (some 43) (lb 19 1503) HT_ ?_;refine tk 5 (some 44) (lb 19 1535) HT_ HW_ hHeld ?_;refine tk 9 (some 48) (lb 19 2047) HT_ HW_ hHeld ?_;refine pu 11 (some 50) (lb 19 4095) HT_ ?_;refine pu 12 (some 51) (lb 19 8191) HT_ ?_;refine tk 13 (some 52) (lb 19 16383) HT_ HW_ hHeld ?_;refine pu 14 (some 53) (lb 19 32767) HT_ ?_;refine pu 15 (some 54) (lb 19 65535) HT_ ?_;refine pu 16 (some 55) (lb 19 131071) HT_ ?_;refine oo 17 (some 56) (lb 19 262143) HT_ (fun K hK => ?_);refine gO Tryd.func62 #[.agg #[.int .i64 ((rd_T86 aE bZ).f1.f0), .string ((rd_T86 aE bZ).f1.f1), .int .i64 ((rd_T86 aE bZ).f1.f2), .slice cM ((rd_T86 aE bZ).f1.f3).length cN], .int .i64 (wrap64 ((wrap64 (bY - 1)) - (wrap64 ((((rd_T86 aE bZ).f0).size : Int) / 40))))] ?_;with_reducible refine (ancepsref22_left.calls k2 ((rd_T86 aE bZ).f1.f0) ((rd_T86 aE bZ).f1.f1) ((rd_T86 aE bZ).f1.f2) _ _ ((rd_T86 aE bZ).f1.f3) (wrap64 ((wrap64 (bY - 1)) - (wrap64 ((((rd_T86 aE bZ).f0).size : Int) / 40)))) cF _ ?side1 ?side2 cH.out).mono ?_
          (case side1 => exact X78);(case side2 => exact dB.out);rintro e w19 ⟨rfl, hb⟩;refine ⟨_, rfl, ?_⟩;replace bN := kB bN hb;replace HB := bS X95 hb;(try clear hb);(try clear dU);(try clear hk);(try clear hi);refine hK.out _ _ (b8 bN ⟨((HB.out.cell (World.block_lt_of_cell? w _ cZ)).trans cZ), ((HB.out.cell (World.block_lt_of_cell? w _ cY)).trans cY), ((HB.out.cell (World.block_lt_of_cell? w _ cX)).trans cX), ((HB.out.cell (World.block_lt_of_cell? w _ cW)).trans cW), ((HB.out.cell (World.block_lt_of_cell? w _ cV)).trans cV), ((HB.out.cell (World.block_lt_of_cell? w _ dR)).trans dR), ((HB.out.cell (World.block_lt_of_cell? w _ dQ)).trans dQ), ((HB.out.cell (World.block_lt_of_cell? w _ dP)).trans dP), ((HB.out.cell (World.block_lt_of_cell? w _ dO)).trans dO), ((HB.out.cell (World.block_lt_of_cell? w _ dN)).trans dN)⟩) (fun hHeld => ?_);clear hK K;refine norm_ (a' := ?_) ?_ ?_;rotate_left
          ·exact pA (some 56)
          refine pu 18 (some 3) (lb 19 524287) HT_ ?_;refine done_ (done_of HT_.out X4) ?_;try go_wp2
          go_roundg k2
          case measure => have := bT.out; have := cA.out; omega
          case rel => exact ⟨(cF), (wrap64 (bZ + 1)), X6, X6, H', ⟨by have := bT.out; have := cA.out; omega⟩, ⟨X94⟩, ⟨X95⟩⟩
         ·exact iN cE H
        ·rw [if_neg cD] at H;have c14b0 : decide (0 ≤ bY) = false := decide_eq_false cD;clear cD;have H' := am H;clear H;have dV := bc8 bN;go_wp2
         go_meet
         case rel => exact ⟨_, (bY), X6, H', ⟨by have := bT.out; have := cA.out; first | omega | exact Nat.le_refl _⟩, ⟨X94⟩, ⟨X95⟩⟩
       ·rw [if_neg cC] at H;have c13b0 := dF cC;clear cC;(first | rw [c13b0] | (simp only [i64_w, i32_w]; rw [c13b0]) | skip);have H' := am H;clear H;have dW := bc8 bN;go_wp2
        go_meet
        case rel => exact ⟨_, (bY), X6, H', ⟨by have := bT.out; have := cA.out; first | omega | exact Nat.le_refl _⟩, ⟨X94⟩, ⟨X95⟩⟩
    case rest =>
     clear bW;(try clear c1);(try clear c2);(try clear p2 p2);(try clear c4);(try clear c4b0);(try clear c4b1);(try clear c6);(try clear c6b0);(try clear c6b1);(try clear p6);(try clear q6);(try clear dX);(try clear c8);(try clear c8b0);(try clear c8b1);(try clear bV);(try clear cC);(try clear c13b0);(try clear cD);(try clear c14b0);(try clear cE);(try clear c15b0);(try clear bR);(try clear cI);(try clear dV);(try clear dW);(try clear Z5);(try clear Z7);(try clear Z9);(try clear cO);(try clear cP);(try clear cQ);(try clear cR);(try clear cS);(try clear dG);(try clear dH);(try clear dI);(try clear dJ);(try clear dK);(try clear cJ);(try clear dC);(try clear cK);(try clear dD);obtain ⟨kq, bX, rfl, HA, dY, bN, HB⟩ := hcut;cases kq with
     | zero => exact absurd HA.out (by simp [ancepsref22_Few.j2])
     | succ dZ =>
      have H := HA.out;clear HA;simp only [ancepsref22_Few.j2] at H;have H' := am H;clear H;go_wp2
      go_loopg [5] dZ (fun kq v5 w' => ∃ (eA : Int), v5 = .int .i64 eA ∧ Aside0 (ancepsref22_Few.l1 kq bX eA aA aE aI aM aQ aT aU aY = some r) ∧ Aside0 (kq ≤ dZ) ∧ Aside0 (w'.heap[bM]? = some (.cells #[.string aA, (.slice aC aE.length aD), (.slice aG aI.length aH), (.slice aJ aM.length aK), .int .i64 aQ, .string aT, .int .i64 aU, (.slice aW aY.length aX)] 44 (0, 0))) ∧ Aside0 (Below w.heap.size w w'))
      case atStart => exact ⟨(0), X6, H', ⟨Nat.le_refl _⟩, ⟨X94⟩, ⟨X95⟩⟩
      case round =>
       clear H';(try clear c1);(try clear c2);(try clear p2 p2);(try clear c4);(try clear c4b0);(try clear c4b1);(try clear c6);(try clear c6b0);(try clear c6b1);(try clear p6 p6);(try clear q6 q6);(try clear dX);(try clear c8);(try clear c8b0);(try clear c8b1);(try clear bV);(try clear cC);(try clear c13b0);(try clear cD);(try clear c14b0);(try clear cE);(try clear c15b0);(try clear bR);(try clear cI);(try clear dV);(try clear dW);(try clear Z5);(try clear Z7);(try clear Z9);(try clear cO);(try clear cP);(try clear cQ);(try clear cR);(try clear cS);(try clear dG);(try clear dH);(try clear dI);(try clear dJ);(try clear dK);(try clear cJ);(try clear dC);(try clear cK);(try clear dD);obtain ⟨eA, rfl, HA, eB, bN, HB⟩ := hrel;cases gk with
       | zero => exact absurd HA.out (by simp [ancepsref22_Few.l1])
       | succ k3 =>
        have H := HA.out;clear HA;simp only [ancepsref22_Few.l1] at H;by_cases eC : eA < (aM.length : Int)
        ·rw [if_pos eC] at H;have c22b0 := dT eC;clear eC;by_cases eD : 0 ≤ eA
         ·rw [if_pos eD] at H;have c23b0 := dT eD;clear eD;by_cases eE : ((rd_L7 aM eA).length : Int) > 10
          ·rw [if_pos eE] at H;have c24b0 : decide (10 < ((rd_L7 aM eA).length : Int)) = true := decide_eq_true eE;have c24b1 : decide (10 < (rd_L7 aM eA).length) = true := decide_eq_true (by omega);clear eE;obtain rfl := Option.some.inj H;have Z25 := bc8 bN;have eG : 0 ≤ (eA : Int) := of_decide_eq_true X8;have eH : eA < (aM.length : Int) := of_decide_eq_true X8;obtain ⟨eI, eJ, eK, e635, eL, eM, eN⟩ := at_L7 bI.out eA eG eH;cases e635;replace eL := cB HB eL;have eO := am eN;have eP := am eM;clear eN eM;replace eG := eq_true eG;replace eH := eq_true eH;go_wp2
           go_ret
           exact ⟨X54, X95⟩
          ·rw [if_neg eE] at H;have c24b0 : decide (10 < ((rd_L7 aM eA).length : Int)) = false := decide_eq_false eE;have c24b1 : decide (10 < (rd_L7 aM eA).length) = false := decide_eq_false (by omega);clear eE;have H' := am H;clear H;have Z26 := bc8 bN;have eG : 0 ≤ (eA : Int) := of_decide_eq_true X8;have eH : eA < (aM.length : Int) := of_decide_eq_true X8;obtain ⟨eI, eJ, eK, e635, eL, eM, eN⟩ := at_L7 bI.out eA eG eH;cases e635;replace eL := cB HB eL;have eO := am eN;have eP := am eM;clear eN eM;replace eG := eq_true eG;replace eH := eq_true eH;go_wp2
           go_roundg k3
           case measure => have := bT.out; have := dY.out; have := eB.out; omega
           case rel => exact ⟨(wrap64 (eA + 1)), X6, H', ⟨by have := bT.out; have := dY.out; have := eB.out; omega⟩, ⟨X94⟩, ⟨X95⟩⟩
         ·exact iN eD H
        ·rw [if_neg eC] at H;have c22b0 := dF eC;clear eC;by_cases eQ : bX ≥ 0
         ·rw [if_pos eQ] at H;have c27b0 : decide (0 ≤ bX) = true := decide_eq_true eQ;clear eQ;replace H := Option.bind_eq_some_iff.mp H;obtain ⟨eR, eS, H⟩ := H;replace H : (some (decide (eR ≥ 0))) = some r := H;have eU := am eS;clear eS;obtain rfl := Option.some.inj H;have Z29 := bc8 bN;go_wp2_with (first | (go_at_call 62; (with_reducible refine (ancepsref22_left.calls k3 aQ aT aU _ _ aY bX eR _ ?side1 ?side2 eU.out).mono ?_); (case side1 => exact X96); (case side2 => exact bK.out); rintro e w30 ⟨rfl, hb⟩; replace bN := kB bN hb; replace HB := bS X95 hb; (try clear hb); (try clear dU); (try clear hk); (try clear hi)))
          go_ret
          exact ⟨X54, X95⟩
         ·rw [if_neg eQ] at H;have c27b0 : decide (0 ≤ bX) = false := decide_eq_false eQ;clear eQ;obtain rfl := Option.some.inj H;have Z31 := bc8 bN;go_wp2
          go_ret
          exact ⟨X54, X95⟩

end Go.Proofs.YtmffocankommaaaDoor.P
