/- Printed walks: what each function of the program computes. Condition: the Lean function gives a value. -/
import Derived.Test.YtmffocankommaaaDoorAYZed
import Derived.Test.YtmffocankommaaaDoorAx3
import Derived.Test.YtmffocankommaaaDoorAx10
import Derived.Test.YtmffocankommaaaDoorAx13
import Derived.Test.YtmffocankommaaaDoorAx14
namespace Go.Proofs.YtmffocankommaaaDoor.U
open Go.RowKit Go.Proofs.YtmffocankommaaaDoorW.PrintWords Go.Proofs.YtmffocankommaaaDoorW.PrintLast Go.Proofs.YtmffocankommaaaDoorW.PrintMore Go.Proofs.YtmffocankommaaaDoorY Go.Proofs.YtmffocankommaaaDoorS
attribute [local go_sem] q1T q2i q2l q2u q2v q2d q2c q2j q2k
set_option linter.unusedVariables false
set_option maxHeartbeats 8000000
set_option maxRecDepth 100000
set_option linter.unusedSimpArgs false
def q2B.f (k : Nat) (aA : Int) (aC : ByteArray) (aD : Int) (aE : List (S25)) : Option (ByteArray × Int) := (q1Z.f k aA aC aD aE).bind fun aG => (if aG = 0 then ((q1U.f k aA aC aD aE).bind fun aH => ((q3g.f aH (⟨#[32]⟩ : ByteArray)).bind fun aI => (some (aI, 0)))) else (none))
theorem q2B.mono : ∀ a0 a1 a2 a3 k, LeO (q2B.f k a0 a1 a2 a3) (q2B.f (k + 1) a0 a1 a2 a3) := by
 intro a0 a1 a2 a3 k;unfold q2B.f;exact (by repeat' first | (with_reducible apply q1Z.mono) | (with_reducible apply q1U.mono) | (with_reducible exact LeO.refl _) | (with_reducible exact LeO.none _) | (with_reducible refine LeO.ite ?_ ?_) | (with_reducible refine LeO.bind ?_ (fun _ => ?_)) | apply q1Z.mono | apply q1U.mono | exact LeO.none _ | refine LeO.ite ?_ ?_ | refine LeO.bind ?_ (fun _ => ?_))
theorem q2B.calls (k : Nat) (aA : Int) (aC : ByteArray) (aD : Int) (aE : Option Addr) (aG : Nat) (aH : List (S25)) (r1 : ByteArray) (r2 : Int) (w : World) (aI : Kd.C k25 w aE aH.length aH) (aJ : aH.length ≤ aG) (h : q2B.f k aA aC aD aH = some (r1, r2)) :
  Calls Tryd.prog 32 #[.agg #[.int .i64 aA, .string aC, .int .i64 aD, .slice aE aH.length aG]] w fun e w' => e = .returned (.tuple #[.string r1, .int .i64 r2]) ∧ Below w.heap.size w w' := by
 have hu25 := Tryd.underlying25;have aK := am aI;have aM := am aJ;clear aI aJ;have HB := am (Below.refl w.heap.size w);have H := h;clear h;unfold q2B.f at H;obtain ⟨aQ, aT, H⟩ := oB H;(try dsimp only at H);have A2 := am aT;clear aT;by_cases c3 : aQ = 0
 ·rw [if_pos c3] at H;have c3b0 := eT c3;have c3b1 := eF c3;clear c3;obtain ⟨aU, aW, H⟩ := oB H;(try dsimp only at H);have A4 := am aW;clear aW;obtain ⟨aX, aY, H⟩ := oB H;(try dsimp only at H);have A5 := am aY;clear aY;simp only [Option.some.injEq, Prod.mk.injEq] at H;obtain ⟨rfl, rfl⟩ := H;go_enter Tryd.func32, Tryd.ntmps32;go_wp2_with (first | ((with_reducible refine gd 1 ?_); refine be 1 #[.int .i64 aA, .string aC, .int .i64 aD, .slice aE aH.length aG] 25 ?_; intro gb631 hg w6 hbox hb; have aZ := am (hbox); have GW631 := sG (w := w) hg X13; have bA := sG (w := w) hg X13; replace HB := bS X13 hb; clear hb hbox hg; have Z7 := bc4 aZ) | ((with_reducible refine gc 35 ?_); refine gL (some 6) Tryd.func35 #[.agg #[.int .i64 aA, .string aC, .int .i64 aD, .slice aE aH.length aG]] ?_; (with_reducible refine (q1Z.calls k aA aC aD _ _ aH aQ _ ?side1 ?side2 A2.out).mono ?_); (case side1 => exact X70); (case side2 => exact aM.out); rintro e w8 ⟨rfl, hb⟩; refine ⟨_, rfl, ?_⟩; replace aZ := kB aZ hb; replace HB := bS X71 hb; clear hb; have Z9 := bc4 aZ) | ((with_reducible refine gc 55 ?_); refine gL (some 11) Tryd.func55 #[.agg #[.int .i64 aA, .string aC, .int .i64 aD, .slice aE aH.length aG]] ?_; (with_reducible refine (q1U.calls k aA aC aD _ _ aH aU _ ?side1 ?side2 A4.out).mono ?_); (case side1 => exact X70); (case side2 => exact aM.out); rintro e w10 ⟨v634, rfl, bB, hb⟩; refine ⟨_, rfl, ?_⟩; have bC := am (Kd.R_lower bB (q1l X71)); replace aZ := kB aZ hb; replace HB := bS X71 hb; clear hb; (try clear bB); obtain ⟨bD, bE, bF⟩ := Kd.R_slice bC.out; subst bF) | ((with_reducible refine gc 54 ?_); refine gL (some 12) Tryd.func54 #[.slice bD aU.length bE, .string ⟨#[32]⟩] ?_; (with_reducible refine (q3g.calls _ _ aU (⟨#[32]⟩ : ByteArray) aX _ ?side1 ?side2 A5.out).mono ?_); (case side1 => repeat (first | exact (Kd.R_reads' bC.out).2.2 | (with_reducible refine Kd.C_alloc ?_ _) | (with_reducible refine Kd.C_drewN ?_ _) | (with_reducible refine Kd.C_drew ?_))); (case side2 => exact (Kd.R_reads' bC.out).2.1); rintro e w12 ⟨rfl, hb⟩; refine ⟨_, rfl, ?_⟩; replace bC := am (Kd.R_below (aR bC.out) hb); replace aZ := kB aZ hb; replace HB := bS X71 hb; clear hb))
  go_ret2
  exact ⟨X14, X71⟩
 ·exact iN c3 H

def q1K.f (k : Nat)  : Option (Bool) := (q2C.f k (⟨#[109, 101, 116, 114, 101, 32, 104, 32, 123, 32, 102, 111, 111, 116, 32, 100, 32, 61, 32, 45, 32, 117, 32, 117, 59, 32, 108, 105, 110, 101, 32, 61, 32, 40, 100, 32, 47, 32, 45, 32, 45, 41, 94, 50, 32, 58, 32, 45, 32, 120, 59, 32, 115, 111, 109, 101, 32, 109, 59, 32, 125]⟩ : ByteArray)).bind fun aA => (if aA.2.2.2.2.2.2.2.2.2 = 0 then (if aA.2.2.2.2.2.2.2.2.1 = 0 then (if (aA.2.1.length : Int) = 1 then (if aA.2.2.2.2.1 = 5 then (if (aA.2.2.2.2.2.2.2.1.length : Int) = 4 then (if 0 < (aA.2.2.2.2.2.2.2.1.length : Int) then (if ((q0v aA.2.2.2.2.2.2.2.1 0).f0) = 7 then (if ((q0v aA.2.2.2.2.2.2.2.1 0).f2) = 2 then ((q2B.f k aA.2.2.2.2.1 aA.2.2.2.2.2.1 aA.2.2.2.2.2.2.1 aA.2.2.2.2.2.2.2.1).bind fun aC => ((q1H.f k (⟨#[40, 117, 32, 117, 41, 32, 45]⟩ : ByteArray)).bind fun aD => ((q1H.f k (⟨#[117, 94, 50, 94, 51]⟩ : ByteArray)).bind fun aE => ((q2B.f k aE.1 aE.2.1 aE.2.2.1 aE.2.2.2.1).bind fun aG => (if aC.2 = 0 then (if aC.1.toList = ([40, 32, 100, 32, 47, 32, 45, 32, 45, 32, 41, 32, 94, 32, 50, 32, 58, 32, 45, 32, 120] : List UInt8) then (if aD.2.2.2.2 = 0 then (if aD.1 = 5 then (if (aD.2.2.2.1.length : Int) = 3 then (if aE.2.2.2.2 = 0 then (if aG.2 = 0 then (some (aG.1.toList == ([40, 32, 117, 32, 94, 32, 50, 32, 41, 32, 94, 32, 51] : List UInt8))) else (none)) else (none)) else (none)) else (none)) else (none)) else (none)) else (none)))))) else (none)) else (none)) else (none)) else (none)) else (none)) else (none)) else (none)) else (none))
theorem q1K.mono : ∀ k, LeO (q1K.f k ) (q1K.f (k + 1) ) := by
 intro  k;unfold q1K.f;exact (by repeat' first | (with_reducible apply q2B.mono) | (with_reducible exact q2C.mono _ _) | (with_reducible exact q1H.mono _ _) | (with_reducible exact LeO.refl _) | (with_reducible exact LeO.none _) | (with_reducible refine LeO.ite ?_ ?_) | (with_reducible refine LeO.bind ?_ (fun _ => ?_)) | apply q2B.mono | exact q2C.mono _ _ | exact q1H.mono _ _ | exact LeO.none _ | refine LeO.ite ?_ ?_ | refine LeO.bind ?_ (fun _ => ?_))
theorem q1K.calls (k : Nat)  (r : Bool) (w : World) (h : q1K.f k  = some r) :
  Calls Tryd.prog 9 #[] w fun e w' => e = .returned (.bool r) ∧ Below w.heap.size w w' := by
 have hu44 := Tryd.underlying44;have hu25 := Tryd.underlying25;have HB := am (Below.refl w.heap.size w);have H := h;clear h;unfold q1K.f at H;obtain ⟨⟨aA, aC, aD, aE, aG, aH, aI, aJ, aK, aM⟩, aQ, H⟩ := oB H;(try dsimp only at H);have A1 := am aQ;clear aQ;by_cases c2 : aM = 0
 ·rw [if_pos c2] at H;have c2b0 := eT c2;have c2b1 := eF c2;clear c2;by_cases c3 : aK = 0
  ·rw [if_pos c3] at H;have c3b0 := eT c3;have c3b1 := eF c3;clear c3;by_cases c4 : (aC.length : Int) = 1
   ·rw [if_pos c4] at H;have c4b0 := eT c4;have c4b1 := eF c4;clear c4;by_cases c5 : aG = 5
    ·rw [if_pos c5] at H;have c5b0 := eT c5;have c5b1 := eF c5;clear c5;by_cases c6 : (aJ.length : Int) = 4
     ·rw [if_pos c6] at H;have c6b0 := eT c6;have c6b1 := eF c6;clear c6;by_cases c7 : 0 < (aJ.length : Int)
      ·rw [if_pos c7] at H;have c7b0 := dT c7;have c7b1 : decide (0 < aJ.length) = true := decide_eq_true (by omega);clear c7;by_cases c8 : ((q0v aJ 0).f0) = 7
       ·rw [if_pos c8] at H;have c8b0 := eT c8;have c8b1 := eF c8;clear c8;by_cases c9 : ((q0v aJ 0).f2) = 2
        ·rw [if_pos c9] at H;have c9b0 := eT c9;have c9b1 := eF c9;clear c9;obtain ⟨⟨aT, aU⟩, aW, H⟩ := oB H;(try dsimp only at H);have aQ := am aW;clear aW;obtain ⟨⟨aX, aY, aZ, bA, bB⟩, bC, H⟩ := oB H;(try dsimp only at H);have bD := am bC;clear bC;obtain ⟨⟨bE, bF, bG, bH, bI⟩, bJ, H⟩ := oB H;(try dsimp only at H);have bK := am bJ;clear bJ;obtain ⟨⟨bL, bM⟩, bN, H⟩ := oB H;(try dsimp only at H);have bO := am bN;clear bN;by_cases bP : aU = 0
         ·rw [if_pos bP] at H;have c14b0 := eT bP;have c14b1 := eF bP;clear bP;by_cases bQ : aT.toList = ([40, 32, 100, 32, 47, 32, 45, 32, 45, 32, 41, 32, 94, 32, 50, 32, 58, 32, 45, 32, 120] : List UInt8)
          ·rw [if_pos bQ] at H;have c15b0 := eT bQ;have c15b1 := eF bQ;clear bQ;by_cases bR : bB = 0
           ·rw [if_pos bR] at H;have c16b0 := eT bR;have c16b1 := eF bR;clear bR;by_cases bT : aX = 5
            ·rw [if_pos bT] at H;have c17b0 := eT bT;have c17b1 := eF bT;clear bT;by_cases bU : (bA.length : Int) = 3
             ·rw [if_pos bU] at H;have c18b0 := eT bU;have c18b1 := eF bU;clear bU;by_cases bV : bI = 0
              ·rw [if_pos bV] at H;have c19b0 := eT bV;have c19b1 := eF bV;clear bV;by_cases bW : bM = 0
               ·rw [if_pos bW] at H;have c20b0 := eT bW;have c20b1 := eF bW;clear bW;obtain rfl := Option.some.inj H;go_enter Tryd.func9, Tryd.ntmps9;go_wp2_with (first | ((with_reducible refine gc 15 ?_); refine gL (some 13) Tryd.func15 #[.string ⟨#[109, 101, 116, 114, 101, 32, 104, 32, 123, 32, 102, 111, 111, 116, 32, 100, 32, 61, 32, 45, 32, 117, 32, 117, 59, 32, 108, 105, 110, 101, 32, 61, 32, 40, 100, 32, 47, 32, 45, 32, 45, 41, 94, 50, 32, 58, 32, 45, 32, 120, 59, 32, 115, 111, 109, 101, 32, 109, 59, 32, 125]⟩] ?_; (with_reducible refine (q2C.calls k (⟨#[109, 101, 116, 114, 101, 32, 104, 32, 123, 32, 102, 111, 111, 116, 32, 100, 32, 61, 32, 45, 32, 117, 32, 117, 59, 32, 108, 105, 110, 101, 32, 61, 32, 40, 100, 32, 47, 32, 45, 32, 45, 41, 94, 50, 32, 58, 32, 45, 32, 120, 59, 32, 115, 111, 109, 101, 32, 109, 59, 32, 125]⟩ : ByteArray) aA aC aD aE aG aH aI aJ aK aM _ A1.out).mono ?_); rintro e w21 ⟨bX, bY, bZ, v651, rfl, cA, cC, cD, cE, hb⟩; refine ⟨_, rfl, ?_⟩; have cF := am (Kd.N_lower (Kd.N_mono (ok' := fun k_ => some k_ ≠ (bY : Value).ownBlock ∧ some k_ ≠ (bZ : Value).ownBlock) cA (fun k_ hk_ => ⟨hk_.2.1, hk_.2.2⟩)) (q1l X13)); have cG := am (Kd.R_lower (Kd.R_mono (ok' := fun k_ => True) cC (fun _ hk_ => trivial)) (q1l X13)); have cH := am (Kd.N_lower (Kd.N_mono (ok' := fun k_ => some k_ ≠ (bX : Value).ownBlock ∧ some k_ ≠ (bY : Value).ownBlock) cD (fun k_ hk_ => ⟨hk_.2.1, hk_.2.2⟩)) (q1l X13)); have cI := am (Kd.V_lower (Kd.V_mono (ok' := fun k_ => some k_ ≠ (bX : Value).ownBlock ∧ some k_ ≠ (bY : Value).ownBlock ∧ some k_ ≠ (bZ : Value).ownBlock) cE (fun k_ hk_ => ⟨hk_.2.1, hk_.2.2.1, hk_.2.2.2⟩)) (q1l X13)); replace HB := bS X13 hb; clear hb; (try clear cA); (try clear cC); (try clear cD); (try clear cE)) | ((with_reducible refine gd 1 ?_); (try (refine q1c (by rfl) ?_; dsimp only)); refine be 1 #[.string ⟨#[]⟩, .slice none 0 0, .slice none 0 0, .slice none 0 0, .int .i64 0, .string ⟨#[]⟩, .int .i64 0, .slice none 0 0] 44 ?_; intro cJ hg cK hbox hb; replace cF := am (Kd.N_below (Kd.N_elderB (aN cF.out) cJ (Nat.le_of_eq hg.symm)) hb); replace cG := am (Kd.R_below (aR cG.out) hb); replace cH := am (Kd.N_below (Kd.N_elderB (aN cH.out) cJ (Nat.le_of_eq hg.symm)) hb); replace cI := am (Kd.V_below (Kd.V_elderB (aV cI.out) cJ (Nat.le_of_eq hg.symm)) hb); have cL := am (hbox); have GW655 := sG (w := w) hg X13; have cM := sG (w := w) hg X13; replace HB := bS X13 hb; clear hb hbox hg; have Z23 := bc8 cL; obtain ⟨cN, cO, cP⟩ := Kd.N_slice cF.out; subst cP; obtain ⟨cQ, cR, cS⟩ := Kd.R_slice cG.out; subst cS; obtain ⟨cT, cU, cV⟩ := Kd.N_slice cH.out; subst cV; obtain ⟨cW, cX, cY⟩ := Kd.V_slice cI.out; subst cY) | ((with_reducible refine q4L (t := 44) (p := 1) rfl ?_); refine q4v (t := 44) (p := 1) (v := ?vo_w28) (w1 := ((((((((cK.setCell ⟨cJ, 0, none⟩ (.string aA)).setCell ⟨cJ, 1, none⟩ (.slice cN aC.length cO)).setCell ⟨cJ, 2, none⟩ (.slice cQ aD.length cR)).setCell ⟨cJ, 3, none⟩ (.slice cT aE.length cU)).setCell ⟨cJ, 4, none⟩ (.int .i64 aG)).setCell ⟨cJ, 5, none⟩ (.string aH)).setCell ⟨cJ, 6, none⟩ (.int .i64 aI)).setCell ⟨cJ, 7, none⟩ (.slice cW aJ.length cX))) ?hg ?ho ?hn ?hr ?_; (case ho => rfl); (case hg => rfl); (case hn => rfl); (case hr => exact X32); intro cZ hw; replace cF : q0h (Kd.N k86 86 cZ w.heap.size (fun k_ => some k_ ≠ (.slice cQ aD.length cR : Value).ownBlock ∧ some k_ ≠ (.slice cT aE.length cU : Value).ownBlock ∧ k_ ≠ cJ) (.slice cN aC.length cO) aC) := ⟨(by rw [hw]; exact (aN (Kd.N_mono (Kd.N_far (p := ⟨cJ, 7, none⟩) (Kd.N_far (p := ⟨cJ, 6, none⟩) (Kd.N_far (p := ⟨cJ, 5, none⟩) (Kd.N_far (p := ⟨cJ, 4, none⟩) (Kd.N_far (p := ⟨cJ, 3, none⟩) (Kd.N_far (p := ⟨cJ, 2, none⟩) (Kd.N_far (p := ⟨cJ, 1, none⟩) (Kd.N_far (p := ⟨cJ, 0, none⟩) (Kd.N_mono cF.out (fun k_ hk => (⟨hk, hk.2⟩ : _ ∧ k_ ≠ cJ))) (fun _ hk => hk.2) (.string aA)) (fun _ hk => hk.2) (.slice cN aC.length cO)) (fun _ hk => hk.2) (.slice cQ aD.length cR)) (fun _ hk => hk.2) (.slice cT aE.length cU)) (fun _ hk => hk.2) (.int .i64 aG)) (fun _ hk => hk.2) (.string aH)) (fun _ hk => hk.2) (.int .i64 aI)) (fun _ hk => hk.2) (.slice cW aJ.length cX)) (fun _ hk => ⟨hk.1.1.1, ⟨hk.1.1.2, hk.1.2⟩⟩))))⟩; replace cG : q0h (Kd.R k88 88 cZ w.heap.size (fun _ => True) (.slice cQ aD.length cR) aD) := ⟨(by rw [hw]; exact (aR (Kd.R_mono (Kd.R_far (p := ⟨cJ, 7, none⟩) (Kd.R_far (p := ⟨cJ, 6, none⟩) (Kd.R_far (p := ⟨cJ, 5, none⟩) (Kd.R_far (p := ⟨cJ, 4, none⟩) (Kd.R_far (p := ⟨cJ, 3, none⟩) (Kd.R_far (p := ⟨cJ, 2, none⟩) (Kd.R_far (p := ⟨cJ, 1, none⟩) (Kd.R_far (p := ⟨cJ, 0, none⟩) (Kd.R_types cG.out cL.out (by decide)) (fun _ hk => hk.2) (.string aA)) (fun _ hk => hk.2) (.slice cN aC.length cO)) (fun _ hk => hk.2) (.slice cQ aD.length cR)) (fun _ hk => hk.2) (.slice cT aE.length cU)) (fun _ hk => hk.2) (.int .i64 aG)) (fun _ hk => hk.2) (.string aH)) (fun _ hk => hk.2) (.int .i64 aI)) (fun _ hk => hk.2) (.slice cW aJ.length cX)) (fun _ hk => trivial))))⟩; replace cH : q0h (Kd.N (Kd.slice 9 Kd.string) 39 cZ w.heap.size (fun k_ => some k_ ≠ (.slice cN aC.length cO : Value).ownBlock ∧ some k_ ≠ (.slice cQ aD.length cR : Value).ownBlock ∧ k_ ≠ cJ) (.slice cT aE.length cU) aE) := ⟨(by rw [hw]; exact (aN (Kd.N_mono (Kd.N_far (p := ⟨cJ, 7, none⟩) (Kd.N_far (p := ⟨cJ, 6, none⟩) (Kd.N_far (p := ⟨cJ, 5, none⟩) (Kd.N_far (p := ⟨cJ, 4, none⟩) (Kd.N_far (p := ⟨cJ, 3, none⟩) (Kd.N_far (p := ⟨cJ, 2, none⟩) (Kd.N_far (p := ⟨cJ, 1, none⟩) (Kd.N_far (p := ⟨cJ, 0, none⟩) (Kd.N_mono cH.out (fun k_ hk => (⟨hk, hk.2⟩ : _ ∧ k_ ≠ cJ))) (fun _ hk => hk.2) (.string aA)) (fun _ hk => hk.2) (.slice cN aC.length cO)) (fun _ hk => hk.2) (.slice cQ aD.length cR)) (fun _ hk => hk.2) (.slice cT aE.length cU)) (fun _ hk => hk.2) (.int .i64 aG)) (fun _ hk => hk.2) (.string aH)) (fun _ hk => hk.2) (.int .i64 aI)) (fun _ hk => hk.2) (.slice cW aJ.length cX)) (fun _ hk => ⟨hk.1.1.1, ⟨hk.1.1.2, hk.1.2⟩⟩))))⟩; replace cI : q0h (Kd.V k25 25 cZ w.heap.size (fun k_ => some k_ ≠ (.slice cN aC.length cO : Value).ownBlock ∧ some k_ ≠ (.slice cQ aD.length cR : Value).ownBlock ∧ some k_ ≠ (.slice cT aE.length cU : Value).ownBlock ∧ k_ ≠ cJ) (.slice cW aJ.length cX) aJ) := ⟨(by rw [hw]; exact (aV (Kd.V_mono (Kd.V_far (p := ⟨cJ, 7, none⟩) (Kd.V_far (p := ⟨cJ, 6, none⟩) (Kd.V_far (p := ⟨cJ, 5, none⟩) (Kd.V_far (p := ⟨cJ, 4, none⟩) (Kd.V_far (p := ⟨cJ, 3, none⟩) (Kd.V_far (p := ⟨cJ, 2, none⟩) (Kd.V_far (p := ⟨cJ, 1, none⟩) (Kd.V_far (p := ⟨cJ, 0, none⟩) (Kd.V_mono cI.out (fun k_ hk => (⟨hk, hk.2⟩ : _ ∧ k_ ≠ cJ))) (fun _ hk => hk.2) (.string aA)) (fun _ hk => hk.2) (.slice cN aC.length cO)) (fun _ hk => hk.2) (.slice cQ aD.length cR)) (fun _ hk => hk.2) (.slice cT aE.length cU)) (fun _ hk => hk.2) (.int .i64 aG)) (fun _ hk => hk.2) (.string aH)) (fun _ hk => hk.2) (.int .i64 aI)) (fun _ hk => hk.2) (.slice cW aJ.length cX)) (fun _ hk => ⟨hk.1.1.1, ⟨hk.1.1.2.1, ⟨hk.1.1.2.2, hk.1.2⟩⟩⟩))))⟩; replace cL : q0h (cZ.heap[cJ]? = some (.cells #[.string aA, .slice cN aC.length cO, .slice cQ aD.length cR, .slice cT aE.length cU, .int .i64 aG, .string aH, .int .i64 aI, .slice cW aJ.length cX] 44 (0, 0))) := ⟨(by rw [hw]; exact (bq0 cL))⟩; replace HB : q0h (Below w.heap.size w cZ) := ⟨(by rw [hw]; exact X72)⟩; clear hw; have Z29 := bc8 cL; have dA : 0 ≤ (0 : Int) := (by omega); have dB : 0 < (aJ.length : Int) := of_decide_eq_true X8; obtain ⟨dC, A656_3, c656_3, e656, dD, dE, dG, dH, dI, dJ⟩ := q2M (Kd.V_reads' cI.out).2.2 0 dA dB; cases e656; obtain ⟨ce656, dK, dL, dM⟩ := Kd.V_get cI.out z25 0 dA (by first | exact dB | exact of_decide_eq_true X8 | (have e_ := (Kd.V_reads' cI.out).1; omega)); obtain ⟨ua656_3, uc656_3, rfl, dN, dO⟩ := q3z dL; have dP := dM 3 _ rfl; rw [q2W _ _ 3 (by omega)] at dP; replace dP := Option.some.inj (dP.symm.trans dH); injection dP with hva_ hvn_ hvc_; rw [hva_] at dO; rw [hvc_] at dN; have dQ := am (show Kd.V k25 25 _ w.heap.size _ _ ((q0v aJ 0).f3) from Kd.V_mk dN dO); clear hva_ hvn_ hvc_ dO dN; clear dM dK; have qi656 : (0 < aJ.length) = True := eq_true (by omega); (try rw [show ((0 : Int)).toNat = 0 from rfl] at dD); (try rw [show 0 * 4 = 0 from rfl] at dD); (try rw [Addr.add_zero'] at dD); (try rw [show ((0 : Int)).toNat = 0 from rfl] at dE); (try rw [show 0 * 4 = 0 from rfl] at dE); (try rw [Addr.add_zero'] at dE); (try rw [show ((0 : Int)).toNat = 0 from rfl] at dG); (try rw [show 0 * 4 = 0 from rfl] at dG); (try rw [Addr.add_zero'] at dG); (try rw [show ((0 : Int)).toNat = 0 from rfl] at dH); (try rw [show 0 * 4 = 0 from rfl] at dH); (try rw [Addr.add_zero'] at dH); have dR := am dJ; have HC656_3 := am dI; clear dJ dI; replace dA := eq_true dA; replace dB := eq_true dB; have dS : 0 ≤ (0 : Int) := (by omega); have dU : 0 < (aJ.length : Int) := of_decide_eq_true X8; obtain ⟨dV, A657_3, c657_3, e657, dW, dX, dY, dZ, eA, eB⟩ := q2M (Kd.V_reads' cI.out).2.2 0 dS dU; obtain rfl : dC = dV := (by injection e657); obtain ⟨ce657, eC, eD, eE⟩ := Kd.V_get cI.out z25 0 dS (by first | exact dU | exact of_decide_eq_true X8 | (have e_ := (Kd.V_reads' cI.out).1; omega)); obtain ⟨ua657_3, uc657_3, rfl, eG, eH⟩ := q3z eD; have eI := eE 3 _ rfl; rw [q2W _ _ 3 (by omega)] at eI; replace eI := Option.some.inj (eI.symm.trans dZ); injection eI with hva_ hvn_ hvc_; rw [hva_] at eH; rw [hvc_] at eG; have eJ := am (show Kd.V k25 25 _ w.heap.size _ _ ((q0v aJ 0).f3) from Kd.V_mk eG eH); clear hva_ hvn_ hvc_ eH eG; clear eE eC; have qi657 : (0 < aJ.length) = True := eq_true (by omega); (try rw [show ((0 : Int)).toNat = 0 from rfl] at dW); (try rw [show 0 * 4 = 0 from rfl] at dW); (try rw [Addr.add_zero'] at dW); (try rw [show ((0 : Int)).toNat = 0 from rfl] at dX); (try rw [show 0 * 4 = 0 from rfl] at dX); (try rw [Addr.add_zero'] at dX); (try rw [show ((0 : Int)).toNat = 0 from rfl] at dY); (try rw [show 0 * 4 = 0 from rfl] at dY); (try rw [Addr.add_zero'] at dY); (try rw [show ((0 : Int)).toNat = 0 from rfl] at dZ); (try rw [show 0 * 4 = 0 from rfl] at dZ); (try rw [Addr.add_zero'] at dZ); have eK := am eB; have HC657_3 := am eA; clear eB eA; replace dS := eq_true dS; replace dU := eq_true dU; have ea_ := Option.some.inj (dH.symm.trans dZ); injection ea_ with ea_ en_ ec_; subst ea_; subst ec_; clear en_) | ((with_reducible refine gc 32 ?_); refine gL (some 63) Tryd.func32 #[.agg #[.int .i64 aG, .string aH, .int .i64 aI, .slice (some dC) aJ.length cX]] ?_; (with_reducible refine (q2B.calls k aG aH aI _ _ aJ aT aU _ ?side1 ?side2 aQ.out).mono ?_); (case side1 => repeat (first | exact (Kd.V_reads' cI.out).2.2 | (with_reducible refine Kd.C_alloc ?_ _) | (with_reducible refine Kd.C_drewN ?_ _) | (with_reducible refine Kd.C_drew ?_))); (case side2 => exact (Kd.V_reads' cI.out).2.1); rintro e w30 ⟨rfl, hb⟩; refine ⟨_, rfl, ?_⟩; replace cF := am (Kd.N_below (aN cF.out) hb); replace cG := am (Kd.R_below (aR cG.out) hb); replace cH := am (Kd.N_below (aN cH.out) hb); replace cI := am (Kd.V_below (aV cI.out) hb); replace dQ := am (Kd.V_below (aV dQ.out) hb); replace eJ := am (Kd.V_below (aV eJ.out) hb); replace cL := kB cL hb; replace dR := am (Kd.C_below X73 hb); replace eK := am (Kd.C_below X74 hb); replace HB := bS X72 hb; clear hb) | ((with_reducible refine gc 10 ?_); refine gL (some 67) Tryd.func10 #[.string ⟨#[40, 117, 32, 117, 41, 32, 45]⟩] ?_; (with_reducible refine (q1H.calls k (⟨#[40, 117, 32, 117, 41, 32, 45]⟩ : ByteArray) aX aY aZ bA bB _ bD.out).mono ?_); rintro e w31 ⟨v664, rfl, cA, hb⟩; refine ⟨_, rfl, ?_⟩; replace cI := am (Kd.V_below (aV cI.out) hb); replace dQ := am (Kd.V_below (aV dQ.out) hb); replace eJ := am (Kd.V_below (aV eJ.out) hb); have eL := am (Kd.V_lower (Kd.V_mono (ok' := fun k_ => some k_ ≠ (.slice cN aC.length cO : Value).ownBlock ∧ some k_ ≠ (.slice cQ aD.length cR : Value).ownBlock ∧ some k_ ≠ (.slice cT aE.length cU : Value).ownBlock ∧ k_ ≠ cJ) cA (fun k_ hk_ => ⟨(Kd.fresh' (Kd.N_lt (aN cF.out)) k_ hk_), (Kd.fresh' (Kd.R_lt (aR cG.out)) k_ hk_), (Kd.fresh' (Kd.N_lt (aN cH.out)) k_ hk_), (Kd.freshB (g := cJ) (o := .cells #[.string aA, .slice cN aC.length cO, .slice cQ aD.length cR, .slice cT aE.length cU, .int .i64 aG, .string aH, .int .i64 aI, .slice (some dC) aJ.length cX] 44 (0, 0)) (by (with_reducible repeat (first | refine q0w ?_ _ | refine q0u ?_ | refine q0q ?_ _)); exact cL.out) k_ hk_)⟩)) (q1l X72)); replace cF := am (Kd.N_below (aN cF.out) hb); replace cG := am (Kd.R_below (aR cG.out) hb); replace cH := am (Kd.N_below (aN cH.out) hb); replace cL := kB cL hb; replace dR := am (Kd.C_below X73 hb); replace eK := am (Kd.C_below X74 hb); replace HB := bS X72 hb; clear hb; (try clear cA)) | ((with_reducible refine gd 6 ?_); (try (refine q1c (by rfl) ?_; dsimp only)); refine be 6 #[.int .i64 0, .string ⟨#[]⟩, .int .i64 0, .slice none 0 0] 25 ?_; intro eM hg w32 hbox hb; replace cF := am (Kd.N_below (Kd.N_elderB (aN cF.out) eM (Nat.le_of_eq hg.symm)) hb); replace cG := am (Kd.R_below (aR cG.out) hb); replace cH := am (Kd.N_below (Kd.N_elderB (aN cH.out) eM (Nat.le_of_eq hg.symm)) hb); replace cI := am (Kd.V_below (Kd.V_elderB (aV cI.out) eM (Nat.le_of_eq hg.symm)) hb); replace dQ := am (Kd.V_below (Kd.V_elderB (aV dQ.out) eM (Nat.le_of_eq hg.symm)) hb); replace eJ := am (Kd.V_below (Kd.V_elderB (aV eJ.out) eM (Nat.le_of_eq hg.symm)) hb); replace eL := am (Kd.V_below (Kd.V_elderB (aV eL.out) eM (Nat.le_of_eq hg.symm)) hb); replace dR := am (Kd.C_below X73 hb); replace eK := am (Kd.C_below X74 hb); have eN := am (hbox); have GW667 := sG (w := w) hg X72; have eO := sG (w := w) hg X72; replace HB := bS X72 hb; have eP := nLT hg cL; have eQ := nGT hg cL; replace cL := kB cL hb; clear hb hbox hg; have hnb33 := eQ.out; have hnc33 := eP.out; have Z34 := bc4 eN; obtain ⟨eR, eS, eU⟩ := Kd.V_slice eL.out; subst eU) | ((with_reducible refine gc 10 ?_); refine gL (some 71) Tryd.func10 #[.string ⟨#[117, 94, 50, 94, 51]⟩] ?_; (with_reducible refine (q1H.calls k (⟨#[117, 94, 50, 94, 51]⟩ : ByteArray) bE bF bG bH bI _ bK.out).mono ?_); rintro e w36 ⟨v672, rfl, cA, hb⟩; refine ⟨_, rfl, ?_⟩; replace cI := am (Kd.V_below (aV (Kd.V_mono (Kd.V_far (p := ⟨eM, 3, none⟩) (Kd.V_far (p := ⟨eM, 2, none⟩) (Kd.V_far (p := ⟨eM, 1, none⟩) (Kd.V_far (p := ⟨eM, 0, none⟩) (Kd.V_mono cI.out (fun k_ hk => (⟨hk, hk.2⟩ : _ ∧ k_ ≠ eM))) (fun _ hk => hk.2) (.int .i64 aX)) (fun _ hk => hk.2) (.string aY)) (fun _ hk => hk.2) (.int .i64 aZ)) (fun _ hk => hk.2) (.slice eR bA.length eS)) (fun _ h_ => h_.1))) hb); replace eL := am (Kd.V_below (aV (Kd.V_mono (Kd.V_far (p := ⟨eM, 3, none⟩) (Kd.V_far (p := ⟨eM, 2, none⟩) (Kd.V_far (p := ⟨eM, 1, none⟩) (Kd.V_far (p := ⟨eM, 0, none⟩) (Kd.V_mono eL.out (fun k_ hk => (⟨hk, hk.2⟩ : _ ∧ k_ ≠ eM))) (fun _ hk => hk.2) (.int .i64 aX)) (fun _ hk => hk.2) (.string aY)) (fun _ hk => hk.2) (.int .i64 aZ)) (fun _ hk => hk.2) (.slice eR bA.length eS)) (fun _ h_ => h_.1))) hb); have eV := am (Kd.V_lower (Kd.V_mono (ok' := fun k_ => some k_ ≠ (.slice cN aC.length cO : Value).ownBlock ∧ some k_ ≠ (.slice cQ aD.length cR : Value).ownBlock ∧ some k_ ≠ (.slice cT aE.length cU : Value).ownBlock ∧ k_ ≠ cJ ∧ k_ ≠ eM) cA (fun k_ hk_ => ⟨(Kd.fresh' (Kd.N_lt (aN (Kd.N_mono (Kd.N_far (p := ⟨eM, 3, none⟩) (Kd.N_far (p := ⟨eM, 2, none⟩) (Kd.N_far (p := ⟨eM, 1, none⟩) (Kd.N_far (p := ⟨eM, 0, none⟩) (Kd.N_mono cF.out (fun k_ hk => (⟨hk, hk.2⟩ : _ ∧ k_ ≠ eM))) (fun _ hk => hk.2) (.int .i64 aX)) (fun _ hk => hk.2) (.string aY)) (fun _ hk => hk.2) (.int .i64 aZ)) (fun _ hk => hk.2) (.slice eR bA.length eS)) (fun _ h_ => h_.1)))) k_ hk_), (Kd.fresh' (Kd.R_lt (aR (Kd.R_mono (Kd.R_far (p := ⟨eM, 3, none⟩) (Kd.R_far (p := ⟨eM, 2, none⟩) (Kd.R_far (p := ⟨eM, 1, none⟩) (Kd.R_far (p := ⟨eM, 0, none⟩) (Kd.R_types cG.out eN.out (by decide)) (fun _ hk => hk.2) (.int .i64 aX)) (fun _ hk => hk.2) (.string aY)) (fun _ hk => hk.2) (.int .i64 aZ)) (fun _ hk => hk.2) (.slice eR bA.length eS)) (fun _ h_ => h_.1)))) k_ hk_), (Kd.fresh' (Kd.N_lt (aN (Kd.N_mono (Kd.N_far (p := ⟨eM, 3, none⟩) (Kd.N_far (p := ⟨eM, 2, none⟩) (Kd.N_far (p := ⟨eM, 1, none⟩) (Kd.N_far (p := ⟨eM, 0, none⟩) (Kd.N_mono cH.out (fun k_ hk => (⟨hk, hk.2⟩ : _ ∧ k_ ≠ eM))) (fun _ hk => hk.2) (.int .i64 aX)) (fun _ hk => hk.2) (.string aY)) (fun _ hk => hk.2) (.int .i64 aZ)) (fun _ hk => hk.2) (.slice eR bA.length eS)) (fun _ h_ => h_.1)))) k_ hk_), (Kd.freshB (g := cJ) (o := .cells #[.string aA, .slice cN aC.length cO, .slice cQ aD.length cR, .slice cT aE.length cU, .int .i64 aG, .string aH, .int .i64 aI, .slice (some dC) aJ.length cX] 44 (0, 0)) (bq1 cL eP) k_ hk_), (Kd.freshB (g := eM) (o := .cells #[.int .i64 aX, .string aY, .int .i64 aZ, .slice eR bA.length eS] 25 (0, 0)) (bq0 eN) k_ hk_)⟩)) (q1l X75)); replace cF := am (Kd.N_below (aN (Kd.N_mono (Kd.N_far (p := ⟨eM, 3, none⟩) (Kd.N_far (p := ⟨eM, 2, none⟩) (Kd.N_far (p := ⟨eM, 1, none⟩) (Kd.N_far (p := ⟨eM, 0, none⟩) (Kd.N_mono cF.out (fun k_ hk => (⟨hk, hk.2⟩ : _ ∧ k_ ≠ eM))) (fun _ hk => hk.2) (.int .i64 aX)) (fun _ hk => hk.2) (.string aY)) (fun _ hk => hk.2) (.int .i64 aZ)) (fun _ hk => hk.2) (.slice eR bA.length eS)) (fun _ h_ => h_.1))) hb); replace cG := am (Kd.R_below (aR (Kd.R_mono (Kd.R_far (p := ⟨eM, 3, none⟩) (Kd.R_far (p := ⟨eM, 2, none⟩) (Kd.R_far (p := ⟨eM, 1, none⟩) (Kd.R_far (p := ⟨eM, 0, none⟩) (Kd.R_types cG.out eN.out (by decide)) (fun _ hk => hk.2) (.int .i64 aX)) (fun _ hk => hk.2) (.string aY)) (fun _ hk => hk.2) (.int .i64 aZ)) (fun _ hk => hk.2) (.slice eR bA.length eS)) (fun _ h_ => h_.1))) hb); replace cH := am (Kd.N_below (aN (Kd.N_mono (Kd.N_far (p := ⟨eM, 3, none⟩) (Kd.N_far (p := ⟨eM, 2, none⟩) (Kd.N_far (p := ⟨eM, 1, none⟩) (Kd.N_far (p := ⟨eM, 0, none⟩) (Kd.N_mono cH.out (fun k_ hk => (⟨hk, hk.2⟩ : _ ∧ k_ ≠ eM))) (fun _ hk => hk.2) (.int .i64 aX)) (fun _ hk => hk.2) (.string aY)) (fun _ hk => hk.2) (.int .i64 aZ)) (fun _ hk => hk.2) (.slice eR bA.length eS)) (fun _ h_ => h_.1))) hb); replace cL := kBg1 cL eP hb; replace dR := am (Kd.C_below ((Kd.V_reads' (aV (Kd.V_mono (Kd.V_far (p := ⟨eM, 3, none⟩) (Kd.V_far (p := ⟨eM, 2, none⟩) (Kd.V_far (p := ⟨eM, 1, none⟩) (Kd.V_far (p := ⟨eM, 0, none⟩) (Kd.V_mono dQ.out (fun k_ hk => (⟨hk, hk.2⟩ : _ ∧ k_ ≠ eM))) (fun _ hk => hk.2) (.int .i64 aX)) (fun _ hk => hk.2) (.string aY)) (fun _ hk => hk.2) (.int .i64 aZ)) (fun _ hk => hk.2) (.slice eR bA.length eS)) (fun _ h_ => h_.1)))).2.2) hb); replace dQ := am (Kd.V_below (aV (Kd.V_mono (Kd.V_far (p := ⟨eM, 3, none⟩) (Kd.V_far (p := ⟨eM, 2, none⟩) (Kd.V_far (p := ⟨eM, 1, none⟩) (Kd.V_far (p := ⟨eM, 0, none⟩) (Kd.V_mono dQ.out (fun k_ hk => (⟨hk, hk.2⟩ : _ ∧ k_ ≠ eM))) (fun _ hk => hk.2) (.int .i64 aX)) (fun _ hk => hk.2) (.string aY)) (fun _ hk => hk.2) (.int .i64 aZ)) (fun _ hk => hk.2) (.slice eR bA.length eS)) (fun _ h_ => h_.1))) hb); replace eK := am (Kd.C_below ((Kd.V_reads' (aV (Kd.V_mono (Kd.V_far (p := ⟨eM, 3, none⟩) (Kd.V_far (p := ⟨eM, 2, none⟩) (Kd.V_far (p := ⟨eM, 1, none⟩) (Kd.V_far (p := ⟨eM, 0, none⟩) (Kd.V_mono eJ.out (fun k_ hk => (⟨hk, hk.2⟩ : _ ∧ k_ ≠ eM))) (fun _ hk => hk.2) (.int .i64 aX)) (fun _ hk => hk.2) (.string aY)) (fun _ hk => hk.2) (.int .i64 aZ)) (fun _ hk => hk.2) (.slice eR bA.length eS)) (fun _ h_ => h_.1)))).2.2) hb); replace eJ := am (Kd.V_below (aV (Kd.V_mono (Kd.V_far (p := ⟨eM, 3, none⟩) (Kd.V_far (p := ⟨eM, 2, none⟩) (Kd.V_far (p := ⟨eM, 1, none⟩) (Kd.V_far (p := ⟨eM, 0, none⟩) (Kd.V_mono eJ.out (fun k_ hk => (⟨hk, hk.2⟩ : _ ∧ k_ ≠ eM))) (fun _ hk => hk.2) (.int .i64 aX)) (fun _ hk => hk.2) (.string aY)) (fun _ hk => hk.2) (.int .i64 aZ)) (fun _ hk => hk.2) (.slice eR bA.length eS)) (fun _ h_ => h_.1))) hb); replace eN := kBg0 eN hb; replace HB := bS X75 hb; clear hb; (try clear cA)) | ((with_reducible refine gd 8 ?_); (try (refine q1c (by rfl) ?_; dsimp only)); refine be 8 #[.int .i64 0, .string ⟨#[]⟩, .int .i64 0, .slice none 0 0] 25 ?_; intro eW hg w37 hbox hb; replace cF := am (Kd.N_below (Kd.N_elderB (aN cF.out) eW (Nat.le_of_eq hg.symm)) hb); replace cG := am (Kd.R_below (aR cG.out) hb); replace cH := am (Kd.N_below (Kd.N_elderB (aN cH.out) eW (Nat.le_of_eq hg.symm)) hb); replace cI := am (Kd.V_below (Kd.V_elderB (aV cI.out) eW (Nat.le_of_eq hg.symm)) hb); replace dQ := am (Kd.V_below (Kd.V_elderB (aV dQ.out) eW (Nat.le_of_eq hg.symm)) hb); replace eJ := am (Kd.V_below (Kd.V_elderB (aV eJ.out) eW (Nat.le_of_eq hg.symm)) hb); replace eL := am (Kd.V_below (Kd.V_elderB (aV eL.out) eW (Nat.le_of_eq hg.symm)) hb); replace eV := am (Kd.V_below (Kd.V_elderB (aV eV.out) eW (Nat.le_of_eq hg.symm)) hb); replace dR := am (Kd.C_below X73 hb); replace eK := am (Kd.C_below X74 hb); have eX := am (hbox); have GW675 := sG (w := w) hg X75; have eY := sG (w := w) hg X75; replace HB := bS X75 hb; have eZ := nLT hg cL; have fA := nGT hg cL; replace cL := kB cL hb; have fB := nLT hg eN; have fC := nGT hg eN; replace eN := kB eN hb; clear hb hbox hg; have hnb38 := fA.out; have hnc38 := eZ.out; have hnb39 := fC.out; have hnc39 := fB.out; have Z40 := bc4 eX; obtain ⟨fD, fE, fF⟩ := Kd.V_slice eV.out; subst fF) | ((with_reducible refine gc 32 ?_); refine gL (some 76) Tryd.func32 #[.agg #[.int .i64 bE, .string bF, .int .i64 bG, .slice fD bH.length fE]] ?_; (with_reducible refine (q2B.calls k bE bF bG _ _ bH bL bM _ ?side1 ?side2 bO.out).mono ?_); (case side1 => refine (Kd.V_reads' (e := 25) (base := w.heap.size) (ok := fun k_ => ((some k_ ≠ (.slice cN aC.length cO : Value).ownBlock ∧ (some k_ ≠ (.slice cQ aD.length cR : Value).ownBlock ∧ (some k_ ≠ (.slice cT aE.length cU : Value).ownBlock ∧ (k_ ≠ cJ ∧ k_ ≠ eM)))) ∧ k_ ≠ eW)) (n := bH.length) (c := fE) ?_).2.2; exact (aV (Kd.V_mono (Kd.V_far (p := ⟨eW, 3, none⟩) (Kd.V_far (p := ⟨eW, 2, none⟩) (Kd.V_far (p := ⟨eW, 1, none⟩) (Kd.V_far (p := ⟨eW, 0, none⟩) (Kd.V_mono eV.out (fun k_ hk => (⟨hk, hk.2⟩ : _ ∧ k_ ≠ eW))) (fun _ hk => hk.2) (.int .i64 bE)) (fun _ hk => hk.2) (.string bF)) (fun _ hk => hk.2) (.int .i64 bG)) (fun _ hk => hk.2) (.slice fD bH.length fE)) (fun _ h_ => h_.1)))); (case side2 => exact (Kd.V_reads' eV.out).2.1); rintro e w42 ⟨rfl, hb⟩; refine ⟨_, rfl, ?_⟩; replace cF := am (Kd.N_below (aN (Kd.N_mono (Kd.N_far (p := ⟨eW, 3, none⟩) (Kd.N_far (p := ⟨eW, 2, none⟩) (Kd.N_far (p := ⟨eW, 1, none⟩) (Kd.N_far (p := ⟨eW, 0, none⟩) (Kd.N_mono cF.out (fun k_ hk => (⟨hk, hk.2⟩ : _ ∧ k_ ≠ eW))) (fun _ hk => hk.2) (.int .i64 bE)) (fun _ hk => hk.2) (.string bF)) (fun _ hk => hk.2) (.int .i64 bG)) (fun _ hk => hk.2) (.slice fD bH.length fE)) (fun _ h_ => h_.1))) hb); replace cG := am (Kd.R_below (aR (Kd.R_mono (Kd.R_far (p := ⟨eW, 3, none⟩) (Kd.R_far (p := ⟨eW, 2, none⟩) (Kd.R_far (p := ⟨eW, 1, none⟩) (Kd.R_far (p := ⟨eW, 0, none⟩) (Kd.R_types cG.out eX.out (by decide)) (fun _ hk => hk.2) (.int .i64 bE)) (fun _ hk => hk.2) (.string bF)) (fun _ hk => hk.2) (.int .i64 bG)) (fun _ hk => hk.2) (.slice fD bH.length fE)) (fun _ h_ => h_.1))) hb); replace cH := am (Kd.N_below (aN (Kd.N_mono (Kd.N_far (p := ⟨eW, 3, none⟩) (Kd.N_far (p := ⟨eW, 2, none⟩) (Kd.N_far (p := ⟨eW, 1, none⟩) (Kd.N_far (p := ⟨eW, 0, none⟩) (Kd.N_mono cH.out (fun k_ hk => (⟨hk, hk.2⟩ : _ ∧ k_ ≠ eW))) (fun _ hk => hk.2) (.int .i64 bE)) (fun _ hk => hk.2) (.string bF)) (fun _ hk => hk.2) (.int .i64 bG)) (fun _ hk => hk.2) (.slice fD bH.length fE)) (fun _ h_ => h_.1))) hb); replace cI := am (Kd.V_below (aV (Kd.V_mono (Kd.V_far (p := ⟨eW, 3, none⟩) (Kd.V_far (p := ⟨eW, 2, none⟩) (Kd.V_far (p := ⟨eW, 1, none⟩) (Kd.V_far (p := ⟨eW, 0, none⟩) (Kd.V_mono cI.out (fun k_ hk => (⟨hk, hk.2⟩ : _ ∧ k_ ≠ eW))) (fun _ hk => hk.2) (.int .i64 bE)) (fun _ hk => hk.2) (.string bF)) (fun _ hk => hk.2) (.int .i64 bG)) (fun _ hk => hk.2) (.slice fD bH.length fE)) (fun _ h_ => h_.1))) hb); replace eL := am (Kd.V_below (aV (Kd.V_mono (Kd.V_far (p := ⟨eW, 3, none⟩) (Kd.V_far (p := ⟨eW, 2, none⟩) (Kd.V_far (p := ⟨eW, 1, none⟩) (Kd.V_far (p := ⟨eW, 0, none⟩) (Kd.V_mono eL.out (fun k_ hk => (⟨hk, hk.2⟩ : _ ∧ k_ ≠ eW))) (fun _ hk => hk.2) (.int .i64 bE)) (fun _ hk => hk.2) (.string bF)) (fun _ hk => hk.2) (.int .i64 bG)) (fun _ hk => hk.2) (.slice fD bH.length fE)) (fun _ h_ => h_.1))) hb); replace eV := am (Kd.V_below (aV (Kd.V_mono (Kd.V_far (p := ⟨eW, 3, none⟩) (Kd.V_far (p := ⟨eW, 2, none⟩) (Kd.V_far (p := ⟨eW, 1, none⟩) (Kd.V_far (p := ⟨eW, 0, none⟩) (Kd.V_mono eV.out (fun k_ hk => (⟨hk, hk.2⟩ : _ ∧ k_ ≠ eW))) (fun _ hk => hk.2) (.int .i64 bE)) (fun _ hk => hk.2) (.string bF)) (fun _ hk => hk.2) (.int .i64 bG)) (fun _ hk => hk.2) (.slice fD bH.length fE)) (fun _ h_ => h_.1))) hb); replace cL := kBg1 cL eZ hb; replace dR := am (Kd.C_below ((Kd.V_reads' (aV (Kd.V_mono (Kd.V_far (p := ⟨eW, 3, none⟩) (Kd.V_far (p := ⟨eW, 2, none⟩) (Kd.V_far (p := ⟨eW, 1, none⟩) (Kd.V_far (p := ⟨eW, 0, none⟩) (Kd.V_mono dQ.out (fun k_ hk => (⟨hk, hk.2⟩ : _ ∧ k_ ≠ eW))) (fun _ hk => hk.2) (.int .i64 bE)) (fun _ hk => hk.2) (.string bF)) (fun _ hk => hk.2) (.int .i64 bG)) (fun _ hk => hk.2) (.slice fD bH.length fE)) (fun _ h_ => h_.1)))).2.2) hb); replace dQ := am (Kd.V_below (aV (Kd.V_mono (Kd.V_far (p := ⟨eW, 3, none⟩) (Kd.V_far (p := ⟨eW, 2, none⟩) (Kd.V_far (p := ⟨eW, 1, none⟩) (Kd.V_far (p := ⟨eW, 0, none⟩) (Kd.V_mono dQ.out (fun k_ hk => (⟨hk, hk.2⟩ : _ ∧ k_ ≠ eW))) (fun _ hk => hk.2) (.int .i64 bE)) (fun _ hk => hk.2) (.string bF)) (fun _ hk => hk.2) (.int .i64 bG)) (fun _ hk => hk.2) (.slice fD bH.length fE)) (fun _ h_ => h_.1))) hb); replace eK := am (Kd.C_below ((Kd.V_reads' (aV (Kd.V_mono (Kd.V_far (p := ⟨eW, 3, none⟩) (Kd.V_far (p := ⟨eW, 2, none⟩) (Kd.V_far (p := ⟨eW, 1, none⟩) (Kd.V_far (p := ⟨eW, 0, none⟩) (Kd.V_mono eJ.out (fun k_ hk => (⟨hk, hk.2⟩ : _ ∧ k_ ≠ eW))) (fun _ hk => hk.2) (.int .i64 bE)) (fun _ hk => hk.2) (.string bF)) (fun _ hk => hk.2) (.int .i64 bG)) (fun _ hk => hk.2) (.slice fD bH.length fE)) (fun _ h_ => h_.1)))).2.2) hb); replace eJ := am (Kd.V_below (aV (Kd.V_mono (Kd.V_far (p := ⟨eW, 3, none⟩) (Kd.V_far (p := ⟨eW, 2, none⟩) (Kd.V_far (p := ⟨eW, 1, none⟩) (Kd.V_far (p := ⟨eW, 0, none⟩) (Kd.V_mono eJ.out (fun k_ hk => (⟨hk, hk.2⟩ : _ ∧ k_ ≠ eW))) (fun _ hk => hk.2) (.int .i64 bE)) (fun _ hk => hk.2) (.string bF)) (fun _ hk => hk.2) (.int .i64 bG)) (fun _ hk => hk.2) (.slice fD bH.length fE)) (fun _ h_ => h_.1))) hb); replace eN := kBg1 eN fB hb; replace eX := kBg0 eX hb; replace HB := bS X76 hb; clear hb; have Z43 := bc4 eN))
                go_ret
                exact ⟨X14, X76⟩
               ·exact iN bW H
              ·exact iN bV H
             ·exact iN bU H
            ·exact iN bT H
           ·exact iN bR H
          ·exact iN bQ H
         ·exact iN bP H
        ·exact iN c9 H
       ·exact iN c8 H
      ·exact iN c7 H
     ·exact iN c6 H
    ·exact iN c5 H
   ·exact iN c4 H
  ·exact iN c3 H
 ·exact iN c2 H

mutual
def q0p.l0 : Nat → ByteArray → Int → Option (Int)
 | 0, _, _ => none
 | k + 1, x0, x3 => if x3 < (x0.size : Int) then (if 0 ≤ x3 then (if (bt x0 x3) = 32 then (q0p.j1 k x0 x3 (bt x0 x3) ((bt x0 x3) == 32)) else (if (bt x0 x3) = 9 then (q0p.j1 k x0 x3 (bt x0 x3) ((bt x0 x3) == 9)) else (if (bt x0 x3) = 10 then (q0p.j1 k x0 x3 (bt x0 x3) ((bt x0 x3) == 10)) else (q0p.j1 k x0 x3 (bt x0 x3) ((bt x0 x3) == 13))))) else (none)) else (some x3)
def q0p.j1 : Nat → ByteArray → Int → Int → Bool → Option (Int)
 | 0, _, _, _, _ => none
 | k + 1, x0, x3, aA, aC => if aC = true then (q0p.l0 k x0 (wrap64 (x3 + 1))) else (if aA = 35 then (q0p.l1 k x0 x3) else (some x3))
def q0p.l1 : Nat → ByteArray → Int → Option (Int)
 | 0, _, _ => none
 | k + 1, x0, x3 => if x3 < (x0.size : Int) then (if 0 ≤ x3 then (if (bt x0 x3) = 10 then (q0p.l0 k x0 x3) else (q0p.l1 k x0 (wrap64 (x3 + 1)))) else (none)) else (q0p.l0 k x0 x3)
end
def q0p.f (k : Nat) (a0 : ByteArray) : Option (Int) := q0p.l0 k a0 0
theorem q0p.mono_l : ∀ k, (∀ y0 y1, LeO (q0p.l0 k y0 y1) (q0p.l0 (k + 1) y0 y1)) ∧ (∀ y0 y1 y2 y3, LeO (q0p.j1 k y0 y1 y2 y3) (q0p.j1 (k + 1) y0 y1 y2 y3)) ∧ (∀ y0 y1, LeO (q0p.l1 k y0 y1) (q0p.l1 (k + 1) y0 y1))
 | 0 => ⟨fun _ _ r h => by simp [q0p.l0] at h, fun _ _ _ _ r h => by simp [q0p.j1] at h, fun _ _ r h => by simp [q0p.l1] at h⟩
 | k + 1 => by
  obtain ⟨aA, aC, aD⟩ := q0p.mono_l k;refine ⟨?_, ?_, ?_⟩
  ·intro y0 y1;unfold q0p.l0;exact X77
  ·intro y0 y1 y2 y3;unfold q0p.j1;exact X77
  ·intro y0 y1;unfold q0p.l1;exact X77
theorem q0p.mono : ∀ a0 k, LeO (q0p.f k a0) (q0p.f (k + 1) a0) := by
 intro a0 k;obtain ⟨aA, aC, aD⟩ := q0p.mono_l k;unfold q0p.f;exact X77
theorem q0p.calls (k : Nat) (a0 : ByteArray) (r : Int) (w : World) (h : q0p.f k a0 = some r) :
  Calls Tryd.prog 38 #[.string a0] w fun e w' => e = .returned (.int .i64 r) ∧ q2b w w' := by
 have H := h;clear h;unfold q0p.f at H;have H' := am H;clear H;go_enter Tryd.func38, Tryd.ntmps38;go_wp2
 go_loopg [3] k (fun kq v3 w' => ∃ (aA : Int), v3 = .int .i64 aA ∧ q0h (q0p.l0 kq a0 aA = some r) ∧ q0h (kq ≤ k) ∧ q2b w w')
 case atStart => exact ⟨(0), X4, H', ⟨Nat.le_refl _⟩, X5⟩
 case round =>
  clear H';obtain ⟨aA, rfl, HA, aC, ⟨m1, rfl⟩⟩ := hrel;cases gk with
  | zero => exact absurd HA.out (by simp [q0p.l0])
  | succ k1 =>
   have H := HA.out;clear HA;simp only [q0p.l0] at H;by_cases c2 : aA < (a0.size : Int)
   ·rw [if_pos c2] at H;have c2b0 := dT c2;clear c2;by_cases c3 : 0 ≤ aA
    ·rw [if_pos c3] at H;have c3b0 := dT c3;clear c3;have aD := am H;clear H;have p4 : 0 ≤ (aA : Int) := of_decide_eq_true X8;have q4 : aA < (a0.size : Int) := of_decide_eq_true X8;have aE := q2p a0 aA;replace p4 := eq_true p4;replace q4 := eq_true q4;go_upto_if 12 with (fail)
     go_cut [12] (fun aG wc => ∃ (kq : Nat) (aH : Bool), aG = .bool aH ∧ q0h (q0p.j1 kq a0 aA (bt a0 aA) aH = some r) ∧ q0h (kq ≤ k1) ∧ q2b w wc)
     case first =>
      have H := aD.out;clear aD;by_cases c6 : (bt a0 aA) = 32
      ·rw [if_pos c6] at H;have c6b0 := eT c6;have c6b1 := eF c6;clear c6;(first | rw [c6b0] | (simp only [q2x, q2G]; rw [c6b0]) | skip);have H' := am H;clear H;go_wp2
       go_meet
       case rel => exact ⟨_, (((bt a0 aA) == 32)), X4, H', ⟨X78⟩, X5⟩
      ·rw [if_neg c6] at H;have c6b0 := nF c6;have c6b1 := nT c6;(first | rw [c6b0] | (simp only [q2x, q2G]; rw [c6b0]) | skip);by_cases c7 : (bt a0 aA) = 9
       ·rw [if_pos c7] at H;have c7b0 := eT c7;have c7b1 := eF c7;clear c7;have H' := am H;clear H;go_wp2
        go_meet
        case rel => exact ⟨_, (((bt a0 aA) == 9)), X4, H', ⟨X78⟩, X5⟩
       ·rw [if_neg c7] at H;have c7b0 := nF c7;have c7b1 := nT c7;by_cases c8 : (bt a0 aA) = 10
        ·rw [if_pos c8] at H;have c8b0 := eT c8;have c8b1 := eF c8;clear c8;have H' := am H;clear H;go_wp2
         go_meet
         case rel => exact ⟨_, (((bt a0 aA) == 10)), X4, H', ⟨X78⟩, X5⟩
        ·rw [if_neg c8] at H;have c8b0 := nF c8;have c8b1 := nT c8;have H' := am H;clear H;go_wp2
         go_meet
         case rel => exact ⟨_, (((bt a0 aA) == 13)), X4, H', ⟨X78⟩, X5⟩
     case rest =>
      clear aD;(try clear c2);(try clear c2b0);(try clear p2);(try clear c3);(try clear c3b0);(try clear p4 p4);(try clear q4 q4);(try clear aE);(try clear c6);(try clear c6b0);(try clear c6b1);(try clear c7);(try clear c7b0);(try clear c7b1);(try clear c8);(try clear c8b0);(try clear c8b1);obtain ⟨kq, aH, rfl, HA, aI, ⟨mc4, rfl⟩⟩ := hcut;cases kq with
      | zero => exact absurd HA.out (by simp [q0p.j1])
      | succ aJ =>
       have H := HA.out;clear HA;simp only [q0p.j1] at H;by_cases c9 : aH = true
       ·subst c9;replace H := tP H;have H' := am H;clear H;go_wp2
        go_roundg aJ
        case measure => have := aC.out; have := aI.out; omega
        case rel => exact ⟨(wrap64 (aA + 1)), X4, H', ⟨by have := aC.out; have := aI.out; omega⟩, X5⟩
       ·replace c9 := Bool.eq_false_iff.mpr c9;subst c9;replace H := tN H;by_cases c10 : (bt a0 aA) = 35
        ·rw [if_pos c10] at H;have c10b0 := eT c10;have c10b1 := eF c10;clear c10;have H' := am H;clear H;go_wp2
         go_loopg [3] aJ (fun kq v3 w' => ∃ (aK : Int), v3 = .int .i64 aK ∧ q0h (q0p.l1 kq a0 aK = some r) ∧ q0h (kq ≤ aJ) ∧ q2b w w')
         case atStart => exact ⟨(aA), X4, H', ⟨Nat.le_refl _⟩, X5⟩
         case round =>
          clear H';(try clear c1);(try clear c2);(try clear c2b0);(try clear p2 p2);(try clear c3);(try clear c3b0);(try clear c4);(try clear p4 p4);(try clear q4 q4);(try clear aE);(try clear c6);(try clear c6b0);(try clear c6b1);(try clear p6);(try clear c7);(try clear c7b0);(try clear c7b1);(try clear c8);(try clear c8b0);(try clear c8b1);(try clear c9);(try clear c10);(try clear c10b0);(try clear c10b1);obtain ⟨aK, rfl, HA, aM, ⟨m3, rfl⟩⟩ := hrel;cases gk with
          | zero => exact absurd HA.out (by simp [q0p.l1])
          | succ k3 =>
           have H := HA.out;clear HA;simp only [q0p.l1] at H;by_cases aQ : aK < (a0.size : Int)
           ·rw [if_pos aQ] at H;have c11b0 := dT aQ;clear aQ;by_cases aT : 0 ≤ aK
            ·rw [if_pos aT] at H;have c12b0 := dT aT;clear aT;by_cases aU : (bt a0 aK) = 10
             ·rw [if_pos aU] at H;have c14b0 := eT aU;have c14b1 := eF aU;clear aU;have H' := am H;clear H;have aW : 0 ≤ (aK : Int) := of_decide_eq_true X8;have aX : aK < (a0.size : Int) := of_decide_eq_true X8;have aY := q2p a0 aK;replace aW := eq_true aW;replace aX := eq_true aX;go_wp2
              go_roundg k3
              case measure => have := aC.out; have := aI.out; have := aM.out; omega
              case rel => exact ⟨(aK), X4, H', ⟨X79⟩, X5⟩
             ·rw [if_neg aU] at H;have c14b0 := nF aU;have c14b1 := nT aU;have H' := am H;clear H;have aW : 0 ≤ (aK : Int) := of_decide_eq_true X8;have aX : aK < (a0.size : Int) := of_decide_eq_true X8;have aY := q2p a0 aK;replace aW := eq_true aW;replace aX := eq_true aX;go_wp2
              go_roundg k3
              case measure => have := aC.out; have := aI.out; have := aM.out; omega
              case rel => exact ⟨(wrap64 (aK + 1)), X4, H', ⟨X79⟩, X5⟩
            ·exact iN aT H
           ·rw [if_neg aQ] at H;have c11b0 := dF aQ;clear aQ;have H' := am H;clear H;go_wp2
            go_roundg k3
            case measure => have := aC.out; have := aI.out; have := aM.out; omega
            case rel => exact ⟨(aK), X4, H', ⟨X79⟩, X5⟩
        ·rw [if_neg c10] at H;have c10b0 := nF c10;have c10b1 := nT c10;obtain rfl := Option.some.inj H;go_wp2
         go_ret
         exact ⟨X4, X5⟩
    ·exact iN c3 H
   ·rw [if_neg c2] at H;have c2b0 := dF c2;clear c2;obtain rfl := Option.some.inj H;go_wp2
    go_ret
    exact ⟨X4, X5⟩

def q0W.l0 : Nat → ByteArray → Int → Int → Option (Int)
 | 0, _, _, _ => none
 | k + 1, x0, x3, x4 => if x4 < (x0.size : Int) then (if 0 ≤ x4 then (if (bt x0 x4) = 10 then (q0W.l0 k x0 (wrap64 (x3 + 1)) (wrap64 (x4 + 1))) else (q0W.l0 k x0 x3 (wrap64 (x4 + 1)))) else (none)) else (some x3)
def q0W.f (k : Nat) (a0 : ByteArray) : Option (Int) := q0W.l0 k a0 0 0
theorem q0W.mono_l : ∀ k, (∀ y0 y1 y2, LeO (q0W.l0 k y0 y1 y2) (q0W.l0 (k + 1) y0 y1 y2))
 | 0 => fun _ _ _ r h => by simp [q0W.l0] at h
 | k + 1 => by
  have aA := q0W.mono_l k
  ·intro y0 y1 y2;unfold q0W.l0;exact X80
theorem q0W.mono : ∀ a0 k, LeO (q0W.f k a0) (q0W.f (k + 1) a0) := by
 intro a0 k;have aA := q0W.mono_l k;unfold q0W.f;exact X80
theorem q0W.calls (k : Nat) (a0 : ByteArray) (r : Int) (w : World) (h : q0W.f k a0 = some r) :
  Calls Tryd.prog 39 #[.string a0] w fun e w' => e = .returned (.int .i64 r) ∧ q2b w w' := by
 have H := h;clear h;unfold q0W.f at H;have H' := am H;clear H;go_enter Tryd.func39, Tryd.ntmps39;go_wp2
 go_loopg [3, 4] k (fun kq v3 v4 w' => ∃ (aA : Int) (aC : Int), v3 = .int .i64 aA ∧ v4 = .int .i64 aC ∧ q0h (q0W.l0 kq a0 aA aC = some r) ∧ q0h (kq ≤ k) ∧ q2b w w')
 case atStart => exact ⟨(0), (0), X4, X4, H', ⟨Nat.le_refl _⟩, X5⟩
 case round =>
  clear H';obtain ⟨aA, aC, rfl, rfl, HA, aD, ⟨m1, rfl⟩⟩ := hrel;cases gk with
  | zero => exact absurd HA.out (by simp [q0W.l0])
  | succ k1 =>
   have H := HA.out;clear HA;simp only [q0W.l0] at H;by_cases c2 : aC < (a0.size : Int)
   ·rw [if_pos c2] at H;have c2b0 := dT c2;clear c2;by_cases c3 : 0 ≤ aC
    ·rw [if_pos c3] at H;have c3b0 := dT c3;clear c3;by_cases c5 : (bt a0 aC) = 10
     ·rw [if_pos c5] at H;have c5b0 := eT c5;have c5b1 := eF c5;clear c5;have H' := am H;clear H;have p4 : 0 ≤ (aC : Int) := of_decide_eq_true X8;have q4 : aC < (a0.size : Int) := of_decide_eq_true X8;have aE := q2p a0 aC;replace p4 := eq_true p4;replace q4 := eq_true q4;go_wp2
      go_roundg k1
      case measure => have := aD.out; omega
      case rel => exact ⟨(wrap64 (aA + 1)), (wrap64 (aC + 1)), X4, X4, H', ⟨by have := aD.out; omega⟩, X5⟩
     ·rw [if_neg c5] at H;have c5b0 := nF c5;have c5b1 := nT c5;have H' := am H;clear H;have p4 : 0 ≤ (aC : Int) := of_decide_eq_true X8;have q4 : aC < (a0.size : Int) := of_decide_eq_true X8;have aE := q2p a0 aC;replace p4 := eq_true p4;replace q4 := eq_true q4;go_wp2
      go_roundg k1
      case measure => have := aD.out; omega
      case rel => exact ⟨(aA), (wrap64 (aC + 1)), X4, X4, H', ⟨by have := aD.out; omega⟩, X5⟩
    ·exact iN c3 H
   ·rw [if_neg c2] at H;have c2b0 := dF c2;clear c2;obtain rfl := Option.some.inj H;go_wp2
    go_ret
    exact ⟨X4, X5⟩

def q1M.f (a0 : Int) : Option (Bool) := if a0 ≥ 97 then (some (decide (a0 ≤ 122))) else (some false)
theorem q1M.calls (a0 : Int) (r : Bool) (w : World) (h : q1M.f a0 = some r) :
  Calls Tryd.prog 120 #[.int .u8 a0] w fun e w' => e = .returned (.bool r) ∧ q2b w w' := by
 have H := h;clear h;unfold q1M.f at H;by_cases c2 : a0 ≥ 97
 ·rw [if_pos c2] at H;have c2b0 : decide (97 ≤ a0) = true := decide_eq_true c2;clear c2;obtain rfl := Option.some.inj H;go_enter Tryd.func120, Tryd.ntmps120;go_wp2
  go_ret
  exact ⟨X4, X5⟩
 ·rw [if_neg c2] at H;have c2b0 : decide (97 ≤ a0) = false := decide_eq_false c2;clear c2;obtain rfl := Option.some.inj H;go_enter Tryd.func120, Tryd.ntmps120;go_wp2
  go_ret
  exact ⟨X4, X5⟩

def q1P.f (a0 : Int) : Option (Bool) := if a0 ≥ 48 then (some (decide (a0 ≤ 57))) else (some false)
theorem q1P.calls (a0 : Int) (r : Bool) (w : World) (h : q1P.f a0 = some r) :
  Calls Tryd.prog 121 #[.int .u8 a0] w fun e w' => e = .returned (.bool r) ∧ q2b w w' := by
 have H := h;clear h;unfold q1P.f at H;by_cases c2 : a0 ≥ 48
 ·rw [if_pos c2] at H;have c2b0 : decide (48 ≤ a0) = true := decide_eq_true c2;clear c2;obtain rfl := Option.some.inj H;go_enter Tryd.func121, Tryd.ntmps121;go_wp2
  go_ret
  exact ⟨X4, X5⟩
 ·rw [if_neg c2] at H;have c2b0 : decide (48 ≤ a0) = false := decide_eq_false c2;clear c2;obtain rfl := Option.some.inj H;go_enter Tryd.func121, Tryd.ntmps121;go_wp2
  go_ret
  exact ⟨X4, X5⟩
mutual
def q0r.j0 : Nat → ByteArray → Bool → Option (Int)
 | 0, _, _ => none
 | k + 1, x0, aA => if aA = true then (some 0) else (q0r.l0 k x0 1)
def q0r.l0 : Nat → ByteArray → Int → Option (Int)
 | 0, _, _ => none
 | k + 1, x0, x3 => if x3 < (x0.size : Int) then (if 0 ≤ x3 then ((q1M.f (bt x0 x3)).bind fun aA => (if aA = true then (q0r.j2 k x0 x3 true) else ((q1P.f (bt x0 x3)).bind fun aC => (q0r.j2 k x0 x3 aC)))) else (none)) else (some x3)
def q0r.j2 : Nat → ByteArray → Int → Bool → Option (Int)
 | 0, _, _, _ => none
 | k + 1, x0, x3, aA => if aA = true then (q0r.l0 k x0 (wrap64 (x3 + 1))) else (if 0 ≤ x3 then (if x3 < (x0.size : Int) then (if (bt x0 x3) = 45 then (if (wrap64 (x3 + 1)) = (x0.size : Int) then (some x3) else (if 0 ≤ (wrap64 (x3 + 1)) then (if (wrap64 (x3 + 1)) < (x0.size : Int) then ((q1M.f (bt x0 (wrap64 (x3 + 1)))).bind fun aC => (if aC = true then (q0r.l0 k x0 (wrap64 (x3 + 2))) else ((q1P.f (bt x0 (wrap64 (x3 + 1)))).bind fun aD => (if aD = true then (q0r.l0 k x0 (wrap64 (x3 + 2))) else (some x3))))) else (none)) else (none))) else (some x3)) else (none)) else (none))
end
def q0r.f (k : Nat) (a0 : ByteArray) : Option (Int) := if a0.toList = ([] : List UInt8) then (q0r.j0 k a0 true) else (if 0 < (a0.size : Int) then ((q1M.f (bt a0 0)).bind fun aA => (q0r.j0 k a0 (!aA))) else (none))
theorem q0r.mono_l : ∀ k, (∀ y0 y1, LeO (q0r.j0 k y0 y1) (q0r.j0 (k + 1) y0 y1)) ∧ (∀ y0 y1, LeO (q0r.l0 k y0 y1) (q0r.l0 (k + 1) y0 y1)) ∧ (∀ y0 y1 y2, LeO (q0r.j2 k y0 y1 y2) (q0r.j2 (k + 1) y0 y1 y2))
 | 0 => ⟨fun _ _ r h => by simp [q0r.j0] at h, fun _ _ r h => by simp [q0r.l0] at h, fun _ _ _ r h => by simp [q0r.j2] at h⟩
 | k + 1 => by
  obtain ⟨aA, aC, aD⟩ := q0r.mono_l k;refine ⟨?_, ?_, ?_⟩
  ·intro y0 y1;unfold q0r.j0;exact X81
  ·intro y0 y1;unfold q0r.l0;exact X81
  ·intro y0 y1 y2;unfold q0r.j2;exact X81
theorem q0r.mono : ∀ a0 k, LeO (q0r.f k a0) (q0r.f (k + 1) a0) := by
 intro a0 k;obtain ⟨aA, aC, aD⟩ := q0r.mono_l k;unfold q0r.f;exact X81
theorem q0r.calls (k : Nat) (a0 : ByteArray) (r : Int) (w : World) (h : q0r.f k a0 = some r) :
  Calls Tryd.prog 88 #[.string a0] w fun e w' => e = .returned (.int .i64 r) ∧ q2b w w' := by
 have H := h;clear h;unfold q0r.f at H;have aA := am H;clear H;go_enter Tryd.func88, Tryd.ntmps88;go_upto_region 1 with (fail)
 go_cut [11] (fun aC wc => ∃ (kq : Nat) (aD : Bool), aC = .bool aD ∧ q0h (q0r.j0 kq a0 aD = some r) ∧ q0h (kq ≤ k) ∧ q2b w wc)
 case first =>
  have H := aA.out;clear aA;by_cases c3 : a0.toList = ([] : List UInt8)
  ·rw [if_pos c3] at H;have c3b0 := eT c3;have c3b1 := eF c3;clear c3;(first | rw [c3b0] | (simp only [q2x, q2G]; rw [c3b0]) | skip);have H' := am H;clear H;go_wp2
   go_meet
   case rel => exact ⟨_, (true), X4, H', ⟨X7⟩, X5⟩
  ·rw [if_neg c3] at H;have c3b0 := nF c3;have c3b1 := nT c3;(first | rw [c3b0] | (simp only [q2x, q2G]; rw [c3b0]) | skip);by_cases c4 : 0 < (a0.size : Int)
   ·rw [if_pos c4] at H;have c4b0 := dT c4;have c4b1 : decide (0 < a0.size) = true := decide_eq_true (by omega);clear c4;obtain ⟨aE, aG, H⟩ := oB H;(try dsimp only at H);have A6 := am aG;clear aG;have H' := am H;clear H;have p5 : 0 ≤ (0 : Int) := (by omega);have q5 : 0 < a0.size := (by have : (0 : Int) < (a0.size : Int) := of_decide_eq_true X8; omega);have aH : ∀ h : 0 < a0.size, ((a0[0]'h).toNat : Int) = bt a0 0 := q2p a0 0;clear p5;have aI : (0 < (a0.size : Int)) = True := eq_true (of_decide_eq_true X8);replace q5 := eq_true q5;go_wp2_with (first | (go_at_call 120; (with_reducible refine (q1M.calls (bt a0 0) aE _ A6.out).mono ?_); rintro e w' ⟨rfl, ⟨nd, rfl⟩⟩))
    go_meet
    case rel => exact ⟨_, (!aE), X4, H', ⟨X7⟩, X5⟩
   ·exact iN c4 H
 case rest =>
  clear aA;(try clear p2);(try clear c3);(try clear c3b0);(try clear c3b1);(try clear c4);(try clear c4b0);(try clear c4b1);(try clear p5 p5);(try clear q5 q5);(try clear aH);(try clear aI);obtain ⟨kq, aD, rfl, HA, aJ, ⟨mc1, rfl⟩⟩ := hcut;cases kq with
  | zero => exact absurd HA.out (by simp [q0r.j0])
  | succ aK =>
   have H := HA.out;clear HA;simp only [q0r.j0] at H;by_cases c7 : aD = true
   ·subst c7;replace H := tP H;obtain rfl := Option.some.inj H;go_wp2
    go_ret
    exact ⟨X4, X5⟩
   ·replace c7 := Bool.eq_false_iff.mpr c7;subst c7;replace H := tN H;have H' := am H;clear H;go_wp2
    go_loopg [3] aK (fun kq v3 w' => ∃ (aM : Int), v3 = .int .i64 aM ∧ q0h (q0r.l0 kq a0 aM = some r) ∧ q0h (kq ≤ aK) ∧ q2b w w')
    case atStart => exact ⟨(1), X4, H', ⟨Nat.le_refl _⟩, X5⟩
    case round =>
     clear H';(try clear c1);(try clear p2 p2);(try clear c3);(try clear c3b0);(try clear c3b1);(try clear c4);(try clear c4b0);(try clear c4b1);(try clear p5 p5);(try clear q5 q5);(try clear aH);(try clear aI);(try clear c7);obtain ⟨aM, rfl, HA, aQ, ⟨m2, rfl⟩⟩ := hrel;cases gk with
     | zero => exact absurd HA.out (by simp [q0r.l0])
     | succ k2 =>
      have H := HA.out;clear HA;simp only [q0r.l0] at H;by_cases c8 : aM < (a0.size : Int)
      ·rw [if_pos c8] at H;have c8b0 := dT c8;clear c8;have aT := am H;clear H;go_upto_region 5 with (fail)
       go_cut [25] (fun aU wc => ∃ (kq : Nat) (aW : Bool), aU = .bool aW ∧ q0h (q0r.j2 kq a0 aM aW = some r) ∧ q0h (kq ≤ k2) ∧ q2b w wc)
       case first =>
        have H := aT.out;clear aT;by_cases c10 : 0 ≤ aM
        ·rw [if_pos c10] at H;have c10b0 := dT c10;clear c10;(first | rw [c10b0] | (simp only [q2x, q2G]; rw [c10b0]) | skip);obtain ⟨aX, aY, H⟩ := oB H;(try dsimp only at H);have aZ := am aY;clear aY;by_cases bA : aX = true
         ·subst bA;replace H := tP H;have H' := am H;clear H;have bB : 0 ≤ (aM : Int) := of_decide_eq_true X8;have bC : aM < (a0.size : Int) := of_decide_eq_true X8;have bD := q2p a0 aM;replace bB := eq_true bB;replace bC := eq_true bC;go_wp2_with (first | ((with_reducible refine gc 120 ?_); refine gL (some 19) Tryd.func120 #[.int .u8 (bt a0 aM)] ?_; (with_reducible refine (q1M.calls (bt a0 aM) true _ aZ.out).mono ?_); rintro e w' ⟨rfl, ⟨nd, rfl⟩⟩; refine ⟨_, rfl, ?_⟩))
          go_meet
          case rel => exact ⟨_, (true), X4, H', ⟨X9⟩, X5⟩
         ·replace bA := Bool.eq_false_iff.mpr bA;subst bA;replace H := tN H;obtain ⟨bE, bF, H⟩ := oB H;(try dsimp only at H);have bG := am bF;clear bF;have H' := am H;clear H;have bB : 0 ≤ (aM : Int) := of_decide_eq_true X8;have bC : aM < (a0.size : Int) := of_decide_eq_true X8;have bD := q2p a0 aM;replace bB := eq_true bB;replace bC := eq_true bC;go_wp2_with (first | ((with_reducible refine gc 120 ?_); refine gL (some 19) Tryd.func120 #[.int .u8 (bt a0 aM)] ?_; (with_reducible refine (q1M.calls (bt a0 aM) false _ aZ.out).mono ?_); rintro e w' ⟨rfl, ⟨nd, rfl⟩⟩; refine ⟨_, rfl, ?_⟩; have bH : 0 ≤ (aM : Int) := of_decide_eq_true X8; have bI : aM < (a0.size : Int) := of_decide_eq_true X8; have bJ := q2p a0 aM; replace bH := eq_true bH; replace bI := eq_true bI) | (go_at_call 121; (with_reducible refine (q1P.calls (bt a0 aM) bE _ bG.out).mono ?_); rintro e w' ⟨rfl, ⟨nd, rfl⟩⟩))
          go_meet
          case rel => exact ⟨_, (bE), X4, H', ⟨X9⟩, X5⟩
        ·exact iN c10 H
       case rest =>
        clear aT;(try clear c1);(try clear p1);(try clear q1);(try clear hx1);(try clear p2 p2);(try clear c3);(try clear c3b0);(try clear c3b1);(try clear c4);(try clear c4b0);(try clear c4b1);(try clear p5 p5);(try clear q5 q5);(try clear aH);(try clear aI);(try clear c7);(try clear c8);(try clear c8b0);(try clear c10);(try clear c10b0);(try clear bB bB);(try clear bC bC);(try clear bD);(try clear c12);(try clear bA);(try clear bH bH);(try clear bI bI);(try clear bJ);obtain ⟨kq, aW, rfl, HA, bK, ⟨mc8, rfl⟩⟩ := hcut;cases kq with
        | zero => exact absurd HA.out (by simp [q0r.j2])
        | succ bL =>
         have H := HA.out;clear HA;simp only [q0r.j2] at H;by_cases bM : aW = true
         ·subst bM;replace H := tP H;have H' := am H;clear H;go_wp2
          go_roundg bL
          case measure => have := aJ.out; have := aQ.out; have := bK.out; omega
          case rel => exact ⟨(wrap64 (aM + 1)), X4, H', ⟨X82⟩, X5⟩
         ·replace bM := Bool.eq_false_iff.mpr bM;subst bM;replace H := tN H;by_cases bN : 0 ≤ aM
          ·rw [if_pos bN] at H;have c17b0 := dT bN;clear bN;by_cases bO : aM < (a0.size : Int)
           ·rw [if_pos bO] at H;have c18b0 := dT bO;clear bO;by_cases bP : (bt a0 aM) = 45
            ·rw [if_pos bP] at H;have c20b0 := eT bP;have c20b1 := eF bP;clear bP;by_cases bQ : (wrap64 (aM + 1)) = (a0.size : Int)
             ·rw [if_pos bQ] at H;have c21b0 := eT bQ;have c21b1 := eF bQ;clear bQ;obtain rfl := Option.some.inj H;have bR : 0 ≤ (aM : Int) := of_decide_eq_true X8;have bT : aM < (a0.size : Int) := of_decide_eq_true X8;have bU := q2p a0 aM;replace bR := eq_true bR;replace bT := eq_true bT;go_wp2
              go_ret
              exact ⟨X4, X5⟩
             ·rw [if_neg bQ] at H;have c21b0 := nF bQ;have c21b1 := nT bQ;obtain ⟨bV, bW⟩ : ∃ j_ : Int, (wrap64 (aM + 1)) = j_ := ⟨_, rfl⟩;replace H : (if 0 ≤ (bV) then (if (bV) < (a0.size : Int) then ((q1M.f (bt a0 (bV))).bind fun bX => (if bX = true then (q0r.l0 bL a0 (wrap64 (aM + 2))) else ((q1P.f (bt a0 (bV))).bind fun bY => (if bY = true then (q0r.l0 bL a0 (wrap64 (aM + 2))) else (some aM))))) else (none)) else (none)) = some r := by first | (rw [bW] at H; exact H) | (simp only [bW] at H ⊢; exact H)
              (try rw [bW] at c21b0);(try rw [bW] at c21b1);have hji22w : (IntKind.i64.wrap (aM + 1)) = bV := (q2x _).trans bW;by_cases bZ : 0 ≤ (bV)
              ·rw [if_pos bZ] at H;have c23b0 := dT bZ;clear bZ;by_cases cA : (bV) < (a0.size : Int)
               ·rw [if_pos cA] at H;have c24b0 := dT cA;clear cA;obtain ⟨bX, cC, H⟩ := oB H;(try dsimp only at H);have cD := am cC;clear cC;by_cases cE : bX = true
                ·subst cE;replace H := tP H;have H' := am H;clear H;have bR : 0 ≤ (aM : Int) := of_decide_eq_true X8;have bT : aM < (a0.size : Int) := of_decide_eq_true X8;have bU := q2p a0 aM;replace bR := eq_true bR;replace bT := eq_true bT;have cF : 0 ≤ ((bV) : Int) := of_decide_eq_true X8;have cG : (bV) < (a0.size : Int) := of_decide_eq_true X8;have cH := q2p a0 (bV);replace cF := eq_true cF;replace cG := eq_true cG;go_wp2_with (first | (go_at_call 120; (with_reducible refine (q1M.calls (bt a0 (bV)) true _ cD.out).mono ?_); rintro e w' ⟨rfl, ⟨nd, rfl⟩⟩))
                 go_roundg bL
                 case measure => have := aJ.out; have := aQ.out; have := bK.out; omega
                 case rel => exact ⟨(wrap64 (aM + 2)), X4, H', ⟨X82⟩, X5⟩
                ·replace cE := Bool.eq_false_iff.mpr cE;subst cE;replace H := tN H;obtain ⟨bY, cI, H⟩ := oB H;(try dsimp only at H);have cJ := am cI;clear cI;by_cases cK : bY = true
                 ·subst cK;replace H := tP H;have H' := am H;clear H;have bR : 0 ≤ (aM : Int) := of_decide_eq_true X8;have bT : aM < (a0.size : Int) := of_decide_eq_true X8;have bU := q2p a0 aM;replace bR := eq_true bR;replace bT := eq_true bT;have cF : 0 ≤ ((bV) : Int) := of_decide_eq_true X8;have cG : (bV) < (a0.size : Int) := of_decide_eq_true X8;have cH := q2p a0 (bV);replace cF := eq_true cF;replace cG := eq_true cG;go_wp2_with (first | (go_at_call 120; (with_reducible refine (q1M.calls (bt a0 (bV)) false _ cD.out).mono ?_); rintro e w' ⟨rfl, ⟨nd, rfl⟩⟩; have cL : 0 ≤ ((bV) : Int) := of_decide_eq_true X8; have cM : (bV) < (a0.size : Int) := of_decide_eq_true X8; have cN := q2p a0 (bV); replace cL := eq_true cL; replace cM := eq_true cM) | (go_at_call 121; (with_reducible refine (q1P.calls (bt a0 (bV)) true _ cJ.out).mono ?_); rintro e w' ⟨rfl, ⟨nd, rfl⟩⟩))
                  go_roundg bL
                  case measure => have := aJ.out; have := aQ.out; have := bK.out; omega
                  case rel => exact ⟨(wrap64 (aM + 2)), X4, H', ⟨X82⟩, X5⟩
                 ·replace cK := Bool.eq_false_iff.mpr cK;subst cK;replace H := tN H;obtain rfl := Option.some.inj H;have bR : 0 ≤ (aM : Int) := of_decide_eq_true X8;have bT : aM < (a0.size : Int) := of_decide_eq_true X8;have bU := q2p a0 aM;replace bR := eq_true bR;replace bT := eq_true bT;have cF : 0 ≤ ((bV) : Int) := of_decide_eq_true X8;have cG : (bV) < (a0.size : Int) := of_decide_eq_true X8;have cH := q2p a0 (bV);replace cF := eq_true cF;replace cG := eq_true cG;go_wp2_with (first | (go_at_call 120; (with_reducible refine (q1M.calls (bt a0 (bV)) false _ cD.out).mono ?_); rintro e w' ⟨rfl, ⟨nd, rfl⟩⟩; have cL : 0 ≤ ((bV) : Int) := of_decide_eq_true X8; have cM : (bV) < (a0.size : Int) := of_decide_eq_true X8; have cN := q2p a0 (bV); replace cL := eq_true cL; replace cM := eq_true cM) | (go_at_call 121; (with_reducible refine (q1P.calls (bt a0 (bV)) false _ cJ.out).mono ?_); rintro e w' ⟨rfl, ⟨nd, rfl⟩⟩))
                  go_ret
                  exact ⟨by first | rfl | (simp; done) | (simp only [← bW] <;> (first | rfl | simp)) | (simp [*]; done), X5⟩
               ·exact iN cA H
              ·exact iN bZ H
            ·rw [if_neg bP] at H;have c20b0 := nF bP;have c20b1 := nT bP;obtain rfl := Option.some.inj H;have bR : 0 ≤ (aM : Int) := of_decide_eq_true X8;have bT : aM < (a0.size : Int) := of_decide_eq_true X8;have bU := q2p a0 aM;replace bR := eq_true bR;replace bT := eq_true bT;go_wp2
             go_ret
             exact ⟨X4, X5⟩
           ·exact iN bO H
          ·exact iN bN H
      ·rw [if_neg c8] at H;have c8b0 := dF c8;clear c8;obtain rfl := Option.some.inj H;go_wp2
       go_ret
       exact ⟨X4, X5⟩

def q0I.l0 : Nat → ByteArray → Int → Option (Int)
 | 0, _, _ => none
 | k + 1, x0, x3 => if x3 < (x0.size : Int) then (if 0 ≤ x3 then ((q1P.f (bt x0 x3)).bind fun aA => (if aA = true then (q0I.l0 k x0 (wrap64 (x3 + 1))) else (some x3))) else (none)) else (some x3)
def q0I.f (k : Nat) (a0 : ByteArray) : Option (Int) := q0I.l0 k a0 0
theorem q0I.mono_l : ∀ k, (∀ y0 y1, LeO (q0I.l0 k y0 y1) (q0I.l0 (k + 1) y0 y1))
 | 0 => fun _ _ r h => by simp [q0I.l0] at h
 | k + 1 => by
  have aA := q0I.mono_l k
  ·intro y0 y1;unfold q0I.l0;exact X11
theorem q0I.mono : ∀ a0 k, LeO (q0I.f k a0) (q0I.f (k + 1) a0) := by
 intro a0 k;have aA := q0I.mono_l k;unfold q0I.f;exact X11
theorem q0I.calls (k : Nat) (a0 : ByteArray) (r : Int) (w : World) (h : q0I.f k a0 = some r) :
  Calls Tryd.prog 89 #[.string a0] w fun e w' => e = .returned (.int .i64 r) ∧ q2b w w' := by
 have H := h;clear h;unfold q0I.f at H;have H' := am H;clear H;go_enter Tryd.func89, Tryd.ntmps89;go_wp2
 go_loopg [3] k (fun kq v3 w' => ∃ (aA : Int), v3 = .int .i64 aA ∧ q0h (q0I.l0 kq a0 aA = some r) ∧ q0h (kq ≤ k) ∧ q2b w w')
 case atStart => exact ⟨(0), X4, H', ⟨Nat.le_refl _⟩, X5⟩
 case round =>
  clear H';obtain ⟨aA, rfl, HA, aC, ⟨m1, rfl⟩⟩ := hrel;cases gk with
  | zero => exact absurd HA.out (by simp [q0I.l0])
  | succ k1 =>
   have H := HA.out;clear HA;simp only [q0I.l0] at H;by_cases c2 : aA < (a0.size : Int)
   ·rw [if_pos c2] at H;have c2b0 := dT c2;clear c2;by_cases c3 : 0 ≤ aA
    ·rw [if_pos c3] at H;have c3b0 := dT c3;clear c3;obtain ⟨aD, aE, H⟩ := oB H;(try dsimp only at H);have A5 := am aE;clear aE;by_cases c6 : aD = true
     ·subst c6;replace H := tP H;have H' := am H;clear H;have p4 : 0 ≤ (aA : Int) := of_decide_eq_true X8;have q4 : aA < (a0.size : Int) := of_decide_eq_true X8;have aG := q2p a0 aA;replace p4 := eq_true p4;replace q4 := eq_true q4;go_wp2_with (first | (go_at_call 121; (with_reducible refine (q1P.calls (bt a0 aA) true _ A5.out).mono ?_); rintro e w' ⟨rfl, ⟨nd, rfl⟩⟩))
      go_roundg k1
      case measure => have := aC.out; omega
      case rel => exact ⟨(wrap64 (aA + 1)), X4, H', ⟨by have := aC.out; omega⟩, X5⟩
     ·replace c6 := Bool.eq_false_iff.mpr c6;subst c6;replace H := tN H;obtain rfl := Option.some.inj H;have p4 : 0 ≤ (aA : Int) := of_decide_eq_true X8;have q4 : aA < (a0.size : Int) := of_decide_eq_true X8;have aG := q2p a0 aA;replace p4 := eq_true p4;replace q4 := eq_true q4;go_wp2_with (first | (go_at_call 121; (with_reducible refine (q1P.calls (bt a0 aA) false _ A5.out).mono ?_); rintro e w' ⟨rfl, ⟨nd, rfl⟩⟩))
      go_ret
      exact ⟨X4, X5⟩
    ·exact iN c3 H
   ·rw [if_neg c2] at H;have c2b0 := dF c2;clear c2;obtain rfl := Option.some.inj H;go_wp2
    go_ret
    exact ⟨X4, X5⟩

def q2m.f (a0 : Int) : Option (Bool) := if a0 ≥ 32 then (if a0 ≤ 126 then (some (a0 != 34)) else (some false)) else (some false)
theorem q2m.calls (a0 : Int) (r : Bool) (w : World) (h : q2m.f a0 = some r) :
  Calls Tryd.prog 122 #[.int .u8 a0] w fun e w' => e = .returned (.bool r) ∧ q2b w w' := by
 have H := h;clear h;unfold q2m.f at H;by_cases c2 : a0 ≥ 32
 ·rw [if_pos c2] at H;have c2b0 : decide (32 ≤ a0) = true := decide_eq_true c2;clear c2;by_cases c3 : a0 ≤ 126
  ·rw [if_pos c3] at H;have c3b0 := dT c3;clear c3;obtain rfl := Option.some.inj H;go_enter Tryd.func122, Tryd.ntmps122;go_wp2
   go_ret
   exact ⟨X4, X5⟩
  ·rw [if_neg c3] at H;have c3b0 := dF c3;clear c3;obtain rfl := Option.some.inj H;go_enter Tryd.func122, Tryd.ntmps122;go_wp2
   go_ret
   exact ⟨X4, X5⟩
 ·rw [if_neg c2] at H;have c2b0 : decide (32 ≤ a0) = false := decide_eq_false c2;clear c2;obtain rfl := Option.some.inj H;go_enter Tryd.func122, Tryd.ntmps122;go_wp2
  go_ret
  exact ⟨X4, X5⟩
end Go.Proofs.YtmffocankommaaaDoor.U
