/- Printed walks: what each function of the program computes. Condition: the Lean function gives a value. -/
import Derived.Test.YtmffocankommaaaDoorDYZed
import Derived.Test.YtmffocankommaaaDoorDx5
import Derived.Test.YtmffocankommaaaDoorDx22
import Derived.Test.YtmffocankommaaaDoorDx11
import Derived.Test.YtmffocankommaaaDoorDx14
import Derived.Test.YtmffocankommaaaDoorDx16
namespace Go.Proofs.YtmffocankommaaaDoor.J
open Go.RowKit Go.Proofs.YtmffocankommaaaDoorW.PrintWords Go.Proofs.YtmffocankommaaaDoorW.PrintLast Go.Proofs.YtmffocankommaaaDoorW.PrintMore Go.Proofs.YtmffocankommaaaDoorY Go.Proofs.YtmffocankommaaaDoorS Go.Proofs.YtmffocankommaaaDoorS _root_.Go.Proofs.Tryd
attribute [local go_sem] q1X q2F q2H q3c q3b q2u q2t q2E q2G
set_option linter.unusedVariables false
set_option linter.unusedSimpArgs false
set_option maxHeartbeats 8000000
set_option maxRecDepth 100000
mutual
def q1Q.l0:Nat → List (S86) → Int → Int → q0a → List (S86) → List (S88) → List (List q0a) → Int → q0a → Int → List (S25) → q0a → List (S86) → List (S88) → Int → q0a → Int → List (S25) → Option (q0a × (List (S86)) × (List (S88)) × (List (List q0a)) × Int × q0a × Int × (List (S25)))
 | 0,_,_,_,_,_,_,_,_,_,_,_,_,_,_,_,_,_,_=>none
 | k + 1,aA,aC,aD,aE,aG,aH,aI,aJ,aK,aM,aQ,aT,aU,aW,aX,aY,aZ,bA=>if aD < aC then (if 0≤aD then (if aD < (aA.length:Int) then ((q2b.f k ((q1e aA aD).f1.f0) ((q1e aA aD).f1.f1) ((q1e aA aD).f1.f2) ((q1e aA aD).f1.f3)).bind fun bB=>(if aU.length < 1954687338268 then (q1Q.l0 k aA aC (wrap64 (aD + 1)) aE aG aH aI aJ aK aM aQ aT (aU++[(⟨(q1e aA aD).f0,(⟨bB.1,bB.2.1,bB.2.2.1,bB.2.2.2⟩:S25)⟩:S86)]) aW aX aY aZ bA) else (none))) else (none)) else (none)) else (q1Q.l1 k aI (aI.length:Int) 0 aT aU aW ([]:List (List q0a)) aX aY aZ bA)
def q1Q.l1:Nat → List (List q0a) → Int → Int → q0a → List (S86) → List (S88) → List (List q0a) → Int → q0a → Int → List (S25) → Option (q0a × (List (S86)) × (List (S88)) × (List (List q0a)) × Int × q0a × Int × (List (S25)))
 | 0,_,_,_,_,_,_,_,_,_,_,_=>none
 | k + 1,aA,aC,aD,aE,aG,aH,aI,aJ,aK,aM,aQ=>if aD < aC then (if 0≤aD then (if aD < (aA.length:Int) then ((q5e.f (q2M aA aD)).bind fun aT=>(if aI.length < 5864062014805 then (q1Q.l1 k aA aC (wrap64 (aD + 1)) aE aG aH (aI++[aT]) aJ aK aM aQ) else (none))) else (none)) else (none)) else (some (aE,aG,aH,aI,aJ,aK,aM,aQ))
end
def q1Q.f (k:Nat) (aA:q0a) (aC:List (S86)) (aD:List (S88)) (aE:List (List q0a)) (aG:Int) (aH:q0a) (aI:Int) (aJ:List (S25)):Option (q0a × (List (S86)) × (List (S88)) × (List (List q0a)) × Int × q0a × Int × (List (S25))):=(q9m.f aD).bind fun aK=>((q2b.f k aG aH aI aJ).bind fun aM=>(q1Q.l0 k aC (aC.length:Int) 0 aA aC aD aE aG aH aI aJ aA ([]:List (S86)) aK aM.1 aM.2.1 aM.2.2.1 aM.2.2.2))
theorem q1Q.mono_l:∀ k,(∀ y0 y1 y2 y3 y4 y5 y6 y7 y8 y9 aA aC aD aE aG aH aI aJ,LeO (q1Q.l0 k y0 y1 y2 y3 y4 y5 y6 y7 y8 y9 aA aC aD aE aG aH aI aJ) (q1Q.l0 (k + 1) y0 y1 y2 y3 y4 y5 y6 y7 y8 y9 aA aC aD aE aG aH aI aJ))∧(∀ y0 y1 y2 y3 y4 y5 y6 y7 y8 y9 aA,LeO (q1Q.l1 k y0 y1 y2 y3 y4 y5 y6 y7 y8 y9 aA) (q1Q.l1 (k + 1) y0 y1 y2 y3 y4 y5 y6 y7 y8 y9 aA))
 | 0=>⟨fun _ _ _ _ _ _ _ _ _ _ _ _ _ _ _ _ _ _ r h=>by simp [q1Q.l0] at h,fun _ _ _ _ _ _ _ _ _ _ _ r h=>by simp [q1Q.l1] at h⟩
 | k + 1=>by
  obtain ⟨aK,aM⟩:=q1Q.mono_l k;refine ⟨?_,?_⟩
  ·intro y0 y1 y2 y3 y4 y5 y6 y7 y8 y9 aA aC aD aE aG aH aI aJ;unfold q1Q.l0;exact X124
  ·intro y0 y1 y2 y3 y4 y5 y6 y7 y8 y9 aA;unfold q1Q.l1;exact X124
theorem q1Q.mono:∀ a0 a1 a2 a3 a4 a5 a6 a7 k,LeO (q1Q.f k a0 a1 a2 a3 a4 a5 a6 a7) (q1Q.f (k + 1) a0 a1 a2 a3 a4 a5 a6 a7):=by
 intro a0 a1 a2 a3 a4 a5 a6 a7 k;obtain ⟨aA,aC⟩:=q1Q.mono_l k;unfold q1Q.f;exact (by repeat' (with_reducible first | apply aA | apply aC | apply q2b.mono | exact LeO.refl _ | exact LeO.none _ | refine LeO.ite ?_ ?_ | refine LeO.bind ?_ (fun _=>?_)))
mutual
def q1n.l0:Nat → Int → Int → Int → q0a → Int → List (S25) → Option (Int)
 | 0,_,_,_,_,_,_=>none
 | k + 1,x3,x4,aA,aC,aD,aE=>if x4 < (aE.length:Int) then (if 0≤x4 then ((q1n.f k ((q0A aE x4).f0) ((q0A aE x4).f1) ((q0A aE x4).f2) ((q0A aE x4).f3)).bind fun aG=>(q1n.l0 k (wrap64 (x3 + aG)) (wrap64 (x4 + 1)) aA aC aD aE)) else (none)) else (some x3)
def q1n.f:Nat → Int → q0a → Int → List (S25) → Option (Int)
 | 0,_,_,_,_=>none
 | k + 1,aA,aC,aD,aE=>q1n.l0 k 1 0 aA aC aD aE
end
theorem q1n.mono_l:∀ k,(∀ y0 y1 y2 y3,LeO (q1n.f k y0 y1 y2 y3) (q1n.f (k + 1) y0 y1 y2 y3))∧(∀ y0 y1 y2 y3 y4 y5,LeO (q1n.l0 k y0 y1 y2 y3 y4 y5) (q1n.l0 (k + 1) y0 y1 y2 y3 y4 y5))
 | 0=>⟨fun _ _ _ _ r h=>by simp [q1n.f] at h,fun _ _ _ _ _ _ r h=>by simp [q1n.l0] at h⟩
 | k + 1=>by
  obtain ⟨aA,aC⟩:=q1n.mono_l k;refine ⟨?_,?_⟩
  ·intro y0 y1 y2 y3;unfold q1n.f;exact X68
  ·intro y0 y1 y2 y3 y4 y5;unfold q1n.l0;exact X68
theorem q1n.mono:∀ a0 a1 a2 a3 k,LeO (q1n.f k a0 a1 a2 a3) (q1n.f (k + 1) a0 a1 a2 a3):=by
 intro a0 a1 a2 a3 k;obtain ⟨aA,ih1⟩:=q1n.mono_l k;exact aA a0 a1 a2 a3
theorem q1n.calls (k:Nat):∀ (aA:Int) (aC:q0a) (aD:Int) (aE:Option Addr) (aG:Nat) (aH:List (S25)) (r:Int) (w:World) (aI:Kd.C k25 w aE aH.length aH) (aJ:aH.length≤aG) (h:q1n.f k aA aC aD aH = some r),
  Calls prog 69 #[.agg #[iv aA,.string aC,iv aD,sl aE aH aG]] w fun e w'=>e = .returned (iv r)∧Below w.heap.size w w':=by
 induction k using Nat.strongRecOn with
 | _ k ih=>
 intro aA aC aD aE aG aH r w aI aJ h;cases k with
 | zero=>exact absurd h (by simp [q1n.f])
 | succ k=>
 simp only [q1n.f] at h;have hu25:=underlying25;have aK:=am aI;have HC0_3:=am aJ;clear aI aJ;have HB:=am (q0i w.heap.size w);have H:(q1n.l0 k 1 0 aA aC aD aH) = some r:=h;clear h;have H':=am H;clear H;go_enter func69,ntmps69;go_wp2_with (first|((with_reducible refine gd 1 ?_);refine be 1 #[iv aA,.string aC,iv aD,sl aE aH aG] 25 ?_;intro aM hg w2 hbox hb;have aQ:=am (hbox);have GW805:=sG (w:=w) hg X6;have aT:=sG (w:=w) hg X6;replace HB:=bS X6 hb;clear hb hbox hg))
 go_loopg [3,4] k (fun kq v3 v4 w'=>∃ (aU:Int) (aW:Int),v3 = iv aU∧v4 = iv aW∧q0j (q1n.l0 kq aU aW aA aC aD aH = some r)∧q0j (kq≤k)∧q0j (w'.heap[aM]? = some (.cells #[iv aA,.string aC,iv aD,(sl aE aH aG)] 25 (0,0)))∧q0j (Below w.heap.size w w'))
 case atStart=>exact ⟨(1),(0),X7,X7,H',⟨q0f _⟩,⟨(X9 aQ)⟩,⟨(X10 HB aT)⟩⟩
 case round=>
  clear H';(try clear p2);obtain ⟨aU,aW,rfl,rfl,HA,aX,aQ,HB⟩:=hrel;cases gk with
  | zero=>exact absurd HA.out (by simp [q1n.l0])
  | succ k1=>
   have H:=HA.out;clear HA;simp only [q1n.l0] at H;by_cases c3:aW < (aH.length:Int)
   ·rw [if_pos c3] at H;have c3b0:=dT c3;clear c3;by_cases c4:0≤aW
    ·rw [if_pos c4] at H;have c4b0:=dT c4;clear c4;obtain ⟨aY,A5,H⟩:=oA H;(try dsimp only at H);have H':=am H;clear H;have Z6:=bc4 aQ;have bA:0≤(aW:Int):=q0b X12;have bB:aW < (aH.length:Int):=q0b X12;obtain ⟨ad806,bC,bD,e806,bE,bF,bG,bH,bI,bJ⟩:=q4w aK.out aW bA bB;cases e806;replace bE:=cB HB bE;replace bF:=cB HB bF;replace bG:=cB HB bG;replace bH:=cB HB bH;have bK:=am bJ;have bL:=am bI;clear bJ bI;replace bA:=q0c bA;replace bB:=q0c bB;go_wp2_with (first|((with_reducible refine gc 69 ?_);refine gL (some 18) func69 #[.agg #[iv ((q0A aH aW).f0),.string ((q0A aH aW).f1),iv ((q0A aH aW).f2),sl bC ((q0A aH aW).f3) bD]] ?_;(with_reducible refine (ih k1 X112 ((q0A aH aW).f0) ((q0A aH aW).f1) ((q0A aH aW).f2) _ _ ((q0A aH aW).f3) aY _ ?side1 ?side2 A5.out).mono ?_);(case side1=>exact (X15 bK HB));(case side2=>exact bL.out);rintro e w7 ⟨rfl,hb⟩;refine ⟨_,rfl,?_⟩;replace aQ:=kB aQ hb;replace HB:=bS (X10 HB aT) hb;clear hb))
     go_roundg k1
     case measure=>have:=aX.out;omega
     case rel=>exact ⟨(wrap64 (aU + aY)),(wrap64 (aW + 1)),X7,X7,H',⟨X112⟩,⟨(X9 aQ)⟩,⟨(X10 HB aT)⟩⟩
    ·exact iN c4 H
   ·rw [if_neg c3] at H;have c3b0:=dF c3;clear c3;obtain rfl:=q0d H;have Z8:=bc4 aQ;go_wp2
    go_ret
    exact ⟨X11,(X10 HB aT)⟩

def q4t.f (a0:Int):Option (Bool):=if a0≥97 then (some (decide (a0≤122))) else (some false)
def q4P.f (a0:Int):Option (Bool):=if a0≥48 then (some (decide (a0≤57))) else (some false)
mutual
def q1r.j0:Nat → q0a → Bool → Option (Int)
 | 0,_,_=>none
 | k + 1,x0,aA=>if aA = true then (some 0) else (q1r.l0 k x0 1)
def q1r.l0:Nat → q0a → Int → Option (Int)
 | 0,_,_=>none
 | k + 1,x0,x3=>if x3 < (x0.size:Int) then (if 0≤x3 then ((q4t.f (bt x0 x3)).bind fun aA=>(if aA = true then (q1r.j2 k x0 x3 true) else ((q4P.f (bt x0 x3)).bind fun aC=>(q1r.j2 k x0 x3 aC)))) else (none)) else (some x3)
def q1r.j2:Nat → q0a → Int → Bool → Option (Int)
 | 0,_,_,_=>none
 | k + 1,x0,x3,aA=>if aA = true then (q1r.l0 k x0 (wrap64 (x3 + 1))) else (if 0≤x3 then (if x3 < (x0.size:Int) then (if (bt x0 x3) = 45 then (if (wrap64 (x3 + 1)) = (x0.size:Int) then (some x3) else (if 0≤(wrap64 (x3 + 1)) then (if (wrap64 (x3 + 1)) < (x0.size:Int) then ((q4t.f (bt x0 (wrap64 (x3 + 1)))).bind fun aC=>(if aC = true then (q1r.l0 k x0 (wrap64 (x3 + 2))) else ((q4P.f (bt x0 (wrap64 (x3 + 1)))).bind fun aD=>(if aD = true then (q1r.l0 k x0 (wrap64 (x3 + 2))) else (some x3))))) else (none)) else (none))) else (some x3)) else (none)) else (none))
end
def q1r.f (k:Nat) (a0:q0a):Option (Int):=if a0.toList = ([]:List UInt8) then (q1r.j0 k a0 true) else (if 0 < (a0.size:Int) then ((q4t.f (bt a0 0)).bind fun aA=>(q1r.j0 k a0 (!aA))) else (none))
theorem q1r.mono_l:∀ k,(∀ y0 y1,LeO (q1r.j0 k y0 y1) (q1r.j0 (k + 1) y0 y1))∧(∀ y0 y1,LeO (q1r.l0 k y0 y1) (q1r.l0 (k + 1) y0 y1))∧(∀ y0 y1 y2,LeO (q1r.j2 k y0 y1 y2) (q1r.j2 (k + 1) y0 y1 y2))
 | 0=>⟨fun _ _ r h=>by simp [q1r.j0] at h,fun _ _ r h=>by simp [q1r.l0] at h,fun _ _ _ r h=>by simp [q1r.j2] at h⟩
 | k + 1=>by
  obtain ⟨aA,aC,aD⟩:=q1r.mono_l k;refine ⟨?_,?_,?_⟩
  ·intro y0 y1;unfold q1r.j0;exact X138
  ·intro y0 y1;unfold q1r.l0;exact X138
  ·intro y0 y1 y2;unfold q1r.j2;exact X138
theorem q1r.mono:∀ a0 k,LeO (q1r.f k a0) (q1r.f (k + 1) a0):=by
 intro a0 k;obtain ⟨aA,aC,aD⟩:=q1r.mono_l k;unfold q1r.f;exact X138
def q3a.f (k:Nat) (a0:q0a):Option (Bool):=if a0.toList = ([]:List UInt8) then (some false) else (if (a0.size:Int)≤20 then ((q1r.f k a0).bind fun aA=>(some (aA == (a0.size:Int)))) else (some false))
theorem q3a.mono:∀ a0 k,LeO (q3a.f k a0) (q3a.f (k + 1) a0):=by
 intro a0 k;unfold q3a.f;exact (by repeat' (with_reducible first | exact q1r.mono _ _ | exact LeO.refl _ | exact LeO.none _ | refine LeO.ite ?_ ?_ | refine LeO.bind ?_ (fun _=>?_)))
def q2W.f (k:Nat) (a0:q0a):Option (Bool):=(q3a.f k a0).bind fun aA=>(if aA = true then (if a0.toList = ([117]:List UInt8) then (some false) else (some (a0.toList != ([120]:List UInt8)))) else (some false))
theorem q2W.mono:∀ a0 k,LeO (q2W.f k a0) (q2W.f (k + 1) a0):=by
 intro a0 k;unfold q2W.f;exact (by repeat' (with_reducible first | exact q3a.mono _ _ | exact LeO.refl _ | exact LeO.none _ | refine LeO.ite ?_ ?_ | refine LeO.bind ?_ (fun _=>?_)))
mutual
def q0U.j0:Nat → Bool → Int → q0a → Int → List (S25) → Option (Bool)
 | 0,_,_,_,_,_=>none
 | k + 1,x3,aA,aC,aD,aE=>if aA < 1 then (q0U.j1 k true aA aC aD aE) else (if aA > 12 then (q0U.j1 k true aA aC aD aE) else (if x3 = true then (if aA = 7 then (q0U.j1 k false aA aC aD aE) else (q0U.j1 k (aD != 0) aA aC aD aE)) else (if aC.toList = ([]:List UInt8) then (if aA = 7 then (q0U.j1 k false aA aC aD aE) else (q0U.j1 k (aD != 0) aA aC aD aE)) else (q0U.j1 k true aA aC aD aE))))
def q0U.j1:Nat → Bool → Int → q0a → Int → List (S25) → Option (Bool)
 | 0,_,_,_,_,_=>none
 | k + 1,aA,aC,aD,aE,aG=>if aA = true then (some false) else (if aC = 5 then (q0U.l0 k 0 aC aD aE aG) else (if aC = 6 then (some (decide ((aG.length:Int)≥2))) else (if aC = 7 then (some ((aG.length:Int) == 1)) else (if aC = 8 then (some ((aG.length:Int) == 1)) else (if aC = 12 then (some ((aG.length:Int) == 1)) else (some ((aG.length:Int) == 0)))))))
def q0U.l0:Nat → Int → Int → q0a → Int → List (S25) → Option (Bool)
 | 0,_,_,_,_,_=>none
 | k + 1,x4,aA,aC,aD,aE=>if x4 < (aE.length:Int) then (if 0≤x4 then (if ((q0A aE x4).f0) = 5 then (some false) else (q0U.l0 k (wrap64 (x4 + 1)) aA aC aD aE)) else (none)) else (some ((aE.length:Int) != 1))
end
def q0U.f (k:Nat) (aA:Int) (aC:q0a) (aD:Int) (aE:List (S25)):Option (Bool):=if aA = 4 then (q0U.j0 k true aA aC aD aE) else (if aA = 11 then (q0U.j0 k true aA aC aD aE) else (q0U.j0 k (aA == 12) aA aC aD aE))
theorem q0U.mono_l:∀ k,(∀ y0 y1 y2 y3 y4,LeO (q0U.j0 k y0 y1 y2 y3 y4) (q0U.j0 (k + 1) y0 y1 y2 y3 y4))∧(∀ y0 y1 y2 y3 y4,LeO (q0U.j1 k y0 y1 y2 y3 y4) (q0U.j1 (k + 1) y0 y1 y2 y3 y4))∧(∀ y0 y1 y2 y3 y4,LeO (q0U.l0 k y0 y1 y2 y3 y4) (q0U.l0 (k + 1) y0 y1 y2 y3 y4))
 | 0=>⟨fun _ _ _ _ _ r h=>by simp [q0U.j0] at h,fun _ _ _ _ _ r h=>by simp [q0U.j1] at h,fun _ _ _ _ _ r h=>by simp [q0U.l0] at h⟩
 | k + 1=>by
  obtain ⟨aA,aC,aD⟩:=q0U.mono_l k;refine ⟨?_,?_,?_⟩
  ·intro y0 y1 y2 y3 y4;unfold q0U.j0;exact X90
  ·intro y0 y1 y2 y3 y4;unfold q0U.j1;exact X90
  ·intro y0 y1 y2 y3 y4;unfold q0U.l0;exact X90
theorem q0U.mono:∀ a0 a1 a2 a3 k,LeO (q0U.f k a0 a1 a2 a3) (q0U.f (k + 1) a0 a1 a2 a3):=by
 intro a0 a1 a2 a3 k;obtain ⟨aA,aC,aD⟩:=q0U.mono_l k;unfold q0U.f;exact X90
mutual
def q0O.j0:Nat → Int → Bool → Int → q0a → Int → List (S25) → Option (Int)
 | 0,_,_,_,_,_,_=>none
 | k + 1,x1,aA,aC,aD,aE,aG=>if aA = true then (some 2) else (if aE < 0 then (q0O.j1 k x1 true aC aD aE aG) else (q0O.j1 k x1 (decide (aE > 9)) aC aD aE aG))
def q0O.j1:Nat → Int → Bool → Int → q0a → Int → List (S25) → Option (Int)
 | 0,_,_,_,_,_,_=>none
 | k + 1,x1,aA,aC,aD,aE,aG=>if aA = true then (some 6) else (q0O.l0 k x1 0 aC aD aE aG)
def q0O.l0:Nat → Int → Int → Int → q0a → Int → List (S25) → Option (Int)
 | 0,_,_,_,_,_,_=>none
 | k + 1,x1,x5,aA,aC,aD,aE=>if x5 < (aE.length:Int) then (if 0≤x5 then ((q0O.f k ((q0A aE x5).f0) ((q0A aE x5).f1) ((q0A aE x5).f2) ((q0A aE x5).f3) (wrap64 (x1 + 1))).bind fun aG=>(if aG = 0 then (q0O.l0 k x1 (wrap64 (x5 + 1)) aA aC aD aE) else (some aG))) else (none)) else (some 0)
def q0O.f:Nat → Int → q0a → Int → List (S25) → Int → Option (Int)
 | 0,_,_,_,_,_=>none
 | k + 1,aA,aC,aD,aE,a1=>if a1 > 12 then (some 3) else ((q0U.f k aA aC aD aE).bind fun aG=>(if aG = true then (if aA = 4 then ((q2W.f k aC).bind fun aH=>(q0O.j0 k a1 (!aH) aA aC aD aE)) else (if aA = 11 then ((q2W.f k aC).bind fun aI=>(q0O.j0 k a1 (!aI) aA aC aD aE)) else (if aA = 12 then ((q2W.f k aC).bind fun aJ=>(q0O.j0 k a1 (!aJ) aA aC aD aE)) else (q0O.j0 k a1 false aA aC aD aE)))) else (some 1)))
end
theorem q0O.mono_l:∀ k,(∀ y0 y1 y2 y3 y4,LeO (q0O.f k y0 y1 y2 y3 y4) (q0O.f (k + 1) y0 y1 y2 y3 y4))∧(∀ y0 y1 y2 y3 y4 y5,LeO (q0O.j0 k y0 y1 y2 y3 y4 y5) (q0O.j0 (k + 1) y0 y1 y2 y3 y4 y5))∧(∀ y0 y1 y2 y3 y4 y5,LeO (q0O.j1 k y0 y1 y2 y3 y4 y5) (q0O.j1 (k + 1) y0 y1 y2 y3 y4 y5))∧(∀ y0 y1 y2 y3 y4 y5,LeO (q0O.l0 k y0 y1 y2 y3 y4 y5) (q0O.l0 (k + 1) y0 y1 y2 y3 y4 y5))
 | 0=>⟨fun _ _ _ _ _ r h=>by simp [q0O.f] at h,fun _ _ _ _ _ _ r h=>by simp [q0O.j0] at h,fun _ _ _ _ _ _ r h=>by simp [q0O.j1] at h,fun _ _ _ _ _ _ r h=>by simp [q0O.l0] at h⟩
 | k + 1=>by
  obtain ⟨aA,aC,aD,aE⟩:=q0O.mono_l k;refine ⟨?_,?_,?_,?_⟩
  ·intro y0 y1 y2 y3 y4;unfold q0O.f;exact X141
  ·intro y0 y1 y2 y3 y4 y5;unfold q0O.j0;exact X141
  ·intro y0 y1 y2 y3 y4 y5;unfold q0O.j1;exact X141
  ·intro y0 y1 y2 y3 y4 y5;unfold q0O.l0;exact X141
theorem q0O.mono:∀ a0 a1 a2 a3 a4 k,LeO (q0O.f k a0 a1 a2 a3 a4) (q0O.f (k + 1) a0 a1 a2 a3 a4):=by
 intro a0 a1 a2 a3 a4 k;obtain ⟨aA,ih1,ih2,ih3⟩:=q0O.mono_l k;exact aA a0 a1 a2 a3 a4
def q3p.f (k:Nat) (aA:Int) (aC:q0a) (aD:Int) (aE:List (S25)):Option (Int):=(q0O.f k aA aC aD aE 1).bind fun aG=>(if aG = 0 then ((q1n.f k aA aC aD aE).bind fun aH=>(if aH > 200 then (some 3) else (some 0))) else (some aG))
theorem q3p.mono:∀ a0 a1 a2 a3 k,LeO (q3p.f k a0 a1 a2 a3) (q3p.f (k + 1) a0 a1 a2 a3):=by
 intro a0 a1 a2 a3 k;unfold q3p.f;exact (by repeat' (with_reducible first | apply q1n.mono | apply q0O.mono | exact LeO.refl _ | exact LeO.none _ | refine LeO.ite ?_ ?_ | refine LeO.bind ?_ (fun _=>?_)))
mutual
def q0t.j0:Nat → Bool → q0a → List (S86) → List (S88) → List (List q0a) → Int → q0a → Int → List (S25) → Option (Int)
 | 0,_,_,_,_,_,_,_,_,_=>none
 | k + 1,aA,aC,aD,aE,aG,aH,aI,aJ,aK=>if aA = true then (some 3) else (q0t.l0 k 0 0 aC aD aE aG aH aI aJ aK)
def q0t.l0:Nat → Int → Int → q0a → List (S86) → List (S88) → List (List q0a) → Int → q0a → Int → List (S25) → Option (Int)
 | 0,_,_,_,_,_,_,_,_,_,_=>none
 | k + 1,x3,x4,aA,aC,aD,aE,aG,aH,aI,aJ=>if x4 < (aC.length:Int) then (if 0≤x4 then ((q2W.f k ((q1e aC x4).f0)).bind fun aK=>(if aK = true then ((q3p.f k ((q1e aC x4).f1.f0) ((q1e aC x4).f1.f1) ((q1e aC x4).f1.f2) ((q1e aC x4).f1.f3)).bind fun aM=>(if aM = 0 then ((q1n.f k ((q1e aC x4).f1.f0) ((q1e aC x4).f1.f1) ((q1e aC x4).f1.f2) ((q1e aC x4).f1.f3)).bind fun aQ=>(q0t.l0 k (wrap64 (x3 + aQ)) (wrap64 (x4 + 1)) aA aC aD aE aG aH aI aJ)) else (some aM))) else (some 2))) else (none)) else (q0t.l1 k x3 0 aA aC aD aE aG aH aI aJ)
def q0t.l1:Nat → Int → Int → q0a → List (S86) → List (S88) → List (List q0a) → Int → q0a → Int → List (S25) → Option (Int)
 | 0,_,_,_,_,_,_,_,_,_,_=>none
 | k + 1,x3,x6,aA,aC,aD,aE,aG,aH,aI,aJ=>if x6 < (aD.length:Int) then (if 0≤x6 then ((q2W.f k ((q2p aD x6).f0)).bind fun aK=>(if aK = true then (if ((q2p aD x6).f1) < 0 then (some 6) else (if ((q2p aD x6).f2) < ((q2p aD x6).f1) then (some 6) else (if ((q2p aD x6).f2) > 6 then (some 6) else (q0t.l1 k x3 (wrap64 (x6 + 1)) aA aC aD aE aG aH aI aJ)))) else (some 2))) else (none)) else (q0t.l2 k x3 0 aA aC aD aE aG aH aI aJ)
def q0t.l2:Nat → Int → Int → q0a → List (S86) → List (S88) → List (List q0a) → Int → q0a → Int → List (S25) → Option (Int)
 | 0,_,_,_,_,_,_,_,_,_,_=>none
 | k + 1,x3,x8,aA,aC,aD,aE,aG,aH,aI,aJ=>if x8 < (aE.length:Int) then (if 0≤x8 then (if ((q2M aE x8).length:Int) = 0 then (some 7) else (if ((q2M aE x8).length:Int) > 6 then (some 3) else (q0t.l3 k x3 x8 0 aA aC aD aE aG aH aI aJ))) else (none)) else ((q3p.f k aG aH aI aJ).bind fun aK=>(if aK = 0 then ((q1n.f k aG aH aI aJ).bind fun aM=>(if (wrap64 (x3 + aM)) > 200 then (some 3) else (some 0))) else (some aK)))
def q0t.l3:Nat → Int → Int → Int → q0a → List (S86) → List (S88) → List (List q0a) → Int → q0a → Int → List (S25) → Option (Int)
 | 0,_,_,_,_,_,_,_,_,_,_,_=>none
 | k + 1,x3,x8,x9,aA,aC,aD,aE,aG,aH,aI,aJ=>if 0≤x8 then (if x8 < (aE.length:Int) then (if x9 < ((q2M aE x8).length:Int) then (if 0≤x9 then ((q2W.f k (rdOf ByteArray.empty (q2M aE x8) x9)).bind fun aK=>(if aK = true then (q0t.l3 k x3 x8 (wrap64 (x9 + 1)) aA aC aD aE aG aH aI aJ) else (some 2))) else (none)) else (q0t.l2 k x3 (wrap64 (x8 + 1)) aA aC aD aE aG aH aI aJ)) else (none)) else (none)
end
def q0t.f (k:Nat) (aA:q0a) (aC:List (S86)) (aD:List (S88)) (aE:List (List q0a)) (aG:Int) (aH:q0a) (aI:Int) (aJ:List (S25)):Option (Int):=(q3a.f k aA).bind fun aK=>(if aK = true then (if (aC.length:Int) > 20 then (q0t.j0 k true aA aC aD aE aG aH aI aJ) else (if (aD.length:Int) > 3 then (q0t.j0 k true aA aC aD aE aG aH aI aJ) else (q0t.j0 k (decide ((aE.length:Int) > 3)) aA aC aD aE aG aH aI aJ))) else (some 2))
theorem q0t.mono_l:∀ k,(∀ y0 y1 y2 y3 y4 y5 y6 y7 y8,LeO (q0t.j0 k y0 y1 y2 y3 y4 y5 y6 y7 y8) (q0t.j0 (k + 1) y0 y1 y2 y3 y4 y5 y6 y7 y8))∧(∀ y0 y1 y2 y3 y4 y5 y6 y7 y8 y9,LeO (q0t.l0 k y0 y1 y2 y3 y4 y5 y6 y7 y8 y9) (q0t.l0 (k + 1) y0 y1 y2 y3 y4 y5 y6 y7 y8 y9))∧(∀ y0 y1 y2 y3 y4 y5 y6 y7 y8 y9,LeO (q0t.l1 k y0 y1 y2 y3 y4 y5 y6 y7 y8 y9) (q0t.l1 (k + 1) y0 y1 y2 y3 y4 y5 y6 y7 y8 y9))∧(∀ y0 y1 y2 y3 y4 y5 y6 y7 y8 y9,LeO (q0t.l2 k y0 y1 y2 y3 y4 y5 y6 y7 y8 y9) (q0t.l2 (k + 1) y0 y1 y2 y3 y4 y5 y6 y7 y8 y9))∧(∀ y0 y1 y2 y3 y4 y5 y6 y7 y8 y9 aA,LeO (q0t.l3 k y0 y1 y2 y3 y4 y5 y6 y7 y8 y9 aA) (q0t.l3 (k + 1) y0 y1 y2 y3 y4 y5 y6 y7 y8 y9 aA))
 | 0=>⟨fun _ _ _ _ _ _ _ _ _ r h=>by simp [q0t.j0] at h,fun _ _ _ _ _ _ _ _ _ _ r h=>by simp [q0t.l0] at h,fun _ _ _ _ _ _ _ _ _ _ r h=>by simp [q0t.l1] at h,fun _ _ _ _ _ _ _ _ _ _ r h=>by simp [q0t.l2] at h,fun _ _ _ _ _ _ _ _ _ _ _ r h=>by simp [q0t.l3] at h⟩
 | k + 1=>by
  obtain ⟨aC,aD,aE,aG,aH⟩:=q0t.mono_l k;refine ⟨?_,?_,?_,?_,?_⟩
  ·intro y0 y1 y2 y3 y4 y5 y6 y7 y8;unfold q0t.j0;exact X146
  ·intro y0 y1 y2 y3 y4 y5 y6 y7 y8 y9;unfold q0t.l0;exact X146
  ·intro y0 y1 y2 y3 y4 y5 y6 y7 y8 y9;unfold q0t.l1;exact X146
  ·intro y0 y1 y2 y3 y4 y5 y6 y7 y8 y9;unfold q0t.l2;exact X146
  ·intro y0 y1 y2 y3 y4 y5 y6 y7 y8 y9 aA;unfold q0t.l3;exact X146
theorem q0t.mono:∀ a0 a1 a2 a3 a4 a5 a6 a7 k,LeO (q0t.f k a0 a1 a2 a3 a4 a5 a6 a7) (q0t.f (k + 1) a0 a1 a2 a3 a4 a5 a6 a7):=by
 intro a0 a1 a2 a3 a4 a5 a6 a7 k;obtain ⟨aA,aC,aD,aE,aG⟩:=q0t.mono_l k;unfold q0t.f;exact (by repeat' (with_reducible first | apply aA | apply aC | apply aD | apply aE | apply aG | exact q3a.mono _ _ | exact q2W.mono _ _ | apply q3p.mono | apply q1n.mono | exact LeO.refl _ | exact LeO.none _ | refine LeO.ite ?_ ?_ | refine LeO.bind ?_ (fun _=>?_)))
def q1S.l0:Nat → List q0a → q0a → Int → Option (q0a)
 | 0,_,_,_=>none
 | k + 1,x0,x3,x4=>if x4 < (x0.length:Int) then (if x4 > 0 then (if x3.size + 1≤9223372036854775807 then (if 0≤x4 then (if (x3++(⟨#[32]⟩:q0a)).size + (rdOf ByteArray.empty x0 x4).size≤9223372036854775807 then (q1S.l0 k x0 ((x3++(⟨#[32]⟩:q0a))++(rdOf ByteArray.empty x0 x4)) (wrap64 (x4 + 1))) else (none)) else (none)) else (none)) else (if 0≤x4 then (if x3.size + (rdOf ByteArray.empty x0 x4).size≤9223372036854775807 then (q1S.l0 k x0 (x3++(rdOf ByteArray.empty x0 x4)) (wrap64 (x4 + 1))) else (none)) else (none))) else (some x3)
def q1S.f (k:Nat) (l0:List q0a):Option (q0a):=q1S.l0 k l0 (⟨#[]⟩:q0a) 0
theorem q1S.mono_l:∀ k,(∀ y0 y1 y2,LeO (q1S.l0 k y0 y1 y2) (q1S.l0 (k + 1) y0 y1 y2))
 | 0=>fun _ _ _ r h=>by simp [q1S.l0] at h
 | k + 1=>by
  have aA:=q1S.mono_l k
  ·intro y0 y1 y2;unfold q1S.l0;exact X96
theorem q1S.mono:∀ a0 k,LeO (q1S.f k a0) (q1S.f (k + 1) a0):=by
 intro a0 k;have aA:=q1S.mono_l k;unfold q1S.f;exact X96
def q3o.f (k:Nat) (l0:List q0a):Option (q0a):=(q1S.f k l0).bind fun aA=>(if 2 + aA.size≤9223372036854775807 then (if ((⟨#[32,32]⟩:q0a)++aA).size + 3≤9223372036854775807 then (some (((⟨#[32,32]⟩:q0a)++aA)++(⟨#[32,59,10]⟩:q0a))) else (none)) else (none))
theorem q3o.mono:∀ a0 k,LeO (q3o.f k a0) (q3o.f (k + 1) a0):=by
 intro a0 k;unfold q3o.f;exact (by repeat' (with_reducible first | exact q1S.mono _ _ | exact LeO.refl _ | exact LeO.none _ | refine LeO.ite ?_ ?_ | refine LeO.bind ?_ (fun _=>?_)))
def q3z.f (a0:Int):Option (q0a):=if a0 = 1 then (some (⟨#[117]⟩:q0a)) else (if a0 = 2 then (some (⟨#[45]⟩:q0a)) else (if a0 = 3 then (some (⟨#[120]⟩:q0a)) else (if a0 = 9 then (some (⟨#[58]⟩:q0a)) else (if a0 = 10 then (some (⟨#[126]⟩:q0a)) else (some (⟨#[]⟩:q0a))))))
mutual
def q0E.l0:Nat → List q0a → Int → Int → q0a → Int → List (S25) → Option (List q0a)
 | 0,_,_,_,_,_,_=>none
 | k + 1,x4,x5,aA,aC,aD,aE=>if x5 < (aE.length:Int) then (if 0≤x5 then ((q0E.f k ((q0A aE x5).f0) ((q0A aE x5).f1) ((q0A aE x5).f2) ((q0A aE x5).f3)).bind fun aG=>(if x4.length + aG.length < 8796093022208 then (q0E.l0 k (x4++aG) (wrap64 (x5 + 1)) aA aC aD aE) else (none))) else (none)) else (some x4)
def q0E.l1:Nat → List q0a → Int → Int → q0a → Int → List (S25) → Option (List q0a)
 | 0,_,_,_,_,_,_=>none
 | k + 1,x4,x6,aA,aC,aD,aE=>if x6 < (aE.length:Int) then (if x6 = 0 then ((some (([(⟨#[40]⟩:q0a)]:List q0a):List q0a)).bind fun aG=>(if x4.length + aG.length < 8796093022208 then ((some (x4++aG:List q0a)).bind fun aH=>(if 0≤x6 then ((q0E.f k ((q0A aE x6).f0) ((q0A aE x6).f1) ((q0A aE x6).f2) ((q0A aE x6).f3)).bind fun aI=>(if aH.length + aI.length < 8796093022208 then (q0E.l1 k (aH++aI) (wrap64 (x6 + 1)) aA aC aD aE) else (none))) else (none))) else (none))) else ((some (([(⟨#[47]⟩:q0a)]:List q0a):List q0a)).bind fun aJ=>(if x4.length + aJ.length < 8796093022208 then ((some (x4++aJ:List q0a)).bind fun aK=>(if 0≤x6 then ((q0E.f k ((q0A aE x6).f0) ((q0A aE x6).f1) ((q0A aE x6).f2) ((q0A aE x6).f3)).bind fun aM=>(if aK.length + aM.length < 8796093022208 then (q0E.l1 k (aK++aM) (wrap64 (x6 + 1)) aA aC aD aE) else (none))) else (none))) else (none)))) else ((some (([(⟨#[41]⟩:q0a)]:List q0a):List q0a)).bind fun aQ=>(if x4.length + aQ.length < 8796093022208 then (some (x4++aQ)) else (none)))
def q0E.f:Nat → Int → q0a → Int → List (S25) → Option (List q0a)
 | 0,_,_,_,_=>none
 | k + 1,aA,aC,aD,aE=>(q3z.f aA).bind fun aG=>(if aG.toList = ([]:List UInt8) then (if aA = 4 then (some (([aC]:List q0a))) else (if aA = 11 then (some (([(⟨#[64]⟩:q0a),aC]:List q0a))) else (if aA = 5 then (q0E.l0 k ([]:List q0a) 0 aA aC aD aE) else (if aA = 6 then (q0E.l1 k ([]:List q0a) 0 aA aC aD aE) else (if aA = 7 then (if 0 < (aE.length:Int) then ((q0E.f k ((q0A aE 0).f0) ((q0A aE 0).f1) ((q0A aE 0).f2) ((q0A aE 0).f3)).bind fun aH=>(if ((q0A aE 0).f0) = 5 then ((some (([(⟨#[40]⟩:q0a)]:List q0a):List q0a)).bind fun aI=>(if aI.length + aH.length < 8796093022208 then ((some (aI++aH:List q0a)).bind fun aJ=>((some (([(⟨#[41]⟩:q0a)]:List q0a):List q0a)).bind fun aK=>(if aJ.length + aK.length < 8796093022208 then ((some (aJ++aK:List q0a)).bind fun aM=>((some (([(⟨#[94]⟩:q0a),strOfNums (([(wrap64 (48 + aD)) % 256]:List Int))]:List q0a):List q0a)).bind fun aQ=>(if aM.length + aQ.length < 8796093022208 then (some (aM++aQ)) else (none)))) else (none)))) else (none))) else (if ((q0A aE 0).f0) = 7 then ((some (([(⟨#[40]⟩:q0a)]:List q0a):List q0a)).bind fun aT=>(if aT.length + aH.length < 8796093022208 then ((some (aT++aH:List q0a)).bind fun aU=>((some (([(⟨#[41]⟩:q0a)]:List q0a):List q0a)).bind fun aW=>(if aU.length + aW.length < 8796093022208 then ((some (aU++aW:List q0a)).bind fun aX=>((some (([(⟨#[94]⟩:q0a),strOfNums (([(wrap64 (48 + aD)) % 256]:List Int))]:List q0a):List q0a)).bind fun aY=>(if aX.length + aY.length < 8796093022208 then (some (aX++aY)) else (none)))) else (none)))) else (none))) else ((some (([(⟨#[94]⟩:q0a),strOfNums (([(wrap64 (48 + aD)) % 256]:List Int))]:List q0a):List q0a)).bind fun aZ=>(if aH.length + aZ.length < 8796093022208 then (some (aH++aZ)) else (none)))))) else (none)) else (if aA = 8 then ((some (([(⟨#[91]⟩:q0a)]:List q0a):List q0a)).bind fun bA=>(if 0 < (aE.length:Int) then ((q0E.f k ((q0A aE 0).f0) ((q0A aE 0).f1) ((q0A aE 0).f2) ((q0A aE 0).f3)).bind fun bB=>(if bA.length + bB.length < 8796093022208 then ((some (bA++bB:List q0a)).bind fun bC=>((some (([(⟨#[93]⟩:q0a)]:List q0a):List q0a)).bind fun bD=>(if bC.length + bD.length < 8796093022208 then (some (bC++bD)) else (none)))) else (none))) else (none))) else (if aA = 12 then ((some (([aC,(⟨#[123]⟩:q0a)]:List q0a):List q0a)).bind fun bE=>(if 0 < (aE.length:Int) then ((q0E.f k ((q0A aE 0).f0) ((q0A aE 0).f1) ((q0A aE 0).f2) ((q0A aE 0).f3)).bind fun bF=>(if bE.length + bF.length < 8796093022208 then ((some (bE++bF:List q0a)).bind fun bG=>((some (([(⟨#[125]⟩:q0a)]:List q0a):List q0a)).bind fun bH=>(if bG.length + bH.length < 8796093022208 then (some (bG++bH)) else (none)))) else (none))) else (none))) else (some ([]:List q0a))))))))) else (some (([aG]:List q0a))))
end
theorem q0E.mono_l:∀ k,(∀ y0 y1 y2 y3,LeO (q0E.f k y0 y1 y2 y3) (q0E.f (k + 1) y0 y1 y2 y3))∧(∀ y0 y1 y2 y3 y4 y5,LeO (q0E.l0 k y0 y1 y2 y3 y4 y5) (q0E.l0 (k + 1) y0 y1 y2 y3 y4 y5))∧(∀ y0 y1 y2 y3 y4 y5,LeO (q0E.l1 k y0 y1 y2 y3 y4 y5) (q0E.l1 (k + 1) y0 y1 y2 y3 y4 y5))
 | 0=>⟨fun _ _ _ _ r h=>by simp [q0E.f] at h,fun _ _ _ _ _ _ r h=>by simp [q0E.l0] at h,fun _ _ _ _ _ _ r h=>by simp [q0E.l1] at h⟩
 | k + 1=>by
  obtain ⟨aA,aC,aD⟩:=q0E.mono_l k;refine ⟨?_,?_,?_⟩
  ·intro y0 y1 y2 y3;unfold q0E.f;exact X90
  ·intro y0 y1 y2 y3 y4 y5;unfold q0E.l0;exact X90
  ·intro y0 y1 y2 y3 y4 y5;unfold q0E.l1;exact X90
theorem q0E.mono:∀ a0 a1 a2 a3 k,LeO (q0E.f k a0 a1 a2 a3) (q0E.f (k + 1) a0 a1 a2 a3):=by
 intro a0 a1 a2 a3 k;obtain ⟨aA,ih1,ih2⟩:=q0E.mono_l k;exact aA a0 a1 a2 a3
mutual
def q1a.l0:Nat → q0a → Int → q0a → List (S86) → List (S88) → List (List q0a) → Int → q0a → Int → List (S25) → Option (q0a × Int)
 | 0,_,_,_,_,_,_,_,_,_,_=>none
 | k + 1,x5,x6,aA,aC,aD,aE,aG,aH,aI,aJ=>if x6 < (aC.length:Int) then (if 0≤x6 then ((some (([(⟨#[102,111,111,116]⟩:q0a),(q1e aC x6).f0,(⟨#[61]⟩:q0a)]:List q0a):List q0a)).bind fun aK=>((q0E.f k ((q1e aC x6).f1.f0) ((q1e aC x6).f1.f1) ((q1e aC x6).f1.f2) ((q1e aC x6).f1.f3)).bind fun aM=>(if aK.length + aM.length < 8796093022208 then ((q3o.f k (aK++aM)).bind fun aQ=>(if x5.size + aQ.size≤9223372036854775807 then (q1a.l0 k (x5++aQ) (wrap64 (x6 + 1)) aA aC aD aE aG aH aI aJ) else (none))) else (none)))) else (none)) else (q1a.l1 k x5 0 aA aC aD aE aG aH aI aJ)
def q1a.l1:Nat → q0a → Int → q0a → List (S86) → List (S88) → List (List q0a) → Int → q0a → Int → List (S25) → Option (q0a × Int)
 | 0,_,_,_,_,_,_,_,_,_,_=>none
 | k + 1,x5,x7,aA,aC,aD,aE,aG,aH,aI,aJ=>if x7 < (aD.length:Int) then (if 0≤x7 then ((q3o.f k (([(⟨#[99,111,117,110,116]⟩:q0a),(q2p aD x7).f0,strOfNums (([(wrap64 (48 + ((q2p aD x7).f1))) % 256]:List Int)),strOfNums (([(wrap64 (48 + ((q2p aD x7).f2))) % 256]:List Int))]:List q0a))).bind fun aK=>(if x5.size + aK.size≤9223372036854775807 then (q1a.l1 k (x5++aK) (wrap64 (x7 + 1)) aA aC aD aE aG aH aI aJ) else (none))) else (none)) else ((some (([(⟨#[108,105,110,101]⟩:q0a),(⟨#[61]⟩:q0a)]:List q0a):List q0a)).bind fun aM=>((q0E.f k aG aH aI aJ).bind fun aQ=>(if aM.length + aQ.length < 8796093022208 then ((q3o.f k (aM++aQ)).bind fun aT=>(if x5.size + aT.size≤9223372036854775807 then (q1a.l2 k (x5++aT) 0 aA aC aD aE aG aH aI aJ) else (none))) else (none))))
def q1a.l2:Nat → q0a → Int → q0a → List (S86) → List (S88) → List (List q0a) → Int → q0a → Int → List (S25) → Option (q0a × Int)
 | 0,_,_,_,_,_,_,_,_,_,_=>none
 | k + 1,x5,x9,aA,aC,aD,aE,aG,aH,aI,aJ=>if x9 < (aE.length:Int) then ((some (([(⟨#[115,111,109,101]⟩:q0a)]:List q0a):List q0a)).bind fun aK=>(if 0≤x9 then (if aK.length + (q2M aE x9).length < 8796093022208 then ((q3o.f k (aK++(q2M aE x9))).bind fun aM=>(if x5.size + aM.size≤9223372036854775807 then (q1a.l2 k (x5++aM) (wrap64 (x9 + 1)) aA aC aD aE aG aH aI aJ) else (none))) else (none)) else (none))) else (if x5.size + 2≤9223372036854775807 then (some (x5++(⟨#[125,10]⟩:q0a),0)) else (none))
end
def q1a.f (k:Nat) (aA:q0a) (aC:List (S86)) (aD:List (S88)) (aE:List (List q0a)) (aG:Int) (aH:q0a) (aI:Int) (aJ:List (S25)):Option (q0a × Int):=(q0t.f k aA aC aD aE aG aH aI aJ).bind fun aK=>(if aK = 0 then (if 6 + aA.size≤9223372036854775807 then (if ((⟨#[109,101,116,114,101,32]⟩:q0a)++aA).size + 3≤9223372036854775807 then (q1a.l0 k (((⟨#[109,101,116,114,101,32]⟩:q0a)++aA)++(⟨#[32,123,10]⟩:q0a)) 0 aA aC aD aE aG aH aI aJ) else (none)) else (none)) else (some ((⟨#[]⟩:q0a),aK)))
theorem q1a.mono_l:∀ k,(∀ y0 y1 y2 y3 y4 y5 y6 y7 y8 y9,LeO (q1a.l0 k y0 y1 y2 y3 y4 y5 y6 y7 y8 y9) (q1a.l0 (k + 1) y0 y1 y2 y3 y4 y5 y6 y7 y8 y9))∧(∀ y0 y1 y2 y3 y4 y5 y6 y7 y8 y9,LeO (q1a.l1 k y0 y1 y2 y3 y4 y5 y6 y7 y8 y9) (q1a.l1 (k + 1) y0 y1 y2 y3 y4 y5 y6 y7 y8 y9))∧(∀ y0 y1 y2 y3 y4 y5 y6 y7 y8 y9,LeO (q1a.l2 k y0 y1 y2 y3 y4 y5 y6 y7 y8 y9) (q1a.l2 (k + 1) y0 y1 y2 y3 y4 y5 y6 y7 y8 y9))
 | 0=>⟨fun _ _ _ _ _ _ _ _ _ _ r h=>by simp [q1a.l0] at h,fun _ _ _ _ _ _ _ _ _ _ r h=>by simp [q1a.l1] at h,fun _ _ _ _ _ _ _ _ _ _ r h=>by simp [q1a.l2] at h⟩
 | k + 1=>by
  obtain ⟨aA,aC,aD⟩:=q1a.mono_l k;refine ⟨?_,?_,?_⟩
  ·intro y0 y1 y2 y3 y4 y5 y6 y7 y8 y9;unfold q1a.l0;exact X162
  ·intro y0 y1 y2 y3 y4 y5 y6 y7 y8 y9;unfold q1a.l1;exact X162
  ·intro y0 y1 y2 y3 y4 y5 y6 y7 y8 y9;unfold q1a.l2;exact X162
theorem q1a.mono:∀ a0 a1 a2 a3 a4 a5 a6 a7 k,LeO (q1a.f k a0 a1 a2 a3 a4 a5 a6 a7) (q1a.f (k + 1) a0 a1 a2 a3 a4 a5 a6 a7):=by
 intro a0 a1 a2 a3 a4 a5 a6 a7 k;obtain ⟨aA,aC,aD⟩:=q1a.mono_l k;unfold q1a.f;exact X162

def q2w.f (a0:Int):Option (Int × q0a × Int × (List (S25))):=some (wrap64 (1 + (Int.tmod (wrap64 (a0)) 3)),(⟨#[]⟩:q0a),0,([]:List (S25)))
theorem q2w.calls (a0:Int) (r1:Int) (r2:q0a) (r3:Int) (r4:List (S25)) (w:World) (h:q2w.f a0 = some (r1,r2,r3,r4)) :
  Calls prog 47 #[.int .u8 a0] w fun e w'=>∃ aA:Value,e = .returned (.agg #[iv r1,.string r2,iv r3,aA])∧Kd.R k25 25 w' w.heap.size (fun _=>True) aA r4∧Below w.heap.size w w':=by
 have hu25:=underlying25;have HB:=am (q0i w.heap.size w);have H:=h;clear h;unfold q2w.f at H;simp only [Option.some.injEq,Prod.mk.injEq] at H;obtain ⟨rfl,rfl,rfl,rfl⟩:=H;go_enter func47,ntmps47;go_wp2_with (first|((with_reducible refine gd 2 ?_);refine be 2 #[iv 0,.string (⟨#[]⟩:q0a),iv 0,.slice none 0 0] 25 ?_;intro aC hg w2 hbox hb;have aD:=am (hbox);have GW1111:=sG (w:=w) hg X6;have aE:=sG (w:=w) hg X6;replace HB:=bS X6 hb;clear hb hbox hg;have Z3:=bc4 aD))
 refine bodyPost_ret (results_cell_row rfl _ _ aC 25 #[iv (wrap64 (1 + (Int.tmod (wrap64 (a0)) 3))),.string (⟨#[]⟩:q0a),iv 0,.slice none 0 0] (0,0) _ rfl (bq0 aD) underlying25 rfl X4) rfl ?_;exact ⟨_,X11,X21,by repeat (first|(with_reducible first | exact HB.out | apply q2o | apply q0m | apply q0l | refine q1G ?_ aE.out) | exact HB.out)⟩

def q4j.f  : Option (List q0a):=some (([(⟨#[100]⟩:q0a),(⟨#[115]⟩:q0a),(⟨#[116]⟩:q0a)]:List q0a))
theorem q4j.calls  (r:List q0a) (w:World) (h:q4j.f  = some r) :
  Calls prog 48 #[] w fun e w'=>∃ aA:Value,e = .returned (aA)∧Kd.R Kd.string 9 w' w.heap.size (fun _=>True) aA r∧Below w.heap.size w w':=by
 have HB:=am (q0i w.heap.size w);have H:=h;clear h;unfold q4j.f at H;obtain ⟨aC,aD⟩:∃ y_:List q0a,y_ = (([(⟨#[100]⟩:q0a),(⟨#[115]⟩:q0a),(⟨#[116]⟩:q0a)]:List q0a)):=⟨_,rfl⟩;rw [← aD] at H;(try rw [oG aC] at H)
 have aG:=am aD;clear aD;obtain rfl:=q0d H;go_enter func48,ntmps48;go_wp2_with (first|((with_reducible refine gd 1 ?_);refine q2j Kd.string _ 9 ?hg (N:=1) ?hd (xs:=([(⟨#[100]⟩:q0a),(⟨#[115]⟩:q0a),(⟨#[116]⟩:q0a)]:List q0a)) (inner:=[.string (⟨#[100]⟩:q0a),.string (⟨#[115]⟩:q0a),.string (⟨#[116]⟩:q0a)]) (ok:=fun _=>True) (okp:=fun _=>True) ?hr ?hp (fun _ hk=>hk) trivial (q0i _ _) (q0f _) (by simp) ?_;(case hd=>rfl);(case hg=>rfl);(case hr=>exact X35);(case hp=>exact rp);intro v1113 w1 aH hb hg_ hnew_;clear hg_ hnew_;(first | rw [← aG.out] at aH|(simp only [Int.reduceToNat] at aH;rw [← aG.out] at aH));have aI:=am (q0H aH (q1c X6));replace HB:=bS X6 hb;clear hb aH))
 go_ret
 exact ⟨_,X11,aR aI.out,X6⟩

def q3M.f (l0:List (S25)):Option (Int × q0a × Int × (List (S25))):=if (l0.length:Int) = 1 then (if 0 < (l0.length:Int) then (some ((q0A l0 0).f0,(q0A l0 0).f1,(q0A l0 0).f2,(q0A l0 0).f3)) else (none)) else (some (5,(⟨#[]⟩:q0a),0,l0))
theorem q3M.calls (aA:Nat → Prop) (A0:Option Addr) (c0:Nat) (l0:List (S25)) (r1:Int) (r2:q0a) (r3:Int) (r4:List (S25)) (w:World) (aC:Kd.V k25 25 w w.heap.size (fun k_=>aA k_) (sl A0 l0 c0) l0) (h:q3M.f l0 = some (r1,r2,r3,r4)) :
  Calls prog 49 #[sl A0 l0 c0] w fun e w'=>∃ aD:Value,e = .returned (.agg #[iv r1,.string r2,iv r3,aD])∧Kd.V k25 25 w' w.heap.size (fun k_=>(aA k_∨w.heap.size≤k_)) aD r4∧Below w.heap.size w w':=by
 have hu25:=underlying25;have aE:=am (show Kd.V k25 25 w w.heap.size (fun k_=>(aA k_∨w.heap.size≤k_)) (sl A0 l0 c0) l0 from q0v aC (fun k_ hk=>.inl hk));have HB:=am (q0i w.heap.size w);have H:=h;clear h;unfold q3M.f at H;by_cases c2:(l0.length:Int) = 1
 ·rw [if_pos c2] at H;have c2b0:=eT c2;have c2b1:=eF c2;clear c2;by_cases c3:0 < (l0.length:Int)
  ·rw [if_pos c3] at H;have c3b0:=dT c3;have c3b1:decide (0 < l0.length) = true:=q0w (by omega);clear c3;simp only [Option.some.injEq,Prod.mk.injEq] at H;obtain ⟨rfl,rfl,rfl,rfl⟩:=H;go_enter func49,ntmps49;go_wp2_with (first|((with_reducible refine gd 2 ?_);refine be 2 #[iv 0,.string (⟨#[]⟩:q0a),iv 0,.slice none 0 0] 25 ?_;intro aG hg w4 hbox hb;replace aE:=am (q1s (q2s (aV aE.out) aG (q1d hg.symm)) hb);have aH:=am (hbox);have aI:=sG (w:=w) hg X6;have aJ:=sG (w:=w) hg X6;replace HB:=bS X6 hb;clear hb hbox hg;have aK:0≤(0:Int):=(by omega);have aM:0 < (l0.length:Int):=q0b X12;obtain ⟨ad1116,aQ,aT,e1116,aU,aW,aX,aY,aZ,bA⟩:=q4w (q0y aE.out).2.2 0 aK aM;cases e1116;obtain ⟨ce1116,bB,bC,bD⟩:=Kd.V_get aE.out z25 0 aK (by first | exact aM | exact q0b X12|(have e_:=(q0y aE.out).1;omega));obtain ⟨ua1116_3,uc1116_3,rfl,bE,bF⟩:=q5w bC;have bG:=bD 3 _ rfl;rw [q4z _ _ 3 (by omega)] at bG;replace bG:=q0d (bG.symm.trans aY);injection bG with hva_ hvn_ hvc_;rw [hva_] at bF;rw [hvc_] at bE;have bH:=am (show Kd.V k25 25 _ w.heap.size _ _ ((q0A l0 0).f3) from Kd.V_mk bE bF);clear hva_ hvn_ hvc_ bF bE;clear bD bB;have qi1116:(0 < l0.length) = True:=q0c (by omega);(try simp only [tz0,tz1,tz2] at aU);(try simp only [tz0,tz1,tz2] at aW);(try simp only [tz0,tz1,tz2] at aX);(try simp only [tz0,tz1,tz2] at aY);have HR1116_3:=am bA;have HC1116_3:=am aZ;clear bA aZ;replace aK:=q0c aK;replace aM:=q0c aM;have Z5:=bc4 aH))
   refine bodyPost_ret (results_cell_row rfl _ _ aG 25 #[iv ((q0A l0 0).f0),.string ((q0A l0 0).f1),iv ((q0A l0 0).f2),sl aQ ((q0A l0 0).f3) aT] (0,0) _ rfl (bq0 aH) underlying25 rfl X4) rfl ?_;exact ⟨_,X11,aV (q0v (fxV aG 3 (sl aQ ((q0A l0 0).f3) aT) (fxV aG 2 (iv ((q0A l0 0).f2)) (fxV aG 1 (.string ((q0A l0 0).f1)) (fxV aG 0 (iv ((q0A l0 0).f0)) bH.out (fun _ hk=>hk.2)) (fun _ hk=>hk.2)) (fun _ hk=>hk.2)) (fun _ hk=>hk.2)) (fun _ hk=>hk.1)),(X10 HB aJ)⟩
  ·exact iN c3 H
 ·rw [if_neg c2] at H;have c2b0:=nF c2;have c2b1:=nT c2;simp only [Option.some.injEq,Prod.mk.injEq] at H;obtain ⟨rfl,rfl,rfl,rfl⟩:=H;go_enter func49,ntmps49;go_wp2_with (first|((with_reducible refine gd 2 ?_);refine be 2 #[iv 0,.string (⟨#[]⟩:q0a),iv 0,.slice none 0 0] 25 ?_;intro aG hg w6 hbox hb;replace aE:=am (q1s (q2s (aV aE.out) aG (q1d hg.symm)) hb);have aH:=am (hbox);have aI:=sG (w:=w) hg X6;have aJ:=sG (w:=w) hg X6;replace HB:=bS X6 hb;clear hb hbox hg;have Z7:=bc4 aH))
  refine bodyPost_ret (results_cell_row rfl _ _ aG 25 #[iv 5,.string (⟨#[]⟩:q0a),iv 0,sl A0 l0 c0] (0,0) _ rfl (bq0 aH) underlying25 rfl X4) rfl ?_;exact ⟨_,X11,aV (q0v (fxV aG 3 (sl A0 l0 c0) (fxV aG 2 (iv 0) (fxV aG 1 (.string (⟨#[]⟩:q0a)) (fxV aG 0 (iv 5) aE.out (fun _ hk=>hk.2)) (fun _ hk=>hk.2)) (fun _ hk=>hk.2)) (fun _ hk=>hk.2)) (fun _ hk=>hk.1)),(X10 HB aJ)⟩

def q1W.f (k:Nat) (aA:Int) (aC:q0a) (aD:Int) (aE:List (S25)):Option (Bool):=(q1n.f k aA aC aD aE).bind fun aG=>(if aG≤8 then ((q1u.f k aA aC aD aE 30).bind fun aH=>(some (decide (aH≥0)))) else (some false))
theorem q1W.calls (k:Nat) (aA:Int) (aC:q0a) (aD:Int) (aE:Option Addr) (aG:Nat) (aH:List (S25)) (r:Bool) (w:World) (aI:Kd.C k25 w aE aH.length aH) (aJ:aH.length≤aG) (h:q1W.f k aA aC aD aH = some r) :
  Calls prog 97 #[.agg #[iv aA,.string aC,iv aD,sl aE aH aG]] w fun e w'=>e = .returned (.bool r)∧Below w.heap.size w w':=by
 have hu25:=underlying25;have aK:=am aI;have aM:=am aJ;clear aI aJ;have HB:=am (q0i w.heap.size w);have H:=h;clear h;unfold q1W.f at H;obtain ⟨aQ,A2,H⟩:=oA H;(try dsimp only at H);by_cases c3:aQ≤8
 ·rw [if_pos c3] at H;have c3b0:=dT c3;clear c3;obtain ⟨aU,A4,H⟩:=oA H;(try dsimp only at H);obtain rfl:=q0d H;go_enter func97,ntmps97;go_wp2_with (first|((with_reducible refine gd 1 ?_);refine be 1 #[iv aA,.string aC,iv aD,sl aE aH aG] 25 ?_;intro aX hg w5 hbox hb;have aY:=am (hbox);have aZ:=sG (w:=w) hg X6;have bA:=sG (w:=w) hg X6;replace HB:=bS X6 hb;clear hb hbox hg;have Z6:=bc4 aY)|((with_reducible refine gc 69 ?_);refine gL (some 4) func69 #[.agg #[iv aA,.string aC,iv aD,sl aE aH aG]] ?_;(with_reducible refine (q1n.calls k aA aC aD _ _ aH aQ _ ?side1 ?side2 A2.out).mono ?_);(case side1=>exact (X15 aK HB));(case side2=>exact aM.out);rintro e w7 ⟨rfl,hb⟩;refine ⟨_,rfl,?_⟩;replace aY:=kB aY hb;replace HB:=bS (X10 HB bA) hb;clear hb;have Z8:=bc4 aY)|(go_at_call 62;(with_reducible refine (q1u.calls k aA aC aD _ _ aH 30 aU _ ?side1 ?side2 A4.out).mono ?_);(case side1=>exact (X15 aK HB));(case side2=>exact aM.out);rintro e w9 ⟨rfl,hb⟩;replace aY:=kB aY hb;replace HB:=bS (X10 HB bA) hb;clear hb))
  go_ret
  exact ⟨X11,(X10 HB bA)⟩
 ·rw [if_neg c3] at H;have c3b0:=dF c3;clear c3;obtain rfl:=q0d H;go_enter func97,ntmps97;go_wp2_with (first|((with_reducible refine gd 1 ?_);refine be 1 #[iv aA,.string aC,iv aD,sl aE aH aG] 25 ?_;intro aX hg w10 hbox hb;have aY:=am (hbox);have aZ:=sG (w:=w) hg X6;have bA:=sG (w:=w) hg X6;replace HB:=bS X6 hb;clear hb hbox hg;have Z11:=bc4 aY)|((with_reducible refine gc 69 ?_);refine gL (some 4) func69 #[.agg #[iv aA,.string aC,iv aD,sl aE aH aG]] ?_;(with_reducible refine (q1n.calls k aA aC aD _ _ aH aQ _ ?side1 ?side2 A2.out).mono ?_);(case side1=>exact (X15 aK HB));(case side2=>exact aM.out);rintro e w12 ⟨rfl,hb⟩;refine ⟨_,rfl,?_⟩;replace aY:=kB aY hb;replace HB:=bS (X10 HB bA) hb;clear hb))
  go_ret
  exact ⟨X11,(X10 HB bA)⟩
def q3D.l0:Nat → List q0a → q0a → Int → Option (List q0a)
 | 0,_,_,_=>none
 | k + 1,l,s,i=>if i < (l.length:Int) then (if 0≤i then (if Op.bytesLess (rdOf ByteArray.empty l i).toList s.toList = true then q3D.l0 k l s (wrap64 (i + 1)) else (if (rdOf ByteArray.empty l i).toList = s.toList then some l else none)) else none) else none
def q3D.f (k:Nat) (l:List q0a) (s:q0a):Option (List q0a):=q3D.l0 k l s 0
theorem q3D.mono_l:∀ k,∀ l s i,LeO (q3D.l0 k l s i) (q3D.l0 (k + 1) l s i)
 | 0=>fun _ _ _ r h=>by simp [q3D.l0] at h
 | k + 1=>fun l s i=>by
  have ih:=q3D.mono_l k;unfold q3D.l0;exact (by repeat' (with_reducible first | apply ih | exact LeO.refl _ | exact LeO.none _ | refine LeO.ite ?_ ?_))
theorem q3D.mono:∀ l s k,LeO (q3D.f k l s) (q3D.f (k + 1) l s):=fun l s k=>q3D.mono_l k l s 0
theorem q3D.calls (k:Nat) (A:Option Addr) (c:Nat) (l:List q0a) (s:q0a) (r:List q0a) (w:World) (hr:Kd.C Kd.string w A l.length l) (hc:l.length≤c) (h:q3D.f k l s = some r) :
  Calls prog 29 #[sl A l c,.string s] w fun e w'=>e = .returned (sl A l c)∧r = l∧q3Q w w':=by
 have HR:=am hr;have HC:=am hc;clear hr hc;have H':=am (show q3D.l0 k l s 0 = some r from h);clear h;go_enter func29,ntmps29;go_wp2
 go_loopg [5] k (fun kq v5 w'=>∃ (i:Int),v5 = iv i∧q0j (q3D.l0 kq l s i = some r)∧q0j (kq≤k)∧q3Q w w')
 case atStart=>exact ⟨0,rfl,H',⟨q0f _⟩,by first | exact q3Q.refl _ | exact ⟨⟨_,rfl⟩⟩⟩
 case round=>
  clear H';obtain ⟨i,rfl,HA,aA,⟨m1,rfl⟩⟩:=hrel;cases gk with
  | zero=>exact absurd HA.out (by simp [q3D.l0])
  | succ k1=>
   have H:=HA.out;clear HA;simp only [q3D.l0] at H;by_cases c4:i < (l.length:Int)
   ·rw [if_pos c4] at H;have c4b:=dT c4;by_cases c5:0≤i
    ·rw [if_pos c5] at H;have c5b:=dT c5;obtain ⟨ad,e1,hx⟩:=q2C HR.out i c5 c4;cases e1;have c4':=q0c c4;have c5':=q0c c5;by_cases c6:Op.bytesLess (rdOf ByteArray.empty l i).toList s.toList = true
     ·rw [if_pos c6] at H;have H':=am H;clear H;go_wp2
      go_roundg k1
      case measure=>have:=aA.out;omega
      case rel=>exact ⟨wrap64 (i + 1),X7,H',⟨by have:=aA.out;omega⟩,by first | exact q3Q.refl _ | exact ⟨⟨_,rfl⟩⟩ | exact ⟨⟨_ + 1,rfl⟩⟩⟩
     ·rw [if_neg c6] at H;have c6b:=Bool.eq_false_iff.mpr c6;by_cases c7:(rdOf ByteArray.empty l i).toList = s.toList
      ·rw [if_pos c7] at H;have c7b:=eT c7;clear c7 c6;obtain rfl:=q0d H;go_wp2
       go_ret
       refine ⟨rfl,?_⟩;first | exact ⟨rfl,⟨⟨_,rfl⟩⟩⟩ | exact ⟨⟨_,rfl⟩⟩ | exact ⟨rfl,⟨_,rfl⟩⟩ | exact ⟨_,rfl⟩
      ·exact iN c7 H
    ·exact iN c5 H
   ·exact iN c4 H
def q2S.l0:Nat → List q0a → q0a → Int → Option (List q0a)
 | 0,_,_,_=>none
 | k + 1,x0,x1,x5=>if x5 < (x0.length:Int) then (if 0≤x5 then (if (Op.bytesLess ((rdOf ByteArray.empty x0 x5).toList) x1.toList) = true then (q2S.l0 k x0 x1 (wrap64 (x5 + 1))) else (if (rdOf ByteArray.empty x0 x5).toList = x1.toList then (none) else ((some (([]:List q0a):List q0a)).bind fun aA=>(if x5≤(x0.length:Int) then (if aA.length + (x0.take (x5:Int).toNat).length < 8796093022208 then ((some (aA++(x0.take (x5:Int).toNat):List q0a)).bind fun aC=>((some (([x1]:List q0a):List q0a)).bind fun aD=>(if aC.length + aD.length < 8796093022208 then ((some (aC++aD:List q0a)).bind fun aE=>(if aE.length + (x0.drop (x5:Int).toNat).length < 8796093022208 then (some (aE++(x0.drop (x5:Int).toNat))) else (none))) else (none)))) else (none)) else (none))))) else (none)) else ((some (([]:List q0a):List q0a)).bind fun aG=>(if 0≤x5 then (if x5≤(x0.length:Int) then (if aG.length + (x0.take (x5:Int).toNat).length < 8796093022208 then ((some (aG++(x0.take (x5:Int).toNat):List q0a)).bind fun aH=>((some (([x1]:List q0a):List q0a)).bind fun aI=>(if aH.length + aI.length < 8796093022208 then ((some (aH++aI:List q0a)).bind fun aJ=>(if aJ.length + (x0.drop (x5:Int).toNat).length < 8796093022208 then (some (aJ++(x0.drop (x5:Int).toNat))) else (none))) else (none)))) else (none)) else (none)) else (none)))
def q2S.f (k:Nat) (l0:List q0a) (a1:q0a):Option (List q0a):=q2S.l0 k l0 a1 0
theorem q2S.mono_l:∀ k,(∀ y0 y1 y2,LeO (q2S.l0 k y0 y1 y2) (q2S.l0 (k + 1) y0 y1 y2))
 | 0=>fun _ _ _ r h=>by simp [q2S.l0] at h
 | k + 1=>by
  have aA:=q2S.mono_l k
  ·intro y0 y1 y2;unfold q2S.l0;exact X96
theorem q2S.mono:∀ a0 a1 k,LeO (q2S.f k a0 a1) (q2S.f (k + 1) a0 a1):=by
 intro a0 a1 k;have aA:=q2S.mono_l k;unfold q2S.f;exact X96
def q2S.T6:Bool × List (List Nat × List Nat):=(true,[([],[]),([],[]),([],[]),([1,2],[1,2]),([0,3],[0,3]),([],[]),([5],[5]),([4,6,4],[4,6]),([],[]),([],[]),([8,9],[8,9]),([7,10,7],[7,10]),([11,11,0,1,2,3,4,5,6,7,8,9,10,11],[11])])
def q2S.B6:List Nat:=[0,0,0,6,15,0,32,127,0,0,768,2047,4095]
theorem q2S.tab6:rtab .any (q5m Tryd.f29 6) = q2S.T6:=by kernel_rfl
theorem q2S.bits6:q3G q2S.T6.2 q2S.B6 = true:=by kernel_rfl
theorem q2S.calls (k:Nat) (A0:Option Addr) (c0:Nat) (l0:List q0a) (a1:q0a) (r:List q0a) (w:World) (aA:Kd.C Kd.string w A0 l0.length l0) (aC:l0.length≤c0) (h:q2S.f k l0 a1 = some r) :
  Calls prog 29 #[sl A0 l0 c0,.string a1] w fun e w'=>∃ aD:Value,e = .returned (aD)∧Kd.R Kd.string 9 w' w.heap.size (fun _=>True) aD r∧Below w.heap.size w w':=by
 have aE:=am aA;have aG:=am aC;clear aA aC;have HB:=am (q0i w.heap.size w);have H:(q2S.l0 k l0 a1 0) = some r:=h;clear h;have H':=am H;clear H;go_enter func29,ntmps29;go_wp2
 go_loopg [5] k (fun kq v5 w'=>∃ (aH:Int),v5 = iv aH∧q0j (q2S.l0 kq l0 a1 aH = some r)∧q0j (kq≤k)∧q0j (Below w.heap.size w w'))
 case atStart=>exact ⟨(0),X7,H',⟨q0f _⟩,⟨X6⟩⟩
 case round=>
  clear H';(try clear c2 p2);obtain ⟨aH,rfl,HA,aI,HB⟩:=hrel;cases gk with
  | zero=>exact absurd HA.out (by simp [q2S.l0])
  | succ k1=>
   have H:=HA.out;clear HA;simp only [q2S.l0] at H;by_cases c3:aH < (l0.length:Int)
   ·rw [if_pos c3] at H;have c3b0:=dT c3;clear c3;by_cases c4:0≤aH
    ·rw [if_pos c4] at H;have c4b0:=dT c4;clear c4;by_cases c5:(Op.bytesLess ((rdOf ByteArray.empty l0 aH).toList) a1.toList) = true
     ·rw [if_pos c5] at H;have c5b0:(Op.bytesLess ((rdOf ByteArray.empty l0 aH).toList) a1.toList) = true:=c5;clear c5;have H':=am H;clear H;have aJ:0≤(aH:Int):=q0b X12;have aK:aH < (l0.length:Int):=q0b X12;obtain ⟨aM,e755,aQ⟩:=q2C aE.out aH aJ aK;cases e755;replace aQ:=cB HB aQ;replace aJ:=q0c aJ;replace aK:=q0c aK;go_wp2
      go_roundg k1
      case measure=>have:=aI.out;omega
      case rel=>exact ⟨(wrap64 (aH + 1)),X7,H',⟨by have:=aI.out;omega⟩,⟨X6⟩⟩
     ·rw [if_neg c5] at H;have c5b0:(Op.bytesLess ((rdOf ByteArray.empty l0 aH).toList) a1.toList) = false:=by simpa using c5
      clear c5;by_cases c6:(rdOf ByteArray.empty l0 aH).toList = a1.toList
      ·exact iP c6 H
      ·rw [if_neg c6] at H;have c6b0:=nF c6;have c6b1:=nT c6;obtain ⟨aT,aU⟩:∃ y_:List q0a,y_ = (([]:List q0a)):=⟨_,rfl⟩;replace H:(if aH≤(l0.length:Int) then (if aT.length + (l0.take (aH:Int).toNat).length < 8796093022208 then ((some (aT++(l0.take (aH:Int).toNat):List q0a)).bind fun aW=>((some (([a1]:List q0a):List q0a)).bind fun aX=>(if aW.length + aX.length < 8796093022208 then ((some (aW++aX:List q0a)).bind fun aY=>(if aY.length + (l0.drop (aH:Int).toNat).length < 8796093022208 then (some (aY++(l0.drop (aH:Int).toNat))) else (none))) else (none)))) else (none)) else (none)) = some r:=by first|(rw [aU];with_reducible exact H)|(have aZ:=(Option.bind_some _ _).symm.trans H;rw [aU];with_reducible exact aZ)|(have aZ:=(Option.bind_some _ _).symm.trans H;with_reducible exact aZ) | with_reducible exact H|(rw [aU];exact H) | exact H
       have bA:=am aU;clear aU;have c7b0:=q0c (q0b X12:0≤aH);by_cases c8:aH≤(l0.length:Int)
       ·rw [if_pos c8] at H;have c8b0:=q0c c8;have c8b1:=dT c8;clear c8;by_cases c9:aT.length + (l0.take (aH:Int).toNat).length < 8796093022208
        ·rw [if_pos c9] at H;have bB:=am c9;clear c9;obtain ⟨aW,bC,H⟩:=oE H;(try dsimp only at H)
         have bD:=am bC;clear bC;obtain ⟨aX,bE,H⟩:=oE H;(try dsimp only at H)
         have bF:=am bE;clear bE;by_cases c10:aW.length + aX.length < 8796093022208
         ·rw [if_pos c10] at H;have bG:=am c10;clear c10;obtain ⟨aY,bH,H⟩:=oE H;(try dsimp only at H)
          have bI:=am bH;clear bH;have c11b0:=q0c (q0b X12:0≤aH);have c12b0:=q0c (q0b X12:aH≤(l0.length:Int));by_cases bJ:aY.length + (l0.drop (aH:Int).toNat).length < 8796093022208
          ·rw [if_pos bJ] at H;have bK:=am bJ;clear bJ;obtain ⟨bL,bM⟩:∃ y_:List q0a,y_ = (aY++(l0.drop (aH:Int).toNat)):=⟨_,rfl⟩;rw [← bM] at H;(try rw [oG bL] at H)
           have bN:=am bM;clear bM;obtain rfl:=q0d H;have aJ:0≤(aH:Int):=q0b X12;have aK:aH < (l0.length:Int):=q0b X12;obtain ⟨aM,e755,aQ⟩:=q2C aE.out aH aJ aK;cases e755;replace aQ:=cB HB aQ;replace aJ:=q0c aJ;replace aK:=q0c aK;have bO:0≤(aH:Int):=q0b X12;have bP:aH < (l0.length:Int):=q0b X12;obtain ⟨bQ,e756,bR⟩:=q2C aE.out aH bO bP;obtain rfl:aM = bQ:=(by injection e756);replace bR:=cB HB bR;replace bO:=q0c bO;replace bP:=q0c bP;try go_wp2
           replace HB:=am (q0l HB.out);obtain ⟨i015,bT,_,bU,_⟩:=info_parts q4K;obtain ⟨hcut15,bV,bW⟩:=q6l (P:=prog) Value.string (⟨#[]⟩:q0a) 39 9 .i64 underlying39 bT bU (some aM) c0 l0 aH (q0b X12) (q0b X12) aG.out;have bX:=am (Kd.C_of_reads (h1:=fun _=>rfl) (bV _ (Kd.reads_of_C aE.out)));have HC760:=am bW;clear bV bW bT bU;obtain ⟨i016,bY,_,bZ,_⟩:=info_parts q4K;obtain ⟨A16,hcut16,cA,cC⟩:=q6q (P:=prog) Value.string (⟨#[]⟩:q0a) 39 9 .i64 underlying39 bY bZ (some aM) c0 l0 aH (q0b X12) (q0b X12) aG.out;have cD:=am (Kd.C_of_reads (h1:=fun _=>rfl) (cA _ (Kd.reads_of_C aE.out)));have HC770:=am cC;clear cA cC bY bZ;refine q4o (n:=13) (S:=fun w'=>True) (ds:=[]) (lb 13 0) X4 rfl rfl trivial (fun hHeld=>?_);refine q3u q2S.tab6 q2S.bits6 (fun HT_ HW_=>?_);generalize wr.drew = w14 at HB bX cD hHeld ⊢
           refine pu 1 (some 34) (lb 13 2) HT_ ?_;refine pu 2 (some 35) (lb 13 6) HT_ ?_;refine pu 3 (some 36) (lb 13 14) HT_ ?_;refine pu 5 (some 38) (lb 13 46) HT_ ?_;refine pu 8 (some 41) (lb 13 302) HT_ ?_;refine pu 9 (some 42) (lb 13 814) HT_ ?_;refine pu 10 (some 43) (lb 13 1838) HT_ ?_;refine v0l (σ:=Value × Value × Value) 3 (lb 13 1919) (fun s_=>[(33,s_.1),(37,s_.2.1),(39,s_.2.2)]) (fun s_ w'=>(Kd.R Kd.string 9 w' w.heap.size (fun k_=>nO k_ s_.2.2) s_.2.1 aW)∧(Kd.R Kd.string 9 w' w.heap.size (fun k_=>nO k_ s_.2.1) s_.2.2 aX)∧(Below w.heap.size w w')) ?_ ?_;rotate_left
           ·intro hCont;refine two_ (i:=0) (j:=6) (Ni:=some 33) (Nj:=some 39) (lb 13 1839) (lb 13 1902) rfl rfl rfl rfl (q7u HT_.out X4) (by decide) (by decide) (fun K hK=>?_) (fun K hK=>?_)
            ·skip
             refine q2h Kd.string _ 9 ?hg (N:=33) ?hd (xs:=([]:List q0a)) (inner:=[]) (ok:=fun _=>True) (okp:=fun _=>True) ?hr ?hp (fun _ hk=>hk) trivial (q0i _ _) (q0f _) (by simp) ?_;(case hd=>rfl);(case hg=>rfl);(case hr=>exact X35);(case hp=>exact (q2T _ _));intro cE cF cG hb hg_ hnew_;clear hg_ hnew_;(first | rw [← bA.out] at cG|(simp only [Int.reduceToNat] at cG;rw [← bA.out] at cG));have cH:=am (q0H cG (q1c X6));replace HB:=bS X6 hb;clear hb cG;refine hK.out _ _ trivial (fun hHeld=>?_);clear hK K;refine q3f (a':=?_) ?_ ?_;rotate_left
             ·exact pA (some 33)
             refine two_ (i:=4) (j:=6) (Ni:=some 37) (Nj:=some 39) (lb 13 1855) (lb 13 1903) rfl rfl rfl rfl (q7u HT_.out X4) (by decide) (by decide) (fun K hK=>?_) (fun K hK=>?_)
             ·skip
              refine q2i Kd.string (w0:=w) w.heap.size (by rfl) (.tmp 33) (.tmp 36) 39 9 (.string ⟨#[]⟩) 16 rfl underlying39 q4K rfl (by decide) (by omega) cE aT (l0.take (aH:Int).toNat) _ _ _ (fun _=>True) (fun _=>False) rfl rfl ?aO ?aR (fun _ _ h=>h) (fun _ h=>h.elim) ?aF ?aB ?aS ?aL ?_;(case aR=>exact (X180 bX HB));(case aB=>exact X6);(case aF=>exact (fun _ _=>trivial));(case aO=>exact (aR cH.out));(case aS=>exact (q1c X6));(case aL=>exact (X181 bB));intro cI cJ ho hb hg hat;rw [← bD.out] at ho;replace HB:=am (hb);have cK:=am (ho);clear cH;clear ho hb hg hat;refine hK.out _ _ trivial (fun hHeld=>?_);clear hK K;refine q3f (a':=?_) ?_ ?_;rotate_left
              ·exact pA (some 37)
              refine oo 6 (some 39) (lb 13 1919) HT_ (fun K hK=>?_);refine q2h Kd.string _ 9 ?hg (N:=39) ?hd (xs:=([a1]:List q0a)) (inner:=[.string a1]) (ok:=fun _=>True) (okp:=fun _=>True) ?hr ?hp (fun _ hk=>hk) trivial (q0i _ _) (q0f _) (by simp) ?_;(case hd=>rfl);(case hg=>rfl);(case hr=>exact X35);(case hp=>exact rp);intro cL w20 cM hb hg_ hnew_;clear hg_ hnew_;(first | rw [← bF.out] at cM|(simp only [Int.reduceToNat] at cM;rw [← bF.out] at cM));have cN:=am (q0H (q2A cM (q1F (aR cK.out))) (q1c X6));replace cK:=am (q2m (aR cK.out) (q0x cM) hb);replace HB:=bS X6 hb;clear hb cM;refine hK.out _ _ trivial (fun hHeld=>?_);clear hK K;refine q3f (a':=?_) ?_ ?_;rotate_left
              ·exact pA (some 39)
              exact q3f (by simp only [q4E,Act.put,List.setIfInBounds_toArray,List.set_cons_zero,List.set_cons_succ]) (hCont (cE,cI,cL) _ ⟨(aR (q0n cK.out (fun _ hk=>hk.2))),(aR (q0n cN.out (fun _ hk=>hk.2))),X6⟩)
             ·skip
              refine q2h Kd.string _ 9 ?hg (N:=39) ?hd (xs:=([a1]:List q0a)) (inner:=[.string a1]) (ok:=fun _=>True) (okp:=fun _=>True) ?hr ?hp (fun _ hk=>hk) trivial (q0i _ _) (q0f _) (by simp) ?_;(case hd=>rfl);(case hg=>rfl);(case hr=>exact X35);(case hp=>exact rp);intro cL cJ cO hb hg_ hnew_;clear hg_ hnew_;(first | rw [← bF.out] at cO|(simp only [Int.reduceToNat] at cO;rw [← bF.out] at cO));have cN:=am (q0H (q2A cO (q1F (aR cH.out))) (q1c X6));replace cH:=am (q2m (aR cH.out) (q0x cO) hb);replace HB:=bS X6 hb;clear hb cO;refine hK.out _ _ trivial (fun hHeld=>?_);clear hK K;refine q3f (a':=?_) ?_ ?_;rotate_left
              ·exact pA (some 39)
              refine oo 4 (some 37) (lb 13 1919) HT_ (fun K hK=>?_);refine q2i Kd.string (w0:=w) w.heap.size (by rfl) (.tmp 33) (.tmp 36) 39 9 (.string ⟨#[]⟩) 16 rfl underlying39 q4K rfl (by decide) (by omega) cE aT (l0.take (aH:Int).toNat) _ _ _ (fun k_=>nO k_ cL) (fun _=>False) rfl rfl ?aO ?aR (fun _ _ h=>h) (fun _ h=>h.elim) ?aF ?aB ?aS ?aL ?_;(case aR=>exact (X180 bX HB));(case aB=>exact X6);(case aF=>exact (fun k_ hk=>q1y (q1F (aR cN.out)) k_ hk));(case aO=>exact (aR (q0n cH.out (fun _ hk=>hk.2))));(case aS=>exact (q1c X6));(case aL=>exact (X181 bB));intro cI cP ho hb hg hat;rw [← bD.out] at ho;replace cN:=am (q3m (ok:=(fun _=>True)) (aR cN.out) hg hat);replace HB:=am (hb);have cK:=am (ho);clear cH;clear ho hb hg hat;refine hK.out _ _ trivial (fun hHeld=>?_);clear hK K;refine q3f (a':=?_) ?_ ?_;rotate_left
              ·exact pA (some 37)
              exact q3f (by simp only [q4E,Act.put,List.setIfInBounds_toArray,List.set_cons_zero,List.set_cons_succ]) (hCont (cE,cI,cL) _ ⟨(aR cK.out),(aR (q0n cN.out (fun _ hk=>hk.2))),X6⟩)
            ·skip
             refine q2h Kd.string _ 9 ?hg (N:=39) ?hd (xs:=([a1]:List q0a)) (inner:=[.string a1]) (ok:=fun _=>True) (okp:=fun _=>True) ?hr ?hp (fun _ hk=>hk) trivial (q0i _ _) (q0f _) (by simp) ?_;(case hd=>rfl);(case hg=>rfl);(case hr=>exact X35);(case hp=>exact rp);intro cL cF cG hb hg_ hnew_;clear hg_ hnew_;(first | rw [← bF.out] at cG|(simp only [Int.reduceToNat] at cG;rw [← bF.out] at cG));have cN:=am (q0H cG (q1c X6));replace HB:=bS X6 hb;clear hb cG;refine hK.out _ _ trivial (fun hHeld=>?_);clear hK K;refine q3f (a':=?_) ?_ ?_;rotate_left
             ·exact pA (some 39)
             refine oo 0 (some 33) (lb 13 1903) HT_ (fun K hK=>?_);refine q2h Kd.string _ 9 ?hg (N:=33) ?hd (xs:=([]:List q0a)) (inner:=[]) (ok:=fun _=>True) (okp:=fun _=>True) ?hr ?hp (fun _ hk=>hk) trivial (q0i _ _) (q0f _) (by simp) ?_;(case hd=>rfl);(case hg=>rfl);(case hr=>exact X35);(case hp=>exact (q2T _ _));intro cE cJ cO hb hg_ hnew_;clear hg_ hnew_;(first | rw [← bA.out] at cO|(simp only [Int.reduceToNat] at cO;rw [← bA.out] at cO));have cH:=am (q0H (q2A cO (q1F (aR cN.out))) (q1c X6));replace cN:=am (q2m (aR cN.out) (q0x cO) hb);replace HB:=bS X6 hb;clear hb cO;refine hK.out _ _ trivial (fun hHeld=>?_);clear hK K;refine q3f (a':=?_) ?_ ?_;rotate_left
             ·exact pA (some 33)
             refine oo 4 (some 37) (lb 13 1919) HT_ (fun K hK=>?_);refine q2i Kd.string (w0:=w) w.heap.size (by rfl) (.tmp 33) (.tmp 36) 39 9 (.string ⟨#[]⟩) 16 rfl underlying39 q4K rfl (by decide) (by omega) cE aT (l0.take (aH:Int).toNat) _ _ _ (fun k_=>nO k_ cL) (fun _=>False) rfl rfl ?aO ?aR (fun _ _ h=>h) (fun _ h=>h.elim) ?aF ?aB ?aS ?aL ?_;(case aR=>exact (X180 bX HB));(case aB=>exact X6);(case aF=>exact (fun k_ hk=>q1y (q1F (aR cN.out)) k_ hk));(case aO=>exact (aR (q0n cH.out (fun _ hk=>hk.2))));(case aS=>exact (q1c X6));(case aL=>exact (X181 bB));intro cI cP ho hb hg hat;rw [← bD.out] at ho;replace cN:=am (q3m (ok:=(fun _=>True)) (aR cN.out) hg hat);replace HB:=am (hb);have cK:=am (ho);clear cH;clear ho hb hg hat;refine hK.out _ _ trivial (fun hHeld=>?_);clear hK K;refine q3f (a':=?_) ?_ ?_;rotate_left
             ·exact pA (some 37)
             exact q3f (by simp only [q4E,Act.put,List.setIfInBounds_toArray,List.set_cons_zero,List.set_cons_succ]) (hCont (cE,cI,cL) _ ⟨(aR cK.out),(aR (q0n cN.out (fun _ hk=>hk.2))),X6⟩)
           rintro ⟨cE,cI,cL⟩ cQ ⟨cR,cS,cT⟩;have cK:q0j (Kd.R Kd.string 9 cQ w.heap.size (fun k_=>nO k_ cL) cI aW):=⟨cR⟩;have cN:q0j (Kd.R Kd.string 9 cQ w.heap.size (fun k_=>nO k_ cI) cL aX):=⟨cS⟩;replace HB:q0j (Below w.heap.size w cQ):=⟨cT⟩;clear cR cS cT;have hHeld:=trivial;obtain ⟨cU,cV,cX⟩:=q0I cN.out;(first | subst cX|(injection cX with cY cZ dA;have dB:=cY.symm;have dC:=dA.symm;clear cY cZ dA;subst dB;subst dC));refine q3f (a':=?_) ?_ ?_;rotate_left
           ·simp only [q4E,Act.put,List.setIfInBounds_toArray,List.set_cons_zero,List.set_cons_succ];rfl
           refine oo 7 (some 40) (lb 13 2047) HT_ (fun K hK=>?_);refine q2i Kd.string (w0:=w) w.heap.size (by rfl) (.tmp 37) (.tmp 39) 39 9 (.string ⟨#[]⟩) 16 rfl underlying39 q4K rfl (by decide) (by omega) cI aW aX _ _ _ (fun k_=>nO k_ (sl cU aX cV)) (fun _=>False) rfl rfl ?aO ?aR (fun _ _ h=>h) (fun _ h=>h.elim) ?aF ?aB ?aS ?aL ?_;(case aR=>exact cW ((q0Y cN.out).2.2));(case aB=>exact X6);(case aF=>exact (fun k_ hk=>q1y (q1F (aR cN.out)) k_ hk));(case aO=>exact (aR cK.out));(case aS=>exact (q1c X6));(case aL=>have:=bG.out;omega);intro dD w23 ho hb hg hat;rw [← bI.out] at ho;replace cN:=am (q3m (ok:=(fun _=>True)) (aR (q0n cN.out (fun _ hk=>⟨trivial,hk⟩))) hg hat);replace HB:=am (hb);have dE:=am (ho);clear cK;clear ho hb hg hat;refine hK.out _ _ trivial (fun hHeld=>?_);clear hK K;refine q3f (a':=?_) ?_ ?_;rotate_left
           ·exact pA (some 40)
           refine oo 11 (some 44) (lb 13 4095) HT_ (fun K hK=>?_);refine q2i Kd.string (w0:=w) w.heap.size (by rfl) (.tmp 40) (.tmp 43) 39 9 (.string ⟨#[]⟩) 16 rfl underlying39 q4K rfl (by decide) (by omega) dD aY (l0.drop (aH:Int).toNat) _ _ _ (fun k_=>nO k_ (sl cU aX cV)) (fun _=>False) rfl rfl ?aO ?aR (fun _ _ h=>h) (fun _ h=>h.elim) ?aF ?aB ?aS ?aL ?_;(case aR=>first|(rw [← show (l0.drop (aH:Int).toNat).length = (l0.length - aH.toNat) from List.length_drop];repeat (first | exact (q0r cD.out HB.out)|(with_reducible refine q2Q ?_ _)|(with_reducible refine q2D ?_ _)|(with_reducible refine q2U ?_)))|(repeat (first | exact (q0r cD.out HB.out)|(with_reducible refine q2Q ?_ _)|(with_reducible refine q2D ?_ _)|(with_reducible refine q2U ?_))));(case aB=>exact X6);(case aF=>exact (fun k_ hk=>q1y (q1F (aR cN.out)) k_ hk));(case aO=>exact (aR dE.out));(case aS=>exact (q1c X6));(case aL=>have:=bK.out;have hlx_:=(show (l0.drop (aH:Int).toNat).length = (l0.length - aH.toNat) from List.length_drop);omega);intro v772 w25 ho hb hg hat;rw [← bN.out] at ho;replace cN:=am (q3m (ok:=(fun _=>True)) (aR cN.out) hg hat);replace HB:=am (hb);have dG:=am (ho);clear dE;clear ho hb hg hat;refine hK.out _ _ trivial (fun hHeld=>?_);clear hK K;refine q3f (a':=?_) ?_ ?_;rotate_left
           ·exact pA (some 44)
           refine pu 12 (some 4) (lb 13 8191) HT_ ?_;refine q5c (q3Z HT_.out X4) ?_;try go_wp2
           go_ret
           exact ⟨_,X11,aR (q0n dG.out (fun _ hk=>trivial)),X6⟩
          ·exact iN bJ H
         ·exact iN c10 H
        ·exact iN c9 H
       ·exact iN c8 H
    ·exact iN c4 H
   ·rw [if_neg c3] at H;have c3b0:=dF c3;clear c3;obtain ⟨dH,dI⟩:∃ y_:List q0a,y_ = (([]:List q0a)):=⟨_,rfl⟩;replace H:(if 0≤aH then (if aH≤(l0.length:Int) then (if dH.length + (l0.take (aH:Int).toNat).length < 8796093022208 then ((some (dH++(l0.take (aH:Int).toNat):List q0a)).bind fun dJ=>((some (([a1]:List q0a):List q0a)).bind fun dK=>(if dJ.length + dK.length < 8796093022208 then ((some (dJ++dK:List q0a)).bind fun dL=>(if dL.length + (l0.drop (aH:Int).toNat).length < 8796093022208 then (some (dL++(l0.drop (aH:Int).toNat))) else (none))) else (none)))) else (none)) else (none)) else (none)) = some r:=by first|(rw [dI];with_reducible exact H)|(have aZ:=(Option.bind_some _ _).symm.trans H;rw [dI];with_reducible exact aZ)|(have aZ:=(Option.bind_some _ _).symm.trans H;with_reducible exact aZ) | with_reducible exact H|(rw [dI];exact H) | exact H
    have dM:=am dI;clear dI;by_cases dN:0≤aH
    ·rw [if_pos dN] at H;have c26b0:=q0c dN;have c26b1:=dT dN;clear dN;by_cases dO:aH≤(l0.length:Int)
     ·rw [if_pos dO] at H;have c27b0:=q0c dO;have c27b1:=dT dO;clear dO;by_cases dP:dH.length + (l0.take (aH:Int).toNat).length < 8796093022208
      ·rw [if_pos dP] at H;have dQ:=am dP;clear dP;obtain ⟨dJ,dR,H⟩:=oE H;(try dsimp only at H)
       have dS:=am dR;clear dR;obtain ⟨dK,dU,H⟩:=oE H;(try dsimp only at H)
       have dV:=am dU;clear dU;by_cases dW:dJ.length + dK.length < 8796093022208
       ·rw [if_pos dW] at H;have dX:=am dW;clear dW;obtain ⟨dL,dY,H⟩:=oE H;(try dsimp only at H)
        have dZ:=am dY;clear dY;have c30b0:=q0c (q0b X12:0≤aH);have c31b0:=q0c (q0b X12:aH≤(l0.length:Int));by_cases eA:dL.length + (l0.drop (aH:Int).toNat).length < 8796093022208
        ·rw [if_pos eA] at H;have eB:=am eA;clear eA;obtain ⟨eC,eD⟩:∃ y_:List q0a,y_ = (dL++(l0.drop (aH:Int).toNat)):=⟨_,rfl⟩;rw [← eD] at H;(try rw [oG eC] at H)
         have eE:=am eD;clear eD;obtain rfl:=q0d H;try go_wp2
         replace HB:=am (q0l HB.out);obtain ⟨i034,eG,_,eH,_⟩:=info_parts q4K;obtain ⟨hcut34,eI,eJ⟩:=q6l (P:=prog) Value.string (⟨#[]⟩:q0a) 39 9 .i64 underlying39 eG eH A0 c0 l0 aH (q0b X12) (q0b X12) aG.out;have eK:=am (Kd.C_of_reads (h1:=fun _=>rfl) (eI _ (Kd.reads_of_C aE.out)));have HC777:=am eJ;clear eI eJ eG eH;obtain ⟨i035,eL,_,eM,_⟩:=info_parts q4K;obtain ⟨A35,hcut35,eN,eO⟩:=q6q (P:=prog) Value.string (⟨#[]⟩:q0a) 39 9 .i64 underlying39 eL eM A0 c0 l0 aH (q0b X12) (q0b X12) aG.out;have eP:=am (Kd.C_of_reads (h1:=fun _=>rfl) (eN _ (Kd.reads_of_C aE.out)));have HC787:=am eO;clear eN eO eL eM;refine q4o (n:=13) (S:=fun w'=>True) (ds:=[]) (lb 13 0) X4 rfl rfl trivial (fun hHeld=>?_);refine q3u q2S.tab6 q2S.bits6 (fun HT_ HW_=>?_);generalize wr.drew = w33 at HB eK eP hHeld ⊢
         refine pu 1 (some 34) (lb 13 2) HT_ ?_;refine pu 2 (some 35) (lb 13 6) HT_ ?_;refine pu 3 (some 36) (lb 13 14) HT_ ?_;refine pu 5 (some 38) (lb 13 46) HT_ ?_;refine pu 8 (some 41) (lb 13 302) HT_ ?_;refine pu 9 (some 42) (lb 13 814) HT_ ?_;refine pu 10 (some 43) (lb 13 1838) HT_ ?_;refine v0l (σ:=Value × Value × Value) 3 (lb 13 1919) (fun s_=>[(33,s_.1),(37,s_.2.1),(39,s_.2.2)]) (fun s_ w'=>(Kd.R Kd.string 9 w' w.heap.size (fun k_=>nO k_ s_.2.2) s_.2.1 dJ)∧(Kd.R Kd.string 9 w' w.heap.size (fun k_=>nO k_ s_.2.1) s_.2.2 dK)∧(Below w.heap.size w w')) ?_ ?_;rotate_left
         ·intro hCont;refine two_ (i:=0) (j:=6) (Ni:=some 33) (Nj:=some 39) (lb 13 1839) (lb 13 1902) rfl rfl rfl rfl (q7u HT_.out X4) (by decide) (by decide) (fun K hK=>?_) (fun K hK=>?_)
          ·skip
           refine q2h Kd.string _ 9 ?hg (N:=33) ?hd (xs:=([]:List q0a)) (inner:=[]) (ok:=fun _=>True) (okp:=fun _=>True) ?hr ?hp (fun _ hk=>hk) trivial (q0i _ _) (q0f _) (by simp) ?_;(case hd=>rfl);(case hg=>rfl);(case hr=>exact X35);(case hp=>exact (q2T _ _));intro eQ eR eS hb hg_ hnew_;clear hg_ hnew_;(first | rw [← dM.out] at eS|(simp only [Int.reduceToNat] at eS;rw [← dM.out] at eS));have eU:=am (q0H eS (q1c X6));replace HB:=bS X6 hb;clear hb eS;refine hK.out _ _ trivial (fun hHeld=>?_);clear hK K;refine q3f (a':=?_) ?_ ?_;rotate_left
           ·exact pA (some 33)
           refine two_ (i:=4) (j:=6) (Ni:=some 37) (Nj:=some 39) (lb 13 1855) (lb 13 1903) rfl rfl rfl rfl (q7u HT_.out X4) (by decide) (by decide) (fun K hK=>?_) (fun K hK=>?_)
           ·skip
            refine q2i Kd.string (w0:=w) w.heap.size (by rfl) (.tmp 33) (.tmp 36) 39 9 (.string ⟨#[]⟩) 16 rfl underlying39 q4K rfl (by decide) (by omega) eQ dH (l0.take (aH:Int).toNat) _ _ _ (fun _=>True) (fun _=>False) rfl rfl ?aO ?aR (fun _ _ h=>h) (fun _ h=>h.elim) ?aF ?aB ?aS ?aL ?_;(case aR=>exact (X180 eK HB));(case aB=>exact X6);(case aF=>exact (fun _ _=>trivial));(case aO=>exact (aR eU.out));(case aS=>exact (q1c X6));(case aL=>exact (X181 dQ));intro eV eW ho hb hg hat;rw [← dS.out] at ho;replace HB:=am (hb);have eX:=am (ho);clear eU;clear ho hb hg hat;refine hK.out _ _ trivial (fun hHeld=>?_);clear hK K;refine q3f (a':=?_) ?_ ?_;rotate_left
            ·exact pA (some 37)
            refine oo 6 (some 39) (lb 13 1919) HT_ (fun K hK=>?_);refine q2h Kd.string _ 9 ?hg (N:=39) ?hd (xs:=([a1]:List q0a)) (inner:=[.string a1]) (ok:=fun _=>True) (okp:=fun _=>True) ?hr ?hp (fun _ hk=>hk) trivial (q0i _ _) (q0f _) (by simp) ?_;(case hd=>rfl);(case hg=>rfl);(case hr=>exact X35);(case hp=>exact rp);intro eY w39 eZ hb hg_ hnew_;clear hg_ hnew_;(first | rw [← dV.out] at eZ|(simp only [Int.reduceToNat] at eZ;rw [← dV.out] at eZ));have fA:=am (q0H (q2A eZ (q1F (aR eX.out))) (q1c X6));replace eX:=am (q2m (aR eX.out) (q0x eZ) hb);replace HB:=bS X6 hb;clear hb eZ;refine hK.out _ _ trivial (fun hHeld=>?_);clear hK K;refine q3f (a':=?_) ?_ ?_;rotate_left
            ·exact pA (some 39)
            exact q3f (by simp only [q4E,Act.put,List.setIfInBounds_toArray,List.set_cons_zero,List.set_cons_succ]) (hCont (eQ,eV,eY) _ ⟨(aR (q0n eX.out (fun _ hk=>hk.2))),(aR (q0n fA.out (fun _ hk=>hk.2))),X6⟩)
           ·skip
            refine q2h Kd.string _ 9 ?hg (N:=39) ?hd (xs:=([a1]:List q0a)) (inner:=[.string a1]) (ok:=fun _=>True) (okp:=fun _=>True) ?hr ?hp (fun _ hk=>hk) trivial (q0i _ _) (q0f _) (by simp) ?_;(case hd=>rfl);(case hg=>rfl);(case hr=>exact X35);(case hp=>exact rp);intro eY eW fB hb hg_ hnew_;clear hg_ hnew_;(first | rw [← dV.out] at fB|(simp only [Int.reduceToNat] at fB;rw [← dV.out] at fB));have fA:=am (q0H (q2A fB (q1F (aR eU.out))) (q1c X6));replace eU:=am (q2m (aR eU.out) (q0x fB) hb);replace HB:=bS X6 hb;clear hb fB;refine hK.out _ _ trivial (fun hHeld=>?_);clear hK K;refine q3f (a':=?_) ?_ ?_;rotate_left
            ·exact pA (some 39)
            refine oo 4 (some 37) (lb 13 1919) HT_ (fun K hK=>?_);refine q2i Kd.string (w0:=w) w.heap.size (by rfl) (.tmp 33) (.tmp 36) 39 9 (.string ⟨#[]⟩) 16 rfl underlying39 q4K rfl (by decide) (by omega) eQ dH (l0.take (aH:Int).toNat) _ _ _ (fun k_=>nO k_ eY) (fun _=>False) rfl rfl ?aO ?aR (fun _ _ h=>h) (fun _ h=>h.elim) ?aF ?aB ?aS ?aL ?_;(case aR=>exact (X180 eK HB));(case aB=>exact X6);(case aF=>exact (fun k_ hk=>q1y (q1F (aR fA.out)) k_ hk));(case aO=>exact (aR (q0n eU.out (fun _ hk=>hk.2))));(case aS=>exact (q1c X6));(case aL=>exact (X181 dQ));intro eV fC ho hb hg hat;rw [← dS.out] at ho;replace fA:=am (q3m (ok:=(fun _=>True)) (aR fA.out) hg hat);replace HB:=am (hb);have eX:=am (ho);clear eU;clear ho hb hg hat;refine hK.out _ _ trivial (fun hHeld=>?_);clear hK K;refine q3f (a':=?_) ?_ ?_;rotate_left
            ·exact pA (some 37)
            exact q3f (by simp only [q4E,Act.put,List.setIfInBounds_toArray,List.set_cons_zero,List.set_cons_succ]) (hCont (eQ,eV,eY) _ ⟨(aR eX.out),(aR (q0n fA.out (fun _ hk=>hk.2))),X6⟩)
          ·skip
           refine q2h Kd.string _ 9 ?hg (N:=39) ?hd (xs:=([a1]:List q0a)) (inner:=[.string a1]) (ok:=fun _=>True) (okp:=fun _=>True) ?hr ?hp (fun _ hk=>hk) trivial (q0i _ _) (q0f _) (by simp) ?_;(case hd=>rfl);(case hg=>rfl);(case hr=>exact X35);(case hp=>exact rp);intro eY eR eS hb hg_ hnew_;clear hg_ hnew_;(first | rw [← dV.out] at eS|(simp only [Int.reduceToNat] at eS;rw [← dV.out] at eS));have fA:=am (q0H eS (q1c X6));replace HB:=bS X6 hb;clear hb eS;refine hK.out _ _ trivial (fun hHeld=>?_);clear hK K;refine q3f (a':=?_) ?_ ?_;rotate_left
           ·exact pA (some 39)
           refine oo 0 (some 33) (lb 13 1903) HT_ (fun K hK=>?_);refine q2h Kd.string _ 9 ?hg (N:=33) ?hd (xs:=([]:List q0a)) (inner:=[]) (ok:=fun _=>True) (okp:=fun _=>True) ?hr ?hp (fun _ hk=>hk) trivial (q0i _ _) (q0f _) (by simp) ?_;(case hd=>rfl);(case hg=>rfl);(case hr=>exact X35);(case hp=>exact (q2T _ _));intro eQ eW fB hb hg_ hnew_;clear hg_ hnew_;(first | rw [← dM.out] at fB|(simp only [Int.reduceToNat] at fB;rw [← dM.out] at fB));have eU:=am (q0H (q2A fB (q1F (aR fA.out))) (q1c X6));replace fA:=am (q2m (aR fA.out) (q0x fB) hb);replace HB:=bS X6 hb;clear hb fB;refine hK.out _ _ trivial (fun hHeld=>?_);clear hK K;refine q3f (a':=?_) ?_ ?_;rotate_left
           ·exact pA (some 33)
           refine oo 4 (some 37) (lb 13 1919) HT_ (fun K hK=>?_);refine q2i Kd.string (w0:=w) w.heap.size (by rfl) (.tmp 33) (.tmp 36) 39 9 (.string ⟨#[]⟩) 16 rfl underlying39 q4K rfl (by decide) (by omega) eQ dH (l0.take (aH:Int).toNat) _ _ _ (fun k_=>nO k_ eY) (fun _=>False) rfl rfl ?aO ?aR (fun _ _ h=>h) (fun _ h=>h.elim) ?aF ?aB ?aS ?aL ?_;(case aR=>exact (X180 eK HB));(case aB=>exact X6);(case aF=>exact (fun k_ hk=>q1y (q1F (aR fA.out)) k_ hk));(case aO=>exact (aR (q0n eU.out (fun _ hk=>hk.2))));(case aS=>exact (q1c X6));(case aL=>exact (X181 dQ));intro eV fC ho hb hg hat;rw [← dS.out] at ho;replace fA:=am (q3m (ok:=(fun _=>True)) (aR fA.out) hg hat);replace HB:=am (hb);have eX:=am (ho);clear eU;clear ho hb hg hat;refine hK.out _ _ trivial (fun hHeld=>?_);clear hK K;refine q3f (a':=?_) ?_ ?_;rotate_left
           ·exact pA (some 37)
           exact q3f (by simp only [q4E,Act.put,List.setIfInBounds_toArray,List.set_cons_zero,List.set_cons_succ]) (hCont (eQ,eV,eY) _ ⟨(aR eX.out),(aR (q0n fA.out (fun _ hk=>hk.2))),X6⟩)
         rintro ⟨eQ,eV,eY⟩ fD ⟨cR,cS,cT⟩;have eX:q0j (Kd.R Kd.string 9 fD w.heap.size (fun k_=>nO k_ eY) eV dJ):=⟨cR⟩;have fA:q0j (Kd.R Kd.string 9 fD w.heap.size (fun k_=>nO k_ eV) eY dK):=⟨cS⟩;replace HB:q0j (Below w.heap.size w fD):=⟨cT⟩;clear cR cS cT;have hHeld:=trivial;obtain ⟨fE,fF,fG⟩:=q0I fA.out;(first | subst fG|(injection fG with cY cZ dA;have dB:=cY.symm;have dC:=dA.symm;clear cY cZ dA;subst dB;subst dC));refine q3f (a':=?_) ?_ ?_;rotate_left
         ·simp only [q4E,Act.put,List.setIfInBounds_toArray,List.set_cons_zero,List.set_cons_succ];rfl
         refine oo 7 (some 40) (lb 13 2047) HT_ (fun K hK=>?_);refine q2i Kd.string (w0:=w) w.heap.size (by rfl) (.tmp 37) (.tmp 39) 39 9 (.string ⟨#[]⟩) 16 rfl underlying39 q4K rfl (by decide) (by omega) eV dJ dK _ _ _ (fun k_=>nO k_ (sl fE dK fF)) (fun _=>False) rfl rfl ?aO ?aR (fun _ _ h=>h) (fun _ h=>h.elim) ?aF ?aB ?aS ?aL ?_;(case aR=>exact X36);(case aB=>exact X6);(case aF=>exact (fun k_ hk=>q1y (q1F (aR fA.out)) k_ hk));(case aO=>exact (aR eX.out));(case aS=>exact (q1c X6));(case aL=>have:=dX.out;omega);intro fH w42 ho hb hg hat;rw [← dZ.out] at ho;replace fA:=am (q3m (ok:=(fun _=>True)) (aR (q0n fA.out (fun _ hk=>⟨trivial,hk⟩))) hg hat);replace HB:=am (hb);have fJ:=am (ho);clear eX;clear ho hb hg hat;refine hK.out _ _ trivial (fun hHeld=>?_);clear hK K;refine q3f (a':=?_) ?_ ?_;rotate_left
         ·exact pA (some 40)
         refine oo 11 (some 44) (lb 13 4095) HT_ (fun K hK=>?_);refine q2i Kd.string (w0:=w) w.heap.size (by rfl) (.tmp 40) (.tmp 43) 39 9 (.string ⟨#[]⟩) 16 rfl underlying39 q4K rfl (by decide) (by omega) fH dL (l0.drop (aH:Int).toNat) _ _ _ (fun k_=>nO k_ (sl fE dK fF)) (fun _=>False) rfl rfl ?aO ?aR (fun _ _ h=>h) (fun _ h=>h.elim) ?aF ?aB ?aS ?aL ?_;(case aR=>first|(rw [← show (l0.drop (aH:Int).toNat).length = (l0.length - aH.toNat) from List.length_drop];repeat (first | exact (q0r eP.out HB.out)|(with_reducible refine q2Q ?_ _)|(with_reducible refine q2D ?_ _)|(with_reducible refine q2U ?_)))|(repeat (first | exact (q0r eP.out HB.out)|(with_reducible refine q2Q ?_ _)|(with_reducible refine q2D ?_ _)|(with_reducible refine q2U ?_))));(case aB=>exact X6);(case aF=>exact (fun k_ hk=>q1y (q1F (aR fA.out)) k_ hk));(case aO=>exact (aR fJ.out));(case aS=>exact (q1c X6));(case aL=>have:=eB.out;have hlx_:=(show (l0.drop (aH:Int).toNat).length = (l0.length - aH.toNat) from List.length_drop);omega);intro v789 w44 ho hb hg hat;rw [← eE.out] at ho;replace fA:=am (q3m (ok:=(fun _=>True)) (aR fA.out) hg hat);replace HB:=am (hb);have fK:=am (ho);clear fJ;clear ho hb hg hat;refine hK.out _ _ trivial (fun hHeld=>?_);clear hK K;refine q3f (a':=?_) ?_ ?_;rotate_left
         ·exact pA (some 44)
         refine pu 12 (some 4) (lb 13 8191) HT_ ?_;refine q5c (q3Z HT_.out X4) ?_;try go_wp2
         go_ret
         exact ⟨_,X11,aR (q0n fK.out (fun _ hk=>trivial)),X6⟩
        ·exact iN eA H
       ·exact iN dW H
      ·exact iN dP H
     ·exact iN dO H
    ·exact iN dN H
def q3y.f (k:Nat) (l0:List q0a) (a1:q0a):Option (List q0a):=if l0.any (fun x=>x.toList == a1.toList) = true then q3D.f k l0 a1 else q2S.f k l0 a1
theorem q3y.mono:∀ l0 a1 k,LeO (q3y.f k l0 a1) (q3y.f (k + 1) l0 a1):=by
 intro l0 a1 k;unfold q3y.f;exact LeO.ite (q3D.mono _ _ _) (q2S.mono _ _ _)
theorem q3y.calls (k:Nat) (aA:Nat → Prop) (aC:Value) (l0:List q0a) (a1:q0a) (r:List q0a) (w0 w:World) (hB:Below w0.heap.size w0 w) (aD:Kd.R Kd.string 9 w w0.heap.size aA aC l0) (h:q3y.f k l0 a1 = some r) :
  Calls prog 29 #[aC,.string a1] w fun e w'=>∃ aE:Value,e = .returned (aE)∧Kd.R Kd.string 9 w' w0.heap.size (fun k_=>(aA k_∨w.heap.size≤k_)) aE r∧Below w0.heap.size w0 w'∧Kept w w' (fun k_=>aA k_):=by
 obtain ⟨A,c,rfl,hc,hC⟩:=Kd.R_reads aD;unfold q3y.f at h;split at h
 ·refine (q3D.calls k A c l0 a1 r w hC hc h).mono ?_;rintro e w' ⟨rfl,rfl,⟨n,rfl⟩⟩;exact ⟨_,rfl,q0n (Kd.R_drewN aD n) (fun k hk=>.inl hk),q0m hB n,Kept.drewN (Kept.refl _ _) n⟩
 ·refine (q2S.calls k A c l0 a1 r w hC hc h).mono ?_;rintro e w' ⟨v,rfl,hO,hb⟩;exact ⟨v,rfl,q0H (q0n (Kd.R_bound hO) (fun k hk=>.inr hk.2.1)) hB.size,q7L hB hB.size hb,Kept.of_below hb _⟩
mutual
def q0L.j0:Nat → List q0a → Bool → Int → q0a → Int → List (S25) → Option (List q0a)
 | 0,_,_,_,_,_,_=>none
 | k + 1,x3,aA,aC,aD,aE,aG=>if aA = true then (q0L.j1 k (([aD]:List q0a)) aC aD aE aG) else (q0L.j1 k x3 aC aD aE aG)
def q0L.j1:Nat → List q0a → Int → q0a → Int → List (S25) → Option (List q0a)
 | 0,_,_,_,_,_=>none
 | k + 1,x3,aA,aC,aD,aE=>q0L.l0 k x3 0 aA aC aD aE
def q0L.l0:Nat → List q0a → Int → Int → q0a → Int → List (S25) → Option (List q0a)
 | 0,_,_,_,_,_,_=>none
 | k + 1,x3,x4,aA,aC,aD,aE=>if x4 < (aE.length:Int) then (if 0≤x4 then ((q0L.f k ((q0A aE x4).f0) ((q0A aE x4).f1) ((q0A aE x4).f2) ((q0A aE x4).f3)).bind fun aG=>(q0L.l1 k x3 x4 aG 0 aA aC aD aE)) else (none)) else (some x3)
def q0L.l1:Nat → List q0a → Int → List q0a → Int → Int → q0a → Int → List (S25) → Option (List q0a)
 | 0,_,_,_,_,_,_,_,_=>none
 | k + 1,x3,x4,x5,x6,aA,aC,aD,aE=>if x6 < (x5.length:Int) then (if 0≤x6 then ((q3y.f k x3 (rdOf ByteArray.empty x5 x6)).bind fun aG=>(q0L.l1 k aG x4 x5 (wrap64 (x6 + 1)) aA aC aD aE)) else (none)) else (q0L.l0 k x3 (wrap64 (x4 + 1)) aA aC aD aE)
def q0L.f:Nat → Int → q0a → Int → List (S25) → Option (List q0a)
 | 0,_,_,_,_=>none
 | k + 1,aA,aC,aD,aE=>if aA = 4 then (q0L.j0 k ([]:List q0a) true aA aC aD aE) else (if aA = 11 then (q0L.j0 k ([]:List q0a) true aA aC aD aE) else (q0L.j0 k ([]:List q0a) (aA == 12) aA aC aD aE))
end
theorem q0L.calls (k:Nat):∀ (aA:Int) (aC:q0a) (aD:Int) (aE:Option Addr) (aG:Nat) (aH:List (S25)) (r:List q0a) (w:World) (aI:Kd.C k25 w aE aH.length aH) (aJ:aH.length≤aG) (h:q0L.f k aA aC aD aH = some r),
  Calls prog 51 #[.agg #[iv aA,.string aC,iv aD,sl aE aH aG]] w fun e w'=>∃ aK:Value,e = .returned (aK)∧Kd.R Kd.string 9 w' w.heap.size (fun _=>True) aK r∧Below w.heap.size w w':=by
 induction k using Nat.strongRecOn with
 | _ k ih=>
 intro aA aC aD aE aG aH r w aI aJ h;cases k with
 | zero=>exact absurd h (by simp [q0L.f])
 | succ k=>
 simp only [q0L.f] at h;have hu25:=underlying25;have aM:=am aI;have HC0_3:=am aJ;clear aI aJ;have HB:=am (q0i w.heap.size w);have H:(if aA = 4 then (q0L.j0 k ([]:List q0a) true aA aC aD aH) else (if aA = 11 then (q0L.j0 k ([]:List q0a) true aA aC aD aH) else (q0L.j0 k ([]:List q0a) (aA == 12) aA aC aD aH))) = some r:=h;clear h;have aQ:=am H;clear H;go_enter func51,ntmps51;go_upto_region 2 with (first|((with_reducible refine gd 1 ?_);refine be 1 #[iv aA,.string aC,iv aD,sl aE aH aG] 25 ?_;intro aT hg w3 hbox hb;have aU:=am (hbox);have GW1124:=sG (w:=w) hg X6;have aW:=sG (w:=w) hg X6;replace HB:=bS X6 hb;clear hb hbox hg))
 (try simp only [Act.put,List.setIfInBounds_toArray,List.set_cons_zero,List.set_cons_succ]);go_cut [19] (fun aX wc=>∃ (kq:Nat) (aY:Bool),aX = .bool aY∧q0j (q0L.j0 kq ([]:List q0a) aY aA aC aD aH = some r)∧q0j (kq≤k)∧q0j (Kd.R Kd.string 9 wc w.heap.size (fun _=>True) (.slice none 0 0) ([]:List q0a))∧q0j (wc.heap[aT]? = some (.cells #[iv aA,.string aC,iv aD,(sl aE aH aG)] 25 (0,0)))∧q0j (Below w.heap.size w wc))
 case first=>
  have H:=aQ.out;clear aQ;by_cases c4:aA = 4
  ·rw [if_pos c4] at H;have c4b0:=eT c4;have c4b1:=eF c4;clear c4;(first | rw [c4b0]|(simp only [q3O,q3U];rw [c4b0]) | skip);have H':=am H;clear H;have Z5:=bc4 aU;go_wp2
   go_meet
   case rel=>exact ⟨_,(true),X7,H',⟨X8⟩,⟨X21⟩,⟨(X9 aU)⟩,⟨(X10 HB aW)⟩⟩
  ·rw [if_neg c4] at H;have c4b0:=nF c4;have c4b1:=nT c4;(first | rw [c4b0]|(simp only [q3O,q3U];rw [c4b0]) | skip);by_cases c6:aA = 11
   ·rw [if_pos c6] at H;have c6b0:=eT c6;have c6b1:=eF c6;clear c6;have H':=am H;clear H;have Z7:=bc4 aU;go_wp2
    go_meet
    case rel=>exact ⟨_,(true),X7,H',⟨X8⟩,⟨X21⟩,⟨(X9 aU)⟩,⟨(X10 HB aW)⟩⟩
   ·rw [if_neg c6] at H;have c6b0:=nF c6;have c6b1:=nT c6;have H':=am H;clear H;have Z8:=bc4 aU;go_wp2
    go_meet
    case rel=>exact ⟨_,((aA == 12)),X7,H',⟨X8⟩,⟨X21⟩,⟨(X9 aU)⟩,⟨(X10 HB aW)⟩⟩
 case rest=>
  clear aQ;(try clear p2 c4 c4b0 c4b1 c5 c6 c6b0 c6b1 Z5 Z7 Z8);obtain ⟨kq,aY,rfl,HA,aZ,bA,aU,HB⟩:=hcut;cases kq with
  | zero=>exact absurd HA.out (by simp [q0L.j0])
  | succ bB=>
   have H:=HA.out;clear HA;simp only [q0L.j0] at H;have bC:=am H;clear H;go_upto_if 19 with (fail)
   go_cut [3] (fun v3 wc=>∃ (kq:Nat) (bD:List q0a),q0j (q0L.j1 kq bD aA aC aD aH = some r)∧q0j (kq≤bB)∧q0j (Kd.R Kd.string 9 wc w.heap.size (fun _=>True) v3 bD)∧q0j (wc.heap[aT]? = some (.cells #[iv aA,.string aC,iv aD,(sl aE aH aG)] 25 (0,0)))∧q0j (Below w.heap.size w wc))
   case first=>
    have H:=bC.out;clear bC;by_cases c10:aY = true
    ·subst c10;replace H:=tP H;obtain ⟨bE,bF⟩:∃ y_:List q0a,y_ = (([aC]:List q0a)):=⟨_,rfl⟩;rw [← bF] at H;(try rw [oG bE] at H)
     have bH:=am bF;clear bF;have H':=am H;clear H;have bI:=bc4 aU;go_wp2_with (first|((with_reducible refine gd 22 ?_);refine q2j Kd.string _ 9 ?hg (N:=22) ?hd (xs:=([aC]:List q0a)) (inner:=[.string aC]) (ok:=fun _=>True) (okp:=fun _=>True) ?hr ?hp (fun _ hk=>hk) trivial (q0i _ _) (q0f _) (by simp) ?_;(case hd=>rfl);(case hg=>rfl);(case hr=>exact X35);(case hp=>exact rp);intro v1126 w12 bJ hb hg_ hnew_;clear hg_ hnew_;(first | rw [← bH.out] at bJ|(simp only [Int.reduceToNat] at bJ;rw [← bH.out] at bJ));have bK:=am (q0H (q2A bJ (q1F (aR bA.out))) (q1c (X10 HB aW)));replace bA:=am (q2m (aR bA.out) (q0x bJ) hb);replace aU:=kB aU hb;replace HB:=bS (X10 HB aW) hb;clear hb bJ))
     go_meet
     case rel=>exact ⟨_,(bE),H',⟨(X27 aZ)⟩,⟨aR (q0n bK.out (fun _ hk=>trivial))⟩,⟨(X9 aU)⟩,⟨(X10 HB aW)⟩⟩
    ·replace c10:=fI c10;subst c10;replace H:=tN H;have H':=am H;clear H;go_wp2
     go_meet
     case rel=>exact ⟨_,(([]:List q0a)),H',⟨(X27 aZ)⟩,⟨aR bA.out⟩,⟨(X9 aU)⟩,⟨(X10 HB aW)⟩⟩
   case rest=>
    clear bC;(try clear c1);(try clear p2 p2);(try clear c4 c4b0 c4b1 c5 c6 c6b0 c6b1 c10 bI Z5 Z7 Z8);obtain ⟨kq,bD,HA,bL,bA,aU,HB⟩:=hcut;cases kq with
    | zero=>exact absurd HA.out (by simp [q0L.j1])
    | succ bM=>
     have H:=HA.out;clear HA;simp only [q0L.j1] at H;have H':=am H;clear H;go_wp2
     go_loopg [3,4] bM (fun kq v3 v4 w'=>∃ (bN:List q0a) (bO:Int),v4 = iv bO∧q0j (q0L.l0 kq bN bO aA aC aD aH = some r)∧q0j (kq≤bM)∧q0j (Kd.R Kd.string 9 w' w.heap.size (fun _=>True) v3 bN)∧q0j (w'.heap[aT]? = some (.cells #[iv aA,.string aC,iv aD,(sl aE aH aG)] 25 (0,0)))∧q0j (Below w.heap.size w w'))
     case atStart=>exact ⟨(bD),(0),X7,H',⟨q0f _⟩,⟨aR bA.out⟩,⟨(X9 aU)⟩,⟨(X10 HB aW)⟩⟩
     case round=>
      clear H';(try clear c1);(try clear p2 p2);(try clear c4 c4b0 c4b1 c5 c6 c6b0 c6b1 c10 bI Z5 Z7 Z8);obtain ⟨bN,bO,rfl,HA,bP,bA,aU,HB⟩:=hrel;cases gk with
      | zero=>exact absurd HA.out (by simp [q0L.l0])
      | succ k3=>
       have H:=HA.out;clear HA;simp only [q0L.l0] at H;by_cases bQ:bO < (aH.length:Int)
       ·rw [if_pos bQ] at H;have c14b0:=dT bQ;clear bQ;by_cases bR:0≤bO
        ·rw [if_pos bR] at H;have c15b0:=dT bR;clear bR;obtain ⟨bT,bV,H⟩:=oA H;(try dsimp only at H);have H':=am H;clear H;have bW:=bc4 aU;have bX:0≤(bO:Int):=q0b X12;have bY:bO < (aH.length:Int):=q0b X12;obtain ⟨bZ,cA,cC,e1128,cD,cE,cF,cG,cH,cI⟩:=q4w aM.out bO bX bY;cases e1128;replace cD:=cB HB cD;replace cE:=cB HB cE;replace cF:=cB HB cF;replace cG:=cB HB cG;have cJ:=am cI;have cK:=am cH;clear cI cH;replace bX:=q0c bX;replace bY:=q0c bY;go_wp2_with (first|((with_reducible refine gc 51 ?_);refine gL (some 35) func51 #[.agg #[iv ((q0A aH bO).f0),.string ((q0A aH bO).f1),iv ((q0A aH bO).f2),sl cA ((q0A aH bO).f3) cC]] ?_;(with_reducible refine (ih k3 (by have:=aZ.out;have:=bL.out;have:=bP.out;omega) ((q0A aH bO).f0) ((q0A aH bO).f1) ((q0A aH bO).f2) _ _ ((q0A aH bO).f3) bT _ ?side1 ?side2 bV.out).mono ?_);(case side1=>exact cW (q0r cJ.out HB.out));(case side2=>exact cK.out);rintro e w18 ⟨cL,rfl,cM,hb⟩;refine ⟨_,rfl,?_⟩;have cN:=am (q0H (q2A cM (q1F (aR bA.out))) (q1c (X10 HB aW)));replace bA:=am (q2m (aR bA.out) (q0x cM) hb);replace aU:=kB aU hb;replace HB:=bS (X10 HB aW) hb;clear hb;(try clear cM)))
         go_loopg [3,6] k3 (fun kq v3 v6 w'=>∃ (cO:List q0a) (cP:Int),v6 = iv cP∧q0j (q0L.l1 kq cO bO bT cP aA aC aD aH = some r)∧q0j (kq≤k3)∧q0j (Kd.R Kd.string 9 w' w.heap.size (fun k_=>nO k_ cL) v3 cO)∧q0j (Kd.R Kd.string 9 w' w.heap.size (fun k_=>nO k_ v3) cL bT)∧q0j (w'.heap[aT]? = some (.cells #[iv aA,.string aC,iv aD,(sl (some bZ) aH aG)] 25 (0,0)))∧q0j (Below w.heap.size w w'))
         case atStart=>exact ⟨(bN),(0),X7,H',⟨q0f _⟩,⟨aR (q0n bA.out (fun _ hk=>hk.2))⟩,⟨aR (q0n cN.out (fun _ hk=>hk.2))⟩,⟨(X9 aU)⟩,⟨(X10 HB aW)⟩⟩
         case round=>
          clear H';(try clear c1 p1 q1 hx1);(try clear p2 p2);(try clear c4 c4b0 c4b1 c5 c6 c6b0 c6b1 c10 c11 p11 q11 hx11 bQ c14b0 bR c15b0 bI bW Z5 Z7 Z8 cD cE cF cG bX bY);obtain ⟨cO,cP,rfl,HA,cQ,bA,cR,aU,HB⟩:=hrel;cases gk with
          | zero=>exact absurd HA.out (by simp [q0L.l1])
          | succ k4=>
           have H:=HA.out;clear HA;simp only [q0L.l1] at H;by_cases cS:cP < (bT.length:Int)
           ·rw [if_pos cS] at H;have c19b0:=dT cS;clear cS;by_cases cT:0≤cP
            ·rw [if_pos cT] at H;have c20b0:=dT cT;clear cT;obtain ⟨cU,cX,H⟩:=oA H;(try dsimp only at H);have H':=am H;clear H;obtain ⟨Ao22,cY,cZ⟩:=q0I cR.out;subst cZ;have dA:0≤(cP:Int):=q0b X12;have dB:cP < (bT.length:Int):=q0b X12;obtain ⟨dC,e1132,hx1132_0⟩:=q2C (q0Y cR.out).2.2 cP dA dB;cases e1132;replace dA:=q0c dA;replace dB:=q0c dB;obtain ⟨dD,dE,dG⟩:=q0I bA.out;subst dG;go_wp2_with (first|((with_reducible refine gc 29 ?_);refine gL (some 47) func29 #[sl dD cO dE,.string (rdOf ByteArray.empty bT cP)] ?_;(with_reducible refine (q3y.calls k4 (fun k_=>some k_ = (sl dD cO dE:Value).ownBlock) (sl dD cO dE) cO (rdOf ByteArray.empty bT cP) cU w _ ?side1 ?side2 cX.out).mono ?_);(case side1=>exact (X10 HB aW));(case side2=>exact Kd.R_tight rfl bA.out);rintro e w24 ⟨dH,rfl,cM,hb,hkp⟩;refine ⟨_,rfl,?_⟩;replace aU:=am (v1G (X9 aU) hkp (fun hs_=>(fun e_=>(q2Z bA.out aU.out (by decide)) e_) hs_));have dI:=am (q0n (ok':=fun k_=>nO k_ (sl (some dC) bT cY)) cM (fun k_ hk_=>Or.elim hk_ (fun hs_=>fun e_=>(((cR.out).1 k_ e_.symm)) hs_) (fun hn_=>(q1y (q1F (aR cR.out)) k_ hn_))));replace cR:=am (q0n (ok':=fun k_=>nO k_ dH) (Kd.R_keptB (cR.out) hkp (fun k_ hk_ hs_=>(hk_) hs_)) (fun k_ hk_=>fun e_=>Or.elim (cM.1 k_ e_.symm) (fun hs_=>hk_.2.1 hs_) (fun hn_=>Nat.not_le.2 hk_.2.2 hn_)));replace HB:=am (hb);clear bA;(try clear hb);(try clear hkp);(try clear cM)))
             go_roundg k4
             case measure=>have:=aZ.out;have:=bL.out;have:=bP.out;have:=cQ.out;omega
             case rel=>exact ⟨(cU),(wrap64 (cP + 1)),X7,H',⟨by have:=aZ.out;have:=bL.out;have:=bP.out;have:=cQ.out;omega⟩,⟨aR dI.out⟩,⟨aR cR.out⟩,⟨(X9 aU)⟩,⟨(X10 HB aW)⟩⟩
            ·exact iN cT H
           ·rw [if_neg cS] at H;have c19b0:=dF cS;clear cS;have H':=am H;clear H;obtain ⟨Ao25,co25,dJ⟩:=q0I cR.out;subst dJ;go_wp2
            go_roundg k4
            case measure=>have:=aZ.out;have:=bL.out;have:=bP.out;have:=cQ.out;omega
            case rel=>exact ⟨(cO),(wrap64 (bO + 1)),X7,H',⟨by have:=aZ.out;have:=bL.out;have:=bP.out;have:=cQ.out;omega⟩,⟨aR (q0n bA.out (fun _ hk=>trivial))⟩,⟨(X9 aU)⟩,⟨(X10 HB aW)⟩⟩
        ·exact iN bR H
       ·rw [if_neg bQ] at H;have c14b0:=dF bQ;clear bQ;obtain rfl:=q0d H;have Z26:=bc4 aU;go_wp2
        go_ret
        exact ⟨_,X11,aR bA.out,(X10 HB aW)⟩
end Go.Proofs.YtmffocankommaaaDoor.J
