/- Printed walks: what each function of the program computes. Condition: the Lean function gives a value. -/
import Derived.Test.YtmffocankommaaaDoorDYZed
import Derived.Test.YtmffocankommaaaDoorDx5
namespace Go.Proofs.YtmffocankommaaaDoor.F
open Go.RowKit Go.Proofs.YtmffocankommaaaDoorW.PrintWords Go.Proofs.YtmffocankommaaaDoorW.PrintLast Go.Proofs.YtmffocankommaaaDoorW.PrintMore Go.Proofs.YtmffocankommaaaDoorY Go.Proofs.YtmffocankommaaaDoorS Go.Proofs.YtmffocankommaaaDoorS _root_.Go.Proofs.Tryd
attribute [local go_sem] q2H q3a q3c q3H q3G q2R q2Q q3b q3d
set_option linter.unusedVariables false
set_option maxHeartbeats 8000000
set_option maxRecDepth 100000
set_option linter.unusedSimpArgs false
mutual
def q1s.l0:Nat → Int → Int → Int → q0a → Int → List (S25) → Option (Int)
 | 0,_,_,_,_,_,_=>none
 | k + 1,x3,x4,aA,aC,aD,aE=>if x4 < (aE.length:Int) then (if 0≤x4 then ((q1s.f k ((q0p aE x4).f0) ((q0p aE x4).f1) ((q0p aE x4).f2) ((q0p aE x4).f3)).bind fun aG=>(q1s.l0 k (wrap64 (x3 + aG)) (wrap64 (x4 + 1)) aA aC aD aE)) else (none)) else (some x3)
def q1s.f:Nat → Int → q0a → Int → List (S25) → Option (Int)
 | 0,_,_,_,_=>none
 | k + 1,aA,aC,aD,aE=>q1s.l0 k 1 0 aA aC aD aE
end
theorem q1s.mono_l:∀ k,(∀ y0 y1 y2 y3,LeO (q1s.f k y0 y1 y2 y3) (q1s.f (k + 1) y0 y1 y2 y3))∧(∀ y0 y1 y2 y3 y4 y5,LeO (q1s.l0 k y0 y1 y2 y3 y4 y5) (q1s.l0 (k + 1) y0 y1 y2 y3 y4 y5))
 | 0=>⟨fun _ _ _ _ r h=>by simp [q1s.f] at h,fun _ _ _ _ _ _ r h=>by simp [q1s.l0] at h⟩
 | k + 1=>by
  obtain ⟨aA,aC⟩:=q1s.mono_l k;refine ⟨?_,?_⟩
  ·intro y0 y1 y2 y3;unfold q1s.f;exact X67
  ·intro y0 y1 y2 y3 y4 y5;unfold q1s.l0;exact X67
theorem q1s.mono:∀ a0 a1 a2 a3 k,LeO (q1s.f k a0 a1 a2 a3) (q1s.f (k + 1) a0 a1 a2 a3):=by
 intro a0 a1 a2 a3 k;obtain ⟨aA,ih1⟩:=q1s.mono_l k;exact aA a0 a1 a2 a3
theorem q1s.calls (k:Nat):∀ (aA:Int) (aC:q0a) (aD:Int) (aE:Option Addr) (aG:Nat) (aH:List (S25)) (r:Int) (w:World) (aI:Kd.C k25 w aE aH.length aH) (aJ:aH.length≤aG) (h:q1s.f k aA aC aD aH = some r),
  Calls prog 69 #[.agg #[iv aA,.string aC,iv aD,sl aE aH aG]] w fun e w'=>e = .returned (iv r)∧Below w.heap.size w w':=by
 induction k using Nat.strongRecOn with
 | _ k ih=>
 intro aA aC aD aE aG aH r w aI aJ h;cases k with
 | zero=>exact absurd h (by simp [q1s.f])
 | succ k=>
 simp only [q1s.f] at h;have hu25:=underlying25;have aK:=am aI;have HC0_3:=am aJ;clear aI aJ;have HB:=am (q0k w.heap.size w);have H:(q1s.l0 k 1 0 aA aC aD aH) = some r:=h;clear h;have H':=am H;clear H;go_enter func69,ntmps69;go_wp2_with (first|((with_reducible refine gd 1 ?_);refine be 1 #[iv aA,.string aC,iv aD,sl aE aH aG] 25 ?_;intro aM hg w2 hbox hb;have aQ:=am (hbox);have GW805:=sG (w:=w) hg X6;have aT:=sG (w:=w) hg X6;replace HB:=bS X6 hb;clear hb hbox hg))
 go_loopg [3,4] k (fun kq v3 v4 w'=>∃ (aU:Int) (aW:Int),v3 = iv aU∧v4 = iv aW∧q0j (q1s.l0 kq aU aW aA aC aD aH = some r)∧q0j (kq≤k)∧q0j (w'.heap[aM]? = some (.cells #[iv aA,.string aC,iv aD,(sl aE aH aG)] 25 (0,0)))∧q0j (Below w.heap.size w w'))
 case atStart=>exact ⟨(1),(0),X7,X7,H',⟨q0e _⟩,⟨(X9 aQ)⟩,⟨X72⟩⟩
 case round=>
  clear H';(try clear p2);obtain ⟨aU,aW,rfl,rfl,HA,aX,aQ,HB⟩:=hrel;cases gk with
  | zero=>exact absurd HA.out (by simp [q1s.l0])
  | succ k1=>
   have H:=HA.out;clear HA;simp only [q1s.l0] at H;by_cases c3:aW < (aH.length:Int)
   ·rw [if_pos c3] at H;have c3b0:=dT c3;clear c3;by_cases c4:0≤aW
    ·rw [if_pos c4] at H;have c4b0:=dT c4;clear c4;obtain ⟨aY,A5,H⟩:=oA H;(try dsimp only at H);have H':=am H;clear H;have Z6:=bc4 aQ;have bA:0≤(aW:Int):=q0b X12;have bB:aW < (aH.length:Int):=q0b X12;obtain ⟨ad806,bC,bD,e806,bE,bF,bG,bH,bI,bJ⟩:=q3N aK.out aW bA bB;cases e806;replace bE:=cB HB bE;replace bF:=cB HB bF;replace bG:=cB HB bG;replace bH:=cB HB bH;have bK:=am bJ;have bL:=am bI;clear bJ bI;replace bA:=q0d bA;replace bB:=q0d bB;go_wp2_with (first|((with_reducible refine gc 69 ?_);refine gL (some 18) func69 #[.agg #[iv ((q0p aH aW).f0),.string ((q0p aH aW).f1),iv ((q0p aH aW).f2),sl bC ((q0p aH aW).f3) bD]] ?_;(with_reducible refine (ih k1 X111 ((q0p aH aW).f0) ((q0p aH aW).f1) ((q0p aH aW).f2) _ _ ((q0p aH aW).f3) aY _ ?side1 ?side2 A5.out).mono ?_);(case side1=>exact (X15 bK HB));(case side2=>exact bL.out);rintro e w7 ⟨rfl,hb⟩;refine ⟨_,rfl,?_⟩;replace aQ:=kB aQ hb;replace HB:=bS X72 hb;clear hb))
     go_roundg k1
     case measure=>have:=aX.out;omega
     case rel=>exact ⟨(wrap64 (aU + aY)),(wrap64 (aW + 1)),X7,X7,H',⟨X111⟩,⟨(X9 aQ)⟩,⟨X72⟩⟩
    ·exact iN c4 H
   ·rw [if_neg c3] at H;have c3b0:=dF c3;clear c3;obtain rfl:=q0c H;have Z8:=bc4 aQ;go_wp2
    go_ret
    exact ⟨X11,X72⟩

def q2K.f (a0:Int):Option (Bool):=if a0≥97 then (some (decide (a0≤122))) else (some false)
theorem q2K.calls (a0:Int) (r:Bool) (w:World) (h:q2K.f a0 = some r) :
  Calls prog 120 #[.int .u8 a0] w fun e w'=>e = .returned (.bool r)∧q3F w w':=by
 have H:=h;clear h;unfold q2K.f at H;by_cases c2:a0≥97
 ·rw [if_pos c2] at H;have c2b0:decide (97≤a0) = true:=q0s c2;clear c2;obtain rfl:=q0c H;go_enter func120,ntmps120;go_wp2
  go_ret
  exact ⟨X7,X18⟩
 ·rw [if_neg c2] at H;have c2b0:decide (97≤a0) = false:=q0F c2;clear c2;obtain rfl:=q0c H;go_enter func120,ntmps120;go_wp2
  go_ret
  exact ⟨X7,X18⟩

def q3n.f (a0:Int):Option (Bool):=if a0≥48 then (some (decide (a0≤57))) else (some false)
theorem q3n.calls (a0:Int) (r:Bool) (w:World) (h:q3n.f a0 = some r) :
  Calls prog 121 #[.int .u8 a0] w fun e w'=>e = .returned (.bool r)∧q3F w w':=by
 have H:=h;clear h;unfold q3n.f at H;by_cases c2:a0≥48
 ·rw [if_pos c2] at H;have c2b0:decide (48≤a0) = true:=q0s c2;clear c2;obtain rfl:=q0c H;go_enter func121,ntmps121;go_wp2
  go_ret
  exact ⟨X7,X18⟩
 ·rw [if_neg c2] at H;have c2b0:decide (48≤a0) = false:=q0F c2;clear c2;obtain rfl:=q0c H;go_enter func121,ntmps121;go_wp2
  go_ret
  exact ⟨X7,X18⟩

mutual
def q1b.j0:Nat → q0a → Bool → Option (Int)
 | 0,_,_=>none
 | k + 1,x0,aA=>if aA = true then (some 0) else (q1b.l0 k x0 1)
def q1b.l0:Nat → q0a → Int → Option (Int)
 | 0,_,_=>none
 | k + 1,x0,x3=>if x3 < (x0.size:Int) then (if 0≤x3 then ((q2K.f (bt x0 x3)).bind fun aA=>(if aA = true then (q1b.j2 k x0 x3 true) else ((q3n.f (bt x0 x3)).bind fun aC=>(q1b.j2 k x0 x3 aC)))) else (none)) else (some x3)
def q1b.j2:Nat → q0a → Int → Bool → Option (Int)
 | 0,_,_,_=>none
 | k + 1,x0,x3,aA=>if aA = true then (q1b.l0 k x0 (wrap64 (x3 + 1))) else (if 0≤x3 then (if x3 < (x0.size:Int) then (if (bt x0 x3) = 45 then (if (wrap64 (x3 + 1)) = (x0.size:Int) then (some x3) else (if 0≤(wrap64 (x3 + 1)) then (if (wrap64 (x3 + 1)) < (x0.size:Int) then ((q2K.f (bt x0 (wrap64 (x3 + 1)))).bind fun aC=>(if aC = true then (q1b.l0 k x0 (wrap64 (x3 + 2))) else ((q3n.f (bt x0 (wrap64 (x3 + 1)))).bind fun aD=>(if aD = true then (q1b.l0 k x0 (wrap64 (x3 + 2))) else (some x3))))) else (none)) else (none))) else (some x3)) else (none)) else (none))
end
def q1b.f (k:Nat) (a0:q0a):Option (Int):=if a0.toList = ([]:List UInt8) then (q1b.j0 k a0 true) else (if 0 < (a0.size:Int) then ((q2K.f (bt a0 0)).bind fun aA=>(q1b.j0 k a0 (!aA))) else (none))
theorem q1b.mono_l:∀ k,(∀ y0 y1,LeO (q1b.j0 k y0 y1) (q1b.j0 (k + 1) y0 y1))∧(∀ y0 y1,LeO (q1b.l0 k y0 y1) (q1b.l0 (k + 1) y0 y1))∧(∀ y0 y1 y2,LeO (q1b.j2 k y0 y1 y2) (q1b.j2 (k + 1) y0 y1 y2))
 | 0=>⟨fun _ _ r h=>by simp [q1b.j0] at h,fun _ _ r h=>by simp [q1b.l0] at h,fun _ _ _ r h=>by simp [q1b.j2] at h⟩
 | k + 1=>by
  obtain ⟨aA,aC,aD⟩:=q1b.mono_l k;refine ⟨?_,?_,?_⟩
  ·intro y0 y1;unfold q1b.j0;exact X137
  ·intro y0 y1;unfold q1b.l0;exact X137
  ·intro y0 y1 y2;unfold q1b.j2;exact X137
theorem q1b.mono:∀ a0 k,LeO (q1b.f k a0) (q1b.f (k + 1) a0):=by
 intro a0 k;obtain ⟨aA,aC,aD⟩:=q1b.mono_l k;unfold q1b.f;exact X137
theorem q1b.calls (k:Nat) (a0:q0a) (r:Int) (w:World) (h:q1b.f k a0 = some r) :
  Calls prog 88 #[.string a0] w fun e w'=>e = .returned (iv r)∧q3F w w':=by
 have H:=h;clear h;unfold q1b.f at H;have aA:=am H;clear H;go_enter func88,ntmps88;go_upto_region 1 with (fail)
 go_cut [11] (fun aC wc=>∃ (kq:Nat) (aD:Bool),aC = .bool aD∧q0j (q1b.j0 kq a0 aD = some r)∧q0j (kq≤k)∧q3F w wc)
 case first=>
  have H:=aA.out;clear aA;by_cases c3:a0.toList = ([]:List UInt8)
  ·rw [if_pos c3] at H;have c3b0:=eT c3;have c3b1:=eF c3;clear c3;(first | rw [c3b0]|(simp only [q3W,q4b];rw [c3b0]) | skip);have H':=am H;clear H;go_wp2
   go_meet
   case rel=>exact ⟨_,(true),X7,H',⟨X8⟩,X18⟩
  ·rw [if_neg c3] at H;have c3b0:=nF c3;have c3b1:=nT c3;(first | rw [c3b0]|(simp only [q3W,q4b];rw [c3b0]) | skip);by_cases c4:0 < (a0.size:Int)
   ·rw [if_pos c4] at H;have c4b0:=dT c4;have c4b1:decide (0 < a0.size) = true:=q0s (by omega);clear c4;obtain ⟨aE,A6,H⟩:=oA H;(try dsimp only at H);have H':=am H;clear H;have p5:0≤(0:Int):=(by omega);have q5:0 < a0.size:=(by have:(0:Int) < (a0.size:Int):=q0b X12;omega);have aH:∀ h:0 < a0.size,((a0[0]'h).toNat:Int) = bt a0 0:=q4m a0 0;clear p5;have aI:(0 < (a0.size:Int)) = True:=q0d (q0b X12);replace q5:=q0d q5;go_wp2_with (first|(go_at_call 120;(with_reducible refine (q2K.calls (bt a0 0) aE _ A6.out).mono ?_);rintro e w' ⟨rfl,⟨nd,rfl⟩⟩))
    go_meet
    case rel=>exact ⟨_,(!aE),X7,H',⟨X8⟩,X18⟩
   ·exact iN c4 H
 case rest=>
  clear aA;(try clear p2 c3 c3b0 c3b1 c4 c4b0 c4b1);(try clear p5 p5);(try clear q5 q5);(try clear aH aI);obtain ⟨kq,aD,rfl,HA,aJ,⟨mc1,rfl⟩⟩:=hcut;cases kq with
  | zero=>exact absurd HA.out (by simp [q1b.j0])
  | succ aK=>
   have H:=HA.out;clear HA;simp only [q1b.j0] at H;by_cases c7:aD = true
   ·subst c7;replace H:=tP H;obtain rfl:=q0c H;go_wp2
    go_ret
    exact ⟨X7,X18⟩
   ·replace c7:=fI c7;subst c7;replace H:=tN H;have H':=am H;clear H;go_wp2
    go_loopg [3] aK (fun kq v3 w'=>∃ (aM:Int),v3 = iv aM∧q0j (q1b.l0 kq a0 aM = some r)∧q0j (kq≤aK)∧q3F w w')
    case atStart=>exact ⟨(1),X7,H',⟨q0e _⟩,X18⟩
    case round=>
     clear H';(try clear c1);(try clear p2 p2);(try clear c3 c3b0 c3b1 c4 c4b0 c4b1);(try clear p5 p5);(try clear q5 q5);(try clear aH aI c7);obtain ⟨aM,rfl,HA,aQ,⟨m2,rfl⟩⟩:=hrel;cases gk with
     | zero=>exact absurd HA.out (by simp [q1b.l0])
     | succ k2=>
      have H:=HA.out;clear HA;simp only [q1b.l0] at H;by_cases c8:aM < (a0.size:Int)
      ·rw [if_pos c8] at H;have c8b0:=dT c8;clear c8;have aT:=am H;clear H;go_upto_region 5 with (fail)
       go_cut [25] (fun aU wc=>∃ (kq:Nat) (aW:Bool),aU = .bool aW∧q0j (q1b.j2 kq a0 aM aW = some r)∧q0j (kq≤k2)∧q3F w wc)
       case first=>
        have H:=aT.out;clear aT;by_cases c10:0≤aM
        ·rw [if_pos c10] at H;have c10b0:=dT c10;clear c10;(first | rw [c10b0]|(simp only [q3W,q4b];rw [c10b0]) | skip);obtain ⟨aX,aZ,H⟩:=oA H;(try dsimp only at H);by_cases bA:aX = true
         ·subst bA;replace H:=tP H;have H':=am H;clear H;have bB:0≤(aM:Int):=q0b X12;have bC:aM < (a0.size:Int):=q0b X12;have bD:=q4m a0 aM;replace bB:=q0d bB;replace bC:=q0d bC;go_wp2_with (first|((with_reducible refine gc 120 ?_);refine gL (some 19) func120 #[.int .u8 (bt a0 aM)] ?_;(with_reducible refine (q2K.calls (bt a0 aM) true _ aZ.out).mono ?_);rintro e w' ⟨rfl,⟨nd,rfl⟩⟩;refine ⟨_,rfl,?_⟩))
          go_meet
          case rel=>exact ⟨_,(true),X7,H',⟨X108⟩,X18⟩
         ·replace bA:=fI bA;subst bA;replace H:=tN H;obtain ⟨bE,bG,H⟩:=oA H;(try dsimp only at H);have H':=am H;clear H;have bB:0≤(aM:Int):=q0b X12;have bC:aM < (a0.size:Int):=q0b X12;have bD:=q4m a0 aM;replace bB:=q0d bB;replace bC:=q0d bC;go_wp2_with (first|((with_reducible refine gc 120 ?_);refine gL (some 19) func120 #[.int .u8 (bt a0 aM)] ?_;(with_reducible refine (q2K.calls (bt a0 aM) false _ aZ.out).mono ?_);rintro e w' ⟨rfl,⟨nd,rfl⟩⟩;refine ⟨_,rfl,?_⟩;have bH:0≤(aM:Int):=q0b X12;have bI:aM < (a0.size:Int):=q0b X12;have bJ:=q4m a0 aM;replace bH:=q0d bH;replace bI:=q0d bI)|(go_at_call 121;(with_reducible refine (q3n.calls (bt a0 aM) bE _ bG.out).mono ?_);rintro e w' ⟨rfl,⟨nd,rfl⟩⟩))
          go_meet
          case rel=>exact ⟨_,(bE),X7,H',⟨X108⟩,X18⟩
        ·exact iN c10 H
       case rest=>
        clear aT;(try clear c1 p1 q1 hx1);(try clear p2 p2);(try clear c3 c3b0 c3b1 c4 c4b0 c4b1);(try clear p5 p5);(try clear q5 q5);(try clear aH aI c7 c8 c8b0 c10 c10b0);(try clear bB bB);(try clear bC bC);(try clear bD c12 bA);(try clear bH bH);(try clear bI bI);(try clear bJ);obtain ⟨kq,aW,rfl,HA,bK,⟨mc8,rfl⟩⟩:=hcut;cases kq with
        | zero=>exact absurd HA.out (by simp [q1b.j2])
        | succ bL=>
         have H:=HA.out;clear HA;simp only [q1b.j2] at H;by_cases bM:aW = true
         ·subst bM;replace H:=tP H;have H':=am H;clear H;go_wp2
          go_roundg bL
          case measure=>have:=aJ.out;have:=aQ.out;have:=bK.out;omega
          case rel=>exact ⟨(wrap64 (aM + 1)),X7,H',⟨(X42 aJ aQ bK)⟩,X18⟩
         ·replace bM:=fI bM;subst bM;replace H:=tN H;by_cases bN:0≤aM
          ·rw [if_pos bN] at H;have c17b0:=dT bN;clear bN;by_cases bO:aM < (a0.size:Int)
           ·rw [if_pos bO] at H;have c18b0:=dT bO;clear bO;by_cases bP:(bt a0 aM) = 45
            ·rw [if_pos bP] at H;have c20b0:=eT bP;have c20b1:=eF bP;clear bP;by_cases bQ:(wrap64 (aM + 1)) = (a0.size:Int)
             ·rw [if_pos bQ] at H;have c21b0:=eT bQ;have c21b1:=eF bQ;clear bQ;obtain rfl:=q0c H;have bR:0≤(aM:Int):=q0b X12;have bT:aM < (a0.size:Int):=q0b X12;have bU:=q4m a0 aM;replace bR:=q0d bR;replace bT:=q0d bT;go_wp2
              go_ret
              exact ⟨X7,X18⟩
             ·rw [if_neg bQ] at H;have c21b0:=nF bQ;have c21b1:=nT bQ;obtain ⟨bV,bW⟩:∃ j_:Int,(wrap64 (aM + 1)) = j_:=⟨_,rfl⟩;replace H:(if 0≤(bV) then (if (bV) < (a0.size:Int) then ((q2K.f (bt a0 (bV))).bind fun bX=>(if bX = true then (q1b.l0 bL a0 (wrap64 (aM + 2))) else ((q3n.f (bt a0 (bV))).bind fun bY=>(if bY = true then (q1b.l0 bL a0 (wrap64 (aM + 2))) else (some aM))))) else (none)) else (none)) = some r:=by first|(rw [bW] at H;exact H)|(simp only [bW] at H ⊢;exact H)
              (try rw [bW] at c21b0);(try rw [bW] at c21b1);have hji22w:(IntKind.i64.wrap (aM + 1)) = bV:=(q3W _).trans bW;by_cases bZ:0≤(bV)
              ·rw [if_pos bZ] at H;have c23b0:=dT bZ;clear bZ;by_cases cA:(bV) < (a0.size:Int)
               ·rw [if_pos cA] at H;have c24b0:=dT cA;clear cA;obtain ⟨bX,cD,H⟩:=oA H;(try dsimp only at H);by_cases cE:bX = true
                ·subst cE;replace H:=tP H;have H':=am H;clear H;have bR:0≤(aM:Int):=q0b X12;have bT:aM < (a0.size:Int):=q0b X12;have bU:=q4m a0 aM;replace bR:=q0d bR;replace bT:=q0d bT;have cF:0≤((bV):Int):=q0b X12;have cG:(bV) < (a0.size:Int):=q0b X12;have cH:=q4m a0 (bV);replace cF:=q0d cF;replace cG:=q0d cG;go_wp2_with (first|(go_at_call 120;(with_reducible refine (q2K.calls (bt a0 (bV)) true _ cD.out).mono ?_);rintro e w' ⟨rfl,⟨nd,rfl⟩⟩))
                 go_roundg bL
                 case measure=>have:=aJ.out;have:=aQ.out;have:=bK.out;omega
                 case rel=>exact ⟨(wrap64 (aM + 2)),X7,H',⟨(X42 aJ aQ bK)⟩,X18⟩
                ·replace cE:=fI cE;subst cE;replace H:=tN H;obtain ⟨bY,cJ,H⟩:=oA H;(try dsimp only at H);by_cases cK:bY = true
                 ·subst cK;replace H:=tP H;have H':=am H;clear H;have bR:0≤(aM:Int):=q0b X12;have bT:aM < (a0.size:Int):=q0b X12;have bU:=q4m a0 aM;replace bR:=q0d bR;replace bT:=q0d bT;have cF:0≤((bV):Int):=q0b X12;have cG:(bV) < (a0.size:Int):=q0b X12;have cH:=q4m a0 (bV);replace cF:=q0d cF;replace cG:=q0d cG;go_wp2_with (first|(go_at_call 120;(with_reducible refine (q2K.calls (bt a0 (bV)) false _ cD.out).mono ?_);rintro e w' ⟨rfl,⟨nd,rfl⟩⟩;have cL:0≤((bV):Int):=q0b X12;have cM:(bV) < (a0.size:Int):=q0b X12;have cN:=q4m a0 (bV);replace cL:=q0d cL;replace cM:=q0d cM)|(go_at_call 121;(with_reducible refine (q3n.calls (bt a0 (bV)) true _ cJ.out).mono ?_);rintro e w' ⟨rfl,⟨nd,rfl⟩⟩))
                  go_roundg bL
                  case measure=>have:=aJ.out;have:=aQ.out;have:=bK.out;omega
                  case rel=>exact ⟨(wrap64 (aM + 2)),X7,H',⟨(X42 aJ aQ bK)⟩,X18⟩
                 ·replace cK:=fI cK;subst cK;replace H:=tN H;obtain rfl:=q0c H;have bR:0≤(aM:Int):=q0b X12;have bT:aM < (a0.size:Int):=q0b X12;have bU:=q4m a0 aM;replace bR:=q0d bR;replace bT:=q0d bT;have cF:0≤((bV):Int):=q0b X12;have cG:(bV) < (a0.size:Int):=q0b X12;have cH:=q4m a0 (bV);replace cF:=q0d cF;replace cG:=q0d cG;go_wp2_with (first|(go_at_call 120;(with_reducible refine (q2K.calls (bt a0 (bV)) false _ cD.out).mono ?_);rintro e w' ⟨rfl,⟨nd,rfl⟩⟩;have cL:0≤((bV):Int):=q0b X12;have cM:(bV) < (a0.size:Int):=q0b X12;have cN:=q4m a0 (bV);replace cL:=q0d cL;replace cM:=q0d cM)|(go_at_call 121;(with_reducible refine (q3n.calls (bt a0 (bV)) false _ cJ.out).mono ?_);rintro e w' ⟨rfl,⟨nd,rfl⟩⟩))
                  go_ret
                  exact ⟨by first | rfl|(simp;done)|(simp only [← bW] <;> (first | rfl | simp))|(simp [*];done),X18⟩
               ·exact iN cA H
              ·exact iN bZ H
            ·rw [if_neg bP] at H;have c20b0:=nF bP;have c20b1:=nT bP;obtain rfl:=q0c H;have bR:0≤(aM:Int):=q0b X12;have bT:aM < (a0.size:Int):=q0b X12;have bU:=q4m a0 aM;replace bR:=q0d bR;replace bT:=q0d bT;go_wp2
             go_ret
             exact ⟨X7,X18⟩
           ·exact iN bO H
          ·exact iN bN H
      ·rw [if_neg c8] at H;have c8b0:=dF c8;clear c8;obtain rfl:=q0c H;go_wp2
       go_ret
       exact ⟨X7,X18⟩

def q2r.f (k:Nat) (a0:q0a):Option (Bool):=if a0.toList = ([]:List UInt8) then (some false) else (if (a0.size:Int)≤20 then ((q1b.f k a0).bind fun aA=>(some (aA == (a0.size:Int)))) else (some false))
theorem q2r.mono:∀ a0 k,LeO (q2r.f k a0) (q2r.f (k + 1) a0):=by
 intro a0 k;unfold q2r.f;exact (by repeat' (with_reducible first | exact q1b.mono _ _ | exact LeO.refl _ | exact LeO.none _ | refine LeO.ite ?_ ?_ | refine LeO.bind ?_ (fun _=>?_)))
theorem q2r.calls (k:Nat) (a0:q0a) (r:Bool) (w:World) (h:q2r.f k a0 = some r) :
  Calls prog 67 #[.string a0] w fun e w'=>e = .returned (.bool r)∧q3F w w':=by
 have H:=h;clear h;unfold q2r.f at H;by_cases c2:a0.toList = ([]:List UInt8)
 ·rw [if_pos c2] at H;have c2b0:=eT c2;have c2b1:=eF c2;clear c2;obtain rfl:=q0c H;go_enter func67,ntmps67;go_wp2
  go_ret
  exact ⟨X7,X18⟩
 ·rw [if_neg c2] at H;have c2b0:=nF c2;have c2b1:=nT c2;by_cases c3:(a0.size:Int)≤20
  ·rw [if_pos c3] at H;have c3b0:=dT c3;have c3b1:decide (a0.size≤20) = true:=q0s (by omega);clear c3;obtain ⟨aA,A4,H⟩:=oA H;(try dsimp only at H);obtain rfl:=q0c H;go_enter func67,ntmps67;go_wp2_with (first|(go_at_call 88;(with_reducible refine (q1b.calls k a0 aA _ A4.out).mono ?_);rintro e w' ⟨rfl,⟨nd,rfl⟩⟩))
   go_ret
   exact ⟨X7,X18⟩
  ·rw [if_neg c3] at H;have c3b0:=dF c3;have c3b1:decide (a0.size≤20) = false:=q0F (by omega);clear c3;obtain rfl:=q0c H;go_enter func67,ntmps67;go_wp2
   go_ret
   exact ⟨X7,X18⟩

def q1S.f (k:Nat) (a0:q0a):Option (Bool):=(q2r.f k a0).bind fun aA=>(if aA = true then (if a0.toList = ([117]:List UInt8) then (some false) else (some (a0.toList != ([120]:List UInt8)))) else (some false))
theorem q1S.mono:∀ a0 k,LeO (q1S.f k a0) (q1S.f (k + 1) a0):=by
 intro a0 k;unfold q1S.f;exact (by repeat' (with_reducible first | exact q2r.mono _ _ | exact LeO.refl _ | exact LeO.none _ | refine LeO.ite ?_ ?_ | refine LeO.bind ?_ (fun _=>?_)))
theorem q1S.calls (k:Nat) (a0:q0a) (r:Bool) (w:World) (h:q1S.f k a0 = some r) :
  Calls prog 68 #[.string a0] w fun e w'=>e = .returned (.bool r)∧q3F w w':=by
 have H:=h;clear h;unfold q1S.f at H;obtain ⟨aA,A2,H⟩:=oA H;(try dsimp only at H);by_cases c3:aA = true
 ·subst c3;replace H:=tP H;by_cases c4:a0.toList = ([117]:List UInt8)
  ·rw [if_pos c4] at H;have c4b0:=eT c4;have c4b1:=eF c4;clear c4;obtain rfl:=q0c H;go_enter func68,ntmps68;go_wp2_with (first|((with_reducible refine gc 67 ?_);refine gL (some 4) func67 #[.string a0] ?_;(with_reducible refine (q2r.calls k a0 true _ A2.out).mono ?_);rintro e w' ⟨rfl,⟨nd,rfl⟩⟩;refine ⟨_,rfl,?_⟩))
   go_ret
   exact ⟨X7,X18⟩
  ·rw [if_neg c4] at H;have c4b0:=nF c4;have c4b1:=nT c4;obtain rfl:=q0c H;go_enter func68,ntmps68;go_wp2_with (first|((with_reducible refine gc 67 ?_);refine gL (some 4) func67 #[.string a0] ?_;(with_reducible refine (q2r.calls k a0 true _ A2.out).mono ?_);rintro e w' ⟨rfl,⟨nd,rfl⟩⟩;refine ⟨_,rfl,?_⟩))
   go_ret
   exact ⟨X7,X18⟩
 ·replace c3:=fI c3;subst c3;replace H:=tN H;obtain rfl:=q0c H;go_enter func68,ntmps68;go_wp2_with (first|((with_reducible refine gc 67 ?_);refine gL (some 4) func67 #[.string a0] ?_;(with_reducible refine (q2r.calls k a0 false _ A2.out).mono ?_);rintro e w' ⟨rfl,⟨nd,rfl⟩⟩;refine ⟨_,rfl,?_⟩))
  go_ret
  exact ⟨X7,X18⟩
mutual
def q0Q.j0:Nat → Bool → Int → q0a → Int → List (S25) → Option (Bool)
 | 0,_,_,_,_,_=>none
 | k + 1,x3,aA,aC,aD,aE=>if aA < 1 then (q0Q.j1 k true aA aC aD aE) else (if aA > 12 then (q0Q.j1 k true aA aC aD aE) else (if x3 = true then (if aA = 7 then (q0Q.j1 k false aA aC aD aE) else (q0Q.j1 k (aD != 0) aA aC aD aE)) else (if aC.toList = ([]:List UInt8) then (if aA = 7 then (q0Q.j1 k false aA aC aD aE) else (q0Q.j1 k (aD != 0) aA aC aD aE)) else (q0Q.j1 k true aA aC aD aE))))
def q0Q.j1:Nat → Bool → Int → q0a → Int → List (S25) → Option (Bool)
 | 0,_,_,_,_,_=>none
 | k + 1,aA,aC,aD,aE,aG=>if aA = true then (some false) else (if aC = 5 then (q0Q.l0 k 0 aC aD aE aG) else (if aC = 6 then (some (decide ((aG.length:Int)≥2))) else (if aC = 7 then (some ((aG.length:Int) == 1)) else (if aC = 8 then (some ((aG.length:Int) == 1)) else (if aC = 12 then (some ((aG.length:Int) == 1)) else (some ((aG.length:Int) == 0)))))))
def q0Q.l0:Nat → Int → Int → q0a → Int → List (S25) → Option (Bool)
 | 0,_,_,_,_,_=>none
 | k + 1,x4,aA,aC,aD,aE=>if x4 < (aE.length:Int) then (if 0≤x4 then (if ((q0p aE x4).f0) = 5 then (some false) else (q0Q.l0 k (wrap64 (x4 + 1)) aA aC aD aE)) else (none)) else (some ((aE.length:Int) != 1))
end
def q0Q.f (k:Nat) (aA:Int) (aC:q0a) (aD:Int) (aE:List (S25)):Option (Bool):=if aA = 4 then (q0Q.j0 k true aA aC aD aE) else (if aA = 11 then (q0Q.j0 k true aA aC aD aE) else (q0Q.j0 k (aA == 12) aA aC aD aE))
theorem q0Q.mono_l:∀ k,(∀ y0 y1 y2 y3 y4,LeO (q0Q.j0 k y0 y1 y2 y3 y4) (q0Q.j0 (k + 1) y0 y1 y2 y3 y4))∧(∀ y0 y1 y2 y3 y4,LeO (q0Q.j1 k y0 y1 y2 y3 y4) (q0Q.j1 (k + 1) y0 y1 y2 y3 y4))∧(∀ y0 y1 y2 y3 y4,LeO (q0Q.l0 k y0 y1 y2 y3 y4) (q0Q.l0 (k + 1) y0 y1 y2 y3 y4))
 | 0=>⟨fun _ _ _ _ _ r h=>by simp [q0Q.j0] at h,fun _ _ _ _ _ r h=>by simp [q0Q.j1] at h,fun _ _ _ _ _ r h=>by simp [q0Q.l0] at h⟩
 | k + 1=>by
  obtain ⟨aA,aC,aD⟩:=q0Q.mono_l k;refine ⟨?_,?_,?_⟩
  ·intro y0 y1 y2 y3 y4;unfold q0Q.j0;exact X89
  ·intro y0 y1 y2 y3 y4;unfold q0Q.j1;exact X89
  ·intro y0 y1 y2 y3 y4;unfold q0Q.l0;exact X89
theorem q0Q.mono:∀ a0 a1 a2 a3 k,LeO (q0Q.f k a0 a1 a2 a3) (q0Q.f (k + 1) a0 a1 a2 a3):=by
 intro a0 a1 a2 a3 k;obtain ⟨aA,aC,aD⟩:=q0Q.mono_l k;unfold q0Q.f;exact X89
theorem q0Q.calls (k:Nat) (aA:Int) (aC:q0a) (aD:Int) (aE:Option Addr) (aG:Nat) (aH:List (S25)) (r:Bool) (w:World) (aI:Kd.C k25 w aE aH.length aH) (aJ:aH.length≤aG) (h:q0Q.f k aA aC aD aH = some r) :
  Calls prog 119 #[.agg #[iv aA,.string aC,iv aD,sl aE aH aG]] w fun e w'=>e = .returned (.bool r)∧Below w.heap.size w w':=by
 have hu25:=underlying25;have aK:=am aI;have HC0_3:=am aJ;clear aI aJ;have HB:=am (q0k w.heap.size w);have H:=h;clear h;unfold q0Q.f at H;have aM:=am H;clear H;go_enter func119,ntmps119;go_upto_region 1 with (first|((with_reducible refine gd 1 ?_);refine be 1 #[iv aA,.string aC,iv aD,sl aE aH aG] 25 ?_;intro aQ hg w3 hbox hb;have aT:=am (hbox);have GW815:=sG (w:=w) hg X6;have aU:=sG (w:=w) hg X6;replace HB:=bS X6 hb;clear hb hbox hg))
 (try simp only [Act.put,List.setIfInBounds_toArray,List.set_cons_zero,List.set_cons_succ]);go_cut [3] (fun v3 wc=>∃ (kq:Nat) (aW:Bool),v3 = .bool aW∧q0j (q0Q.j0 kq aW aA aC aD aH = some r)∧q0j (kq≤k)∧q0j (wc.heap[aQ]? = some (.cells #[iv aA,.string aC,iv aD,(sl aE aH aG)] 25 (0,0)))∧q0j (Below w.heap.size w wc))
 case first=>
  have H:=aM.out;clear aM;by_cases c4:aA = 4
  ·rw [if_pos c4] at H;have c4b0:=eT c4;have c4b1:=eF c4;clear c4;(first | rw [c4b0]|(simp only [q3W,q4b];rw [c4b0]) | skip);have H':=am H;clear H;have Z5:=bc4 aT;go_wp2
   go_meet
   case rel=>exact ⟨_,(true),X7,H',⟨X8⟩,⟨(X9 aT)⟩,⟨X116⟩⟩
  ·rw [if_neg c4] at H;have c4b0:=nF c4;have c4b1:=nT c4;(first | rw [c4b0]|(simp only [q3W,q4b];rw [c4b0]) | skip);by_cases c6:aA = 11
   ·rw [if_pos c6] at H;have c6b0:=eT c6;have c6b1:=eF c6;clear c6;have H':=am H;clear H;have Z7:=bc4 aT;go_wp2
    go_meet
    case rel=>exact ⟨_,(true),X7,H',⟨X8⟩,⟨(X9 aT)⟩,⟨X116⟩⟩
   ·rw [if_neg c6] at H;have c6b0:=nF c6;have c6b1:=nT c6;have H':=am H;clear H;have Z8:=bc4 aT;go_wp2
    go_meet
    case rel=>exact ⟨_,((aA == 12)),X7,H',⟨X8⟩,⟨(X9 aT)⟩,⟨X116⟩⟩
 case rest=>
  clear aM;(try clear c1 p2 c4 c4b0 c4b1 c6 c6b0 c6b1 Z5 Z7 Z8);obtain ⟨kq,aW,rfl,HA,aX,aT,HB⟩:=hcut;cases kq with
  | zero=>exact absurd HA.out (by simp [q0Q.j0])
  | succ aY=>
   have H:=HA.out;clear HA;simp only [q0Q.j0] at H;have aZ:=am H;clear H;go_upto_region 2 with (fail)
   go_cut [44] (fun bA wc=>∃ (kq:Nat) (bB:Bool),bA = .bool bB∧q0j (q0Q.j1 kq bB aA aC aD aH = some r)∧q0j (kq≤aY)∧q0j (wc.heap[aQ]? = some (.cells #[iv aA,.string aC,iv aD,(sl aE aH aG)] 25 (0,0)))∧q0j (Below w.heap.size w wc))
   case first=>
    have H:=aZ.out;clear aZ;by_cases c10:aA < 1
    ·rw [if_pos c10] at H;have c10b0:=dT c10;clear c10;(first | rw [c10b0]|(simp only [q3W,q4b];rw [c10b0]) | skip);have H':=am H;clear H;have bC:=bc4 aT;go_wp2
     go_meet
     case rel=>exact ⟨_,(true),X7,H',⟨(X27 aX)⟩,⟨(X9 aT)⟩,⟨X116⟩⟩
    ·rw [if_neg c10] at H;have c10b0:=dF c10;clear c10;(first | rw [c10b0]|(simp only [q3W,q4b];rw [c10b0]) | skip);by_cases bD:aA > 12
     ·rw [if_pos bD] at H;have c12b0:decide (12 < aA) = true:=q0s bD;clear bD;have H':=am H;clear H;have bE:=bc4 aT;go_wp2
      go_meet
      case rel=>exact ⟨_,(true),X7,H',⟨(X27 aX)⟩,⟨(X9 aT)⟩,⟨X116⟩⟩
     ·rw [if_neg bD] at H;have c12b0:decide (12 < aA) = false:=q0F bD;clear bD;by_cases bF:aW = true
      ·subst bF;replace H:=tP H;by_cases bG:aA = 7
       ·rw [if_pos bG] at H;have c15b0:=eT bG;have c15b1:=eF bG;clear bG;have H':=am H;clear H;have bH:=bc4 aT;go_wp2
        go_meet
        case rel=>exact ⟨_,(false),X7,H',⟨(X27 aX)⟩,⟨(X9 aT)⟩,⟨X116⟩⟩
       ·rw [if_neg bG] at H;have c15b0:=nF bG;have c15b1:=nT bG;have H':=am H;clear H;have bI:=bc4 aT;go_wp2
        go_meet
        case rel=>exact ⟨_,((aD != 0)),X7,H',⟨(X27 aX)⟩,⟨(X9 aT)⟩,⟨X116⟩⟩
      ·replace bF:=fI bF;subst bF;replace H:=tN H;by_cases bJ:aC.toList = ([]:List UInt8)
       ·rw [if_pos bJ] at H;have c18b0:=eT bJ;have c18b1:=eF bJ;clear bJ;by_cases bK:aA = 7
        ·rw [if_pos bK] at H;have c19b0:=eT bK;have c19b1:=eF bK;clear bK;have H':=am H;clear H;have bL:=bc4 aT;go_wp2
         go_meet
         case rel=>exact ⟨_,(false),X7,H',⟨(X27 aX)⟩,⟨(X9 aT)⟩,⟨X116⟩⟩
        ·rw [if_neg bK] at H;have c19b0:=nF bK;have c19b1:=nT bK;have H':=am H;clear H;have bM:=bc4 aT;go_wp2
         go_meet
         case rel=>exact ⟨_,((aD != 0)),X7,H',⟨(X27 aX)⟩,⟨(X9 aT)⟩,⟨X116⟩⟩
       ·rw [if_neg bJ] at H;have c18b0:=nF bJ;have c18b1:=nT bJ;have H':=am H;clear H;have bN:=bc4 aT;go_wp2
        go_meet
        case rel=>exact ⟨_,(true),X7,H',⟨(X27 aX)⟩,⟨(X9 aT)⟩,⟨X116⟩⟩
   case rest=>
    clear aZ;(try clear c1);(try clear p2 p2);(try clear c4 c4b0 c4b1 c6 c6b0 c6b1 c10 c10b0 bO bD c12b0 bF bG c15b0 c15b1 bJ c18b0 c18b1 bK c19b0 c19b1 bC bE bH bI bL bM bN Z5 Z7 Z8);obtain ⟨kq,bB,rfl,HA,bP,aT,HB⟩:=hcut;cases kq with
    | zero=>exact absurd HA.out (by simp [q0Q.j1])
    | succ bQ=>
     have H:=HA.out;clear HA;simp only [q0Q.j1] at H;by_cases bR:bB = true
     ·subst bR;replace H:=tP H;obtain rfl:=q0c H;go_wp2
      go_ret
      exact ⟨X11,X116⟩
     ·replace bR:=fI bR;subst bR;replace H:=tN H;by_cases bT:aA = 5
      ·rw [if_pos bT] at H;have c24b0:=eT bT;have c24b1:=eF bT;clear bT;have H':=am H;clear H;have bU:=bc4 aT;go_wp2
       go_loopg [4] bQ (fun kq v4 w'=>∃ (bV:Int),v4 = iv bV∧q0j (q0Q.l0 kq bV aA aC aD aH = some r)∧q0j (kq≤bQ)∧q0j (w'.heap[aQ]? = some (.cells #[iv aA,.string aC,iv aD,(sl aE aH aG)] 25 (0,0)))∧q0j (Below w.heap.size w w'))
       case atStart=>exact ⟨(0),X7,H',⟨q0e _⟩,⟨(X9 aT)⟩,⟨X116⟩⟩
       case round=>
        clear H';(try clear c1 c2);(try clear p2 p2);(try clear c4 c4b0 c4b1 c6 c6b0 c6b1 c10 c10b0 bO bD c12b0 bF bG c15b0 c15b1 bJ c18b0 c18b1 bK c19b0 c19b1 bR bT c24b0 c24b1 bC bE bH bI bL bM bN bU Z5 Z7 Z8);obtain ⟨bV,rfl,HA,bW,aT,HB⟩:=hrel;cases gk with
        | zero=>exact absurd HA.out (by simp [q0Q.l0])
        | succ k3=>
         have H:=HA.out;clear HA;simp only [q0Q.l0] at H;by_cases bX:bV < (aH.length:Int)
         ·rw [if_pos bX] at H;have c26b0:=dT bX;clear bX;by_cases bY:0≤bV
          ·rw [if_pos bY] at H;have c27b0:=dT bY;clear bY;by_cases bZ:((q0p aH bV).f0) = 5
           ·rw [if_pos bZ] at H;have c28b0:=eT bZ;have c28b1:=eF bZ;clear bZ;obtain rfl:=q0c H;have Z29:=bc4 aT;have cA:0≤(bV:Int):=q0b X12;have cC:bV < (aH.length:Int):=q0b X12;obtain ⟨cD,cE,cF,e816,cG,cH,cI,cJ,cK,cL⟩:=q3N aK.out bV cA cC;cases e816;replace cG:=cB HB cG;replace cH:=cB HB cH;replace cI:=cB HB cI;replace cJ:=cB HB cJ;have cM:=am cL;have cN:=am cK;clear cL cK;replace cA:=q0d cA;replace cC:=q0d cC;go_wp2
            go_ret
            exact ⟨X11,X116⟩
           ·rw [if_neg bZ] at H;have c28b0:=nF bZ;have c28b1:=nT bZ;have H':=am H;clear H;have Z30:=bc4 aT;have cA:0≤(bV:Int):=q0b X12;have cC:bV < (aH.length:Int):=q0b X12;obtain ⟨cD,cE,cF,e816,cG,cH,cI,cJ,cK,cL⟩:=q3N aK.out bV cA cC;cases e816;replace cG:=cB HB cG;replace cH:=cB HB cH;replace cI:=cB HB cI;replace cJ:=cB HB cJ;have cM:=am cL;have cN:=am cK;clear cL cK;replace cA:=q0d cA;replace cC:=q0d cC;go_wp2
            go_roundg k3
            case measure=>have:=aX.out;have:=bP.out;have:=bW.out;omega
            case rel=>exact ⟨(wrap64 (bV + 1)),X7,H',⟨by have:=aX.out;have:=bP.out;have:=bW.out;omega⟩,⟨(X9 aT)⟩,⟨X116⟩⟩
          ·exact iN bY H
         ·rw [if_neg bX] at H;have c26b0:=dF bX;clear bX;obtain rfl:=q0c H;have Z31:=bc4 aT;go_wp2
          go_ret
          exact ⟨X11,X116⟩
      ·rw [if_neg bT] at H;have c24b0:=nF bT;have c24b1:=nT bT;by_cases cO:aA = 6
       ·rw [if_pos cO] at H;have c32b0:=eT cO;have c32b1:=eF cO;clear cO;obtain rfl:=q0c H;have Z33:=bc4 aT;go_wp2
        go_ret
        exact ⟨X11,X116⟩
       ·rw [if_neg cO] at H;have c32b0:=nF cO;have c32b1:=nT cO;by_cases cP:aA = 7
        ·rw [if_pos cP] at H;have c34b0:=eT cP;have c34b1:=eF cP;clear cP;obtain rfl:=q0c H;have Z35:=bc4 aT;go_wp2
         go_ret
         exact ⟨X11,X116⟩
        ·rw [if_neg cP] at H;have c34b0:=nF cP;have c34b1:=nT cP;by_cases cQ:aA = 8
         ·rw [if_pos cQ] at H;have c36b0:=eT cQ;have c36b1:=eF cQ;clear cQ;obtain rfl:=q0c H;have Z37:=bc4 aT;go_wp2
          go_ret
          exact ⟨X11,X116⟩
         ·rw [if_neg cQ] at H;have c36b0:=nF cQ;have c36b1:=nT cQ;by_cases cR:aA = 12
          ·rw [if_pos cR] at H;have c38b0:=eT cR;have c38b1:=eF cR;clear cR;obtain rfl:=q0c H;have Z39:=bc4 aT;go_wp2
           go_ret
           exact ⟨X11,X116⟩
          ·rw [if_neg cR] at H;have c38b0:=nF cR;have c38b1:=nT cR;obtain rfl:=q0c H;have Z40:=bc4 aT;go_wp2
           go_ret
           exact ⟨X11,X116⟩
mutual
def q0H.j0:Nat → Int → Bool → Int → q0a → Int → List (S25) → Option (Int)
 | 0,_,_,_,_,_,_=>none
 | k + 1,x1,aA,aC,aD,aE,aG=>if aA = true then (some 2) else (if aE < 0 then (q0H.j1 k x1 true aC aD aE aG) else (q0H.j1 k x1 (decide (aE > 9)) aC aD aE aG))
def q0H.j1:Nat → Int → Bool → Int → q0a → Int → List (S25) → Option (Int)
 | 0,_,_,_,_,_,_=>none
 | k + 1,x1,aA,aC,aD,aE,aG=>if aA = true then (some 6) else (q0H.l0 k x1 0 aC aD aE aG)
def q0H.l0:Nat → Int → Int → Int → q0a → Int → List (S25) → Option (Int)
 | 0,_,_,_,_,_,_=>none
 | k + 1,x1,x5,aA,aC,aD,aE=>if x5 < (aE.length:Int) then (if 0≤x5 then ((q0H.f k ((q0p aE x5).f0) ((q0p aE x5).f1) ((q0p aE x5).f2) ((q0p aE x5).f3) (wrap64 (x1 + 1))).bind fun aG=>(if aG = 0 then (q0H.l0 k x1 (wrap64 (x5 + 1)) aA aC aD aE) else (some aG))) else (none)) else (some 0)
def q0H.f:Nat → Int → q0a → Int → List (S25) → Int → Option (Int)
 | 0,_,_,_,_,_=>none
 | k + 1,aA,aC,aD,aE,a1=>if a1 > 12 then (some 3) else ((q0Q.f k aA aC aD aE).bind fun aG=>(if aG = true then (if aA = 4 then ((q1S.f k aC).bind fun aH=>(q0H.j0 k a1 (!aH) aA aC aD aE)) else (if aA = 11 then ((q1S.f k aC).bind fun aI=>(q0H.j0 k a1 (!aI) aA aC aD aE)) else (if aA = 12 then ((q1S.f k aC).bind fun aJ=>(q0H.j0 k a1 (!aJ) aA aC aD aE)) else (q0H.j0 k a1 false aA aC aD aE)))) else (some 1)))
end
theorem q0H.mono_l:∀ k,(∀ y0 y1 y2 y3 y4,LeO (q0H.f k y0 y1 y2 y3 y4) (q0H.f (k + 1) y0 y1 y2 y3 y4))∧(∀ y0 y1 y2 y3 y4 y5,LeO (q0H.j0 k y0 y1 y2 y3 y4 y5) (q0H.j0 (k + 1) y0 y1 y2 y3 y4 y5))∧(∀ y0 y1 y2 y3 y4 y5,LeO (q0H.j1 k y0 y1 y2 y3 y4 y5) (q0H.j1 (k + 1) y0 y1 y2 y3 y4 y5))∧(∀ y0 y1 y2 y3 y4 y5,LeO (q0H.l0 k y0 y1 y2 y3 y4 y5) (q0H.l0 (k + 1) y0 y1 y2 y3 y4 y5))
 | 0=>⟨fun _ _ _ _ _ r h=>by simp [q0H.f] at h,fun _ _ _ _ _ _ r h=>by simp [q0H.j0] at h,fun _ _ _ _ _ _ r h=>by simp [q0H.j1] at h,fun _ _ _ _ _ _ r h=>by simp [q0H.l0] at h⟩
 | k + 1=>by
  obtain ⟨aA,aC,aD,aE⟩:=q0H.mono_l k;refine ⟨?_,?_,?_,?_⟩
  ·intro y0 y1 y2 y3 y4;unfold q0H.f;exact X140
  ·intro y0 y1 y2 y3 y4 y5;unfold q0H.j0;exact X140
  ·intro y0 y1 y2 y3 y4 y5;unfold q0H.j1;exact X140
  ·intro y0 y1 y2 y3 y4 y5;unfold q0H.l0;exact X140
theorem q0H.mono:∀ a0 a1 a2 a3 a4 k,LeO (q0H.f k a0 a1 a2 a3 a4) (q0H.f (k + 1) a0 a1 a2 a3 a4):=by
 intro a0 a1 a2 a3 a4 k;obtain ⟨aA,ih1,ih2,ih3⟩:=q0H.mono_l k;exact aA a0 a1 a2 a3 a4
theorem q0H.calls (k:Nat):∀ (aA:Int) (aC:q0a) (aD:Int) (aE:Option Addr) (aG:Nat) (aH:List (S25)) (a1:Int) (r:Int) (w:World) (aI:Kd.C k25 w aE aH.length aH) (aJ:aH.length≤aG) (h:q0H.f k aA aC aD aH a1 = some r),
  Calls prog 87 #[.agg #[iv aA,.string aC,iv aD,sl aE aH aG],iv a1] w fun e w'=>e = .returned (iv r)∧Below w.heap.size w w':=by
 induction k using Nat.strongRecOn with
 | _ k ih=>
 intro aA aC aD aE aG aH a1 r w aI aJ h;cases k with
 | zero=>exact absurd h (by simp [q0H.f])
 | succ k=>
 simp only [q0H.f] at h;have hu25:=underlying25;have aK:=am aI;have aM:=am aJ;clear aI aJ;have HB:=am (q0k w.heap.size w);have H:(if a1 > 12 then (some 3) else ((q0Q.f k aA aC aD aH).bind fun aQ=>(if aQ = true then (if aA = 4 then ((q1S.f k aC).bind fun aT=>(q0H.j0 k a1 (!aT) aA aC aD aH)) else (if aA = 11 then ((q1S.f k aC).bind fun aU=>(q0H.j0 k a1 (!aU) aA aC aD aH)) else (if aA = 12 then ((q1S.f k aC).bind fun aW=>(q0H.j0 k a1 (!aW) aA aC aD aH)) else (q0H.j0 k a1 false aA aC aD aH)))) else (some 1)))) = some r:=h;clear h;by_cases c3:a1 > 12
 ·rw [if_pos c3] at H;have c3b0:decide (12 < a1) = true:=q0s c3;clear c3;obtain rfl:=q0c H;go_enter func87,ntmps87;go_wp2_with (first|((with_reducible refine gd 2 ?_);refine be 2 #[iv aA,.string aC,iv aD,sl aE aH aG] 25 ?_;intro aX hg w4 hbox hb;have aY:=am (hbox);have aZ:=sG (w:=w) hg X6;have bA:=sG (w:=w) hg X6;replace HB:=bS X6 hb;clear hb hbox hg))
  go_ret
  exact ⟨X11,X141⟩
 ·rw [if_neg c3] at H;have c3b0:decide (12 < a1) = false:=q0F c3;clear c3;obtain ⟨aQ,A5,H⟩:=oA H;(try dsimp only at H);by_cases c6:aQ = true
  ·subst c6;replace H:=tP H;have bC:=am H;clear H;go_enter func87,ntmps87;go_upto_region 5 with (first|((with_reducible refine gd 2 ?_);refine be 2 #[iv aA,.string aC,iv aD,sl aE aH aG] 25 ?_;intro aX hg w8 hbox hb;have aY:=am (hbox);have aZ:=sG (w:=w) hg X6;have bA:=sG (w:=w) hg X6;replace HB:=bS X6 hb;clear hb hbox hg;have Z9:=bc4 aY)|((with_reducible refine gc 119 ?_);refine gL (some 10) func119 #[.agg #[iv aA,.string aC,iv aD,sl aE aH aG]] ?_;(with_reducible refine (q0Q.calls k aA aC aD _ _ aH true _ ?side1 ?side2 A5.out).mono ?_);(case side1=>exact (X15 aK HB));(case side2=>exact aM.out);rintro e w10 ⟨rfl,hb⟩;refine ⟨_,rfl,?_⟩;replace aY:=kB aY hb;replace HB:=bS X141 hb;clear hb))
   (try simp only [Act.put,List.setIfInBounds_toArray,List.set_cons_zero,List.set_cons_succ]);go_cut [30] (fun bD wc=>∃ (kq:Nat) (bE:Bool),bD = .bool bE∧q0j (q0H.j0 kq a1 bE aA aC aD aH = some r)∧q0j (kq≤k)∧q0j (wc.heap[aX]? = some (.cells #[iv aA,.string aC,iv aD,(sl aE aH aG)] 25 (0,0)))∧q0j (Below w.heap.size w wc))
   case first=>
    have H:=bC.out;clear bC;by_cases bF:aA = 4
    ·rw [if_pos bF] at H;have c11b0:=eT bF;have c11b1:=eF bF;clear bF;(first | rw [c11b0]|(simp only [q3W,q4b];rw [c11b0]) | skip);obtain ⟨aT,bH,H⟩:=oA H;(try dsimp only at H);have H':=am H;clear H;have bI:=bc4 aY;go_wp2_with (first|(go_at_call 68;(with_reducible refine (q1S.calls k aC aT _ bH.out).mono ?_);rintro e w' ⟨rfl,⟨nd,rfl⟩⟩))
     go_meet
     case rel=>exact ⟨_,(!aT),X7,H',⟨X8⟩,⟨(X9 aY)⟩,⟨X141⟩⟩
    ·rw [if_neg bF] at H;have c11b0:=nF bF;have c11b1:=nT bF;(first | rw [c11b0]|(simp only [q3W,q4b];rw [c11b0]) | skip);by_cases bJ:aA = 11
     ·rw [if_pos bJ] at H;have c14b0:=eT bJ;have c14b1:=eF bJ;clear bJ;obtain ⟨aU,bL,H⟩:=oA H;(try dsimp only at H);have H':=am H;clear H;have bM:=bc4 aY;go_wp2_with (first|(go_at_call 68;(with_reducible refine (q1S.calls k aC aU _ bL.out).mono ?_);rintro e w' ⟨rfl,⟨nd,rfl⟩⟩))
      go_meet
      case rel=>exact ⟨_,(!aU),X7,H',⟨X8⟩,⟨(X9 aY)⟩,⟨X141⟩⟩
     ·rw [if_neg bJ] at H;have c14b0:=nF bJ;have c14b1:=nT bJ;by_cases bN:aA = 12
      ·rw [if_pos bN] at H;have c17b0:=eT bN;have c17b1:=eF bN;clear bN;obtain ⟨aW,bP,H⟩:=oA H;(try dsimp only at H);have H':=am H;clear H;have bQ:=bc4 aY;go_wp2_with (first|(go_at_call 68;(with_reducible refine (q1S.calls k aC aW _ bP.out).mono ?_);rintro e w' ⟨rfl,⟨nd,rfl⟩⟩))
       go_meet
       case rel=>exact ⟨_,(!aW),X7,H',⟨X8⟩,⟨(X9 aY)⟩,⟨X141⟩⟩
      ·rw [if_neg bN] at H;have c17b0:=nF bN;have c17b1:=nT bN;have H':=am H;clear H;have bR:=bc4 aY;go_wp2
       go_meet
       case rel=>exact ⟨_,(false),X7,H',⟨X8⟩,⟨(X9 aY)⟩,⟨X141⟩⟩
   case rest=>
    clear bC;(try clear c1 p2 c3 c3b0 c6 c8 bF c11b0 c11b1 bJ c14b0 c14b1 bN c17b0 c17b1 bI bM bQ bR Z9);obtain ⟨kq,bE,rfl,HA,bT,aY,HB⟩:=hcut;cases kq with
    | zero=>exact absurd HA.out (by simp [q0H.j0])
    | succ bU=>
     have H:=HA.out;clear HA;simp only [q0H.j0] at H;by_cases bV:bE = true
     ·subst bV;replace H:=tP H;obtain rfl:=q0c H;go_wp2
      go_ret
      exact ⟨X11,X141⟩
     ·replace bV:=fI bV;subst bV;replace H:=tN H;have bW:=am H;clear H;go_upto_region 7 with (fail)
      go_cut [38] (fun bX wc=>∃ (kq:Nat) (bY:Bool),bX = .bool bY∧q0j (q0H.j1 kq a1 bY aA aC aD aH = some r)∧q0j (kq≤bU)∧q0j (wc.heap[aX]? = some (.cells #[iv aA,.string aC,iv aD,(sl aE aH aG)] 25 (0,0)))∧q0j (Below w.heap.size w wc))
      case first=>
       have H:=bW.out;clear bW;by_cases bZ:aD < 0
       ·rw [if_pos bZ] at H;have c23b0:=dT bZ;clear bZ;(first | rw [c23b0]|(simp only [q3W,q4b];rw [c23b0]) | skip);have H':=am H;clear H;have cA:=bc4 aY;go_wp2
        go_meet
        case rel=>exact ⟨_,(true),X7,H',⟨by have:=bT.out;first | omega | exact q0e _⟩,⟨(X9 aY)⟩,⟨X141⟩⟩
       ·rw [if_neg bZ] at H;have c23b0:=dF bZ;clear bZ;(first | rw [c23b0]|(simp only [q3W,q4b];rw [c23b0]) | skip);have H':=am H;clear H;have cC:=bc4 aY;go_wp2
        go_meet
        case rel=>exact ⟨_,(decide (aD > 9)),X7,H',⟨by have:=bT.out;first | omega | exact q0e _⟩,⟨(X9 aY)⟩,⟨X141⟩⟩
      case rest=>
       clear bW;(try clear c1 c2);(try clear p2 p2);(try clear c3 c3b0 c6 c8 bF c11b0 c11b1 bJ c14b0 c14b1 bN c17b0 c17b1 bV bZ c23b0 bI bM bQ bR cA cC Z9);obtain ⟨kq,bY,rfl,HA,cD,aY,HB⟩:=hcut;cases kq with
       | zero=>exact absurd HA.out (by simp [q0H.j1])
       | succ cE=>
        have H:=HA.out;clear HA;simp only [q0H.j1] at H;by_cases cF:bY = true
        ·subst cF;replace H:=tP H;obtain rfl:=q0c H;go_wp2
         go_ret
         exact ⟨X11,X141⟩
        ·replace cF:=fI cF;subst cF;replace H:=tN H;have H':=am H;clear H;go_wp2
         go_loopg [5] cE (fun kq v5 w'=>∃ (cG:Int),v5 = iv cG∧q0j (q0H.l0 kq a1 cG aA aC aD aH = some r)∧q0j (kq≤cE)∧q0j (w'.heap[aX]? = some (.cells #[iv aA,.string aC,iv aD,(sl aE aH aG)] 25 (0,0)))∧q0j (Below w.heap.size w w'))
         case atStart=>exact ⟨(0),X7,H',⟨q0e _⟩,⟨(X9 aY)⟩,⟨X141⟩⟩
         case round=>
          clear H';(try clear c1 c2);(try clear p2 p2);(try clear c3 c3b0 c6 c8 bF c11b0 c11b1 bJ c14b0 c14b1 bN c17b0 c17b1 bV bZ c23b0 cF bI bM bQ bR cA cC Z9);obtain ⟨cG,rfl,HA,cH,aY,HB⟩:=hrel;cases gk with
          | zero=>exact absurd HA.out (by simp [q0H.l0])
          | succ k3=>
           have H:=HA.out;clear HA;simp only [q0H.l0] at H;by_cases cI:cG < (aH.length:Int)
           ·rw [if_pos cI] at H;have c27b0:=dT cI;clear cI;by_cases cJ:0≤cG
            ·rw [if_pos cJ] at H;have c28b0:=dT cJ;clear cJ;obtain ⟨cK,cM,H⟩:=oA H;(try dsimp only at H);by_cases cN:cK = 0
             ·rw [if_pos cN] at H;have c30b0:=eT cN;have c30b1:=eF cN;clear cN;have H':=am H;clear H;have Z31:=bc4 aY;have cO:0≤(cG:Int):=q0b X12;have cP:cG < (aH.length:Int):=q0b X12;obtain ⟨cQ,cR,cS,e822,cT,cU,cV,cX,cY,cZ⟩:=q3N aK.out cG cO cP;cases e822;replace cT:=cB HB cT;replace cU:=cB HB cU;replace cV:=cB HB cV;replace cX:=cB HB cX;have dA:=am cZ;have dB:=am cY;clear cZ cY;replace cO:=q0d cO;replace cP:=q0d cP;go_wp2_with (first|((with_reducible refine gc 87 ?_);refine gL (some 53) func87 #[.agg #[iv ((q0p aH cG).f0),.string ((q0p aH cG).f1),iv ((q0p aH cG).f2),sl cR ((q0p aH cG).f3) cS],iv (wrap64 (a1 + 1))] ?_;(with_reducible refine (ih k3 (X42 bT cD cH) ((q0p aH cG).f0) ((q0p aH cG).f1) ((q0p aH cG).f2) _ _ ((q0p aH cG).f3) (wrap64 (a1 + 1)) cK _ ?side1 ?side2 cM.out).mono ?_);(case side1=>exact (X15 dA HB));(case side2=>exact dB.out);rintro e w32 ⟨rfl,hb⟩;refine ⟨_,rfl,?_⟩;replace aY:=kB aY hb;replace HB:=bS X141 hb;clear hb))
              go_roundg k3
              case measure=>have:=bT.out;have:=cD.out;have:=cH.out;omega
              case rel=>exact ⟨(wrap64 (cG + 1)),X7,H',⟨(X42 bT cD cH)⟩,⟨(X9 aY)⟩,⟨X141⟩⟩
             ·rw [if_neg cN] at H;have c30b0:=nF cN;have c30b1:=nT cN;obtain rfl:=q0c H;have Z33:=bc4 aY;have cO:0≤(cG:Int):=q0b X12;have cP:cG < (aH.length:Int):=q0b X12;obtain ⟨cQ,cR,cS,e822,cT,cU,cV,cX,cY,cZ⟩:=q3N aK.out cG cO cP;cases e822;replace cT:=cB HB cT;replace cU:=cB HB cU;replace cV:=cB HB cV;replace cX:=cB HB cX;have dA:=am cZ;have dB:=am cY;clear cZ cY;replace cO:=q0d cO;replace cP:=q0d cP;go_wp2_with (first|((with_reducible refine gc 87 ?_);refine gL (some 53) func87 #[.agg #[iv ((q0p aH cG).f0),.string ((q0p aH cG).f1),iv ((q0p aH cG).f2),sl cR ((q0p aH cG).f3) cS],iv (wrap64 (a1 + 1))] ?_;(with_reducible refine (ih k3 (X42 bT cD cH) ((q0p aH cG).f0) ((q0p aH cG).f1) ((q0p aH cG).f2) _ _ ((q0p aH cG).f3) (wrap64 (a1 + 1)) cK _ ?side1 ?side2 cM.out).mono ?_);(case side1=>exact (X15 dA HB));(case side2=>exact dB.out);rintro e w34 ⟨rfl,hb⟩;refine ⟨_,rfl,?_⟩;replace aY:=kB aY hb;replace HB:=bS X141 hb;clear hb))
              go_ret
              exact ⟨X11,X141⟩
            ·exact iN cJ H
           ·rw [if_neg cI] at H;have c27b0:=dF cI;clear cI;obtain rfl:=q0c H;have Z35:=bc4 aY;go_wp2
            go_ret
            exact ⟨X11,X141⟩
  ·replace c6:=fI c6;subst c6;replace H:=tN H;obtain rfl:=q0c H;go_enter func87,ntmps87;go_wp2_with (first|((with_reducible refine gd 2 ?_);refine be 2 #[iv aA,.string aC,iv aD,sl aE aH aG] 25 ?_;intro aX hg w36 hbox hb;have aY:=am (hbox);have aZ:=sG (w:=w) hg X6;have bA:=sG (w:=w) hg X6;replace HB:=bS X6 hb;clear hb hbox hg;have Z37:=bc4 aY)|((with_reducible refine gc 119 ?_);refine gL (some 10) func119 #[.agg #[iv aA,.string aC,iv aD,sl aE aH aG]] ?_;(with_reducible refine (q0Q.calls k aA aC aD _ _ aH false _ ?side1 ?side2 A5.out).mono ?_);(case side1=>exact (X15 aK HB));(case side2=>exact aM.out);rintro e w38 ⟨rfl,hb⟩;refine ⟨_,rfl,?_⟩;replace aY:=kB aY hb;replace HB:=bS X141 hb;clear hb))
   go_ret
   exact ⟨X11,X141⟩

def q2z.f (k:Nat) (aA:Int) (aC:q0a) (aD:Int) (aE:List (S25)):Option (Int):=(q0H.f k aA aC aD aE 1).bind fun aG=>(if aG = 0 then ((q1s.f k aA aC aD aE).bind fun aH=>(if aH > 200 then (some 3) else (some 0))) else (some aG))
theorem q2z.mono:∀ a0 a1 a2 a3 k,LeO (q2z.f k a0 a1 a2 a3) (q2z.f (k + 1) a0 a1 a2 a3):=by
 intro a0 a1 a2 a3 k;unfold q2z.f;exact (by repeat' (with_reducible first | apply q1s.mono | apply q0H.mono | exact LeO.refl _ | exact LeO.none _ | refine LeO.ite ?_ ?_ | refine LeO.bind ?_ (fun _=>?_)))
theorem q2z.calls (k:Nat) (aA:Int) (aC:q0a) (aD:Int) (aE:Option Addr) (aG:Nat) (aH:List (S25)) (r:Int) (w:World) (aI:Kd.C k25 w aE aH.length aH) (aJ:aH.length≤aG) (h:q2z.f k aA aC aD aH = some r) :
  Calls prog 37 #[.agg #[iv aA,.string aC,iv aD,sl aE aH aG]] w fun e w'=>e = .returned (iv r)∧Below w.heap.size w w':=by
 have hu25:=underlying25;have aK:=am aI;have aM:=am aJ;clear aI aJ;have HB:=am (q0k w.heap.size w);have H:=h;clear h;unfold q2z.f at H;obtain ⟨aQ,A2,H⟩:=oA H;(try dsimp only at H);by_cases c3:aQ = 0
 ·rw [if_pos c3] at H;have c3b0:=eT c3;have c3b1:=eF c3;clear c3;obtain ⟨aU,A4,H⟩:=oA H;(try dsimp only at H);by_cases c5:aU > 200
  ·rw [if_pos c5] at H;have c5b0:decide (200 < aU) = true:=q0s c5;clear c5;obtain rfl:=q0c H;go_enter func37,ntmps37;go_wp2_with (first|((with_reducible refine gd 1 ?_);refine be 1 #[iv aA,.string aC,iv aD,sl aE aH aG] 25 ?_;intro aX hg w6 hbox hb;have aY:=am (hbox);have aZ:=sG (w:=w) hg X6;have bA:=sG (w:=w) hg X6;replace HB:=bS X6 hb;clear hb hbox hg;have Z7:=bc4 aY)|((with_reducible refine gc 87 ?_);refine gL (some 5) func87 #[.agg #[iv aA,.string aC,iv aD,sl aE aH aG],iv 1] ?_;(with_reducible refine (q0H.calls k aA aC aD _ _ aH 1 aQ _ ?side1 ?side2 A2.out).mono ?_);(case side1=>exact (X15 aK HB));(case side2=>exact aM.out);rintro e w8 ⟨rfl,hb⟩;refine ⟨_,rfl,?_⟩;replace aY:=kB aY hb;replace HB:=bS X141 hb;clear hb;have Z9:=bc4 aY)|((with_reducible refine gc 69 ?_);refine gL (some 10) func69 #[.agg #[iv aA,.string aC,iv aD,sl aE aH aG]] ?_;(with_reducible refine (q1s.calls k aA aC aD _ _ aH aU _ ?side1 ?side2 A4.out).mono ?_);(case side1=>exact (X15 aK HB));(case side2=>exact aM.out);rintro e w10 ⟨rfl,hb⟩;refine ⟨_,rfl,?_⟩;replace aY:=kB aY hb;replace HB:=bS X141 hb;clear hb))
   go_ret
   exact ⟨X11,X141⟩
  ·rw [if_neg c5] at H;have c5b0:decide (200 < aU) = false:=q0F c5;clear c5;obtain rfl:=q0c H;go_enter func37,ntmps37;go_wp2_with (first|((with_reducible refine gd 1 ?_);refine be 1 #[iv aA,.string aC,iv aD,sl aE aH aG] 25 ?_;intro aX hg w11 hbox hb;have aY:=am (hbox);have aZ:=sG (w:=w) hg X6;have bA:=sG (w:=w) hg X6;replace HB:=bS X6 hb;clear hb hbox hg;have Z12:=bc4 aY)|((with_reducible refine gc 87 ?_);refine gL (some 5) func87 #[.agg #[iv aA,.string aC,iv aD,sl aE aH aG],iv 1] ?_;(with_reducible refine (q0H.calls k aA aC aD _ _ aH 1 aQ _ ?side1 ?side2 A2.out).mono ?_);(case side1=>exact (X15 aK HB));(case side2=>exact aM.out);rintro e w13 ⟨rfl,hb⟩;refine ⟨_,rfl,?_⟩;replace aY:=kB aY hb;replace HB:=bS X141 hb;clear hb;have Z14:=bc4 aY)|((with_reducible refine gc 69 ?_);refine gL (some 10) func69 #[.agg #[iv aA,.string aC,iv aD,sl aE aH aG]] ?_;(with_reducible refine (q1s.calls k aA aC aD _ _ aH aU _ ?side1 ?side2 A4.out).mono ?_);(case side1=>exact (X15 aK HB));(case side2=>exact aM.out);rintro e w15 ⟨rfl,hb⟩;refine ⟨_,rfl,?_⟩;replace aY:=kB aY hb;replace HB:=bS X141 hb;clear hb))
   go_ret
   exact ⟨X11,X141⟩
 ·rw [if_neg c3] at H;have c3b0:=nF c3;have c3b1:=nT c3;obtain rfl:=q0c H;go_enter func37,ntmps37;go_wp2_with (first|((with_reducible refine gd 1 ?_);refine be 1 #[iv aA,.string aC,iv aD,sl aE aH aG] 25 ?_;intro aX hg w16 hbox hb;have aY:=am (hbox);have aZ:=sG (w:=w) hg X6;have bA:=sG (w:=w) hg X6;replace HB:=bS X6 hb;clear hb hbox hg;have Z17:=bc4 aY)|((with_reducible refine gc 87 ?_);refine gL (some 5) func87 #[.agg #[iv aA,.string aC,iv aD,sl aE aH aG],iv 1] ?_;(with_reducible refine (q0H.calls k aA aC aD _ _ aH 1 aQ _ ?side1 ?side2 A2.out).mono ?_);(case side1=>exact (X15 aK HB));(case side2=>exact aM.out);rintro e w18 ⟨rfl,hb⟩;refine ⟨_,rfl,?_⟩;replace aY:=kB aY hb;replace HB:=bS X141 hb;clear hb))
  go_ret
  exact ⟨X11,X141⟩
mutual
def q0q.j0:Nat → Bool → q0a → List (S86) → List (S88) → List (List q0a) → Int → q0a → Int → List (S25) → Option (Int)
 | 0,_,_,_,_,_,_,_,_,_=>none
 | k + 1,aA,aC,aD,aE,aG,aH,aI,aJ,aK=>if aA = true then (some 3) else (q0q.l0 k 0 0 aC aD aE aG aH aI aJ aK)
def q0q.l0:Nat → Int → Int → q0a → List (S86) → List (S88) → List (List q0a) → Int → q0a → Int → List (S25) → Option (Int)
 | 0,_,_,_,_,_,_,_,_,_,_=>none
 | k + 1,x3,x4,aA,aC,aD,aE,aG,aH,aI,aJ=>if x4 < (aC.length:Int) then (if 0≤x4 then ((q1S.f k ((q0z aC x4).f0)).bind fun aK=>(if aK = true then ((q2z.f k ((q0z aC x4).f1.f0) ((q0z aC x4).f1.f1) ((q0z aC x4).f1.f2) ((q0z aC x4).f1.f3)).bind fun aM=>(if aM = 0 then ((q1s.f k ((q0z aC x4).f1.f0) ((q0z aC x4).f1.f1) ((q0z aC x4).f1.f2) ((q0z aC x4).f1.f3)).bind fun aQ=>(q0q.l0 k (wrap64 (x3 + aQ)) (wrap64 (x4 + 1)) aA aC aD aE aG aH aI aJ)) else (some aM))) else (some 2))) else (none)) else (q0q.l1 k x3 0 aA aC aD aE aG aH aI aJ)
def q0q.l1:Nat → Int → Int → q0a → List (S86) → List (S88) → List (List q0a) → Int → q0a → Int → List (S25) → Option (Int)
 | 0,_,_,_,_,_,_,_,_,_,_=>none
 | k + 1,x3,x6,aA,aC,aD,aE,aG,aH,aI,aJ=>if x6 < (aD.length:Int) then (if 0≤x6 then ((q1S.f k ((q1W aD x6).f0)).bind fun aK=>(if aK = true then (if ((q1W aD x6).f1) < 0 then (some 6) else (if ((q1W aD x6).f2) < ((q1W aD x6).f1) then (some 6) else (if ((q1W aD x6).f2) > 6 then (some 6) else (q0q.l1 k x3 (wrap64 (x6 + 1)) aA aC aD aE aG aH aI aJ)))) else (some 2))) else (none)) else (q0q.l2 k x3 0 aA aC aD aE aG aH aI aJ)
def q0q.l2:Nat → Int → Int → q0a → List (S86) → List (S88) → List (List q0a) → Int → q0a → Int → List (S25) → Option (Int)
 | 0,_,_,_,_,_,_,_,_,_,_=>none
 | k + 1,x3,x8,aA,aC,aD,aE,aG,aH,aI,aJ=>if x8 < (aE.length:Int) then (if 0≤x8 then (if ((q2A aE x8).length:Int) = 0 then (some 7) else (if ((q2A aE x8).length:Int) > 6 then (some 3) else (q0q.l3 k x3 x8 0 aA aC aD aE aG aH aI aJ))) else (none)) else ((q2z.f k aG aH aI aJ).bind fun aK=>(if aK = 0 then ((q1s.f k aG aH aI aJ).bind fun aM=>(if (wrap64 (x3 + aM)) > 200 then (some 3) else (some 0))) else (some aK)))
def q0q.l3:Nat → Int → Int → Int → q0a → List (S86) → List (S88) → List (List q0a) → Int → q0a → Int → List (S25) → Option (Int)
 | 0,_,_,_,_,_,_,_,_,_,_,_=>none
 | k + 1,x3,x8,x9,aA,aC,aD,aE,aG,aH,aI,aJ=>if 0≤x8 then (if x8 < (aE.length:Int) then (if x9 < ((q2A aE x8).length:Int) then (if 0≤x9 then ((q1S.f k (rdOf ByteArray.empty (q2A aE x8) x9)).bind fun aK=>(if aK = true then (q0q.l3 k x3 x8 (wrap64 (x9 + 1)) aA aC aD aE aG aH aI aJ) else (some 2))) else (none)) else (q0q.l2 k x3 (wrap64 (x8 + 1)) aA aC aD aE aG aH aI aJ)) else (none)) else (none)
end
def q0q.f (k:Nat) (aA:q0a) (aC:List (S86)) (aD:List (S88)) (aE:List (List q0a)) (aG:Int) (aH:q0a) (aI:Int) (aJ:List (S25)):Option (Int):=(q2r.f k aA).bind fun aK=>(if aK = true then (if (aC.length:Int) > 20 then (q0q.j0 k true aA aC aD aE aG aH aI aJ) else (if (aD.length:Int) > 3 then (q0q.j0 k true aA aC aD aE aG aH aI aJ) else (q0q.j0 k (decide ((aE.length:Int) > 3)) aA aC aD aE aG aH aI aJ))) else (some 2))
theorem q0q.mono_l:∀ k,(∀ y0 y1 y2 y3 y4 y5 y6 y7 y8,LeO (q0q.j0 k y0 y1 y2 y3 y4 y5 y6 y7 y8) (q0q.j0 (k + 1) y0 y1 y2 y3 y4 y5 y6 y7 y8))∧(∀ y0 y1 y2 y3 y4 y5 y6 y7 y8 y9,LeO (q0q.l0 k y0 y1 y2 y3 y4 y5 y6 y7 y8 y9) (q0q.l0 (k + 1) y0 y1 y2 y3 y4 y5 y6 y7 y8 y9))∧(∀ y0 y1 y2 y3 y4 y5 y6 y7 y8 y9,LeO (q0q.l1 k y0 y1 y2 y3 y4 y5 y6 y7 y8 y9) (q0q.l1 (k + 1) y0 y1 y2 y3 y4 y5 y6 y7 y8 y9))∧(∀ y0 y1 y2 y3 y4 y5 y6 y7 y8 y9,LeO (q0q.l2 k y0 y1 y2 y3 y4 y5 y6 y7 y8 y9) (q0q.l2 (k + 1) y0 y1 y2 y3 y4 y5 y6 y7 y8 y9))∧(∀ y0 y1 y2 y3 y4 y5 y6 y7 y8 y9 aA,LeO (q0q.l3 k y0 y1 y2 y3 y4 y5 y6 y7 y8 y9 aA) (q0q.l3 (k + 1) y0 y1 y2 y3 y4 y5 y6 y7 y8 y9 aA))
 | 0=>⟨fun _ _ _ _ _ _ _ _ _ r h=>by simp [q0q.j0] at h,fun _ _ _ _ _ _ _ _ _ _ r h=>by simp [q0q.l0] at h,fun _ _ _ _ _ _ _ _ _ _ r h=>by simp [q0q.l1] at h,fun _ _ _ _ _ _ _ _ _ _ r h=>by simp [q0q.l2] at h,fun _ _ _ _ _ _ _ _ _ _ _ r h=>by simp [q0q.l3] at h⟩
 | k + 1=>by
  obtain ⟨aC,aD,aE,aG,aH⟩:=q0q.mono_l k;refine ⟨?_,?_,?_,?_,?_⟩
  ·intro y0 y1 y2 y3 y4 y5 y6 y7 y8;unfold q0q.j0;exact X145
  ·intro y0 y1 y2 y3 y4 y5 y6 y7 y8 y9;unfold q0q.l0;exact X145
  ·intro y0 y1 y2 y3 y4 y5 y6 y7 y8 y9;unfold q0q.l1;exact X145
  ·intro y0 y1 y2 y3 y4 y5 y6 y7 y8 y9;unfold q0q.l2;exact X145
  ·intro y0 y1 y2 y3 y4 y5 y6 y7 y8 y9 aA;unfold q0q.l3;exact X145
theorem q0q.mono:∀ a0 a1 a2 a3 a4 a5 a6 a7 k,LeO (q0q.f k a0 a1 a2 a3 a4 a5 a6 a7) (q0q.f (k + 1) a0 a1 a2 a3 a4 a5 a6 a7):=by
 intro a0 a1 a2 a3 a4 a5 a6 a7 k;obtain ⟨aA,aC,aD,aE,aG⟩:=q0q.mono_l k;unfold q0q.f;exact (by repeat' (with_reducible first | apply aA | apply aC | apply aD | apply aE | apply aG | exact q2r.mono _ _ | exact q1S.mono _ _ | apply q2z.mono | apply q1s.mono | exact LeO.refl _ | exact LeO.none _ | refine LeO.ite ?_ ?_ | refine LeO.bind ?_ (fun _=>?_)))
theorem q0q.calls (k:Nat) (aA:q0a) (aC:Option Addr) (aD:Nat) (aE:List (S86)) (aG:Option Addr) (aH:Nat) (aI:List (S88)) (aJ:Option Addr) (aK:Nat) (aM:List (List q0a)) (aQ:Int) (aT:q0a) (aU:Int) (aW:Option Addr) (aX:Nat) (aY:List (S25)) (r:Int) (w:World) (aZ:Kd.C k86 w aC aE.length aE) (bA:aE.length≤aD) (bB:Kd.C k88 w aG aI.length aI) (bC:aI.length≤aH) (bD:Kd.C (Kd.slice 9 Kd.string) w aJ aM.length aM) (bE:aM.length≤aK) (bF:Kd.C k25 w aW aY.length aY) (bG:aY.length≤aX) (h:q0q.f k aA aE aI aM aQ aT aU aY = some r) :
  Calls prog 23 #[.agg #[.string aA,sl aC aE aD,sl aG aI aH,sl aJ aM aK,iv aQ,.string aT,iv aU,sl aW aY aX]] w fun e w'=>e = .returned (iv r)∧Below w.heap.size w w':=by
 have hu44:=underlying44;have hu25:=underlying25;have hu88:=underlying88;have bH:=am aZ;have HC0_1:=am bA;clear aZ bA;have bI:=am bB;have HC0_2:=am bC;clear bB bC;have bJ:=am bD;have HC0_3:=am bE;clear bD bE;have bK:=am bF;have bL:=am bG;clear bF bG;have HB:=am (q0k w.heap.size w);have H:=h;clear h;unfold q0q.f at H;obtain ⟨bM,A2,H⟩:=oA H;(try dsimp only at H);by_cases c3:bM = true
 ·subst c3;replace H:=tP H;have bO:=am H;clear H;go_enter func23,ntmps23;go_upto_region 3 with (first|((with_reducible refine gd 1 ?_);(try (refine q2p (by rfl) ?_;dsimp only));refine be 1 #[.string aA,sl aC aE aD,sl aG aI aH,sl aJ aM aK,iv aQ,.string aT,iv aU,sl aW aY aX] 44 ?_;intro bP hg w5 hbox hb;have bQ:=am (hbox);have bR:=sG (w:=w) hg X6;have bT:=sG (w:=w) hg X6;replace HB:=bS X6 hb;clear hb hbox hg;have Z6:=bc8 bQ)|((with_reducible refine gc 67 ?_);refine gL (some 13) func67 #[.string aA] ?_;(with_reducible refine (q2r.calls k aA true _ A2.out).mono ?_);rintro e w' ⟨rfl,⟨nd,rfl⟩⟩;refine ⟨_,rfl,?_⟩))
  (try simp only [Act.put,List.setIfInBounds_toArray,List.set_cons_zero,List.set_cons_succ]);go_cut [30] (fun bU wc=>∃ (kq:Nat) (bV:Bool),bU = .bool bV∧q0j (q0q.j0 kq bV aA aE aI aM aQ aT aU aY = some r)∧q0j (kq≤k)∧q0j (wc.heap[bP]? = some (.cells #[.string aA,(sl aC aE aD),(sl aG aI aH),(sl aJ aM aK),iv aQ,.string aT,iv aU,(sl aW aY aX)] 44 (0,0)))∧q0j (Below w.heap.size w wc))
  case first=>
   have H:=bO.out;clear bO;by_cases c7:(aE.length:Int) > 20
   ·rw [if_pos c7] at H;have c7b0:decide (20 < (aE.length:Int)) = true:=q0s c7;have c7b1:decide (20 < aE.length) = true:=q0s (by omega);clear c7;(first | rw [c7b0]|(simp only [q3W,q4b];rw [c7b0]) | skip);have H':=am H;clear H;have Z8:=bc8 bQ;go_wp2
    go_meet
    case rel=>exact ⟨_,(true),X7,H',⟨X8⟩,⟨(X9 bQ)⟩,⟨X10⟩⟩
   ·rw [if_neg c7] at H;have c7b0:decide (20 < (aE.length:Int)) = false:=q0F c7;have c7b1:decide (20 < aE.length) = false:=q0F (by omega);clear c7;(first | rw [c7b0]|(simp only [q3W,q4b];rw [c7b0]) | skip);by_cases c9:(aI.length:Int) > 3
    ·rw [if_pos c9] at H;have c9b0:decide (3 < (aI.length:Int)) = true:=q0s c9;have c9b1:decide (3 < aI.length) = true:=q0s (by omega);clear c9;have H':=am H;clear H;have bW:=bc8 bQ;go_wp2
     go_meet
     case rel=>exact ⟨_,(true),X7,H',⟨X8⟩,⟨(X9 bQ)⟩,⟨X10⟩⟩
    ·rw [if_neg c9] at H;have c9b0:decide (3 < (aI.length:Int)) = false:=q0F c9;have c9b1:decide (3 < aI.length) = false:=q0F (by omega);clear c9;have H':=am H;clear H;have bX:=bc8 bQ;go_wp2
     go_meet
     case rel=>exact ⟨_,(decide ((aM.length:Int) > 3)),X7,H',⟨X8⟩,⟨(X9 bQ)⟩,⟨X10⟩⟩
  case rest=>
   clear bO;(try clear c2 p2 c3 c6 c7 c7b0 c7b1 c9 c9b0 c9b1 bW bX Z6 Z8);obtain ⟨kq,bV,rfl,HA,bY,bQ,HB⟩:=hcut;cases kq with
   | zero=>exact absurd HA.out (by simp [q0q.j0])
   | succ bZ=>
    have H:=HA.out;clear HA;simp only [q0q.j0] at H;by_cases cA:bV = true
    ·subst cA;replace H:=tP H;obtain rfl:=q0c H;go_wp2
     go_ret
     exact ⟨X11,X10⟩
    ·replace cA:=fI cA;subst cA;replace H:=tN H;have H':=am H;clear H;go_wp2
     go_loopg [3,4] bZ (fun kq v3 v4 w'=>∃ (cC:Int) (cD:Int),v3 = iv cC∧v4 = iv cD∧q0j (q0q.l0 kq cC cD aA aE aI aM aQ aT aU aY = some r)∧q0j (kq≤bZ)∧q0j (w'.heap[bP]? = some (.cells #[.string aA,(sl aC aE aD),(sl aG aI aH),(sl aJ aM aK),iv aQ,.string aT,iv aU,(sl aW aY aX)] 44 (0,0)))∧q0j (Below w.heap.size w w'))
     case atStart=>exact ⟨(0),(0),X7,X7,H',⟨q0e _⟩,⟨(X9 bQ)⟩,⟨X10⟩⟩
     case round=>
      clear H';(try clear c1 c2);(try clear p2 p2);(try clear c3 c6 c7 c7b0 c7b1 c9 c9b0 c9b1 cA bW bX Z6 Z8);obtain ⟨cC,cD,rfl,rfl,HA,cE,bQ,HB⟩:=hrel;cases gk with
      | zero=>exact absurd HA.out (by simp [q0q.l0])
      | succ k2=>
       have H:=HA.out;clear HA;simp only [q0q.l0] at H;by_cases cF:cD < (aE.length:Int)
       ·rw [if_pos cF] at H;have c13b0:=dT cF;clear cF;by_cases cG:0≤cD
        ·rw [if_pos cG] at H;have c14b0:=dT cG;clear cG;obtain ⟨cH,cJ,H⟩:=oA H;(try dsimp only at H);by_cases cK:cH = true
         ·subst cK;replace H:=tP H;obtain ⟨cL,cN,H⟩:=oA H;(try dsimp only at H);by_cases cO:cL = 0
          ·rw [if_pos cO] at H;have c18b0:=eT cO;have c18b1:=eF cO;clear cO;obtain ⟨cP,cR,H⟩:=oA H;(try dsimp only at H);have H':=am H;clear H;have cS:=bc8 bQ;have cT:0≤(cD:Int):=q0b X12;have cU:cD < (aE.length:Int):=q0b X12;obtain ⟨cV,cX,cY,e829,cZ,dA,dB,dC,dD,dE,dG⟩:=q4G bH.out cD cT cU;cases e829;replace cZ:=cB HB cZ;replace dA:=cB HB dA;replace dB:=cB HB dB;replace dC:=cB HB dC;replace dD:=cB HB dD;have dH:=am dG;have dI:=am dE;clear dG dE;replace cT:=q0d cT;replace cU:=q0d cU;go_wp2_with (first|((with_reducible refine gc 68 ?_);refine gL (some 44) func68 #[.string ((q0z aE cD).f0)] ?_;(with_reducible refine (q1S.calls k2 ((q0z aE cD).f0) true _ cJ.out).mono ?_);rintro e w' ⟨rfl,⟨nd,rfl⟩⟩;refine ⟨_,rfl,?_⟩;have dJ:0≤(cD:Int):=q0b X12;have dK:cD < (aE.length:Int):=q0b X12;obtain ⟨dL,dM,dN,e831,dO,dP,dQ,dR,dS,dU,dV⟩:=q4G bH.out cD dJ dK;obtain rfl:cV = dL:=(by injection e831);replace dO:=cB HB dO;replace dP:=cB HB dP;replace dQ:=cB HB dQ;replace dR:=cB HB dR;replace dS:=cB HB dS;have dW:=am dV;have dX:=am dU;clear dV dU;replace dJ:=q0d dJ;replace dK:=q0d dK;have ea_:=q0c (dD.symm.trans dS);injection ea_ with ea_ en_ ec_;subst ea_;subst ec_;clear en_)|((with_reducible refine gc 37 ?_);refine gL (some 52) func37 #[.agg #[iv ((q0z aE cD).f1.f0),.string ((q0z aE cD).f1.f1),iv ((q0z aE cD).f1.f2),sl cX ((q0z aE cD).f1.f3) cY]] ?_;(with_reducible refine (q2z.calls k2 ((q0z aE cD).f1.f0) ((q0z aE cD).f1.f1) ((q0z aE cD).f1.f2) _ _ ((q0z aE cD).f1.f3) cL _ ?side1 ?side2 cN.out).mono ?_);(case side1=>exact (X146 dW HB bT));(case side2=>exact dX.out);rintro e w21 ⟨rfl,hb⟩;refine ⟨_,rfl,?_⟩;replace bQ:=kB bQ hb;replace HB:=bS X10 hb;clear hb;have dY:=bc8 bQ;have dZ:0≤(cD:Int):=q0b X12;have eA:cD < (aE.length:Int):=q0b X12;obtain ⟨eB,eC,eD,e833,eE,eG,eH,eI,eJ,eK,eL⟩:=q4G bH.out cD dZ eA;obtain rfl:cV = eB:=(by injection e833);replace eE:=cB HB eE;replace eG:=cB HB eG;replace eH:=cB HB eH;replace eI:=cB HB eI;replace eJ:=cB HB eJ;have eM:=am eL;have eN:=am eK;clear eL eK;replace dZ:=q0d dZ;replace eA:=q0d eA)|((with_reducible refine gc 69 ?_);refine gL (some 63) func69 #[.agg #[iv ((q0z aE cD).f1.f0),.string ((q0z aE cD).f1.f1),iv ((q0z aE cD).f1.f2),sl eC ((q0z aE cD).f1.f3) eD]] ?_;(with_reducible refine (q1s.calls k2 ((q0z aE cD).f1.f0) ((q0z aE cD).f1.f1) ((q0z aE cD).f1.f2) _ _ ((q0z aE cD).f1.f3) cP _ ?side1 ?side2 cR.out).mono ?_);(case side1=>exact cW (q0N eM.out HB.out));(case side2=>exact eN.out);rintro e w23 ⟨rfl,hb⟩;refine ⟨_,rfl,?_⟩;replace bQ:=kB bQ hb;replace HB:=bS X10 hb;clear hb))
           go_roundg k2
           case measure=>have:=bY.out;have:=cE.out;omega
           case rel=>exact ⟨(wrap64 (cC + cP)),(wrap64 (cD + 1)),X7,X7,H',⟨by have:=bY.out;have:=cE.out;omega⟩,⟨(X9 bQ)⟩,⟨X10⟩⟩
          ·rw [if_neg cO] at H;have c18b0:=nF cO;have c18b1:=nT cO;obtain rfl:=q0c H;have eO:=bc8 bQ;have cT:0≤(cD:Int):=q0b X12;have cU:cD < (aE.length:Int):=q0b X12;obtain ⟨cV,cX,cY,e829,cZ,dA,dB,dC,dD,dE,dG⟩:=q4G bH.out cD cT cU;cases e829;replace cZ:=cB HB cZ;replace dA:=cB HB dA;replace dB:=cB HB dB;replace dC:=cB HB dC;replace dD:=cB HB dD;have dH:=am dG;have dI:=am dE;clear dG dE;replace cT:=q0d cT;replace cU:=q0d cU;go_wp2_with (first|((with_reducible refine gc 68 ?_);refine gL (some 44) func68 #[.string ((q0z aE cD).f0)] ?_;(with_reducible refine (q1S.calls k2 ((q0z aE cD).f0) true _ cJ.out).mono ?_);rintro e w' ⟨rfl,⟨nd,rfl⟩⟩;refine ⟨_,rfl,?_⟩;have dJ:0≤(cD:Int):=q0b X12;have dK:cD < (aE.length:Int):=q0b X12;obtain ⟨dL,dM,dN,e831,dO,dP,dQ,dR,dS,dU,dV⟩:=q4G bH.out cD dJ dK;obtain rfl:cV = dL:=(by injection e831);replace dO:=cB HB dO;replace dP:=cB HB dP;replace dQ:=cB HB dQ;replace dR:=cB HB dR;replace dS:=cB HB dS;have dW:=am dV;have dX:=am dU;clear dV dU;replace dJ:=q0d dJ;replace dK:=q0d dK;have ea_:=q0c (dD.symm.trans dS);injection ea_ with ea_ en_ ec_;subst ea_;subst ec_;clear en_)|((with_reducible refine gc 37 ?_);refine gL (some 52) func37 #[.agg #[iv ((q0z aE cD).f1.f0),.string ((q0z aE cD).f1.f1),iv ((q0z aE cD).f1.f2),sl cX ((q0z aE cD).f1.f3) cY]] ?_;(with_reducible refine (q2z.calls k2 ((q0z aE cD).f1.f0) ((q0z aE cD).f1.f1) ((q0z aE cD).f1.f2) _ _ ((q0z aE cD).f1.f3) cL _ ?side1 ?side2 cN.out).mono ?_);(case side1=>exact (X146 dW HB bT));(case side2=>exact dX.out);rintro e w25 ⟨rfl,hb⟩;refine ⟨_,rfl,?_⟩;replace bQ:=kB bQ hb;replace HB:=bS X10 hb;clear hb))
           go_ret
           exact ⟨X11,X10⟩
         ·replace cK:=fI cK;subst cK;replace H:=tN H;obtain rfl:=q0c H;have eP:=bc8 bQ;have cT:0≤(cD:Int):=q0b X12;have cU:cD < (aE.length:Int):=q0b X12;obtain ⟨cV,cX,cY,e829,cZ,dA,dB,dC,dD,dE,dG⟩:=q4G bH.out cD cT cU;cases e829;replace cZ:=cB HB cZ;replace dA:=cB HB dA;replace dB:=cB HB dB;replace dC:=cB HB dC;replace dD:=cB HB dD;have dH:=am dG;have dI:=am dE;clear dG dE;replace cT:=q0d cT;replace cU:=q0d cU;go_wp2_with (first|((with_reducible refine gc 68 ?_);refine gL (some 44) func68 #[.string ((q0z aE cD).f0)] ?_;(with_reducible refine (q1S.calls k2 ((q0z aE cD).f0) false _ cJ.out).mono ?_);rintro e w' ⟨rfl,⟨nd,rfl⟩⟩;refine ⟨_,rfl,?_⟩))
          go_ret
          exact ⟨X11,X10⟩
        ·exact iN cG H
       ·rw [if_neg cF] at H;have c13b0:=dF cF;clear cF;have H':=am H;clear H;have eQ:=bc8 bQ;go_wp2
        go_loopg [6] k2 (fun kq v6 w'=>∃ (eR:Int),v6 = iv eR∧q0j (q0q.l1 kq cC eR aA aE aI aM aQ aT aU aY = some r)∧q0j (kq≤k2)∧q0j (w'.heap[bP]? = some (.cells #[.string aA,(sl aC aE aD),(sl aG aI aH),(sl aJ aM aK),iv aQ,.string aT,iv aU,(sl aW aY aX)] 44 (0,0)))∧q0j (Below w.heap.size w w'))
        case atStart=>exact ⟨(0),X7,H',⟨q0e _⟩,⟨(X9 bQ)⟩,⟨X10⟩⟩
        case round=>
         clear H';(try clear c1 c2);(try clear p2 p2);(try clear c3 c6 p6 c7 c7b0 c7b1 c8 p8 q8 eS c9 c9b0 c9b1 cA cF c13b0 cG c14b0 cK cO c18b0 c18b1 eU bW bX cS dY eO eP eQ Z6 Z8 cZ dA dB dC dD dO dP dQ dR dS eE eG eH eI eJ cT dJ dZ cU dK eA);obtain ⟨eR,rfl,HA,eV,bQ,HB⟩:=hrel;cases gk with
         | zero=>exact absurd HA.out (by simp [q0q.l1])
         | succ k3=>
          have H:=HA.out;clear HA;simp only [q0q.l1] at H;by_cases eW:eR < (aI.length:Int)
          ·rw [if_pos eW] at H;have c28b0:=dT eW;clear eW;by_cases eX:0≤eR
           ·rw [if_pos eX] at H;have c29b0:=dT eX;clear eX;obtain ⟨eY,fA,H⟩:=oA H;(try dsimp only at H);by_cases fB:eY = true
            ·subst fB;replace H:=tP H;by_cases fC:((q1W aI eR).f1) < 0
             ·rw [if_pos fC] at H;have c32b0:=dT fC;clear fC;obtain rfl:=q0c H;have fD:=bc8 bQ;have fE:0≤(eR:Int):=q0b X12;have fF:eR < (aI.length:Int):=q0b X12;obtain ⟨fG,e835,fH,fJ,fK⟩:=q4U bI.out eR fE fF;cases e835;replace fH:=cB HB fH;replace fJ:=cB HB fJ;replace fK:=cB HB fK;replace fE:=q0d fE;replace fF:=q0d fF;go_wp2_with (first|((with_reducible refine gd 7 ?_);(try (refine q2p (by rfl) ?_;dsimp only));refine be 7 #[.string (⟨#[]⟩:q0a),iv 0,iv 0] 88 ?_;intro fL hg w34 hbox hb;have fM:=am (hbox);have fN:=sG (w:=w) hg X10;have fO:=sG (w:=w) hg X10;replace HB:=bS X10 hb;have fP:=nLT hg bQ;have fQ:=nGT hg bQ;replace bQ:=kB bQ hb;clear hb hbox hg;have hnb35:=fQ.out;have hnc35:=fP.out;have fR:=bc3 fM)|((with_reducible refine gc 68 ?_);refine gL (some 79) func68 #[.string ((q1W aI eR).f0)] ?_;(with_reducible refine (q1S.calls k3 ((q1W aI eR).f0) true _ fA.out).mono ?_);rintro e w' ⟨rfl,⟨nd,rfl⟩⟩;refine ⟨_,rfl,?_⟩))
              go_ret
              exact ⟨X11,(X13 HB bT fO)⟩
             ·rw [if_neg fC] at H;have c32b0:=dF fC;clear fC;by_cases fS:((q1W aI eR).f2) < ((q1W aI eR).f1)
              ·rw [if_pos fS] at H;have c37b0:=dT fS;clear fS;obtain rfl:=q0c H;have fT:=bc8 bQ;have fE:0≤(eR:Int):=q0b X12;have fF:eR < (aI.length:Int):=q0b X12;obtain ⟨fG,e835,fH,fJ,fK⟩:=q4U bI.out eR fE fF;cases e835;replace fH:=cB HB fH;replace fJ:=cB HB fJ;replace fK:=cB HB fK;replace fE:=q0d fE;replace fF:=q0d fF;go_wp2_with (first|((with_reducible refine gd 7 ?_);(try (refine q2p (by rfl) ?_;dsimp only));refine be 7 #[.string (⟨#[]⟩:q0a),iv 0,iv 0] 88 ?_;intro fL hg w39 hbox hb;have fM:=am (hbox);have fN:=sG (w:=w) hg X10;have fO:=sG (w:=w) hg X10;replace HB:=bS X10 hb;have fP:=nLT hg bQ;have fQ:=nGT hg bQ;replace bQ:=kB bQ hb;clear hb hbox hg;have hnb40:=fQ.out;have hnc40:=fP.out;have fU:=bc3 fM)|((with_reducible refine gc 68 ?_);refine gL (some 79) func68 #[.string ((q1W aI eR).f0)] ?_;(with_reducible refine (q1S.calls k3 ((q1W aI eR).f0) true _ fA.out).mono ?_);rintro e w' ⟨rfl,⟨nd,rfl⟩⟩;refine ⟨_,rfl,?_⟩))
               go_ret
               exact ⟨X11,(X13 HB bT fO)⟩
              ·rw [if_neg fS] at H;have c37b0:=dF fS;clear fS;by_cases fV:((q1W aI eR).f2) > 6
               ·rw [if_pos fV] at H;have c42b0:decide (6 < ((q1W aI eR).f2)) = true:=q0s fV;clear fV;obtain rfl:=q0c H;have fW:=bc8 bQ;have fE:0≤(eR:Int):=q0b X12;have fF:eR < (aI.length:Int):=q0b X12;obtain ⟨fG,e835,fH,fJ,fK⟩:=q4U bI.out eR fE fF;cases e835;replace fH:=cB HB fH;replace fJ:=cB HB fJ;replace fK:=cB HB fK;replace fE:=q0d fE;replace fF:=q0d fF;go_wp2_with (first|((with_reducible refine gd 7 ?_);(try (refine q2p (by rfl) ?_;dsimp only));refine be 7 #[.string (⟨#[]⟩:q0a),iv 0,iv 0] 88 ?_;intro fL hg w44 hbox hb;have fM:=am (hbox);have fN:=sG (w:=w) hg X10;have fO:=sG (w:=w) hg X10;replace HB:=bS X10 hb;have fP:=nLT hg bQ;have fQ:=nGT hg bQ;replace bQ:=kB bQ hb;clear hb hbox hg;have hnb45:=fQ.out;have hnc45:=fP.out;have fX:=bc3 fM)|((with_reducible refine gc 68 ?_);refine gL (some 79) func68 #[.string ((q1W aI eR).f0)] ?_;(with_reducible refine (q1S.calls k3 ((q1W aI eR).f0) true _ fA.out).mono ?_);rintro e w' ⟨rfl,⟨nd,rfl⟩⟩;refine ⟨_,rfl,?_⟩))
                go_ret
                exact ⟨X11,(X13 HB bT fO)⟩
               ·rw [if_neg fV] at H;have c42b0:decide (6 < ((q1W aI eR).f2)) = false:=q0F fV;clear fV;have H':=am H;clear H;have fY:=bc8 bQ;have fE:0≤(eR:Int):=q0b X12;have fF:eR < (aI.length:Int):=q0b X12;obtain ⟨fG,e835,fH,fJ,fK⟩:=q4U bI.out eR fE fF;cases e835;replace fH:=cB HB fH;replace fJ:=cB HB fJ;replace fK:=cB HB fK;replace fE:=q0d fE;replace fF:=q0d fF;go_wp2_with (first|((with_reducible refine gd 7 ?_);(try (refine q2p (by rfl) ?_;dsimp only));refine be 7 #[.string (⟨#[]⟩:q0a),iv 0,iv 0] 88 ?_;intro fL hg w48 hbox hb;have fM:=am (hbox);have fN:=sG (w:=w) hg X10;have fO:=sG (w:=w) hg X10;replace HB:=bS X10 hb;have fP:=nLT hg bQ;have fQ:=nGT hg bQ;replace bQ:=kB bQ hb;clear hb hbox hg;have hnb49:=fQ.out;have hnc49:=fP.out;have fZ:=bc3 fM)|((with_reducible refine gc 68 ?_);refine gL (some 79) func68 #[.string ((q1W aI eR).f0)] ?_;(with_reducible refine (q1S.calls k3 ((q1W aI eR).f0) true _ fA.out).mono ?_);rintro e w' ⟨rfl,⟨nd,rfl⟩⟩;refine ⟨_,rfl,?_⟩))
                go_roundg k3
                case measure=>have:=bY.out;have:=cE.out;have:=eV.out;omega
                case rel=>exact ⟨(wrap64 (eR + 1)),X7,H',⟨by have:=bY.out;have:=cE.out;have:=eV.out;omega⟩,⟨by (with_reducible repeat (first | refine q0x ?_ _ | refine q0w ?_ | refine q0n ?_ _));refine q1J ?_ fP.out _;(with_reducible repeat (first | refine q0x ?_ _ | refine q0w ?_ | refine q0n ?_ _));refine q1J ?_ fP.out _;(with_reducible repeat (first | refine q0x ?_ _ | refine q0w ?_ | refine q0n ?_ _));refine q1J ?_ fP.out _;(with_reducible repeat (first | refine q0x ?_ _ | refine q0w ?_ | refine q0n ?_ _));exact bQ.out⟩,⟨(X13 HB bT fO)⟩⟩
            ·replace fB:=fI fB;subst fB;replace H:=tN H;obtain rfl:=q0c H;have gA:=bc8 bQ;have fE:0≤(eR:Int):=q0b X12;have fF:eR < (aI.length:Int):=q0b X12;obtain ⟨fG,e835,fH,fJ,fK⟩:=q4U bI.out eR fE fF;cases e835;replace fH:=cB HB fH;replace fJ:=cB HB fJ;replace fK:=cB HB fK;replace fE:=q0d fE;replace fF:=q0d fF;go_wp2_with (first|((with_reducible refine gd 7 ?_);(try (refine q2p (by rfl) ?_;dsimp only));refine be 7 #[.string (⟨#[]⟩:q0a),iv 0,iv 0] 88 ?_;intro fL hg w52 hbox hb;have fM:=am (hbox);have fN:=sG (w:=w) hg X10;have fO:=sG (w:=w) hg X10;replace HB:=bS X10 hb;have fP:=nLT hg bQ;have fQ:=nGT hg bQ;replace bQ:=kB bQ hb;clear hb hbox hg;have hnb53:=fQ.out;have hnc53:=fP.out;have gB:=bc3 fM)|((with_reducible refine gc 68 ?_);refine gL (some 79) func68 #[.string ((q1W aI eR).f0)] ?_;(with_reducible refine (q1S.calls k3 ((q1W aI eR).f0) false _ fA.out).mono ?_);rintro e w' ⟨rfl,⟨nd,rfl⟩⟩;refine ⟨_,rfl,?_⟩))
             go_ret
             exact ⟨X11,(X13 HB bT fO)⟩
           ·exact iN eX H
          ·rw [if_neg eW] at H;have c28b0:=dF eW;clear eW;have H':=am H;clear H;have gC:=bc8 bQ;go_wp2
           go_loopg [8] k3 (fun kq v8 w'=>∃ (gD:Int),v8 = iv gD∧q0j (q0q.l2 kq cC gD aA aE aI aM aQ aT aU aY = some r)∧q0j (kq≤k3)∧q0j (w'.heap[bP]? = some (.cells #[.string aA,(sl aC aE aD),(sl aG aI aH),(sl aJ aM aK),iv aQ,.string aT,iv aU,(sl aW aY aX)] 44 (0,0)))∧q0j (Below w.heap.size w w'))
           case atStart=>exact ⟨(0),X7,H',⟨q0e _⟩,⟨(X9 bQ)⟩,⟨X10⟩⟩
           case round=>
            clear H';(try clear c1 c2);(try clear p2 p2);(try clear c3 c4 c5 c6);(try clear p6 p6);(try clear c7 c7b0 c7b1 c8);(try clear p8 p8);(try clear q8 q8);(try clear eS c9 c9b0 c9b1 cA cF c13b0 cG c14b0 cK cO c18b0 c18b1 eU eW c28b0 eX c29b0 fB fC c32b0 gE fS c37b0 gF fV c42b0 gG gH gI bW bX cS dY eO eP eQ fD fR fT fU fW fX fY fZ gA gB gC Z6 Z8 cZ dA dB dC dD dO dP dQ dR dS eE eG eH eI eJ fH fJ fK cT dJ dZ fE cU dK eA fF);obtain ⟨gD,rfl,HA,gJ,bQ,HB⟩:=hrel;cases gk with
            | zero=>exact absurd HA.out (by simp [q0q.l2])
            | succ k4=>
             have H:=HA.out;clear HA;simp only [q0q.l2] at H;by_cases gK:gD < (aM.length:Int)
             ·rw [if_pos gK] at H;have c56b0:=dT gK;clear gK;by_cases gM:0≤gD
              ·rw [if_pos gM] at H;have c57b0:=dT gM;clear gM;by_cases gN:((q2A aM gD).length:Int) = 0
               ·rw [if_pos gN] at H;have c58b0:=eT gN;have c58b1:=eF gN;clear gN;obtain rfl:=q0c H;have gP:=bc8 bQ;have gQ:0≤(gD:Int):=q0b X12;have gR:gD < (aM.length:Int):=q0b X12;obtain ⟨gS,gT,gU,e838,gV,gW,gX⟩:=q4B bJ.out gD gQ gR;cases e838;replace gV:=cB HB gV;have gY:=am gX;have gZ:=am gW;clear gX gW;replace gQ:=q0d gQ;replace gR:=q0d gR;go_wp2
                go_ret
                exact ⟨X11,X10⟩
               ·rw [if_neg gN] at H;have c58b0:=nF gN;have c58b1:=nT gN;have c58b2 : ¬ ((q2A aM gD) = []):=fun h_=>gN (by rw [h_];rfl);by_cases hA:((q2A aM gD).length:Int) > 6
                ·rw [if_pos hA] at H;have c60b0:decide (6 < ((q2A aM gD).length:Int)) = true:=q0s hA;have c60b1:decide (6 < (q2A aM gD).length) = true:=q0s (by omega);clear hA;obtain rfl:=q0c H;have hD:=bc8 bQ;have gQ:0≤(gD:Int):=q0b X12;have gR:gD < (aM.length:Int):=q0b X12;obtain ⟨gS,gT,gU,e838,gV,gW,gX⟩:=q4B bJ.out gD gQ gR;cases e838;replace gV:=cB HB gV;have gY:=am gX;have gZ:=am gW;clear gX gW;replace gQ:=q0d gQ;replace gR:=q0d gR;have hE:0≤(gD:Int):=q0b X12;have hF:gD < (aM.length:Int):=q0b X12;obtain ⟨hG,hH,hJ,e839,hL,hM,hP⟩:=q4B bJ.out gD hE hF;obtain rfl:gS = hG:=(by injection e839);replace hL:=cB HB hL;have hU:=am hP;have hV:=am hM;clear hP hM;replace hE:=q0d hE;replace hF:=q0d hF;have ea_:=q0c (gV.symm.trans hL);injection ea_ with ea_ en_ ec_;subst ea_;subst ec_;clear en_;go_wp2
                 go_ret
                 exact ⟨X11,X10⟩
                ·rw [if_neg hA] at H;have c60b0:decide (6 < ((q2A aM gD).length:Int)) = false:=q0F hA;have c60b1:decide (6 < (q2A aM gD).length) = false:=q0F (by omega);clear hA;have H':=am H;clear H;have hX:=bc8 bQ;have gQ:0≤(gD:Int):=q0b X12;have gR:gD < (aM.length:Int):=q0b X12;obtain ⟨gS,gT,gU,e838,gV,gW,gX⟩:=q4B bJ.out gD gQ gR;cases e838;replace gV:=cB HB gV;have gY:=am gX;have gZ:=am gW;clear gX gW;replace gQ:=q0d gQ;replace gR:=q0d gR;have hE:0≤(gD:Int):=q0b X12;have hF:gD < (aM.length:Int):=q0b X12;obtain ⟨hG,hH,hJ,e839,hL,hM,hP⟩:=q4B bJ.out gD hE hF;obtain rfl:gS = hG:=(by injection e839);replace hL:=cB HB hL;have hU:=am hP;have hV:=am hM;clear hP hM;replace hE:=q0d hE;replace hF:=q0d hF;have ea_:=q0c (gV.symm.trans hL);injection ea_ with ea_ en_ ec_;subst ea_;subst ec_;clear en_;go_wp2
                 go_loopg [9] k4 (fun kq v9 w'=>∃ (hY:Int),v9 = iv hY∧q0j (q0q.l3 kq cC gD hY aA aE aI aM aQ aT aU aY = some r)∧q0j (kq≤k4)∧q0j (w'.heap[bP]? = some (.cells #[.string aA,(sl aC aE aD),(sl aG aI aH),(sl (some gS) aM aK),iv aQ,.string aT,iv aU,(sl aW aY aX)] 44 (0,0)))∧q0j (Below w.heap.size w w'))
                 case atStart=>exact ⟨(0),X7,H',⟨q0e _⟩,⟨(X9 bQ)⟩,⟨X10⟩⟩
                 case round=>
                  clear H';(try clear c1 c2);(try clear p2 p2);(try clear c3 c4 c5 c6);(try clear p6 p6);(try clear c7 c7b0 c7b1 c8);(try clear p8 p8);(try clear q8 q8);(try clear eS c9 c9b0 c9b1 cA cF c13b0 cG c14b0 cK cO c18b0 c18b1 eU eW c28b0 eX c29b0 fB fC c32b0 gE fS c37b0 gF fV c42b0 gG gH gI gK c56b0 gM c57b0 gN c58b0 c58b1 c58b2 hA c60b0 c60b1 bW bX cS dY eO eP eQ fD fR fT fU fW fX fY fZ gA gB gC gP hD hX Z6 Z8 cZ dA dB dC dD dO dP dQ dR dS eE eG eH eI eJ fH fJ fK gV hL cT dJ dZ fE gQ hE cU dK eA fF gR hF);obtain ⟨hY,rfl,HA,hZ,bQ,HB⟩:=hrel;cases gk with
                  | zero=>exact absurd HA.out (by simp [q0q.l3])
                  | succ k5=>
                   have H:=HA.out;clear HA;simp only [q0q.l3] at H;by_cases iA:0≤gD
                   ·rw [if_pos iA] at H;have c63b0:=dT iA;clear iA;by_cases iB:gD < (aM.length:Int)
                    ·rw [if_pos iB] at H;have c64b0:=dT iB;clear iB;by_cases iC:hY < ((q2A aM gD).length:Int)
                     ·rw [if_pos iC] at H;have c65b0:=dT iC;clear iC;by_cases iD:0≤hY
                      ·rw [if_pos iD] at H;have c66b0:=dT iD;clear iD;obtain ⟨iE,iG,H⟩:=oA H;(try dsimp only at H);by_cases iH:iE = true
                       ·subst iH;replace H:=tP H;have H':=am H;clear H;have Z69:=bc8 bQ;have iI:0≤(gD:Int):=q0b X12;have iJ:gD < (aM.length:Int):=q0b X12;obtain ⟨iK,iL,iM,e840,iO,iQ,iR⟩:=q4B bJ.out gD iI iJ;obtain rfl:gS = iK:=(by injection e840);replace iO:=cB HB iO;have iS:=am iR;have iT:=am iQ;clear iR iQ;replace iI:=q0d iI;replace iJ:=q0d iJ;have iU:0≤(gD:Int):=q0b X12;have iV:gD < (aM.length:Int):=q0b X12;obtain ⟨iW,iX,iY,e841,iZ,jA,jB⟩:=q4B bJ.out gD iU iV;obtain rfl:gS = iW:=(by injection e841);replace iZ:=cB HB iZ;have jC:=am jB;have jD:=am jA;clear jB jA;replace iU:=q0d iU;replace iV:=q0d iV;have ea_:=q0c (iO.symm.trans iZ);injection ea_ with ea_ en_ ec_;subst ea_;subst ec_;clear en_;have jE:0≤(hY:Int):=q0b X12;have jF:hY < ((q2A aM gD).length:Int):=q0b X12;obtain ⟨jG,e842,jH⟩:=q3e jC.out hY jE jF;cases e842;replace jH:=cB HB jH;replace jE:=q0d jE;replace jF:=q0d jF;go_wp2_with (first|((with_reducible refine gc 68 ?_);refine gL (some 135) func68 #[.string (rdOf ByteArray.empty (q2A aM gD) hY)] ?_;(with_reducible refine (q1S.calls k5 (rdOf ByteArray.empty (q2A aM gD) hY) true _ iG.out).mono ?_);rintro e w' ⟨rfl,⟨nd,rfl⟩⟩;refine ⟨_,rfl,?_⟩))
                        go_roundg k5
                        case measure=>have:=bY.out;have:=cE.out;have:=eV.out;have:=gJ.out;have:=hZ.out;omega
                        case rel=>exact ⟨(wrap64 (hY + 1)),X7,H',⟨X148⟩,⟨(X9 bQ)⟩,⟨X10⟩⟩
                       ·replace iH:=fI iH;subst iH;replace H:=tN H;obtain rfl:=q0c H;have Z70:=bc8 bQ;have iI:0≤(gD:Int):=q0b X12;have iJ:gD < (aM.length:Int):=q0b X12;obtain ⟨iK,iL,iM,e840,iO,iQ,iR⟩:=q4B bJ.out gD iI iJ;obtain rfl:gS = iK:=(by injection e840);replace iO:=cB HB iO;have iS:=am iR;have iT:=am iQ;clear iR iQ;replace iI:=q0d iI;replace iJ:=q0d iJ;have iU:0≤(gD:Int):=q0b X12;have iV:gD < (aM.length:Int):=q0b X12;obtain ⟨iW,iX,iY,e841,iZ,jA,jB⟩:=q4B bJ.out gD iU iV;obtain rfl:gS = iW:=(by injection e841);replace iZ:=cB HB iZ;have jC:=am jB;have jD:=am jA;clear jB jA;replace iU:=q0d iU;replace iV:=q0d iV;have ea_:=q0c (iO.symm.trans iZ);injection ea_ with ea_ en_ ec_;subst ea_;subst ec_;clear en_;have jE:0≤(hY:Int):=q0b X12;have jF:hY < ((q2A aM gD).length:Int):=q0b X12;obtain ⟨jG,e842,jH⟩:=q3e jC.out hY jE jF;cases e842;replace jH:=cB HB jH;replace jE:=q0d jE;replace jF:=q0d jF;go_wp2_with (first|((with_reducible refine gc 68 ?_);refine gL (some 135) func68 #[.string (rdOf ByteArray.empty (q2A aM gD) hY)] ?_;(with_reducible refine (q1S.calls k5 (rdOf ByteArray.empty (q2A aM gD) hY) false _ iG.out).mono ?_);rintro e w' ⟨rfl,⟨nd,rfl⟩⟩;refine ⟨_,rfl,?_⟩))
                        go_ret
                        exact ⟨X11,X10⟩
                      ·exact iN iD H
                     ·rw [if_neg iC] at H;have c65b0:=dF iC;clear iC;have H':=am H;clear H;have Z71:=bc8 bQ;have iI:0≤(gD:Int):=q0b X12;have iJ:gD < (aM.length:Int):=q0b X12;obtain ⟨iK,iL,iM,e840,iO,iQ,iR⟩:=q4B bJ.out gD iI iJ;obtain rfl:gS = iK:=(by injection e840);replace iO:=cB HB iO;have iS:=am iR;have iT:=am iQ;clear iR iQ;replace iI:=q0d iI;replace iJ:=q0d iJ;go_wp2
                      go_roundg k5
                      case measure=>have:=bY.out;have:=cE.out;have:=eV.out;have:=gJ.out;have:=hZ.out;omega
                      case rel=>exact ⟨(wrap64 (gD + 1)),X7,H',⟨X148⟩,⟨(X9 bQ)⟩,⟨X10⟩⟩
                    ·exact iN iB H
                   ·exact iN iA H
              ·exact iN gM H
             ·rw [if_neg gK] at H;have c56b0:=dF gK;clear gK;obtain ⟨jI,jK,H⟩:=oA H;(try dsimp only at H);by_cases jL:jI = 0
              ·rw [if_pos jL] at H;have c73b0:=eT jL;have c73b1:=eF jL;clear jL;obtain ⟨jM,jO,H⟩:=oA H;(try dsimp only at H);by_cases jP:(wrap64 (cC + jM)) > 200
               ·rw [if_pos jP] at H;have c75b0:decide (200 < (wrap64 (cC + jM))) = true:=q0s jP;clear jP;obtain rfl:=q0c H;have Z76:=bc8 bQ;go_wp2_with (first|((with_reducible refine gc 37 ?_);refine gL (some 139) func37 #[.agg #[iv aQ,.string aT,iv aU,sl aW aY aX]] ?_;(with_reducible refine (q2z.calls k4 aQ aT aU _ _ aY jI _ ?side1 ?side2 jK.out).mono ?_);(case side1=>exact (X15 bK HB));(case side2=>exact bL.out);rintro e w77 ⟨rfl,hb⟩;refine ⟨_,rfl,?_⟩;replace bQ:=kB bQ hb;replace HB:=bS X10 hb;clear hb;have Z78:=bc8 bQ)|((with_reducible refine gc 69 ?_);refine gL (some 146) func69 #[.agg #[iv aQ,.string aT,iv aU,sl aW aY aX]] ?_;(with_reducible refine (q1s.calls k4 aQ aT aU _ _ aY jM _ ?side1 ?side2 jO.out).mono ?_);(case side1=>exact (X15 bK HB));(case side2=>exact bL.out);rintro e w79 ⟨rfl,hb⟩;refine ⟨_,rfl,?_⟩;replace bQ:=kB bQ hb;replace HB:=bS X10 hb;clear hb))
                go_ret
                exact ⟨X11,X10⟩
               ·rw [if_neg jP] at H;have c75b0:decide (200 < (wrap64 (cC + jM))) = false:=q0F jP;clear jP;obtain rfl:=q0c H;have Z80:=bc8 bQ;go_wp2_with (first|((with_reducible refine gc 37 ?_);refine gL (some 139) func37 #[.agg #[iv aQ,.string aT,iv aU,sl aW aY aX]] ?_;(with_reducible refine (q2z.calls k4 aQ aT aU _ _ aY jI _ ?side1 ?side2 jK.out).mono ?_);(case side1=>exact (X15 bK HB));(case side2=>exact bL.out);rintro e w81 ⟨rfl,hb⟩;refine ⟨_,rfl,?_⟩;replace bQ:=kB bQ hb;replace HB:=bS X10 hb;clear hb;have Z82:=bc8 bQ)|((with_reducible refine gc 69 ?_);refine gL (some 146) func69 #[.agg #[iv aQ,.string aT,iv aU,sl aW aY aX]] ?_;(with_reducible refine (q1s.calls k4 aQ aT aU _ _ aY jM _ ?side1 ?side2 jO.out).mono ?_);(case side1=>exact (X15 bK HB));(case side2=>exact bL.out);rintro e w83 ⟨rfl,hb⟩;refine ⟨_,rfl,?_⟩;replace bQ:=kB bQ hb;replace HB:=bS X10 hb;clear hb))
                go_ret
                exact ⟨X11,X10⟩
              ·rw [if_neg jL] at H;have c73b0:=nF jL;have c73b1:=nT jL;obtain rfl:=q0c H;have Z84:=bc8 bQ;go_wp2_with (first|((with_reducible refine gc 37 ?_);refine gL (some 139) func37 #[.agg #[iv aQ,.string aT,iv aU,sl aW aY aX]] ?_;(with_reducible refine (q2z.calls k4 aQ aT aU _ _ aY jI _ ?side1 ?side2 jK.out).mono ?_);(case side1=>exact (X15 bK HB));(case side2=>exact bL.out);rintro e w85 ⟨rfl,hb⟩;refine ⟨_,rfl,?_⟩;replace bQ:=kB bQ hb;replace HB:=bS X10 hb;clear hb))
               go_ret
               exact ⟨X11,X10⟩
 ·replace c3:=fI c3;subst c3;replace H:=tN H;obtain rfl:=q0c H;go_enter func23,ntmps23;go_wp2_with (first|((with_reducible refine gd 1 ?_);(try (refine q2p (by rfl) ?_;dsimp only));refine be 1 #[.string aA,sl aC aE aD,sl aG aI aH,sl aJ aM aK,iv aQ,.string aT,iv aU,sl aW aY aX] 44 ?_;intro bP hg w86 hbox hb;have bQ:=am (hbox);have bR:=sG (w:=w) hg X6;have bT:=sG (w:=w) hg X6;replace HB:=bS X6 hb;clear hb hbox hg;have Z87:=bc8 bQ)|((with_reducible refine gc 67 ?_);refine gL (some 13) func67 #[.string aA] ?_;(with_reducible refine (q2r.calls k aA false _ A2.out).mono ?_);rintro e w' ⟨rfl,⟨nd,rfl⟩⟩;refine ⟨_,rfl,?_⟩))
  go_ret
  exact ⟨X11,X10⟩
def q1O.l0:Nat → List q0a → q0a → Int → Option (q0a)
 | 0,_,_,_=>none
 | k + 1,x0,x3,x4=>if x4 < (x0.length:Int) then (if x4 > 0 then (if x3.size + 1≤9223372036854775807 then (if 0≤x4 then (if (x3++(⟨#[32]⟩:q0a)).size + (rdOf ByteArray.empty x0 x4).size≤9223372036854775807 then (q1O.l0 k x0 ((x3++(⟨#[32]⟩:q0a))++(rdOf ByteArray.empty x0 x4)) (wrap64 (x4 + 1))) else (none)) else (none)) else (none)) else (if 0≤x4 then (if x3.size + (rdOf ByteArray.empty x0 x4).size≤9223372036854775807 then (q1O.l0 k x0 (x3++(rdOf ByteArray.empty x0 x4)) (wrap64 (x4 + 1))) else (none)) else (none))) else (some x3)
def q1O.f (k:Nat) (l0:List q0a):Option (q0a):=q1O.l0 k l0 (⟨#[]⟩:q0a) 0
theorem q1O.mono_l:∀ k,(∀ y0 y1 y2,LeO (q1O.l0 k y0 y1 y2) (q1O.l0 (k + 1) y0 y1 y2))
 | 0=>fun _ _ _ r h=>by simp [q1O.l0] at h
 | k + 1=>by
  have aA:=q1O.mono_l k
  ·intro y0 y1 y2;unfold q1O.l0;exact X95
theorem q1O.mono:∀ a0 k,LeO (q1O.f k a0) (q1O.f (k + 1) a0):=by
 intro a0 k;have aA:=q1O.mono_l k;unfold q1O.f;exact X95
theorem q1O.calls (k:Nat) (A0:Option Addr) (c0:Nat) (l0:List q0a) (r:q0a) (w:World) (aA:Kd.C Kd.string w A0 l0.length l0) (aC:l0.length≤c0) (h:q1O.f k l0 = some r) :
  Calls prog 103 #[sl A0 l0 c0] w fun e w'=>e = .returned (.string r)∧q3F w w':=by
 have aD:=am aA;have HC0:=am aC;clear aA aC;have H:=h;clear h;unfold q1O.f at H;have H':=am H;clear H;go_enter func103,ntmps103;go_wp2
 go_loopg [3,4] k (fun kq v3 v4 w'=>∃ (aE:q0a) (aG:Int),v3 = .string aE∧v4 = iv aG∧q0j (q1O.l0 kq l0 aE aG = some r)∧q0j (kq≤k)∧q3F w w')
 case atStart=>exact ⟨((⟨#[]⟩:q0a)),(0),X7,X7,H',⟨q0e _⟩,X18⟩
 case round=>
  clear H';(try clear c1);obtain ⟨aE,aG,rfl,rfl,HA,aH,⟨m1,rfl⟩⟩:=hrel;cases gk with
  | zero=>exact absurd HA.out (by simp [q1O.l0])
  | succ k1=>
   have H:=HA.out;clear HA;simp only [q1O.l0] at H;by_cases c2:aG < (l0.length:Int)
   ·rw [if_pos c2] at H;have c2b0:=dT c2;clear c2;by_cases c3:aG > 0
    ·rw [if_pos c3] at H;have c3b0:decide (0 < aG) = true:=q0s c3;clear c3;by_cases c4:aE.size + 1≤9223372036854775807
     ·rw [if_pos c4] at H;have c4b0:=q0d c4;have c4b1:=dT c4;try have c4b2:(9223372036854775807 < aE.size + 1) = False:=eq_false (q1L.2 c4)
      by_cases c5:0≤aG
      ·rw [if_pos c5] at H;have c5b0:=dT c5;clear c5;by_cases c6:(aE++(⟨#[32]⟩:q0a)).size + (rdOf ByteArray.empty l0 aG).size≤9223372036854775807
       ·rw [if_pos c6] at H;have c6b0:=q0d c6;have c6b1:=dT c6;try have c6b2:(9223372036854775807 < (aE++(⟨#[32]⟩:q0a)).size + (rdOf ByteArray.empty l0 aG).size) = False:=eq_false (q1L.2 c6)
        try (have c6b3:=c6b2;simp only [ByteArray.size_append,bs1,bs2,bs6] at c6b3)
        have H':=am H;clear H;have aI:0≤(aG:Int):=q0b X12;have aJ:aG < (l0.length:Int):=q0b X12;obtain ⟨ad846,e846,hx846_0⟩:=q3e aD.out aG aI aJ;cases e846;replace aI:=q0d aI;replace aJ:=q0d aJ;go_wp2
        go_roundg k1
        case measure=>have:=aH.out;omega
        case rel=>exact ⟨((aE++(⟨#[32]⟩:q0a))++(rdOf ByteArray.empty l0 aG)),(wrap64 (aG + 1)),X7,X7,H',⟨by have:=aH.out;omega⟩,X18⟩
       ·exact iN c6 H
      ·exact iN c5 H
     ·exact iN c4 H
    ·rw [if_neg c3] at H;have c3b0:decide (0 < aG) = false:=q0F c3;clear c3;by_cases c7:0≤aG
     ·rw [if_pos c7] at H;have c7b0:=dT c7;clear c7;by_cases c8:aE.size + (rdOf ByteArray.empty l0 aG).size≤9223372036854775807
      ·rw [if_pos c8] at H;have c8b0:=q0d c8;have c8b1:=dT c8;try have c8b2:(9223372036854775807 < aE.size + (rdOf ByteArray.empty l0 aG).size) = False:=eq_false (q1L.2 c8)
       have H':=am H;clear H;have aK:0≤(aG:Int):=q0b X12;have aM:aG < (l0.length:Int):=q0b X12;obtain ⟨ad847,e847,hx847_0⟩:=q3e aD.out aG aK aM;cases e847;replace aK:=q0d aK;replace aM:=q0d aM;go_wp2
       go_roundg k1
       case measure=>have:=aH.out;omega
       case rel=>exact ⟨(aE++(rdOf ByteArray.empty l0 aG)),(wrap64 (aG + 1)),X7,X7,H',⟨by have:=aH.out;omega⟩,X18⟩
      ·exact iN c8 H
     ·exact iN c7 H
   ·rw [if_neg c2] at H;have c2b0:=dF c2;clear c2;obtain rfl:=q0c H;go_wp2
    go_ret
    exact ⟨X7,X18⟩

def q2E.f (k:Nat) (l0:List q0a):Option (q0a):=(q1O.f k l0).bind fun aA=>(if 2 + aA.size≤9223372036854775807 then (if ((⟨#[32,32]⟩:q0a)++aA).size + 3≤9223372036854775807 then (some (((⟨#[32,32]⟩:q0a)++aA)++(⟨#[32,59,10]⟩:q0a))) else (none)) else (none))
theorem q2E.mono:∀ a0 k,LeO (q2E.f k a0) (q2E.f (k + 1) a0):=by
 intro a0 k;unfold q2E.f;exact (by repeat' (with_reducible first | exact q1O.mono _ _ | exact LeO.refl _ | exact LeO.none _ | refine LeO.ite ?_ ?_ | refine LeO.bind ?_ (fun _=>?_)))
theorem q2E.calls (k:Nat) (A0:Option Addr) (c0:Nat) (l0:List q0a) (r:q0a) (w:World) (aA:Kd.C Kd.string w A0 l0.length l0) (aC:l0.length≤c0) (h:q2E.f k l0 = some r) :
  Calls prog 65 #[sl A0 l0 c0] w fun e w'=>e = .returned (.string r)∧q3F w w':=by
 have aD:=am aA;have aE:=am aC;clear aA aC;have H:=h;clear h;unfold q2E.f at H;obtain ⟨aG,A2,H⟩:=oA H;(try dsimp only at H);by_cases c3:2 + aG.size≤9223372036854775807
 ·rw [if_pos c3] at H;have c3b0:=q0d c3;have c3b1:=dT c3;try have c3b2:(9223372036854775807 < 2 + aG.size) = False:=eq_false (q1L.2 c3)
  by_cases c4:((⟨#[32,32]⟩:q0a)++aG).size + 3≤9223372036854775807
  ·rw [if_pos c4] at H;have c4b0:=q0d c4;have c4b1:=dT c4;try have c4b2:(9223372036854775807 < ((⟨#[32,32]⟩:q0a)++aG).size + 3) = False:=eq_false (q1L.2 c4)
   try (have c4b3:=c4b2;simp only [ByteArray.size_append,bs1,bs2,bs6] at c4b3)
   obtain rfl:=q0c H;go_enter func65,ntmps65;go_wp2_with (first|((with_reducible refine gc 103 ?_);refine gL (some 4) func103 #[sl A0 l0 c0] ?_;(with_reducible refine (q1O.calls k _ _ l0 aG _ ?side1 ?side2 A2.out).mono ?_);(case side1=>exact X19);(case side2=>exact aE.out);rintro e w' ⟨rfl,⟨nd,rfl⟩⟩;refine ⟨_,rfl,?_⟩))
   go_ret
   exact ⟨X7,X18⟩
  ·exact iN c4 H
 ·exact iN c3 H

def q2b.f (a0:Int):Option (q0a):=if a0 = 1 then (some (⟨#[117]⟩:q0a)) else (if a0 = 2 then (some (⟨#[45]⟩:q0a)) else (if a0 = 3 then (some (⟨#[120]⟩:q0a)) else (if a0 = 9 then (some (⟨#[58]⟩:q0a)) else (if a0 = 10 then (some (⟨#[126]⟩:q0a)) else (some (⟨#[]⟩:q0a))))))
theorem q2b.calls (a0:Int) (r:q0a) (w:World) (h:q2b.f a0 = some r) :
  Calls prog 104 #[iv a0] w fun e w'=>e = .returned (.string r)∧q3F w w':=by
 have H:=h;clear h;unfold q2b.f at H;by_cases c2:a0 = 1
 ·rw [if_pos c2] at H;have c2b0:=eT c2;have c2b1:=eF c2;clear c2;obtain rfl:=q0c H;go_enter func104,ntmps104;go_wp2
  go_ret
  exact ⟨X7,X18⟩
 ·rw [if_neg c2] at H;have c2b0:=nF c2;have c2b1:=nT c2;by_cases c3:a0 = 2
  ·rw [if_pos c3] at H;have c3b0:=eT c3;have c3b1:=eF c3;clear c3;obtain rfl:=q0c H;go_enter func104,ntmps104;go_wp2
   go_ret
   exact ⟨X7,X18⟩
  ·rw [if_neg c3] at H;have c3b0:=nF c3;have c3b1:=nT c3;by_cases c4:a0 = 3
   ·rw [if_pos c4] at H;have c4b0:=eT c4;have c4b1:=eF c4;clear c4;obtain rfl:=q0c H;go_enter func104,ntmps104;go_wp2
    go_ret
    exact ⟨X7,X18⟩
   ·rw [if_neg c4] at H;have c4b0:=nF c4;have c4b1:=nT c4;by_cases c5:a0 = 9
    ·rw [if_pos c5] at H;have c5b0:=eT c5;have c5b1:=eF c5;clear c5;obtain rfl:=q0c H;go_enter func104,ntmps104;go_wp2
     go_ret
     exact ⟨X7,X18⟩
    ·rw [if_neg c5] at H;have c5b0:=nF c5;have c5b1:=nT c5;by_cases c6:a0 = 10
     ·rw [if_pos c6] at H;have c6b0:=eT c6;have c6b1:=eF c6;clear c6;obtain rfl:=q0c H;go_enter func104,ntmps104;go_wp2
      go_ret
      exact ⟨X7,X18⟩
     ·rw [if_neg c6] at H;have c6b0:=nF c6;have c6b1:=nT c6;obtain rfl:=q0c H;go_enter func104,ntmps104;go_wp2
      go_ret
      exact ⟨X7,X18⟩
end Go.Proofs.YtmffocankommaaaDoor.F
