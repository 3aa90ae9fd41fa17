/- Printed walks: what each function of the program computes. Condition: the Lean function gives a value. -/
import Derived.Test.YtmffocankommaaaGreatDoorCYZed
import Derived.Test.YtmffocankommaaaGreatDoorCx3
namespace Go.Proofs.YtmffocankommaaaGreatDoor.B
open Go.RowKit Go.Proofs.YtmffocankommaaaGreatDoorW.PrintWords Go.Proofs.YtmffocankommaaaGreatDoorW.PrintLast Go.Proofs.YtmffocankommaaaGreatDoorW.PrintMore Go.Proofs.YtmffocankommaaaGreatDoorY Go.Proofs.YtmffocankommaaaGreatDoorS Go.Proofs.YtmffocankommaaaGreatDoorS
attribute [local go_sem] q1v q1N q1O q2f q2h q1D q1C q1P q1Q
set_option linter.unusedVariables false
set_option maxHeartbeats 8000000
set_option maxRecDepth 100000
set_option linter.unusedSimpArgs false
mutual
def q0Y.l0:Nat → Int → List (S28) → Int → Int → Option (Int)
 | 0,_,_,_,_=>none
 | k + 1,x3,x7,x8,x9=>if x9 < x8 then (if 0≤x9 then (if x9 < (x7.length:Int) then ((q0Y.f k ((q0b x7 x9).f0) ((q0b x7 x9).f1) ((q0b x7 x9).f2) ((q0b x7 x9).f3)).bind fun aA=>(q0Y.l0 k (wrap64 (x3 + aA)) x7 x8 (wrap64 (x9 + 1)))) else (none)) else (none)) else (some x3)
def q0Y.f:Nat → Int → ByteArray → Int → List (S28) → Option (Int)
 | 0,_,_,_,_=>none
 | k + 1,a0_0,a0_1,a0_2,aA=>q0Y.l0 k 1 aA (aA.length:Int) 0
end
theorem q0Y.mono_l:∀ k,(∀ y0 y1 y2 y3,LeO (q0Y.f k y0 y1 y2 y3) (q0Y.f (k + 1) y0 y1 y2 y3))∧(∀ y0 y1 y2 y3,LeO (q0Y.l0 k y0 y1 y2 y3) (q0Y.l0 (k + 1) y0 y1 y2 y3))
 | 0=>⟨fun _ _ _ _ r h=>by simp [q0Y.f] at h,fun _ _ _ _ r h=>by simp [q0Y.l0] at h⟩
 | k + 1=>by
  obtain ⟨aA,aC⟩:=q0Y.mono_l k;refine ⟨?_,?_⟩
  ·intro y0 y1 y2 y3;unfold q0Y.f;exact X56
  ·intro y0 y1 y2 y3;unfold q0Y.l0;exact X56
theorem q0Y.mono:∀ a0 a1 a2 a3 k,LeO (q0Y.f k a0 a1 a2 a3) (q0Y.f (k + 1) a0 a1 a2 a3):=by
 intro a0 a1 a2 a3 k;obtain ⟨aA,ih1⟩:=q0Y.mono_l k;exact aA a0 a1 a2 a3
theorem q0Y.calls (k:Nat):∀ (aA:Int) (aC:ByteArray) (aD:Int) (aE:Option Addr) (aG:Nat) (aH:List (S28)) (r:Int) (w:World) (aI:Kd.C k28 w aE aH.length aH) (aJ:aH.length≤aG) (h:q0Y.f k aA aC aD aH = some r),
  Calls Tryz.prog 14 #[.agg #[.int .i64 aA,.string aC,.int .i64 aD,.slice aE aH.length aG]] w fun e w'=>e = .returned (.int .i64 r)∧Below w.heap.size w w':=by
 induction k using Nat.strongRecOn with
 | _ k ih=>
 intro aA aC aD aE aG aH r w aI aJ h;cases k with
 | zero=>exact absurd h (by simp [q0Y.f])
 | succ k=>
 simp only [q0Y.f] at h;have hu28:=Tryz.underlying28;have aK:=am aI;have HC0_3:=am aJ;clear aI aJ;have HB:=am (Below.refl w.heap.size w);have H:(q0Y.l0 k 1 aH (aH.length:Int) 0) = some r:=h;clear h;have H':=am H;clear H;go_enter Tryz.func14,Tryz.ntmps14;go_wp2_with (first|((with_reducible refine gd 1 ?_);refine be 1 #[.int .i64 aA,.string aC,.int .i64 aD,.slice aE aH.length aG] 28 ?_;intro aM hg w2 hbox hb;have aQ:=am (hbox);have GW472:=sG (w:=w) hg X13;have aT:=sG (w:=w) hg X13;replace HB:=bS X13 hb;clear hb hbox hg;have Z3:=bc4 aQ))
 go_loopg [3,9] k (fun kq v3 v9 w'=>∃ (aU:Int) (aW:Int),v3 = .int .i64 aU∧v9 = .int .i64 aW∧q0c (q0Y.l0 kq aU aH (aH.length:Int) aW = some r)∧q0c (kq≤k)∧q0c (w'.heap[aM]? = some (.cells #[.int .i64 aA,.string aC,.int .i64 aD,(.slice aE aH.length aG)] 28 (0,0)))∧q0c (Below w.heap.size w w'))
 case atStart=>exact ⟨(1),(0),X4,X4,H',⟨Nat.le_refl _⟩,⟨X59⟩,⟨X60⟩⟩
 case round=>
  clear H';(try clear c1 p2 Z3);obtain ⟨aU,aW,rfl,rfl,HA,aX,aQ,HB⟩:=hrel;cases gk with
  | zero=>exact absurd HA.out (by simp [q0Y.l0])
  | succ k1=>
   have H:=HA.out;clear HA;simp only [q0Y.l0] at H;by_cases c4:aW < (aH.length:Int)
   ·rw [if_pos c4] at H;have c4b0:=dT c4;clear c4;by_cases c5:0≤aW
    ·rw [if_pos c5] at H;have c5b0:=dT c5;clear c5;by_cases c6:aW < (aH.length:Int)
     ·rw [if_pos c6] at H;have c6b0:=dT c6;clear c6;obtain ⟨aY,aZ,H⟩:=oB H;(try dsimp only at H);have A7:=am aZ;clear aZ;have H':=am H;clear H;have bA:0≤(aW:Int):=of_decide_eq_true X8;have bB:aW < (aH.length:Int):=of_decide_eq_true X8;obtain ⟨ad473,bC,bD,e473,bE,bF,bG,bH,bI,bJ⟩:=q2w aK.out aW bA bB;cases e473;replace bE:=cB HB bE;replace bF:=cB HB bF;replace bG:=cB HB bG;replace bH:=cB HB bH;have bK:=am bJ;have bL:=am bI;clear bJ bI;replace bA:=eq_true bA;replace bB:=eq_true bB;go_wp2_with (first|((with_reducible refine gd 5 ?_);refine be 5 #[.int .i64 0,.string ⟨#[]⟩,.int .i64 0,.slice none 0 0] 28 ?_;intro gb474 hg w8 hbox hb;have bM:=am (hbox);have GW474:=sG (w:=w) hg X60;have bN:=sG (w:=w) hg X60;replace HB:=bS X60 hb;have bO:=nLT hg aQ;have bP:=nGT hg aQ;replace aQ:=kB aQ hb;clear hb hbox hg;have hnb9:=bP.out;have hnc9:=bO.out;have Z10:=bc4 bM)|((with_reducible refine gc 14 ?_);refine gL (some 15) Tryz.func14 #[.agg #[.int .i64 ((q0b aH aW).f0),.string ((q0b aH aW).f1),.int .i64 ((q0b aH aW).f2),.slice bC ((q0b aH aW).f3).length bD]] ?_;(with_reducible refine (ih k1 X96 ((q0b aH aW).f0) ((q0b aH aW).f1) ((q0b aH aW).f2) _ _ ((q0b aH aW).f3) aY _ ?side1 ?side2 A7.out).mono ?_);(case side1=>exact Kd.C_below bK.out X260);(case side2=>exact bL.out);rintro e w11 ⟨rfl,hb⟩;refine ⟨_,rfl,?_⟩;replace aQ:=kBg1 aQ bO hb;replace bM:=kBg0 bM hb;replace HB:=bS X260 hb;clear hb))
      go_roundg k1
      case measure=>have:=aX.out;omega
      case rel=>exact ⟨(wrap64 (aU + aY)),(wrap64 (aW + 1)),X4,X4,H',⟨X96⟩,⟨X59⟩,⟨X260⟩⟩
     ·exact iN c6 H
    ·exact iN c5 H
   ·rw [if_neg c4] at H;have c4b0:=dF c4;clear c4;obtain rfl:=Option.some.inj H;go_wp2
    go_ret
    exact ⟨X14,X60⟩

def q1z.f (k:Nat) (a0:ByteArray):Option (Bool):=if a0.toList = ([]:List UInt8) then (some false) else (if (a0.size:Int)≤20 then ((q0E.f k a0).bind fun aA=>(some (aA == (a0.size:Int)))) else (some false))
theorem q1z.mono:∀ a0 k,LeO (q1z.f k a0) (q1z.f (k + 1) a0):=by
 intro a0 k;unfold q1z.f;exact (by repeat' first|(with_reducible exact q0E.mono _ _)|(with_reducible exact LeO.refl _)|(with_reducible exact LeO.none _)|(with_reducible refine LeO.ite ?_ ?_)|(with_reducible refine LeO.bind ?_ (fun _=>?_)) | exact q0E.mono _ _ | exact LeO.none _ | refine LeO.ite ?_ ?_ | refine LeO.bind ?_ (fun _=>?_))
theorem q1z.calls (k:Nat) (a0:ByteArray) (r:Bool) (w:World) (h:q1z.f k a0 = some r) :
  Calls Tryz.prog 53 #[.string a0] w fun e w'=>e = .returned (.bool r)∧q1Y w w':=by
 have H:=h;clear h;unfold q1z.f at H;by_cases c2:a0.toList = ([]:List UInt8)
 ·rw [if_pos c2] at H;have c2b0:=eT c2;have c2b1:=eF c2;clear c2;obtain rfl:=Option.some.inj H;go_enter Tryz.func53,Tryz.ntmps53;go_wp2
  go_ret
  exact ⟨X4,X5⟩
 ·rw [if_neg c2] at H;have c2b0:=nF c2;have c2b1:=nT c2;by_cases c3:(a0.size:Int)≤20
  ·rw [if_pos c3] at H;have c3b0:=dT c3;have c3b1:decide (a0.size≤20) = true:=decide_eq_true (by omega);clear c3;obtain ⟨aA,aC,H⟩:=oB H;(try dsimp only at H);have A4:=am aC;clear aC;obtain rfl:=Option.some.inj H;go_enter Tryz.func53,Tryz.ntmps53;go_wp2_with (first|(go_at_call 81;(with_reducible refine (q0E.calls k a0 aA _ A4.out).mono ?_);rintro e w' ⟨rfl,⟨nd,rfl⟩⟩))
   go_ret
   exact ⟨X4,X5⟩
  ·rw [if_neg c3] at H;have c3b0:=dF c3;have c3b1:decide (a0.size≤20) = false:=decide_eq_false (by omega);clear c3;obtain rfl:=Option.some.inj H;go_enter Tryz.func53,Tryz.ntmps53;go_wp2
   go_ret
   exact ⟨X4,X5⟩

def q1q.f (k:Nat) (a0:ByteArray):Option (Bool):=(q1z.f k a0).bind fun aA=>(if aA = true then (if a0.toList = ([117]:List UInt8) then (some false) else (some (a0.toList != ([120]:List UInt8)))) else (some false))
theorem q1q.mono:∀ a0 k,LeO (q1q.f k a0) (q1q.f (k + 1) a0):=by
 intro a0 k;unfold q1q.f;exact (by repeat' first|(with_reducible exact q1z.mono _ _)|(with_reducible exact LeO.refl _)|(with_reducible exact LeO.none _)|(with_reducible refine LeO.ite ?_ ?_)|(with_reducible refine LeO.bind ?_ (fun _=>?_)) | exact q1z.mono _ _ | exact LeO.none _ | refine LeO.ite ?_ ?_ | refine LeO.bind ?_ (fun _=>?_))
theorem q1q.calls (k:Nat) (a0:ByteArray) (r:Bool) (w:World) (h:q1q.f k a0 = some r) :
  Calls Tryz.prog 54 #[.string a0] w fun e w'=>e = .returned (.bool r)∧q1Y w w':=by
 have H:=h;clear h;unfold q1q.f at H;obtain ⟨aA,aC,H⟩:=oB H;(try dsimp only at H);have A2:=am aC;clear aC;by_cases c3:aA = true
 ·subst c3;replace H:=tP H;by_cases c4:a0.toList = ([117]:List UInt8)
  ·rw [if_pos c4] at H;have c4b0:=eT c4;have c4b1:=eF c4;clear c4;obtain rfl:=Option.some.inj H;go_enter Tryz.func54,Tryz.ntmps54;go_wp2_with (first|((with_reducible refine gc 53 ?_);refine gL (some 4) Tryz.func53 #[.string a0] ?_;(with_reducible refine (q1z.calls k a0 true _ A2.out).mono ?_);rintro e w' ⟨rfl,⟨nd,rfl⟩⟩;refine ⟨_,rfl,?_⟩))
   go_ret
   exact ⟨X4,X5⟩
  ·rw [if_neg c4] at H;have c4b0:=nF c4;have c4b1:=nT c4;obtain rfl:=Option.some.inj H;go_enter Tryz.func54,Tryz.ntmps54;go_wp2_with (first|((with_reducible refine gc 53 ?_);refine gL (some 4) Tryz.func53 #[.string a0] ?_;(with_reducible refine (q1z.calls k a0 true _ A2.out).mono ?_);rintro e w' ⟨rfl,⟨nd,rfl⟩⟩;refine ⟨_,rfl,?_⟩))
   go_ret
   exact ⟨X4,X5⟩
 ·replace c3:=Bool.eq_false_iff.mpr c3;subst c3;replace H:=tN H;obtain rfl:=Option.some.inj H;go_enter Tryz.func54,Tryz.ntmps54;go_wp2_with (first|((with_reducible refine gc 53 ?_);refine gL (some 4) Tryz.func53 #[.string a0] ?_;(with_reducible refine (q1z.calls k a0 false _ A2.out).mono ?_);rintro e w' ⟨rfl,⟨nd,rfl⟩⟩;refine ⟨_,rfl,?_⟩))
  go_ret
  exact ⟨X4,X5⟩

def q2g.f (a0:Int):Option (Bool):=if a0 = 4 then (some true) else (if a0 = 11 then (some true) else (some (a0 == 12)))
theorem q2g.calls (a0:Int) (r:Bool) (w:World) (h:q2g.f a0 = some r) :
  Calls Tryz.prog 76 #[.int .i64 a0] w fun e w'=>e = .returned (.bool r)∧q1Y w w':=by
 have H:=h;clear h;unfold q2g.f at H;by_cases c2:a0 = 4
 ·rw [if_pos c2] at H;have c2b0:=eT c2;have c2b1:=eF c2;clear c2;obtain rfl:=Option.some.inj H;go_enter Tryz.func76,Tryz.ntmps76;go_wp2
  go_ret
  exact ⟨X4,X5⟩
 ·rw [if_neg c2] at H;have c2b0:=nF c2;have c2b1:=nT c2;by_cases c3:a0 = 11
  ·rw [if_pos c3] at H;have c3b0:=eT c3;have c3b1:=eF c3;clear c3;obtain rfl:=Option.some.inj H;go_enter Tryz.func76,Tryz.ntmps76;go_wp2
   go_ret
   exact ⟨X4,X5⟩
  ·rw [if_neg c3] at H;have c3b0:=nF c3;have c3b1:=nT c3;obtain rfl:=Option.some.inj H;go_enter Tryz.func76,Tryz.ntmps76;go_wp2
   go_ret
   exact ⟨X4,X5⟩

def q2H.f (aA:Int) (a0_1:ByteArray) (a0_2:Int) (l0_3:List (S28)):Option (Bool):=some (aA == 5)
theorem q2H.calls (aA:Int) (aC:ByteArray) (aD:Int) (aE:Option Addr) (aG:Nat) (aH:List (S28)) (r:Bool) (w:World) (aI:Kd.C k28 w aE aH.length aH) (aJ:aH.length≤aG) (h:q2H.f aA aC aD aH = some r) :
  Calls Tryz.prog 124 #[.agg #[.int .i64 aA,.string aC,.int .i64 aD,.slice aE aH.length aG]] w fun e w'=>e = .returned (.bool r)∧Below w.heap.size w w':=by
 have hu28:=Tryz.underlying28;have HR0_3:=am aI;have HC0_3:=am aJ;clear aI aJ;have HB:=am (Below.refl w.heap.size w);have H:(some (aA == 5)) = some r:=h;clear h;obtain rfl:=Option.some.inj H;go_enter Tryz.func124,Tryz.ntmps124;go_wp2_with (first|((with_reducible refine gd 1 ?_);refine be 1 #[.int .i64 aA,.string aC,.int .i64 aD,.slice aE aH.length aG] 28 ?_;intro gb478 hg w2 hbox hb;have aK:=am (hbox);have GW478:=sG (w:=w) hg X13;have aM:=sG (w:=w) hg X13;replace HB:=bS X13 hb;clear hb hbox hg;have Z3:=bc4 aK))
 go_ret
 exact ⟨X14,by repeat (first|(with_reducible first | exact HB.out | apply q0O | apply q0z | apply q0D | refine q0K ?_ aM.out) | exact HB.out)⟩

def q1r.l0:Nat → List (S28) → Int → Int → Option (Int)
 | 0,_,_,_=>none
 | k + 1,x0,x7,x8=>if x8 < x7 then (if 0≤x8 then (if x8 < (x0.length:Int) then ((q2H.f ((q0b x0 x8).f0) ((q0b x0 x8).f1) ((q0b x0 x8).f2) ((q0b x0 x8).f3)).bind fun aA=>(if aA = true then (some x8) else (q1r.l0 k x0 x7 (wrap64 (x8 + 1))))) else (none)) else (none)) else (some (-1))
def q1r.f (k:Nat) (l0:List (S28)) (a1:Unit):Option (Int):=q1r.l0 k l0 (l0.length:Int) 0
theorem q1r.mono_l:∀ k,(∀ y0 y1 y2,LeO (q1r.l0 k y0 y1 y2) (q1r.l0 (k + 1) y0 y1 y2))
 | 0=>fun _ _ _ r h=>by simp [q1r.l0] at h
 | k + 1=>by
  have aA:=q1r.mono_l k
  ·intro y0 y1 y2;unfold q1r.l0;exact X120
theorem q1r.mono:∀ a0 a1 k,LeO (q1r.f k a0 a1) (q1r.f (k + 1) a0 a1):=by
 intro a0 a1 k;have aA:=q1r.mono_l k;unfold q1r.f;exact X120
theorem q1r.calls (k:Nat) (A0:Option Addr) (c0:Nat) (l0:List (S28)) (a1:Unit) (r:Int) (w:World) (aA:Kd.C k28 w A0 l0.length l0) (aC:l0.length≤c0) (h:q1r.f k l0 a1 = some r) :
  Calls Tryz.prog 136 #[.slice A0 l0.length c0,.func (.func 124) #[] #[]] w fun e w'=>e = .returned (.int .i64 r)∧Below w.heap.size w w':=by
 have hu28:=Tryz.underlying28;have aD:=am aA;have HC0:=am aC;clear aA aC;have HB:=am (Below.refl w.heap.size w);have H:=h;clear h;unfold q1r.f at H;have H':=am H;clear H;go_enter Tryz.func136,Tryz.ntmps136;go_wp2
 go_loopg [8] k (fun kq v8 w'=>∃ (aE:Int),v8 = .int .i64 aE∧q0c (q1r.l0 kq l0 (l0.length:Int) aE = some r)∧q0c (kq≤k)∧q0c (Below w.heap.size w w'))
 case atStart=>exact ⟨(0),X4,H',⟨Nat.le_refl _⟩,⟨X13⟩⟩
 case round=>
  clear H';(try clear c1 p2);obtain ⟨aE,rfl,HA,aG,HB⟩:=hrel;cases gk with
  | zero=>exact absurd HA.out (by simp [q1r.l0])
  | succ k1=>
   have H:=HA.out;clear HA;simp only [q1r.l0] at H;by_cases c3:aE < (l0.length:Int)
   ·rw [if_pos c3] at H;have c3b0:=dT c3;clear c3;by_cases c4:0≤aE
    ·rw [if_pos c4] at H;have c4b0:=dT c4;clear c4;by_cases c5:aE < (l0.length:Int)
     ·rw [if_pos c5] at H;have c5b0:=dT c5;clear c5;obtain ⟨aH,aI,H⟩:=oB H;(try dsimp only at H);have A6:=am aI;clear aI;by_cases c7:aH = true
      ·subst c7;replace H:=tP H;obtain rfl:=Option.some.inj H;have aJ:0≤(aE:Int):=of_decide_eq_true X8;have aK:aE < (l0.length:Int):=of_decide_eq_true X8;obtain ⟨aM,aQ,aT,e479,aU,aW,aX,aY,aZ,bA⟩:=q2w aD.out aE aJ aK;cases e479;replace aU:=cB HB aU;replace aW:=cB HB aW;replace aX:=cB HB aX;replace aY:=cB HB aY;have bB:=am bA;have bC:=am aZ;clear bA aZ;replace aJ:=eq_true aJ;replace aK:=eq_true aK;go_wp2_with (first|((with_reducible refine q3t (t:=11) rfl ?_);refine q5M (some 16) rfl rfl Tryz.func124 X22 rfl #[.agg #[.int .i64 ((q0b l0 aE).f0),.string ((q0b l0 aE).f1),.int .i64 ((q0b l0 aE).f2),.slice aQ ((q0b l0 aE).f3).length aT]] rfl X23 ?_;(with_reducible refine (q2H.calls ((q0b l0 aE).f0) ((q0b l0 aE).f1) ((q0b l0 aE).f2) _ _ ((q0b l0 aE).f3) true _ ?side1 ?side2 A6.out).mono ?_);(case side1=>exact X261);(case side2=>exact bC.out);rintro e w8 ⟨rfl,hb⟩;refine ⟨_,rfl,?_⟩;replace HB:=bS X13 hb;clear hb))
       go_ret
       exact ⟨X14,X13⟩
      ·replace c7:=Bool.eq_false_iff.mpr c7;subst c7;replace H:=tN H;have H':=am H;clear H;have aJ:0≤(aE:Int):=of_decide_eq_true X8;have aK:aE < (l0.length:Int):=of_decide_eq_true X8;obtain ⟨aM,aQ,aT,e479,aU,aW,aX,aY,aZ,bA⟩:=q2w aD.out aE aJ aK;cases e479;replace aU:=cB HB aU;replace aW:=cB HB aW;replace aX:=cB HB aX;replace aY:=cB HB aY;have bB:=am bA;have bC:=am aZ;clear bA aZ;replace aJ:=eq_true aJ;replace aK:=eq_true aK;go_wp2_with (first|((with_reducible refine q3t (t:=11) rfl ?_);refine q5M (some 16) rfl rfl Tryz.func124 X22 rfl #[.agg #[.int .i64 ((q0b l0 aE).f0),.string ((q0b l0 aE).f1),.int .i64 ((q0b l0 aE).f2),.slice aQ ((q0b l0 aE).f3).length aT]] rfl X23 ?_;(with_reducible refine (q2H.calls ((q0b l0 aE).f0) ((q0b l0 aE).f1) ((q0b l0 aE).f2) _ _ ((q0b l0 aE).f3) false _ ?side1 ?side2 A6.out).mono ?_);(case side1=>exact X261);(case side2=>exact bC.out);rintro e w9 ⟨rfl,hb⟩;refine ⟨_,rfl,?_⟩;replace HB:=bS X13 hb;clear hb))
       go_roundg k1
       case measure=>have:=aG.out;omega
       case rel=>exact ⟨(wrap64 (aE + 1)),X4,H',⟨by have:=aG.out;omega⟩,⟨X13⟩⟩
     ·exact iN c5 H
    ·exact iN c4 H
   ·rw [if_neg c3] at H;have c3b0:=dF c3;clear c3;obtain rfl:=Option.some.inj H;go_wp2
    go_ret
    exact ⟨X14,X13⟩

def q2u.f (k:Nat) (l0:List (S28)) (a1:Unit):Option (Bool):=(q1r.f k l0 a1).bind fun aA=>(some (decide (aA≥0)))
theorem q2u.mono:∀ a0 a1 k,LeO (q2u.f k a0 a1) (q2u.f (k + 1) a0 a1):=by
 intro a0 a1 k;unfold q2u.f;exact (by repeat' first|(with_reducible exact q1r.mono _ _ _)|(with_reducible exact LeO.refl _)|(with_reducible exact LeO.none _)|(with_reducible refine LeO.ite ?_ ?_)|(with_reducible refine LeO.bind ?_ (fun _=>?_)) | apply q1r.mono | exact LeO.none _ | refine LeO.ite ?_ ?_ | refine LeO.bind ?_ (fun _=>?_))
theorem q2u.calls (k:Nat) (A0:Option Addr) (c0:Nat) (l0:List (S28)) (a1:Unit) (r:Bool) (w:World) (aA:Kd.C k28 w A0 l0.length l0) (aC:l0.length≤c0) (h:q2u.f k l0 a1 = some r) :
  Calls Tryz.prog 123 #[.slice A0 l0.length c0,.func (.func 124) #[] #[]] w fun e w'=>e = .returned (.bool r)∧Below w.heap.size w w':=by
 have aD:=am aA;have aE:=am aC;clear aA aC;have HB:=am (Below.refl w.heap.size w);have H:=h;clear h;unfold q2u.f at H;obtain ⟨aG,aH,H⟩:=oB H;(try dsimp only at H);have A3:=am aH;clear aH;obtain rfl:=Option.some.inj H;go_enter Tryz.func123,Tryz.ntmps123;go_wp2_with (first|((with_reducible refine gc 136 ?_);refine gL (some 7) Tryz.func136 #[.slice A0 l0.length c0,.func (.func 124) #[] #[]] ?_;(with_reducible refine (q1r.calls k _ _ l0 a1 aG _ ?side1 ?side2 A3.out).mono ?_);(case side1=>exact X24);(case side2=>exact aE.out);rintro e w4 ⟨rfl,hb⟩;refine ⟨_,rfl,?_⟩;replace HB:=bS X13 hb;clear hb))
 go_ret
 exact ⟨X14,X13⟩
mutual
def q0P.j2:Nat → Int → ByteArray → Int → List (S28) → Option (Bool)
 | 0,_,_,_,_=>none
 | k + 1,aA,x483001,x483002,aC=>if aA = 5 then (if (aC.length:Int) = 1 then (some false) else ((q2u.f k aC ()).bind fun aD=>(some (!aD)))) else (if aA = 6 then (some (decide ((aC.length:Int)≥2))) else (if aA = 7 then (some ((aC.length:Int) == 1)) else (if aA = 8 then (some ((aC.length:Int) == 1)) else (if aA = 12 then (some ((aC.length:Int) == 1)) else (some ((aC.length:Int) == 0))))))
def q0P.j0:Nat → Bool → Int → ByteArray → Int → List (S28) → Option (Bool)
 | 0,_,_,_,_,_=>none
 | k + 1,x3,aA,aC,aD,aE=>if x3 = true then (some false) else ((q2g.f aA).bind fun aG=>(if aG = true then (q0P.j1 k false aA aC aD aE) else (q0P.j1 k (aC.toList != ([]:List UInt8)) aA aC aD aE)))
def q0P.j1:Nat → Bool → Int → ByteArray → Int → List (S28) → Option (Bool)
 | 0,_,_,_,_,_=>none
 | k + 1,aA,aC,aD,aE,aG=>if aA = true then (some false) else (if aC = 7 then (q0P.j2 k aC aD aE aG) else (if aE = 0 then (q0P.j2 k aC aD aE aG) else (some false)))
end
def q0P.f (k:Nat) (aA:Int) (aC:ByteArray) (aD:Int) (aE:List (S28)):Option (Bool):=if aA < 1 then (q0P.j0 k true aA aC aD aE) else (q0P.j0 k (decide (aA > 12)) aA aC aD aE)
theorem q0P.mono_l:∀ k,(∀ y0 y1 y2 y3,LeO (q0P.j2 k y0 y1 y2 y3) (q0P.j2 (k + 1) y0 y1 y2 y3))∧(∀ y0 y1 y2 y3 y4,LeO (q0P.j0 k y0 y1 y2 y3 y4) (q0P.j0 (k + 1) y0 y1 y2 y3 y4))∧(∀ y0 y1 y2 y3 y4,LeO (q0P.j1 k y0 y1 y2 y3 y4) (q0P.j1 (k + 1) y0 y1 y2 y3 y4))
 | 0=>⟨fun _ _ _ _ r h=>by simp [q0P.j2] at h,fun _ _ _ _ _ r h=>by simp [q0P.j0] at h,fun _ _ _ _ _ r h=>by simp [q0P.j1] at h⟩
 | k + 1=>by
  obtain ⟨aA,aC,aD⟩:=q0P.mono_l k;refine ⟨?_,?_,?_⟩
  ·intro y0 y1 y2 y3;unfold q0P.j2;exact X262
  ·intro y0 y1 y2 y3 y4;unfold q0P.j0;exact X262
  ·intro y0 y1 y2 y3 y4;unfold q0P.j1;exact X262
theorem q0P.mono:∀ a0 a1 a2 a3 k,LeO (q0P.f k a0 a1 a2 a3) (q0P.f (k + 1) a0 a1 a2 a3):=by
 intro a0 a1 a2 a3 k;obtain ⟨aA,aC,aD⟩:=q0P.mono_l k;unfold q0P.f;exact X262
theorem q0P.calls (k:Nat) (aA:Int) (aC:ByteArray) (aD:Int) (aE:Option Addr) (aG:Nat) (aH:List (S28)) (r:Bool) (w:World) (aI:Kd.C k28 w aE aH.length aH) (aJ:aH.length≤aG) (h:q0P.f k aA aC aD aH = some r) :
  Calls Tryz.prog 100 #[.agg #[.int .i64 aA,.string aC,.int .i64 aD,.slice aE aH.length aG]] w fun e w'=>e = .returned (.bool r)∧Below w.heap.size w w':=by
 have hu28:=Tryz.underlying28;have aK:=am aI;have aM:=am aJ;clear aI aJ;have HB:=am (Below.refl w.heap.size w);have H:=h;clear h;unfold q0P.f at H;have aQ:=am H;clear H;go_enter Tryz.func100,Tryz.ntmps100;go_upto_block 0 with (first|((with_reducible refine gd 1 ?_);refine be 1 #[.int .i64 aA,.string aC,.int .i64 aD,.slice aE aH.length aG] 28 ?_;intro aT hg w3 hbox hb;have aU:=am (hbox);have GW482:=sG (w:=w) hg X13;have aW:=sG (w:=w) hg X13;replace HB:=bS X13 hb;clear hb hbox hg))
 (try simp only [Act.put,List.setIfInBounds_toArray,List.set_cons_zero,List.set_cons_succ]);go_cut [] (fun wc=>∃ (kq:Nat),q0c (q0P.j2 kq aA aC aD aH = some r)∧q0c (kq≤k)∧q0c (wc.heap[aT]? = some (.cells #[.int .i64 aA,.string aC,.int .i64 aD,(.slice aE aH.length aG)] 28 (0,0)))∧q0c (Below w.heap.size w wc))
 case first=>
  have H:=aQ.out;clear aQ;have aX:=am H;clear H;go_upto_region 1 with (fail)
  go_cut [3] (fun v3 wc=>∃ (kq:Nat) (aY:Bool),v3 = .bool aY∧q0c (q0P.j0 kq aY aA aC aD aH = some r)∧q0c (kq≤k)∧q0c (wc.heap[aT]? = some (.cells #[.int .i64 aA,.string aC,.int .i64 aD,(.slice aE aH.length aG)] 28 (0,0)))∧q0c (Below w.heap.size w wc))
  case first=>
   have H:=aX.out;clear aX;by_cases c5:aA < 1
   ·rw [if_pos c5] at H;have c5b0:=dT c5;clear c5;(first | rw [c5b0]|(simp only [q2G,q2L];rw [c5b0]) | skip);have H':=am H;clear H;have Z6:=bc4 aU;go_wp2
    go_meet
    case rel=>exact ⟨_,(true),X4,H',⟨X7⟩,⟨X177⟩,⟨X98⟩⟩
   ·rw [if_neg c5] at H;have c5b0:=dF c5;clear c5;(first | rw [c5b0]|(simp only [q2G,q2L];rw [c5b0]) | skip);have H':=am H;clear H;have Z7:=bc4 aU;go_wp2
    go_meet
    case rel=>exact ⟨_,(decide (aA > 12)),X4,H',⟨X7⟩,⟨X177⟩,⟨X98⟩⟩
  case rest=>
   clear aX;(try clear c1 p2 c5 c5b0 Z6 Z7);obtain ⟨kq,aY,rfl,HA,aZ,aU,HB⟩:=hcut;cases kq with
   | zero=>exact absurd HA.out (by simp [q0P.j0])
   | succ bA=>
    have H:=HA.out;clear HA;simp only [q0P.j0] at H;by_cases c8:aY = true
    ·subst c8;replace H:=tP H;obtain rfl:=Option.some.inj H;go_wp2
     go_ret
     exact ⟨X14,X98⟩
    ·replace c8:=Bool.eq_false_iff.mpr c8;subst c8;replace H:=tN H;have bB:=am H;clear H;go_upto_region 3 with (fail)
     go_cut [12] (fun bC wc=>∃ (kq:Nat) (bD:Bool),bC = .bool bD∧q0c (q0P.j1 kq bD aA aC aD aH = some r)∧q0c (kq≤bA)∧q0c (wc.heap[aT]? = some (.cells #[.int .i64 aA,.string aC,.int .i64 aD,(.slice aE aH.length aG)] 28 (0,0)))∧q0c (Below w.heap.size w wc))
     case first=>
      have H:=bB.out;clear bB;obtain ⟨bE,bF,H⟩:=oB H;(try dsimp only at H);have bG:=am bF;clear bF;by_cases bH:bE = true
      ·subst bH;replace H:=tP H;have H':=am H;clear H;have bI:=bc4 aU;go_wp2_with (first|((with_reducible refine gc 76 ?_);refine gL (some 15) Tryz.func76 #[.int .i64 aA] ?_;(with_reducible refine (q2g.calls aA true _ bG.out).mono ?_);rintro e w' ⟨rfl,⟨nd,rfl⟩⟩;refine ⟨_,rfl,?_⟩))
       go_meet
       case rel=>exact ⟨_,(false),X4,H',⟨X178⟩,⟨X177⟩,⟨X98⟩⟩
      ·replace bH:=Bool.eq_false_iff.mpr bH;subst bH;replace H:=tN H;have H':=am H;clear H;have bJ:=bc4 aU;go_wp2_with (first|((with_reducible refine gc 76 ?_);refine gL (some 15) Tryz.func76 #[.int .i64 aA] ?_;(with_reducible refine (q2g.calls aA false _ bG.out).mono ?_);rintro e w' ⟨rfl,⟨nd,rfl⟩⟩;refine ⟨_,rfl,?_⟩))
       go_meet
       case rel=>exact ⟨_,((aC.toList != ([]:List UInt8))),X4,H',⟨X178⟩,⟨X177⟩,⟨X98⟩⟩
     case rest=>
      clear bB;(try clear c1);(try clear p2 p2);(try clear c5 c5b0 c7 c8 c10 bH bI bJ Z6 Z7);obtain ⟨kq,bD,rfl,HA,bK,aU,HB⟩:=hcut;cases kq with
      | zero=>exact absurd HA.out (by simp [q0P.j1])
      | succ kj8=>
       have H:=HA.out;clear HA;simp only [q0P.j1] at H;by_cases bL:bD = true
       ·subst bL;replace H:=tP H;obtain rfl:=Option.some.inj H;go_wp2
        go_ret
        exact ⟨X14,X98⟩
       ·replace bL:=Bool.eq_false_iff.mpr bL;subst bL;replace H:=tN H;by_cases bM:aA = 7
        ·rw [if_pos bM] at H;have c15b0:=eT bM;have c15b1:=eF bM;clear bM;have H':=am H;clear H;have bN:=bc4 aU;go_wp2
         go_meet
         case rel=>exact ⟨_,H',⟨by have:=aZ.out;have:=bK.out;first | omega | exact Nat.le_refl _⟩,⟨X177⟩,⟨X98⟩⟩
        ·rw [if_neg bM] at H;have c15b0:=nF bM;have c15b1:=nT bM;by_cases bO:aD = 0
         ·rw [if_pos bO] at H;have c17b0:=eT bO;have c17b1:=eF bO;clear bO;have H':=am H;clear H;have bP:=bc4 aU;go_wp2
          go_meet
          case rel=>exact ⟨_,H',⟨by have:=aZ.out;have:=bK.out;first | omega | exact Nat.le_refl _⟩,⟨X177⟩,⟨X98⟩⟩
         ·rw [if_neg bO] at H;have c17b0:=nF bO;have c17b1:=nT bO;obtain rfl:=Option.some.inj H;have bQ:=bc4 aU;go_wp2
          go_ret
          exact ⟨X14,X98⟩
 case rest=>
  clear aQ;(try clear c1);(try clear p2 p2);(try clear c5 c5b0 c7 c8 c10 bH bL bM c15b0 c15b1 bO c17b0 c17b1 bI bJ bN bP bQ Z6 Z7);obtain ⟨kq,HA,HJ1,aU,HB⟩:=hcut;cases kq with
  | zero=>exact absurd HA.out (by simp [q0P.j2])
  | succ bR=>
   have H:=HA.out;clear HA;simp only [q0P.j2] at H;by_cases bT:aA = 5
   ·rw [if_pos bT] at H;have c20b0:=eT bT;have c20b1:=eF bT;clear bT;by_cases bU:(aH.length:Int) = 1
    ·rw [if_pos bU] at H;have c21b0:=eT bU;have c21b1:=eF bU;clear bU;obtain rfl:=Option.some.inj H;have Z22:=bc4 aU;go_wp2
     go_ret
     exact ⟨X14,X98⟩
    ·rw [if_neg bU] at H;have c21b0:=nF bU;have c21b1:=nT bU;obtain ⟨bV,bW,H⟩:=oB H;(try dsimp only at H);have bX:=am bW;clear bW;obtain rfl:=Option.some.inj H;have Z24:=bc4 aU;go_wp2_with (first|(go_at_call 123;(with_reducible refine (q2u.calls bR _ _ aH () bV _ ?side1 ?side2 bX.out).mono ?_);(case side1=>exact X17);(case side2=>exact aM.out);rintro e w25 ⟨rfl,hb⟩;replace aU:=kB aU hb;replace HB:=bS X98 hb;clear hb))
     go_ret
     exact ⟨X14,X98⟩
   ·rw [if_neg bT] at H;have c20b0:=nF bT;have c20b1:=nT bT;by_cases bY:aA = 6
    ·rw [if_pos bY] at H;have c26b0:=eT bY;have c26b1:=eF bY;clear bY;obtain rfl:=Option.some.inj H;have Z27:=bc4 aU;go_wp2
     go_ret
     exact ⟨X14,X98⟩
    ·rw [if_neg bY] at H;have c26b0:=nF bY;have c26b1:=nT bY;by_cases bZ:aA = 7
     ·rw [if_pos bZ] at H;have c28b0:=eT bZ;have c28b1:=eF bZ;clear bZ;obtain rfl:=Option.some.inj H;have Z29:=bc4 aU;go_wp2
      go_ret
      exact ⟨X14,X98⟩
     ·rw [if_neg bZ] at H;have c28b0:=nF bZ;have c28b1:=nT bZ;by_cases cA:aA = 8
      ·rw [if_pos cA] at H;have c30b0:=eT cA;have c30b1:=eF cA;clear cA;obtain rfl:=Option.some.inj H;have Z31:=bc4 aU;go_wp2
       go_ret
       exact ⟨X14,X98⟩
      ·rw [if_neg cA] at H;have c30b0:=nF cA;have c30b1:=nT cA;by_cases cC:aA = 12
       ·rw [if_pos cC] at H;have c32b0:=eT cC;have c32b1:=eF cC;clear cC;obtain rfl:=Option.some.inj H;have Z33:=bc4 aU;go_wp2
        go_ret
        exact ⟨X14,X98⟩
       ·rw [if_neg cC] at H;have c32b0:=nF cC;have c32b1:=nT cC;obtain rfl:=Option.some.inj H;have Z34:=bc4 aU;go_wp2
        go_ret
        exact ⟨X14,X98⟩
mutual
def q0G.j0:Nat → Int → Bool → Int → ByteArray → Int → List (S28) → Option (Int)
 | 0,_,_,_,_,_,_=>none
 | k + 1,x1,aA,x486000,x486001,aC,aD=>if aA = true then (some 2) else (if aC < 0 then (some 6) else (if aC > 9 then (some 6) else (q0G.l0 k x1 aD (aD.length:Int) 0)))
def q0G.l0:Nat → Int → List (S28) → Int → Int → Option (Int)
 | 0,_,_,_,_=>none
 | k + 1,x1,aA,aC,aD=>if aD < aC then (if 0≤aD then (if aD < (aA.length:Int) then ((q0G.f k ((q0b aA aD).f0) ((q0b aA aD).f1) ((q0b aA aD).f2) ((q0b aA aD).f3) (wrap64 (x1 + 1))).bind fun aE=>(if aE = 0 then (q0G.l0 k x1 aA aC (wrap64 (aD + 1))) else (some aE))) else (none)) else (none)) else (some 0)
def q0G.f:Nat → Int → ByteArray → Int → List (S28) → Int → Option (Int)
 | 0,_,_,_,_,_=>none
 | k + 1,aA,aC,aD,aE,a1=>if a1 > 12 then (some 3) else ((q0P.f k aA aC aD aE).bind fun aG=>(if aG = true then ((q2g.f aA).bind fun aH=>(if aH = true then ((q1q.f k aC).bind fun aI=>(q0G.j0 k a1 (!aI) aA aC aD aE)) else (q0G.j0 k a1 false aA aC aD aE))) else (some 1)))
end
theorem q0G.mono_l:∀ k,(∀ y0 y1 y2 y3 y4,LeO (q0G.f k y0 y1 y2 y3 y4) (q0G.f (k + 1) y0 y1 y2 y3 y4))∧(∀ y0 y1 y2 y3 y4 y5,LeO (q0G.j0 k y0 y1 y2 y3 y4 y5) (q0G.j0 (k + 1) y0 y1 y2 y3 y4 y5))∧(∀ y0 y1 y2 y3,LeO (q0G.l0 k y0 y1 y2 y3) (q0G.l0 (k + 1) y0 y1 y2 y3))
 | 0=>⟨fun _ _ _ _ _ r h=>by simp [q0G.f] at h,fun _ _ _ _ _ _ r h=>by simp [q0G.j0] at h,fun _ _ _ _ r h=>by simp [q0G.l0] at h⟩
 | k + 1=>by
  obtain ⟨aA,aC,aD⟩:=q0G.mono_l k;refine ⟨?_,?_,?_⟩
  ·intro y0 y1 y2 y3 y4;unfold q0G.f;exact X15
  ·intro y0 y1 y2 y3 y4 y5;unfold q0G.j0;exact X15
  ·intro y0 y1 y2 y3;unfold q0G.l0;exact X15
theorem q0G.mono:∀ a0 a1 a2 a3 a4 k,LeO (q0G.f k a0 a1 a2 a3 a4) (q0G.f (k + 1) a0 a1 a2 a3 a4):=by
 intro a0 a1 a2 a3 a4 k;obtain ⟨aA,ih1,ih2⟩:=q0G.mono_l k;exact aA a0 a1 a2 a3 a4
theorem q0G.calls (k:Nat):∀ (aA:Int) (aC:ByteArray) (aD:Int) (aE:Option Addr) (aG:Nat) (aH:List (S28)) (a1:Int) (r:Int) (w:World) (aI:Kd.C k28 w aE aH.length aH) (aJ:aH.length≤aG) (h:q0G.f k aA aC aD aH a1 = some r),
  Calls Tryz.prog 73 #[.agg #[.int .i64 aA,.string aC,.int .i64 aD,.slice aE aH.length aG],.int .i64 a1] w fun e w'=>e = .returned (.int .i64 r)∧Below w.heap.size w w':=by
 induction k using Nat.strongRecOn with
 | _ k ih=>
 intro aA aC aD aE aG aH a1 r w aI aJ h;cases k with
 | zero=>exact absurd h (by simp [q0G.f])
 | succ k=>
 simp only [q0G.f] at h;have hu28:=Tryz.underlying28;have aK:=am aI;have aM:=am aJ;clear aI aJ;have HB:=am (Below.refl w.heap.size w);have H:(if a1 > 12 then (some 3) else ((q0P.f k aA aC aD aH).bind fun aQ=>(if aQ = true then ((q2g.f aA).bind fun aT=>(if aT = true then ((q1q.f k aC).bind fun aU=>(q0G.j0 k a1 (!aU) aA aC aD aH)) else (q0G.j0 k a1 false aA aC aD aH))) else (some 1)))) = some r:=h;clear h;by_cases c3:a1 > 12
 ·rw [if_pos c3] at H;have c3b0:decide (12 < a1) = true:=decide_eq_true c3;clear c3;obtain rfl:=Option.some.inj H;go_enter Tryz.func73,Tryz.ntmps73;go_wp2_with (first|((with_reducible refine gd 2 ?_);refine be 2 #[.int .i64 aA,.string aC,.int .i64 aD,.slice aE aH.length aG] 28 ?_;intro aW hg w4 hbox hb;have aX:=am (hbox);have aY:=sG (w:=w) hg X13;have aZ:=sG (w:=w) hg X13;replace HB:=bS X13 hb;clear hb hbox hg))
  go_ret
  exact ⟨X14,X16⟩
 ·rw [if_neg c3] at H;have c3b0:decide (12 < a1) = false:=decide_eq_false c3;clear c3;obtain ⟨aQ,bA,H⟩:=oB H;(try dsimp only at H);have A5:=am bA;clear bA;by_cases c6:aQ = true
  ·subst c6;replace H:=tP H;have bB:=am H;clear H;go_enter Tryz.func73,Tryz.ntmps73;go_upto_region 5 with (first|((with_reducible refine gd 2 ?_);refine be 2 #[.int .i64 aA,.string aC,.int .i64 aD,.slice aE aH.length aG] 28 ?_;intro aW hg w8 hbox hb;have aX:=am (hbox);have aY:=sG (w:=w) hg X13;have aZ:=sG (w:=w) hg X13;replace HB:=bS X13 hb;clear hb hbox hg;have Z9:=bc4 aX)|((with_reducible refine gc 100 ?_);refine gL (some 13) Tryz.func100 #[.agg #[.int .i64 aA,.string aC,.int .i64 aD,.slice aE aH.length aG]] ?_;(with_reducible refine (q0P.calls k aA aC aD _ _ aH true _ ?side1 ?side2 A5.out).mono ?_);(case side1=>exact X17);(case side2=>exact aM.out);rintro e w10 ⟨rfl,hb⟩;refine ⟨_,rfl,?_⟩;replace aX:=kB aX hb;replace HB:=bS X16 hb;clear hb))
   (try simp only [Act.put,List.setIfInBounds_toArray,List.set_cons_zero,List.set_cons_succ]);go_cut [15] (fun bC wc=>∃ (kq:Nat) (bD:Bool),bC = .bool bD∧q0c (q0G.j0 kq a1 bD aA aC aD aH = some r)∧q0c (kq≤k)∧q0c (wc.heap[aW]? = some (.cells #[.int .i64 aA,.string aC,.int .i64 aD,(.slice aE aH.length aG)] 28 (0,0)))∧q0c (Below w.heap.size w wc))
   case first=>
    have H:=bB.out;clear bB;obtain ⟨aT,bE,H⟩:=oB H;(try dsimp only at H);have bF:=am bE;clear bE;by_cases bG:aT = true
    ·subst bG;replace H:=tP H;obtain ⟨aU,bH,H⟩:=oB H;(try dsimp only at H);have bI:=am bH;clear bH;have H':=am H;clear H;have bJ:=bc4 aX;go_wp2_with (first|((with_reducible refine gc 76 ?_);refine gL (some 18) Tryz.func76 #[.int .i64 aA] ?_;(with_reducible refine (q2g.calls aA true _ bF.out).mono ?_);rintro e w' ⟨rfl,⟨nd,rfl⟩⟩;refine ⟨_,rfl,?_⟩)|(go_at_call 54;(with_reducible refine (q1q.calls k aC aU _ bI.out).mono ?_);rintro e w' ⟨rfl,⟨nd,rfl⟩⟩))
     go_meet
     case rel=>exact ⟨_,(!aU),X4,H',⟨X7⟩,⟨X18⟩,⟨X16⟩⟩
    ·replace bG:=Bool.eq_false_iff.mpr bG;subst bG;replace H:=tN H;have H':=am H;clear H;have bK:=bc4 aX;go_wp2_with (first|((with_reducible refine gc 76 ?_);refine gL (some 18) Tryz.func76 #[.int .i64 aA] ?_;(with_reducible refine (q2g.calls aA false _ bF.out).mono ?_);rintro e w' ⟨rfl,⟨nd,rfl⟩⟩;refine ⟨_,rfl,?_⟩))
     go_meet
     case rel=>exact ⟨_,(false),X4,H',⟨X7⟩,⟨X18⟩,⟨X16⟩⟩
   case rest=>
    clear bB;(try clear c1 p2 c3 c3b0 c6 c7 c10 bG bJ bK Z9);obtain ⟨kq,bD,rfl,HA,bL,aX,HB⟩:=hcut;cases kq with
    | zero=>exact absurd HA.out (by simp [q0G.j0])
    | succ bM=>
     have H:=HA.out;clear HA;simp only [q0G.j0] at H;by_cases bN:bD = true
     ·subst bN;replace H:=tP H;obtain rfl:=Option.some.inj H;go_wp2
      go_ret
      exact ⟨X14,X16⟩
     ·replace bN:=Bool.eq_false_iff.mpr bN;subst bN;replace H:=tN H;by_cases bO:aD < 0
      ·rw [if_pos bO] at H;have c17b0:=dT bO;clear bO;obtain rfl:=Option.some.inj H;have bP:=bc4 aX;go_wp2
       go_ret
       exact ⟨X14,X16⟩
      ·rw [if_neg bO] at H;have c17b0:=dF bO;clear bO;by_cases bQ:aD > 9
       ·rw [if_pos bQ] at H;have c19b0:decide (9 < aD) = true:=decide_eq_true bQ;clear bQ;obtain rfl:=Option.some.inj H;have bR:=bc4 aX;go_wp2
        go_ret
        exact ⟨X14,X16⟩
       ·rw [if_neg bQ] at H;have c19b0:decide (9 < aD) = false:=decide_eq_false bQ;clear bQ;have H':=am H;clear H;have bT:=bc4 aX;go_wp2
        go_loopg [37] bM (fun kq bU w'=>∃ (bV:Int),bU = .int .i64 bV∧q0c (q0G.l0 kq a1 aH (aH.length:Int) bV = some r)∧q0c (kq≤bM)∧q0c (w'.heap[aW]? = some (.cells #[.int .i64 aA,.string aC,.int .i64 aD,(.slice aE aH.length aG)] 28 (0,0)))∧q0c (Below w.heap.size w w'))
        case atStart=>exact ⟨(0),X4,H',⟨Nat.le_refl _⟩,⟨X18⟩,⟨X16⟩⟩
        case round=>
         clear H';(try clear c1);(try clear p2 p2);(try clear c3 c3b0 c6 c7 c10 bG bN bO c17b0 bQ c19b0 bJ bK bP bR bT Z9);obtain ⟨bV,rfl,HA,bW,aX,HB⟩:=hrel;cases gk with
         | zero=>exact absurd HA.out (by simp [q0G.l0])
         | succ k2=>
          have H:=HA.out;clear HA;simp only [q0G.l0] at H;by_cases bX:bV < (aH.length:Int)
          ·rw [if_pos bX] at H;have c22b0:=dT bX;clear bX;by_cases bY:0≤bV
           ·rw [if_pos bY] at H;have c23b0:=dT bY;clear bY;by_cases bZ:bV < (aH.length:Int)
            ·rw [if_pos bZ] at H;have c24b0:=dT bZ;clear bZ;obtain ⟨cA,cC,H⟩:=oB H;(try dsimp only at H);have cD:=am cC;clear cC;by_cases cE:cA = 0
             ·rw [if_pos cE] at H;have c26b0:=eT cE;have c26b1:=eF cE;clear cE;have H':=am H;clear H;have cF:0≤(bV:Int):=of_decide_eq_true X8;have cG:bV < (aH.length:Int):=of_decide_eq_true X8;obtain ⟨cH,cI,cJ,e489,cK,cL,cM,cN,cO,cP⟩:=q2w aK.out bV cF cG;cases e489;replace cK:=cB HB cK;replace cL:=cB HB cL;replace cM:=cB HB cM;replace cN:=cB HB cN;have cQ:=am cP;have cR:=am cO;clear cP cO;replace cF:=eq_true cF;replace cG:=eq_true cG;go_wp2_with (first|((with_reducible refine gd 6 ?_);refine be 6 #[.int .i64 0,.string ⟨#[]⟩,.int .i64 0,.slice none 0 0] 28 ?_;intro cS hg w27 hbox hb;have cT:=am (hbox);have cU:=sG (w:=w) hg X16;have cV:=sG (w:=w) hg X16;replace HB:=bS X16 hb;have cW:=nLT hg aX;have cX:=nGT hg aX;replace aX:=kB aX hb;clear hb hbox hg;have hnb28:=cX.out;have hnc28:=cW.out;have Z29:=bc4 cT)|((with_reducible refine gc 73 ?_);refine gL (some 44) Tryz.func73 #[.agg #[.int .i64 ((q0b aH bV).f0),.string ((q0b aH bV).f1),.int .i64 ((q0b aH bV).f2),.slice cI ((q0b aH bV).f3).length cJ],.int .i64 (wrap64 (a1 + 1))] ?_;(with_reducible refine (ih k2 (by have:=bL.out;have:=bW.out;omega) ((q0b aH bV).f0) ((q0b aH bV).f1) ((q0b aH bV).f2) _ _ ((q0b aH bV).f3) (wrap64 (a1 + 1)) cA _ ?side1 ?side2 cD.out).mono ?_);(case side1=>exact Kd.C_below cQ.out X19);(case side2=>exact cR.out);rintro e w30 ⟨rfl,hb⟩;refine ⟨_,rfl,?_⟩;replace aX:=kBg1 aX cW hb;replace cT:=kBg0 cT hb;replace HB:=bS X19 hb;clear hb))
              go_roundg k2
              case measure=>have:=bL.out;have:=bW.out;omega
              case rel=>exact ⟨(wrap64 (bV + 1)),X4,H',⟨by have:=bL.out;have:=bW.out;omega⟩,⟨X18⟩,⟨X19⟩⟩
             ·rw [if_neg cE] at H;have c26b0:=nF cE;have c26b1:=nT cE;obtain rfl:=Option.some.inj H;have cF:0≤(bV:Int):=of_decide_eq_true X8;have cG:bV < (aH.length:Int):=of_decide_eq_true X8;obtain ⟨cH,cI,cJ,e489,cK,cL,cM,cN,cO,cP⟩:=q2w aK.out bV cF cG;cases e489;replace cK:=cB HB cK;replace cL:=cB HB cL;replace cM:=cB HB cM;replace cN:=cB HB cN;have cQ:=am cP;have cR:=am cO;clear cP cO;replace cF:=eq_true cF;replace cG:=eq_true cG;go_wp2_with (first|((with_reducible refine gd 6 ?_);refine be 6 #[.int .i64 0,.string ⟨#[]⟩,.int .i64 0,.slice none 0 0] 28 ?_;intro cS hg w31 hbox hb;have cT:=am (hbox);have cU:=sG (w:=w) hg X16;have cV:=sG (w:=w) hg X16;replace HB:=bS X16 hb;have cW:=nLT hg aX;have cX:=nGT hg aX;replace aX:=kB aX hb;clear hb hbox hg;have hnb32:=cX.out;have hnc32:=cW.out;have Z33:=bc4 cT)|((with_reducible refine gc 73 ?_);refine gL (some 44) Tryz.func73 #[.agg #[.int .i64 ((q0b aH bV).f0),.string ((q0b aH bV).f1),.int .i64 ((q0b aH bV).f2),.slice cI ((q0b aH bV).f3).length cJ],.int .i64 (wrap64 (a1 + 1))] ?_;(with_reducible refine (ih k2 (by have:=bL.out;have:=bW.out;omega) ((q0b aH bV).f0) ((q0b aH bV).f1) ((q0b aH bV).f2) _ _ ((q0b aH bV).f3) (wrap64 (a1 + 1)) cA _ ?side1 ?side2 cD.out).mono ?_);(case side1=>exact Kd.C_below cQ.out X19);(case side2=>exact cR.out);rintro e w34 ⟨rfl,hb⟩;refine ⟨_,rfl,?_⟩;replace aX:=kBg1 aX cW hb;replace cT:=kBg0 cT hb;replace HB:=bS X19 hb;clear hb))
              go_ret
              exact ⟨X14,X19⟩
            ·exact iN bZ H
           ·exact iN bY H
          ·rw [if_neg bX] at H;have c22b0:=dF bX;clear bX;obtain rfl:=Option.some.inj H;go_wp2
           go_ret
           exact ⟨X14,X16⟩
  ·replace c6:=Bool.eq_false_iff.mpr c6;subst c6;replace H:=tN H;obtain rfl:=Option.some.inj H;go_enter Tryz.func73,Tryz.ntmps73;go_wp2_with (first|((with_reducible refine gd 2 ?_);refine be 2 #[.int .i64 aA,.string aC,.int .i64 aD,.slice aE aH.length aG] 28 ?_;intro aW hg w35 hbox hb;have aX:=am (hbox);have aY:=sG (w:=w) hg X13;have aZ:=sG (w:=w) hg X13;replace HB:=bS X13 hb;clear hb hbox hg;have Z36:=bc4 aX)|((with_reducible refine gc 100 ?_);refine gL (some 13) Tryz.func100 #[.agg #[.int .i64 aA,.string aC,.int .i64 aD,.slice aE aH.length aG]] ?_;(with_reducible refine (q0P.calls k aA aC aD _ _ aH false _ ?side1 ?side2 A5.out).mono ?_);(case side1=>exact X17);(case side2=>exact aM.out);rintro e w37 ⟨rfl,hb⟩;refine ⟨_,rfl,?_⟩;replace aX:=kB aX hb;replace HB:=bS X16 hb;clear hb))
   go_ret
   exact ⟨X14,X16⟩

def q1F.f (k:Nat) (aA:Int) (aC:ByteArray) (aD:Int) (aE:List (S28)):Option (Int):=(q0G.f k aA aC aD aE 1).bind fun aG=>(if aG = 0 then ((q0Y.f k aA aC aD aE).bind fun aH=>(if aH > 200 then (some 3) else (some 0))) else (some aG))
theorem q1F.mono:∀ a0 a1 a2 a3 k,LeO (q1F.f k a0 a1 a2 a3) (q1F.f (k + 1) a0 a1 a2 a3):=by
 intro a0 a1 a2 a3 k;unfold q1F.f;exact (by repeat' first|(with_reducible apply q0Y.mono)|(with_reducible apply q0G.mono)|(with_reducible exact LeO.refl _)|(with_reducible exact LeO.none _)|(with_reducible refine LeO.ite ?_ ?_)|(with_reducible refine LeO.bind ?_ (fun _=>?_)) | apply q0Y.mono | apply q0G.mono | exact LeO.none _ | refine LeO.ite ?_ ?_ | refine LeO.bind ?_ (fun _=>?_))
theorem q1F.calls (k:Nat) (aA:Int) (aC:ByteArray) (aD:Int) (aE:Option Addr) (aG:Nat) (aH:List (S28)) (r:Int) (w:World) (aI:Kd.C k28 w aE aH.length aH) (aJ:aH.length≤aG) (h:q1F.f k aA aC aD aH = some r) :
  Calls Tryz.prog 38 #[.agg #[.int .i64 aA,.string aC,.int .i64 aD,.slice aE aH.length aG]] w fun e w'=>e = .returned (.int .i64 r)∧Below w.heap.size w w':=by
 have hu28:=Tryz.underlying28;have aK:=am aI;have aM:=am aJ;clear aI aJ;have HB:=am (Below.refl w.heap.size w);have H:=h;clear h;unfold q1F.f at H;obtain ⟨aQ,aT,H⟩:=oB H;(try dsimp only at H);have A2:=am aT;clear aT;by_cases c3:aQ = 0
 ·rw [if_pos c3] at H;have c3b0:=eT c3;have c3b1:=eF c3;clear c3;obtain ⟨aU,aW,H⟩:=oB H;(try dsimp only at H);have A4:=am aW;clear aW;by_cases c5:aU > 200
  ·rw [if_pos c5] at H;have c5b0:decide (200 < aU) = true:=decide_eq_true c5;clear c5;obtain rfl:=Option.some.inj H;go_enter Tryz.func38,Tryz.ntmps38;go_wp2_with (first|((with_reducible refine gd 1 ?_);refine be 1 #[.int .i64 aA,.string aC,.int .i64 aD,.slice aE aH.length aG] 28 ?_;intro aX hg w6 hbox hb;have aY:=am (hbox);have aZ:=sG (w:=w) hg X13;have bA:=sG (w:=w) hg X13;replace HB:=bS X13 hb;clear hb hbox hg;have Z7:=bc4 aY)|((with_reducible refine gc 73 ?_);refine gL (some 5) Tryz.func73 #[.agg #[.int .i64 aA,.string aC,.int .i64 aD,.slice aE aH.length aG],.int .i64 1] ?_;(with_reducible refine (q0G.calls k aA aC aD _ _ aH 1 aQ _ ?side1 ?side2 A2.out).mono ?_);(case side1=>exact X17);(case side2=>exact aM.out);rintro e w8 ⟨rfl,hb⟩;refine ⟨_,rfl,?_⟩;replace aY:=kB aY hb;replace HB:=bS X20 hb;clear hb;have Z9:=bc4 aY)|((with_reducible refine gc 14 ?_);refine gL (some 10) Tryz.func14 #[.agg #[.int .i64 aA,.string aC,.int .i64 aD,.slice aE aH.length aG]] ?_;(with_reducible refine (q0Y.calls k aA aC aD _ _ aH aU _ ?side1 ?side2 A4.out).mono ?_);(case side1=>exact X17);(case side2=>exact aM.out);rintro e w10 ⟨rfl,hb⟩;refine ⟨_,rfl,?_⟩;replace aY:=kB aY hb;replace HB:=bS X20 hb;clear hb))
   go_ret
   exact ⟨X14,X20⟩
  ·rw [if_neg c5] at H;have c5b0:decide (200 < aU) = false:=decide_eq_false c5;clear c5;obtain rfl:=Option.some.inj H;go_enter Tryz.func38,Tryz.ntmps38;go_wp2_with (first|((with_reducible refine gd 1 ?_);refine be 1 #[.int .i64 aA,.string aC,.int .i64 aD,.slice aE aH.length aG] 28 ?_;intro aX hg w11 hbox hb;have aY:=am (hbox);have aZ:=sG (w:=w) hg X13;have bA:=sG (w:=w) hg X13;replace HB:=bS X13 hb;clear hb hbox hg;have Z12:=bc4 aY)|((with_reducible refine gc 73 ?_);refine gL (some 5) Tryz.func73 #[.agg #[.int .i64 aA,.string aC,.int .i64 aD,.slice aE aH.length aG],.int .i64 1] ?_;(with_reducible refine (q0G.calls k aA aC aD _ _ aH 1 aQ _ ?side1 ?side2 A2.out).mono ?_);(case side1=>exact X17);(case side2=>exact aM.out);rintro e w13 ⟨rfl,hb⟩;refine ⟨_,rfl,?_⟩;replace aY:=kB aY hb;replace HB:=bS X20 hb;clear hb;have Z14:=bc4 aY)|((with_reducible refine gc 14 ?_);refine gL (some 10) Tryz.func14 #[.agg #[.int .i64 aA,.string aC,.int .i64 aD,.slice aE aH.length aG]] ?_;(with_reducible refine (q0Y.calls k aA aC aD _ _ aH aU _ ?side1 ?side2 A4.out).mono ?_);(case side1=>exact X17);(case side2=>exact aM.out);rintro e w15 ⟨rfl,hb⟩;refine ⟨_,rfl,?_⟩;replace aY:=kB aY hb;replace HB:=bS X20 hb;clear hb))
   go_ret
   exact ⟨X14,X20⟩
 ·rw [if_neg c3] at H;have c3b0:=nF c3;have c3b1:=nT c3;obtain rfl:=Option.some.inj H;go_enter Tryz.func38,Tryz.ntmps38;go_wp2_with (first|((with_reducible refine gd 1 ?_);refine be 1 #[.int .i64 aA,.string aC,.int .i64 aD,.slice aE aH.length aG] 28 ?_;intro aX hg w16 hbox hb;have aY:=am (hbox);have aZ:=sG (w:=w) hg X13;have bA:=sG (w:=w) hg X13;replace HB:=bS X13 hb;clear hb hbox hg;have Z17:=bc4 aY)|((with_reducible refine gc 73 ?_);refine gL (some 5) Tryz.func73 #[.agg #[.int .i64 aA,.string aC,.int .i64 aD,.slice aE aH.length aG],.int .i64 1] ?_;(with_reducible refine (q0G.calls k aA aC aD _ _ aH 1 aQ _ ?side1 ?side2 A2.out).mono ?_);(case side1=>exact X17);(case side2=>exact aM.out);rintro e w18 ⟨rfl,hb⟩;refine ⟨_,rfl,?_⟩;replace aY:=kB aY hb;replace HB:=bS X20 hb;clear hb))
  go_ret
  exact ⟨X14,X20⟩

def q2o.f (k:Nat) (a0:ByteArray):Option (Bool):=(q1q.f k a0).bind fun aA=>(some (!aA))
theorem q2o.mono:∀ a0 k,LeO (q2o.f k a0) (q2o.f (k + 1) a0):=by
 intro a0 k;unfold q2o.f;exact (by repeat' first|(with_reducible exact q1q.mono _ _)|(with_reducible exact LeO.refl _)|(with_reducible exact LeO.none _)|(with_reducible refine LeO.ite ?_ ?_)|(with_reducible refine LeO.bind ?_ (fun _=>?_)) | exact q1q.mono _ _ | exact LeO.none _ | refine LeO.ite ?_ ?_ | refine LeO.bind ?_ (fun _=>?_))
theorem q2o.calls (k:Nat) (a0:ByteArray) (r:Bool) (w:World) (h:q2o.f k a0 = some r) :
  Calls Tryz.prog 56 #[.string a0] w fun e w'=>e = .returned (.bool r)∧q1Y w w':=by
 have H:=h;clear h;unfold q2o.f at H;obtain ⟨aA,aC,H⟩:=oB H;(try dsimp only at H);have A2:=am aC;clear aC;obtain rfl:=Option.some.inj H;go_enter Tryz.func56,Tryz.ntmps56;go_wp2_with (first|((with_reducible refine gc 54 ?_);refine gL (some 4) Tryz.func54 #[.string a0] ?_;(with_reducible refine (q1q.calls k a0 aA _ A2.out).mono ?_);rintro e w' ⟨rfl,⟨nd,rfl⟩⟩;refine ⟨_,rfl,?_⟩))
 go_ret
 exact ⟨X4,X5⟩

def q0B.l0:Nat → List ByteArray → Int → Int → Option (Int)
 | 0,_,_,_=>none
 | k + 1,x0,x7,x8=>if x8 < x7 then (if 0≤x8 then (if x8 < (x0.length:Int) then ((q2o.f k (rdOf ByteArray.empty x0 x8)).bind fun aA=>(if aA = true then (some x8) else (q0B.l0 k x0 x7 (wrap64 (x8 + 1))))) else (none)) else (none)) else (some (-1))
def q0B.f (k:Nat) (l0:List ByteArray) (a1:Unit):Option (Int):=q0B.l0 k l0 (l0.length:Int) 0
theorem q0B.mono_l:∀ k,(∀ y0 y1 y2,LeO (q0B.l0 k y0 y1 y2) (q0B.l0 (k + 1) y0 y1 y2))
 | 0=>fun _ _ _ r h=>by simp [q0B.l0] at h
 | k + 1=>by
  have aA:=q0B.mono_l k
  ·intro y0 y1 y2;unfold q0B.l0;exact X21
theorem q0B.mono:∀ a0 a1 k,LeO (q0B.f k a0 a1) (q0B.f (k + 1) a0 a1):=by
 intro a0 a1 k;have aA:=q0B.mono_l k;unfold q0B.f;exact X21
theorem q0B.calls (k:Nat) (A0:Option Addr) (c0:Nat) (l0:List ByteArray) (a1:Unit) (r:Int) (w:World) (aA:Kd.C Kd.string w A0 l0.length l0) (aC:l0.length≤c0) (h:q0B.f k l0 a1 = some r) :
  Calls Tryz.prog 88 #[.slice A0 l0.length c0,.func (.func 56) #[] #[]] w fun e w'=>e = .returned (.int .i64 r)∧Below w.heap.size w w':=by
 have aD:=am aA;have HC0:=am aC;clear aA aC;have HB:=am (Below.refl w.heap.size w);have H:=h;clear h;unfold q0B.f at H;have H':=am H;clear H;go_enter Tryz.func88,Tryz.ntmps88;go_wp2
 go_loopg [8] k (fun kq v8 w'=>∃ (aE:Int),v8 = .int .i64 aE∧q0c (q0B.l0 kq l0 (l0.length:Int) aE = some r)∧q0c (kq≤k)∧q0c (Below w.heap.size w w'))
 case atStart=>exact ⟨(0),X4,H',⟨Nat.le_refl _⟩,⟨X13⟩⟩
 case round=>
  clear H';(try clear p2);obtain ⟨aE,rfl,HA,aG,HB⟩:=hrel;cases gk with
  | zero=>exact absurd HA.out (by simp [q0B.l0])
  | succ k1=>
   have H:=HA.out;clear HA;simp only [q0B.l0] at H;by_cases c3:aE < (l0.length:Int)
   ·rw [if_pos c3] at H;have c3b0:=dT c3;clear c3;by_cases c4:0≤aE
    ·rw [if_pos c4] at H;have c4b0:=dT c4;clear c4;by_cases c5:aE < (l0.length:Int)
     ·rw [if_pos c5] at H;have c5b0:=dT c5;clear c5;obtain ⟨aH,aI,H⟩:=oB H;(try dsimp only at H);have A6:=am aI;clear aI;by_cases c7:aH = true
      ·subst c7;replace H:=tP H;obtain rfl:=Option.some.inj H;have aJ:0≤(aE:Int):=of_decide_eq_true X8;have aK:aE < (l0.length:Int):=of_decide_eq_true X8;obtain ⟨aM,e496,aQ⟩:=Kd.at_string aD.out aE aJ aK;cases e496;replace aQ:=cB HB aQ;replace aJ:=eq_true aJ;replace aK:=eq_true aK;go_wp2_with (first|((with_reducible refine q3t (t:=11) rfl ?_);refine q5M (some 16) rfl rfl Tryz.func56 X22 rfl #[.string (rdOf ByteArray.empty l0 aE)] rfl X23 ?_;(with_reducible refine (q2o.calls k1 (rdOf ByteArray.empty l0 aE) true _ A6.out).mono ?_);rintro e w' ⟨rfl,⟨nd,rfl⟩⟩;refine ⟨_,rfl,?_⟩))
       go_ret
       exact ⟨X14,X13⟩
      ·replace c7:=Bool.eq_false_iff.mpr c7;subst c7;replace H:=tN H;have H':=am H;clear H;have aJ:0≤(aE:Int):=of_decide_eq_true X8;have aK:aE < (l0.length:Int):=of_decide_eq_true X8;obtain ⟨aM,e496,aQ⟩:=Kd.at_string aD.out aE aJ aK;cases e496;replace aQ:=cB HB aQ;replace aJ:=eq_true aJ;replace aK:=eq_true aK;go_wp2_with (first|((with_reducible refine q3t (t:=11) rfl ?_);refine q5M (some 16) rfl rfl Tryz.func56 X22 rfl #[.string (rdOf ByteArray.empty l0 aE)] rfl X23 ?_;(with_reducible refine (q2o.calls k1 (rdOf ByteArray.empty l0 aE) false _ A6.out).mono ?_);rintro e w' ⟨rfl,⟨nd,rfl⟩⟩;refine ⟨_,rfl,?_⟩))
       go_roundg k1
       case measure=>have:=aG.out;omega
       case rel=>exact ⟨(wrap64 (aE + 1)),X4,H',⟨by have:=aG.out;omega⟩,⟨X13⟩⟩
     ·exact iN c5 H
    ·exact iN c4 H
   ·rw [if_neg c3] at H;have c3b0:=dF c3;clear c3;obtain rfl:=Option.some.inj H;go_wp2
    go_ret
    exact ⟨X14,X13⟩

def q0W.f (k:Nat) (l0:List ByteArray) (a1:Unit):Option (Bool):=(q0B.f k l0 a1).bind fun aA=>(some (decide (aA≥0)))
theorem q0W.mono:∀ a0 a1 k,LeO (q0W.f k a0 a1) (q0W.f (k + 1) a0 a1):=by
 intro a0 a1 k;unfold q0W.f;exact (by repeat' first|(with_reducible exact q0B.mono _ _ _)|(with_reducible exact LeO.refl _)|(with_reducible exact LeO.none _)|(with_reducible refine LeO.ite ?_ ?_)|(with_reducible refine LeO.bind ?_ (fun _=>?_)) | apply q0B.mono | exact LeO.none _ | refine LeO.ite ?_ ?_ | refine LeO.bind ?_ (fun _=>?_))
theorem q0W.calls (k:Nat) (A0:Option Addr) (c0:Nat) (l0:List ByteArray) (a1:Unit) (r:Bool) (w:World) (aA:Kd.C Kd.string w A0 l0.length l0) (aC:l0.length≤c0) (h:q0W.f k l0 a1 = some r) :
  Calls Tryz.prog 55 #[.slice A0 l0.length c0,.func (.func 56) #[] #[]] w fun e w'=>e = .returned (.bool r)∧Below w.heap.size w w':=by
 have aD:=am aA;have aE:=am aC;clear aA aC;have HB:=am (Below.refl w.heap.size w);have H:=h;clear h;unfold q0W.f at H;obtain ⟨aG,aH,H⟩:=oB H;(try dsimp only at H);have A3:=am aH;clear aH;obtain rfl:=Option.some.inj H;go_enter Tryz.func55,Tryz.ntmps55;go_wp2_with (first|((with_reducible refine gc 88 ?_);refine gL (some 7) Tryz.func88 #[.slice A0 l0.length c0,.func (.func 56) #[] #[]] ?_;(with_reducible refine (q0B.calls k _ _ l0 a1 aG _ ?side1 ?side2 A3.out).mono ?_);(case side1=>exact X24);(case side2=>exact aE.out);rintro e w4 ⟨rfl,hb⟩;refine ⟨_,rfl,?_⟩;replace HB:=bS X13 hb;clear hb))
 go_ret
 exact ⟨X14,X13⟩
mutual
def q0T.j0:Nat → Bool → ByteArray → List (S68) → List (S70) → List (List ByteArray) → Int → ByteArray → Int → List (S28) → Option (Int)
 | 0,_,_,_,_,_,_,_,_,_=>none
 | k + 1,aA,aC,aD,aE,aG,aH,aI,aJ,aK=>if aA = true then (none) else (q0T.l0 k 0 aD (aD.length:Int) 0 aC aD aE aG aH aI aJ aK)
def q0T.l0:Nat → Int → List (S68) → Int → Int → ByteArray → List (S68) → List (S70) → List (List ByteArray) → Int → ByteArray → Int → List (S28) → Option (Int)
 | 0,_,_,_,_,_,_,_,_,_,_,_,_=>none
 | k + 1,x3,aA,aC,aD,aE,aG,aH,aI,aJ,aK,aM,aQ=>if aD < aC then (if 0≤aD then (if aD < (aA.length:Int) then ((q1q.f k ((q2A aA aD).f0)).bind fun aT=>(if aT = true then ((q1F.f k ((q2A aA aD).f1.f0) ((q2A aA aD).f1.f1) ((q2A aA aD).f1.f2) ((q2A aA aD).f1.f3)).bind fun aU=>(if aU = 0 then ((q0Y.f k ((q2A aA aD).f1.f0) ((q2A aA aD).f1.f1) ((q2A aA aD).f1.f2) ((q2A aA aD).f1.f3)).bind fun aW=>(q0T.l0 k (wrap64 (x3 + aW)) aA aC (wrap64 (aD + 1)) aE aG aH aI aJ aK aM aQ)) else (none))) else (none))) else (none)) else (none)) else (q0T.l1 k x3 aH (aH.length:Int) 0 aE aG aH aI aJ aK aM aQ)
def q0T.l1:Nat → Int → List (S70) → Int → Int → ByteArray → List (S68) → List (S70) → List (List ByteArray) → Int → ByteArray → Int → List (S28) → Option (Int)
 | 0,_,_,_,_,_,_,_,_,_,_,_,_=>none
 | k + 1,x3,aA,aC,aD,aE,aG,aH,aI,aJ,aK,aM,aQ=>if aD < aC then (if 0≤aD then (if aD < (aA.length:Int) then (none) else (none)) else (none)) else (q0T.l2 k x3 aI (aI.length:Int) 0 aE aG aH aI aJ aK aM aQ)
def q0T.l2:Nat → Int → List (List ByteArray) → Int → Int → ByteArray → List (S68) → List (S70) → List (List ByteArray) → Int → ByteArray → Int → List (S28) → Option (Int)
 | 0,_,_,_,_,_,_,_,_,_,_,_,_=>none
 | k + 1,x3,aA,aC,aD,aE,aG,aH,aI,aJ,aK,aM,aQ=>if aD < aC then (if 0≤aD then (if aD < (aA.length:Int) then (if ((q1X aA aD).length:Int) = 0 then (none) else (if ((q1X aA aD).length:Int) > 6 then (none) else ((q0W.f k (q1X aA aD) ()).bind fun aT=>(if aT = true then (none) else (q0T.l2 k x3 aA aC (wrap64 (aD + 1)) aE aG aH aI aJ aK aM aQ))))) else (none)) else (none)) else ((q1F.f k aJ aK aM aQ).bind fun aU=>(if aU = 0 then ((q0Y.f k aJ aK aM aQ).bind fun aW=>(if (wrap64 (x3 + aW)) > 200 then (none) else (some 0))) else (none)))
end
def q0T.f (k:Nat) (aA:ByteArray) (aC:List (S68)) (aD:List (S70)) (aE:List (List ByteArray)) (aG:Int) (aH:ByteArray) (aI:Int) (aJ:List (S28)):Option (Int):=(q1z.f k aA).bind fun aK=>(if aK = true then (if (aC.length:Int) > 20 then (q0T.j0 k true aA aC aD aE aG aH aI aJ) else (if (aD.length:Int) > 3 then (q0T.j0 k true aA aC aD aE aG aH aI aJ) else (q0T.j0 k (decide ((aE.length:Int) > 3)) aA aC aD aE aG aH aI aJ))) else (none))
theorem q0T.mono_l:∀ k,(∀ y0 y1 y2 y3 y4 y5 y6 y7 y8,LeO (q0T.j0 k y0 y1 y2 y3 y4 y5 y6 y7 y8) (q0T.j0 (k + 1) y0 y1 y2 y3 y4 y5 y6 y7 y8))∧(∀ y0 y1 y2 y3 y4 y5 y6 y7 y8 y9 aA aC,LeO (q0T.l0 k y0 y1 y2 y3 y4 y5 y6 y7 y8 y9 aA aC) (q0T.l0 (k + 1) y0 y1 y2 y3 y4 y5 y6 y7 y8 y9 aA aC))∧(∀ y0 y1 y2 y3 y4 y5 y6 y7 y8 y9 aA aC,LeO (q0T.l1 k y0 y1 y2 y3 y4 y5 y6 y7 y8 y9 aA aC) (q0T.l1 (k + 1) y0 y1 y2 y3 y4 y5 y6 y7 y8 y9 aA aC))∧(∀ y0 y1 y2 y3 y4 y5 y6 y7 y8 y9 aA aC,LeO (q0T.l2 k y0 y1 y2 y3 y4 y5 y6 y7 y8 y9 aA aC) (q0T.l2 (k + 1) y0 y1 y2 y3 y4 y5 y6 y7 y8 y9 aA aC))
 | 0=>⟨fun _ _ _ _ _ _ _ _ _ r h=>by simp [q0T.j0] at h,fun _ _ _ _ _ _ _ _ _ _ _ _ r h=>by simp [q0T.l0] at h,fun _ _ _ _ _ _ _ _ _ _ _ _ r h=>by simp [q0T.l1] at h,fun _ _ _ _ _ _ _ _ _ _ _ _ r h=>by simp [q0T.l2] at h⟩
 | k + 1=>by
  obtain ⟨aD,aE,aG,aH⟩:=q0T.mono_l k;refine ⟨?_,?_,?_,?_⟩
  ·intro y0 y1 y2 y3 y4 y5 y6 y7 y8;unfold q0T.j0;exact X25
  ·intro y0 y1 y2 y3 y4 y5 y6 y7 y8 y9 aA aC;unfold q0T.l0;exact X25
  ·intro y0 y1 y2 y3 y4 y5 y6 y7 y8 y9 aA aC;unfold q0T.l1;exact X25
  ·intro y0 y1 y2 y3 y4 y5 y6 y7 y8 y9 aA aC;unfold q0T.l2;exact X25
theorem q0T.mono:∀ a0 a1 a2 a3 a4 a5 a6 a7 k,LeO (q0T.f k a0 a1 a2 a3 a4 a5 a6 a7) (q0T.f (k + 1) a0 a1 a2 a3 a4 a5 a6 a7):=by
 intro a0 a1 a2 a3 a4 a5 a6 a7 k;obtain ⟨aA,aC,aD,aE⟩:=q0T.mono_l k;unfold q0T.f;exact (by repeat' first|(with_reducible apply aA)|(with_reducible apply aC)|(with_reducible apply aD)|(with_reducible apply aE)|(with_reducible apply q0Y.mono)|(with_reducible apply q1F.mono)|(with_reducible exact q1q.mono _ _)|(with_reducible exact q0W.mono _ _ _)|(with_reducible exact q1z.mono _ _)|(with_reducible exact LeO.refl _)|(with_reducible exact LeO.none _)|(with_reducible refine LeO.ite ?_ ?_)|(with_reducible refine LeO.bind ?_ (fun _=>?_)) | apply aA | apply aC | apply aD | apply aE | apply q0Y.mono | apply q1F.mono | exact q1q.mono _ _ | apply q0W.mono | exact q1z.mono _ _ | exact LeO.none _ | refine LeO.ite ?_ ?_ | refine LeO.bind ?_ (fun _=>?_))
theorem q0T.calls (k:Nat) (aA:ByteArray) (aC:Option Addr) (aD:Nat) (aE:List (S68)) (aG:Option Addr) (aH:Nat) (aI:List (S70)) (aJ:Option Addr) (aK:Nat) (aM:List (List ByteArray)) (aQ:Int) (aT:ByteArray) (aU:Int) (aW:Option Addr) (aX:Nat) (aY:List (S28)) (r:Int) (w:World) (aZ:Kd.C k68 w aC aE.length aE) (bA:aE.length≤aD) (bB:Kd.C k70 w aG aI.length aI) (bC:aI.length≤aH) (bD:Kd.C (Kd.slice 9 Kd.string) w aJ aM.length aM) (bE:aM.length≤aK) (bF:Kd.C k28 w aW aY.length aY) (bG:aY.length≤aX) (h:q0T.f k aA aE aI aM aQ aT aU aY = some r) :
  Calls Tryz.prog 26 #[.agg #[.string aA,.slice aC aE.length aD,.slice aG aI.length aH,.slice aJ aM.length aK,.int .i64 aQ,.string aT,.int .i64 aU,.slice aW aY.length aX]] w fun e w'=>e = .returned (.int .i64 r)∧Below w.heap.size w w':=by
 have hu30:=Tryz.underlying30;have hu68:=Tryz.underlying68;have hu28:=Tryz.underlying28;have hu70:=Tryz.underlying70;have bH:=am aZ;have HC0_1:=am bA;clear aZ bA;have HR0_2:=am bB;have HC0_2:=am bC;clear bB bC;have bI:=am bD;have HC0_3:=am bE;clear bD bE;have bJ:=am bF;have bK:=am bG;clear bF bG;have HB:=am (Below.refl w.heap.size w);have H:=h;clear h;unfold q0T.f at H;obtain ⟨bL,bM,H⟩:=oB H;(try dsimp only at H);have A2:=am bM;clear bM;by_cases c3:bL = true
 ·subst c3;replace H:=tP H;have bN:=am H;clear H;go_enter Tryz.func26,Tryz.ntmps26;go_upto_region 3 with (first|((with_reducible refine gd 1 ?_);(try (refine q1w (by rfl) ?_;dsimp only));refine be 1 #[.string aA,.slice aC aE.length aD,.slice aG aI.length aH,.slice aJ aM.length aK,.int .i64 aQ,.string aT,.int .i64 aU,.slice aW aY.length aX] 30 ?_;intro bO hg w5 hbox hb;have bP:=am (hbox);have GW499:=sG (w:=w) hg X13;have bQ:=sG (w:=w) hg X13;replace HB:=bS X13 hb;clear hb hbox hg;have Z6:=bc8 bP)|((with_reducible refine gc 53 ?_);refine gL (some 14) Tryz.func53 #[.string aA] ?_;(with_reducible refine (q1z.calls k aA true _ A2.out).mono ?_);rintro e w' ⟨rfl,⟨nd,rfl⟩⟩;refine ⟨_,rfl,?_⟩))
  (try simp only [Act.put,List.setIfInBounds_toArray,List.set_cons_zero,List.set_cons_succ]);go_cut [31] (fun bR wc=>∃ (kq:Nat) (bT:Bool),bR = .bool bT∧q0c (q0T.j0 kq bT aA aE aI aM aQ aT aU aY = some r)∧q0c (kq≤k)∧q0c (wc.heap[bO]? = some (.cells #[.string aA,(.slice aC aE.length aD),(.slice aG aI.length aH),(.slice aJ aM.length aK),.int .i64 aQ,.string aT,.int .i64 aU,(.slice aW aY.length aX)] 30 (0,0)))∧q0c (Below w.heap.size w wc))
  case first=>
   have H:=bN.out;clear bN;by_cases c7:(aE.length:Int) > 20
   ·rw [if_pos c7] at H;have c7b0:decide (20 < (aE.length:Int)) = true:=decide_eq_true c7;have c7b1:decide (20 < aE.length) = true:=decide_eq_true (by omega);clear c7;(first | rw [c7b0]|(simp only [q2G,q2L];rw [c7b0]) | skip);have H':=am H;clear H;have Z8:=bc8 bP;go_wp2
    go_meet
    case rel=>exact ⟨_,(true),X4,H',⟨X7⟩,⟨X26⟩,⟨X27⟩⟩
   ·rw [if_neg c7] at H;have c7b0:decide (20 < (aE.length:Int)) = false:=decide_eq_false c7;have c7b1:decide (20 < aE.length) = false:=decide_eq_false (by omega);clear c7;(first | rw [c7b0]|(simp only [q2G,q2L];rw [c7b0]) | skip);by_cases c9:(aI.length:Int) > 3
    ·rw [if_pos c9] at H;have c9b0:decide (3 < (aI.length:Int)) = true:=decide_eq_true c9;have c9b1:decide (3 < aI.length) = true:=decide_eq_true (by omega);clear c9;have H':=am H;clear H;have bU:=bc8 bP;go_wp2
     go_meet
     case rel=>exact ⟨_,(true),X4,H',⟨X7⟩,⟨X26⟩,⟨X27⟩⟩
    ·rw [if_neg c9] at H;have c9b0:decide (3 < (aI.length:Int)) = false:=decide_eq_false c9;have c9b1:decide (3 < aI.length) = false:=decide_eq_false (by omega);clear c9;have H':=am H;clear H;have bV:=bc8 bP;go_wp2
     go_meet
     case rel=>exact ⟨_,(decide ((aM.length:Int) > 3)),X4,H',⟨X7⟩,⟨X26⟩,⟨X27⟩⟩
  case rest=>
   clear bN;(try clear c2 p2 c3 c5 c7 c7b0 c7b1 c9 c9b0 c9b1 bU bV Z6 Z8);obtain ⟨kq,bT,rfl,HA,bW,bP,HB⟩:=hcut;cases kq with
   | zero=>exact absurd HA.out (by simp [q0T.j0])
   | succ bX=>
    have H:=HA.out;clear HA;simp only [q0T.j0] at H;by_cases bY:bT = true
    ·subst bY;replace H:=tP H;exact absurd H (by simp)
    ·replace bY:=Bool.eq_false_iff.mpr bY;subst bY;replace H:=tN H;have H':=am H;clear H;have bZ:=bc8 bP;go_wp2
     go_loopg [3,35] bX (fun kq v3 cA w'=>∃ (cC:Int) (cD:Int),v3 = .int .i64 cC∧cA = .int .i64 cD∧q0c (q0T.l0 kq cC aE (aE.length:Int) cD aA aE aI aM aQ aT aU aY = some r)∧q0c (kq≤bX)∧q0c (w'.heap[bO]? = some (.cells #[.string aA,(.slice aC aE.length aD),(.slice aG aI.length aH),(.slice aJ aM.length aK),.int .i64 aQ,.string aT,.int .i64 aU,(.slice aW aY.length aX)] 30 (0,0)))∧q0c (Below w.heap.size w w'))
     case atStart=>exact ⟨(0),(0),X4,X4,H',⟨Nat.le_refl _⟩,⟨X26⟩,⟨X27⟩⟩
     case round=>
      clear H';(try clear c1 c2);(try clear p2 p2);(try clear c3 c5 c7 c7b0 c7b1 c9 c9b0 c9b1 bY bU bV bZ Z6 Z8);obtain ⟨cC,cD,rfl,rfl,HA,cE,bP,HB⟩:=hrel;cases gk with
      | zero=>exact absurd HA.out (by simp [q0T.l0])
      | succ k2=>
       have H:=HA.out;clear HA;simp only [q0T.l0] at H;by_cases cF:cD < (aE.length:Int)
       ·rw [if_pos cF] at H;have c14b0:=dT cF;clear cF;by_cases cG:0≤cD
        ·rw [if_pos cG] at H;have c15b0:=dT cG;clear cG;by_cases cH:cD < (aE.length:Int)
         ·rw [if_pos cH] at H;have c16b0:=dT cH;clear cH;obtain ⟨cI,cJ,H⟩:=oB H;(try dsimp only at H);have cK:=am cJ;clear cJ;by_cases cL:cI = true
          ·subst cL;replace H:=tP H;obtain ⟨cM,cN,H⟩:=oB H;(try dsimp only at H);have cO:=am cN;clear cN;by_cases cP:cM = 0
           ·rw [if_pos cP] at H;have c20b0:=eT cP;have c20b1:=eF cP;clear cP;obtain ⟨cQ,cR,H⟩:=oB H;(try dsimp only at H);have cS:=am cR;clear cR;have H':=am H;clear H;have cT:0≤(cD:Int):=of_decide_eq_true X8;have cU:cD < (aE.length:Int):=of_decide_eq_true X8;obtain ⟨ad501,cV,cW,e501,cX,cY,cZ,dA,dB,dC,dD⟩:=at_T68 bH.out cD cT cU;cases e501;replace cX:=cB HB cX;replace cY:=cB HB cY;replace cZ:=cB HB cZ;replace dA:=cB HB dA;replace dB:=cB HB dB;have dE:=am dD;have dG:=am dC;clear dD dC;replace cT:=eq_true cT;replace cU:=eq_true cU;go_wp2_with (first|((with_reducible refine gd 5 ?_);(try (refine q1w (by rfl) ?_;dsimp only));refine be 5 #[.string ⟨#[]⟩,.int .i64 0,.string ⟨#[]⟩,.int .i64 0,.slice none 0 0] 68 ?_;intro gb502 hg w22 hbox hb;have dH:=am (hbox);have GW502:=sG (w:=w) hg X27;have dI:=sG (w:=w) hg X27;replace HB:=bS X27 hb;have dJ:=nLT hg bP;have dK:=nGT hg bP;replace bP:=kB bP hb;clear hb hbox hg;have hnb23:=dK.out;have hnc23:=dJ.out;have dL:=bc5 dH)|((with_reducible refine gc 54 ?_);refine gL (some 41) Tryz.func54 #[.string ((q2A aE cD).f0)] ?_;(with_reducible refine (q1q.calls k2 ((q2A aE cD).f0) true _ cK.out).mono ?_);rintro e w' ⟨rfl,⟨nd,rfl⟩⟩;refine ⟨_,rfl,?_⟩)|((with_reducible refine gc 38 ?_);refine gL (some 45) Tryz.func38 #[.agg #[.int .i64 ((q2A aE cD).f1.f0),.string ((q2A aE cD).f1.f1),.int .i64 ((q2A aE cD).f1.f2),.slice cV ((q2A aE cD).f1.f3).length cW]] ?_;(with_reducible refine (q1F.calls k2 ((q2A aE cD).f1.f0) ((q2A aE cD).f1.f1) ((q2A aE cD).f1.f2) _ _ ((q2A aE cD).f1.f3) cM _ ?side1 ?side2 cO.out).mono ?_);(case side1=>exact Kd.C_below dE.out X28);(case side2=>exact dG.out);rintro e w25 ⟨rfl,hb⟩;refine ⟨_,rfl,?_⟩;replace bP:=kBg1 bP dJ hb;replace dH:=kBg0 dH hb;replace HB:=bS X28 hb;clear hb;have dM:=bc5 dH)|((with_reducible refine gc 14 ?_);refine gL (some 52) Tryz.func14 #[.agg #[.int .i64 ((q2A aE cD).f1.f0),.string ((q2A aE cD).f1.f1),.int .i64 ((q2A aE cD).f1.f2),.slice cV ((q2A aE cD).f1.f3).length cW]] ?_;(with_reducible refine (q0Y.calls k2 ((q2A aE cD).f1.f0) ((q2A aE cD).f1.f1) ((q2A aE cD).f1.f2) _ _ ((q2A aE cD).f1.f3) cQ _ ?side1 ?side2 cS.out).mono ?_);(case side1=>repeat (first | exact (Kd.C_below dE.out HB.out)|(with_reducible refine Kd.C_alloc ?_ _)|(with_reducible refine Kd.C_drewN ?_ _)|(with_reducible refine Kd.C_drew ?_)));(case side2=>exact dG.out);rintro e w27 ⟨rfl,hb⟩;refine ⟨_,rfl,?_⟩;replace bP:=kB bP hb;replace dH:=kB dH hb;replace HB:=bS X28 hb;clear hb))
            go_roundg k2
            case measure=>have:=bW.out;have:=cE.out;omega
            case rel=>exact ⟨(wrap64 (cC + cQ)),(wrap64 (cD + 1)),X4,X4,H',⟨by have:=bW.out;have:=cE.out;omega⟩,⟨X26⟩,⟨X28⟩⟩
           ·exact iN cP H
          ·replace cL:=Bool.eq_false_iff.mpr cL;subst cL;replace H:=tN H;exact absurd H (by simp)
         ·exact iN cH H
        ·exact iN cG H
       ·rw [if_neg cF] at H;have c14b0:=dF cF;clear cF;have H':=am H;clear H;have dN:=bc8 bP;go_wp2
        go_loopg [58] k2 (fun kq dO w'=>∃ (dP:Int),dO = .int .i64 dP∧q0c (q0T.l1 kq cC aI (aI.length:Int) dP aA aE aI aM aQ aT aU aY = some r)∧q0c (kq≤k2)∧q0c (w'.heap[bO]? = some (.cells #[.string aA,(.slice aC aE.length aD),(.slice aG aI.length aH),(.slice aJ aM.length aK),.int .i64 aQ,.string aT,.int .i64 aU,(.slice aW aY.length aX)] 30 (0,0)))∧q0c (Below w.heap.size w w'))
        case atStart=>exact ⟨(0),X4,H',⟨Nat.le_refl _⟩,⟨X26⟩,⟨X27⟩⟩
        case round=>
         clear H';(try clear c1 c2);(try clear p2 p2);(try clear c3 c5 p5 q5 dQ p6 c7 c7b0 c7b1 c9 c9b0 c9b1 bY cF c14b0 cG c15b0 cH c16b0 cL cP c20b0 c20b1 dR dS bU bV bZ dL dM dN Z6 Z8 cX cY cZ dA dB cT cU);obtain ⟨dP,rfl,HA,dU,bP,HB⟩:=hrel;cases gk with
         | zero=>exact absurd HA.out (by simp [q0T.l1])
         | succ k3=>
          have H:=HA.out;clear HA;simp only [q0T.l1] at H;by_cases dV:dP < (aI.length:Int)
          ·rw [if_pos dV] at H;have c29b0:=dT dV;clear dV;by_cases dW:0≤dP
           ·rw [if_pos dW] at H;have c30b0:=dT dW;clear dW;by_cases dX:dP < (aI.length:Int)
            ·rw [if_pos dX] at H;have c31b0:=dT dX;clear dX;exact absurd H (by simp)
            ·exact iN dX H
           ·exact iN dW H
          ·rw [if_neg dV] at H;have c29b0:=dF dV;clear dV;have H':=am H;clear H;have dY:=bc8 bP;go_wp2
           go_loopg [85] k3 (fun kq dZ w'=>∃ (eA:Int),dZ = .int .i64 eA∧q0c (q0T.l2 kq cC aM (aM.length:Int) eA aA aE aI aM aQ aT aU aY = some r)∧q0c (kq≤k3)∧q0c (w'.heap[bO]? = some (.cells #[.string aA,(.slice aC aE.length aD),(.slice aG aI.length aH),(.slice aJ aM.length aK),.int .i64 aQ,.string aT,.int .i64 aU,(.slice aW aY.length aX)] 30 (0,0)))∧q0c (Below w.heap.size w w'))
           case atStart=>exact ⟨(0),X4,H',⟨Nat.le_refl _⟩,⟨X26⟩,⟨X27⟩⟩
           case round=>
            clear H';(try clear c1 c2);(try clear p2 p2);(try clear c3 c5);(try clear p5 p5);(try clear q5 q5);(try clear dQ);(try clear p6 p6);(try clear c7 c7b0 c7b1 c9 c9b0 c9b1 bY cF c14b0 cG c15b0 cH c16b0 cL cP c20b0 c20b1 dR dS dV c29b0 dW c30b0 dX c31b0 bU bV bZ dL dM dN dY Z6 Z8 cX cY cZ dA dB cT cU);obtain ⟨eA,rfl,HA,eB,bP,HB⟩:=hrel;cases gk with
            | zero=>exact absurd HA.out (by simp [q0T.l2])
            | succ k4=>
             have H:=HA.out;clear HA;simp only [q0T.l2] at H;by_cases eC:eA < (aM.length:Int)
             ·rw [if_pos eC] at H;have c33b0:=dT eC;clear eC;by_cases eD:0≤eA
              ·rw [if_pos eD] at H;have c34b0:=dT eD;clear eD;by_cases eE:eA < (aM.length:Int)
               ·rw [if_pos eE] at H;have c35b0:=dT eE;clear eE;by_cases eG:((q1X aM eA).length:Int) = 0
                ·exact iP eG H
                ·rw [if_neg eG] at H;have c36b0:=nF eG;have c36b1:=nT eG;have c36b2 : ¬ ((q1X aM eA) = []):=fun h_=>eG (by rw [h_];rfl);by_cases eH:((q1X aM eA).length:Int) > 6
                 ·exact iP eH H
                 ·rw [if_neg eH] at H;have c37b0:decide (6 < ((q1X aM eA).length:Int)) = false:=decide_eq_false eH;have c37b1:decide (6 < (q1X aM eA).length) = false:=decide_eq_false (by omega);clear eH;obtain ⟨eI,eJ,H⟩:=oB H;(try dsimp only at H);have eK:=am eJ;clear eJ;by_cases eL:eI = true
                  ·subst eL;replace H:=tP H;exact absurd H (by simp)
                  ·replace eL:=Bool.eq_false_iff.mpr eL;subst eL;replace H:=tN H;have H':=am H;clear H;have eM:0≤(eA:Int):=of_decide_eq_true X8;have eN:eA < (aM.length:Int):=of_decide_eq_true X8;obtain ⟨ad508,eO,eP,e508,eQ,eR,eS⟩:=q5i bI.out eA eM eN;cases e508;replace eQ:=cB HB eQ;have eU:=am eS;have eV:=am eR;clear eS eR;replace eM:=eq_true eM;replace eN:=eq_true eN;go_wp2_with (first|((with_reducible refine gc 55 ?_);refine gL (some 99) Tryz.func55 #[.slice eO (q1X aM eA).length eP,.func (.func 56) #[] #[]] ?_;(with_reducible refine (q0W.calls k4 _ _ (q1X aM eA) () false _ ?side1 ?side2 eK.out).mono ?_);(case side1=>repeat (first | exact (Kd.C_below eU.out HB.out)|(with_reducible refine Kd.C_alloc ?_ _)|(with_reducible refine Kd.C_drewN ?_ _)|(with_reducible refine Kd.C_drew ?_)));(case side2=>exact eV.out);rintro e w40 ⟨rfl,hb⟩;refine ⟨_,rfl,?_⟩;replace bP:=kB bP hb;replace HB:=bS X27 hb;clear hb))
                   go_roundg k4
                   case measure=>have:=bW.out;have:=cE.out;have:=dU.out;have:=eB.out;omega
                   case rel=>exact ⟨(wrap64 (eA + 1)),X4,H',⟨by have:=bW.out;have:=cE.out;have:=dU.out;have:=eB.out;omega⟩,⟨X26⟩,⟨X27⟩⟩
               ·exact iN eE H
              ·exact iN eD H
             ·rw [if_neg eC] at H;have c33b0:=dF eC;clear eC;obtain ⟨eW,eX,H⟩:=oB H;(try dsimp only at H);have eY:=am eX;clear eX;by_cases eZ:eW = 0
              ·rw [if_pos eZ] at H;have c42b0:=eT eZ;have c42b1:=eF eZ;clear eZ;obtain ⟨fA,fB,H⟩:=oB H;(try dsimp only at H);have fC:=am fB;clear fB;by_cases fD:(wrap64 (cC + fA)) > 200
               ·exact iP fD H
               ·rw [if_neg fD] at H;have c44b0:decide (200 < (wrap64 (cC + fA))) = false:=decide_eq_false fD;clear fD;obtain rfl:=Option.some.inj H;have Z45:=bc8 bP;go_wp2_with (first|((with_reducible refine gc 38 ?_);refine gL (some 103) Tryz.func38 #[.agg #[.int .i64 aQ,.string aT,.int .i64 aU,.slice aW aY.length aX]] ?_;(with_reducible refine (q1F.calls k4 aQ aT aU _ _ aY eW _ ?side1 ?side2 eY.out).mono ?_);(case side1=>exact X29);(case side2=>exact bK.out);rintro e w46 ⟨rfl,hb⟩;refine ⟨_,rfl,?_⟩;replace bP:=kB bP hb;replace HB:=bS X27 hb;clear hb;have Z47:=bc8 bP)|((with_reducible refine gc 14 ?_);refine gL (some 110) Tryz.func14 #[.agg #[.int .i64 aQ,.string aT,.int .i64 aU,.slice aW aY.length aX]] ?_;(with_reducible refine (q0Y.calls k4 aQ aT aU _ _ aY fA _ ?side1 ?side2 fC.out).mono ?_);(case side1=>exact X29);(case side2=>exact bK.out);rintro e w48 ⟨rfl,hb⟩;refine ⟨_,rfl,?_⟩;replace bP:=kB bP hb;replace HB:=bS X27 hb;clear hb))
                go_ret
                exact ⟨X14,X27⟩
              ·exact iN eZ H
 ·replace c3:=Bool.eq_false_iff.mpr c3;subst c3;replace H:=tN H;exact absurd H (by simp)
end Go.Proofs.YtmffocankommaaaGreatDoor.B
