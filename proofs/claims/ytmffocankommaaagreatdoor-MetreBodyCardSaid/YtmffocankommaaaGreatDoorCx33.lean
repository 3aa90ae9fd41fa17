/- Printed walks: what each function of the program computes. Condition: the Lean function gives a value. -/
import Derived.Test.YtmffocankommaaaGreatDoorCYZed
import Derived.Test.YtmffocankommaaaGreatDoorCx3
import Derived.Test.YtmffocankommaaaGreatDoorCx21
import Derived.Test.YtmffocankommaaaGreatDoorCx22
import Derived.Test.YtmffocankommaaaGreatDoorCx11
namespace Go.Proofs.YtmffocankommaaaGreatDoor.B
open Go.RowKit Go.Proofs.YtmffocankommaaaGreatDoorW.PrintWords Go.Proofs.YtmffocankommaaaGreatDoorW.PrintLast Go.Proofs.YtmffocankommaaaGreatDoorW.PrintMore Go.Proofs.YtmffocankommaaaGreatDoorY Go.Proofs.YtmffocankommaaaGreatDoorS Go.Proofs.YtmffocankommaaaGreatDoorS
attribute [local go_sem] q1v q1N q1O q2f q2h q1D q1C q1P q1Q
set_option linter.unusedVariables false
set_option maxHeartbeats 8000000
set_option maxRecDepth 100000
set_option linter.unusedSimpArgs false
def q1T.f (k:Nat) (aA:Int) (aC:ByteArray) (aD:Int) (aE:List (S28)):Option (ByteArray × Int):=(q1I.f k aA aC aD aE).bind fun aG=>(if aG = 0 then ((q0h.f k aA aC aD aE).bind fun aH=>((q0U.f k aH).bind fun aI=>(some (aI,0)))) else (some ((⟨#[]⟩:ByteArray),aG)))
theorem q1T.mono:∀ a0 a1 a2 a3 k,LeO (q1T.f k a0 a1 a2 a3) (q1T.f (k + 1) a0 a1 a2 a3):=by
 intro a0 a1 a2 a3 k;unfold q1T.f;exact (by repeat' first|(with_reducible apply q1I.mono)|(with_reducible exact q0U.mono _ _)|(with_reducible apply q0h.mono)|(with_reducible exact LeO.refl _)|(with_reducible exact LeO.none _)|(with_reducible refine LeO.ite ?_ ?_)|(with_reducible refine LeO.bind ?_ (fun _=>?_)) | apply q1I.mono | exact q0U.mono _ _ | apply q0h.mono | exact LeO.none _ | refine LeO.ite ?_ ?_ | refine LeO.bind ?_ (fun _=>?_))
theorem q1T.calls (k:Nat) (aA:Int) (aC:ByteArray) (aD:Int) (aE:Option Addr) (aG:Nat) (aH:List (S28)) (r1:ByteArray) (r2:Int) (w:World) (aI:Kd.C k28 w aE aH.length aH) (aJ:aH.length≤aG) (h:q1T.f k aA aC aD aH = some (r1,r2)) :
  Calls Tryz.prog 13 #[.agg #[.int .i64 aA,.string aC,.int .i64 aD,.slice aE aH.length aG]] w fun e w'=>e = .returned (.tuple #[.string r1,.int .i64 r2])∧Below w.heap.size w w':=by
 have hu28:=Tryz.underlying28;have aK:=am aI;have aM:=am aJ;clear aI aJ;have HB:=am (Below.refl w.heap.size w);have H:=h;clear h;unfold q1T.f at H;obtain ⟨aQ,aT,H⟩:=oB H;(try dsimp only at H);have A2:=am aT;clear aT;by_cases c3:aQ = 0
 ·rw [if_pos c3] at H;have c3b0:=eT c3;have c3b1:=eF c3;clear c3;obtain ⟨aU,aW,H⟩:=oB H;(try dsimp only at H);have A4:=am aW;clear aW;obtain ⟨aX,aY,H⟩:=oB H;(try dsimp only at H);have A5:=am aY;clear aY;simp only [Option.some.injEq,Prod.mk.injEq] at H;obtain ⟨rfl,rfl⟩:=H;go_enter Tryz.func13,Tryz.ntmps13;go_wp2_with (first|((with_reducible refine gd 1 ?_);refine be 1 #[.int .i64 aA,.string aC,.int .i64 aD,.slice aE aH.length aG] 28 ?_;intro aZ hg w6 hbox hb;have bA:=am (hbox);have bB:=sG (w:=w) hg X13;have bC:=sG (w:=w) hg X13;replace HB:=bS X13 hb;clear hb hbox hg;have Z7:=bc4 bA)|((with_reducible refine gc 39 ?_);refine gL (some 6) Tryz.func39 #[.agg #[.int .i64 aA,.string aC,.int .i64 aD,.slice aE aH.length aG]] ?_;(with_reducible refine (q1I.calls k aA aC aD _ _ aH aQ _ ?side1 ?side2 A2.out).mono ?_);(case side1=>exact X17);(case side2=>exact aM.out);rintro e w8 ⟨rfl,hb⟩;refine ⟨_,rfl,?_⟩;replace bA:=kB bA hb;replace HB:=bS X70 hb;clear hb;have Z9:=bc4 bA)|((with_reducible refine gc 41 ?_);refine gL (some 11) Tryz.func41 #[.agg #[.int .i64 aA,.string aC,.int .i64 aD,.slice aE aH.length aG]] ?_;(with_reducible refine (q0h.calls k aA aC aD _ _ aH aU _ ?side1 ?side2 A4.out).mono ?_);(case side1=>exact X17);(case side2=>exact aM.out);rintro e w10 ⟨v894,rfl,bD,hb⟩;refine ⟨_,rfl,?_⟩;have bE:=am (Kd.R_lower bD (q0j X70));replace bA:=kB bA hb;replace HB:=bS X70 hb;clear hb;(try clear bD);obtain ⟨bF,bG,bH⟩:=Kd.R_slice bE.out;subst bH)|((with_reducible refine gc 40 ?_);refine gL (some 12) Tryz.func40 #[.slice bF aU.length bG] ?_;(with_reducible refine (q0U.calls k _ _ aU aX _ ?side1 ?side2 A5.out).mono ?_);(case side1=>exact X71);(case side2=>exact (Kd.R_reads' bE.out).2.1);rintro e w' ⟨rfl,⟨nd,rfl⟩⟩;refine ⟨_,rfl,?_⟩))
  go_ret2
  exact ⟨X14,X70⟩
 ·rw [if_neg c3] at H;have c3b0:=nF c3;have c3b1:=nT c3;simp only [Option.some.injEq,Prod.mk.injEq] at H;obtain ⟨rfl,rfl⟩:=H;go_enter Tryz.func13,Tryz.ntmps13;go_wp2_with (first|((with_reducible refine gd 1 ?_);refine be 1 #[.int .i64 aA,.string aC,.int .i64 aD,.slice aE aH.length aG] 28 ?_;intro aZ hg w12 hbox hb;have bA:=am (hbox);have bB:=sG (w:=w) hg X13;have bC:=sG (w:=w) hg X13;replace HB:=bS X13 hb;clear hb hbox hg;have Z13:=bc4 bA)|((with_reducible refine gc 39 ?_);refine gL (some 6) Tryz.func39 #[.agg #[.int .i64 aA,.string aC,.int .i64 aD,.slice aE aH.length aG]] ?_;(with_reducible refine (q1I.calls k aA aC aD _ _ aH aQ _ ?side1 ?side2 A2.out).mono ?_);(case side1=>exact X17);(case side2=>exact aM.out);rintro e w14 ⟨rfl,hb⟩;refine ⟨_,rfl,?_⟩;replace bA:=kB bA hb;replace HB:=bS X70 hb;clear hb))
  go_ret2
  exact ⟨X14,X70⟩

def q0y.l0:Nat → List ByteArray → List ByteArray → Int → Int → Option (Bool)
 | 0,_,_,_,_=>none
 | k + 1,x0,x1,aA,aC=>if aC < aA then (if 0≤aC then (if aC < (x0.length:Int) then (if aC < (x1.length:Int) then (if (rdOf ByteArray.empty x0 aC).toList = (rdOf ByteArray.empty x1 aC).toList then (q0y.l0 k x0 x1 aA (wrap64 (aC + 1))) else (some false)) else (none)) else (none)) else (none)) else (some true)
def q0y.f (k:Nat) (l0:List ByteArray) (l1:List ByteArray):Option (Bool):=if (l0.length:Int) = (l1.length:Int) then (q0y.l0 k l0 l1 (l0.length:Int) 0) else (some false)
theorem q0y.mono_l:∀ k,(∀ y0 y1 y2 y3,LeO (q0y.l0 k y0 y1 y2 y3) (q0y.l0 (k + 1) y0 y1 y2 y3))
 | 0=>fun _ _ _ _ r h=>by simp [q0y.l0] at h
 | k + 1=>by
  have aA:=q0y.mono_l k
  ·intro y0 y1 y2 y3;unfold q0y.l0;exact X129
theorem q0y.mono:∀ a0 a1 k,LeO (q0y.f k a0 a1) (q0y.f (k + 1) a0 a1):=by
 intro a0 a1 k;have aA:=q0y.mono_l k;unfold q0y.f;exact X129
theorem q0y.calls (k:Nat) (A0:Option Addr) (c0:Nat) (l0:List ByteArray) (A1:Option Addr) (c1:Nat) (l1:List ByteArray) (r:Bool) (w:World) (aA:Kd.C Kd.string w A0 l0.length l0) (aC:l0.length≤c0) (aD:Kd.C Kd.string w A1 l1.length l1) (aE:l1.length≤c1) (h:q0y.f k l0 l1 = some r) :
  Calls Tryz.prog 16 #[.slice A0 l0.length c0,.slice A1 l1.length c1] w fun e w'=>e = .returned (.bool r)∧q1Y w w':=by
 have aG:=am aA;have HC0:=am aC;clear aA aC;have aH:=am aD;have HC1:=am aE;clear aD aE;have H:=h;clear h;unfold q0y.f at H;by_cases c3:(l0.length:Int) = (l1.length:Int)
 ·rw [if_pos c3] at H;have c3b0:=eT c3;have c3b1:=eF c3;have c3b2:(l0.length == l1.length) = true:=by first | simpa using c3|(simp at c3 ⊢;omega)
  clear c3;have H':=am H;clear H;go_enter Tryz.func16,Tryz.ntmps16;go_wp2
  repeat (go_quiet (fail);try go_wp2)
  go_loopg [13] k (fun kq aI w'=>∃ (aJ:Int),aI = .int .i64 aJ∧q0c (q0y.l0 kq l0 l1 (l0.length:Int) aJ = some r)∧q0c (kq≤k)∧q1Y w w')
  case atStart=>exact ⟨(0),X4,H',⟨Nat.le_refl _⟩,X5⟩
  case round=>
   clear H';(try clear c1 p2 c3 c3b0 c3b1 c3b2);obtain ⟨aJ,rfl,HA,aK,⟨m1,rfl⟩⟩:=hrel;cases gk with
   | zero=>exact absurd HA.out (by simp [q0y.l0])
   | succ k1=>
    have H:=HA.out;clear HA;simp only [q0y.l0] at H;by_cases c4:aJ < (l0.length:Int)
    ·rw [if_pos c4] at H;have c4b0:=dT c4;clear c4;by_cases c5:0≤aJ
     ·rw [if_pos c5] at H;have c5b0:=dT c5;clear c5;by_cases c6:aJ < (l0.length:Int)
      ·rw [if_pos c6] at H;have c6b0:=dT c6;clear c6;by_cases c7:aJ < (l1.length:Int)
       ·rw [if_pos c7] at H;have c7b0:=dT c7;clear c7;by_cases c8:(rdOf ByteArray.empty l0 aJ).toList = (rdOf ByteArray.empty l1 aJ).toList
        ·rw [if_pos c8] at H;have c8b0:=eT c8;have c8b1:=eF c8;clear c8;have H':=am H;clear H;have aM:0≤(aJ:Int):=of_decide_eq_true X8;have aQ:aJ < (l0.length:Int):=of_decide_eq_true X8;obtain ⟨aT,e897,aU⟩:=Kd.at_string aG.out aJ aM aQ;cases e897;replace aM:=eq_true aM;replace aQ:=eq_true aQ;have aW:0≤(aJ:Int):=of_decide_eq_true X8;have aX:aJ < (l1.length:Int):=of_decide_eq_true X8;obtain ⟨aY,e898,aZ⟩:=Kd.at_string aH.out aJ aW aX;cases e898;replace aW:=eq_true aW;replace aX:=eq_true aX;go_wp2
         repeat (go_quiet (fail);try go_wp2)
         go_roundg k1
         case measure=>have:=aK.out;omega
         case rel=>exact ⟨(wrap64 (aJ + 1)),X4,H',⟨by have:=aK.out;omega⟩,X5⟩
        ·rw [if_neg c8] at H;have c8b0:=nF c8;have c8b1:=nT c8;obtain rfl:=Option.some.inj H;have aM:0≤(aJ:Int):=of_decide_eq_true X8;have aQ:aJ < (l0.length:Int):=of_decide_eq_true X8;obtain ⟨aT,e897,aU⟩:=Kd.at_string aG.out aJ aM aQ;cases e897;replace aM:=eq_true aM;replace aQ:=eq_true aQ;have aW:0≤(aJ:Int):=of_decide_eq_true X8;have aX:aJ < (l1.length:Int):=of_decide_eq_true X8;obtain ⟨aY,e898,aZ⟩:=Kd.at_string aH.out aJ aW aX;cases e898;replace aW:=eq_true aW;replace aX:=eq_true aX;go_wp2
         repeat (go_quiet (fail);try go_wp2)
         go_ret
         exact ⟨X4,X5⟩
       ·exact iN c7 H
      ·exact iN c6 H
     ·exact iN c5 H
    ·rw [if_neg c4] at H;have c4b0:=dF c4;clear c4;obtain rfl:=Option.some.inj H;go_wp2
     repeat (go_quiet (fail);try go_wp2)
     go_ret
     exact ⟨X4,X5⟩
 ·rw [if_neg c3] at H;have c3b0:=nF c3;have c3b1:=nT c3;have c3b2:(l0.length == l1.length) = false:=by first | simpa using c3|(simp at c3 ⊢;omega)
  obtain rfl:=Option.some.inj H;go_enter Tryz.func16,Tryz.ntmps16;go_wp2
  repeat (go_quiet (fail);try go_wp2)
  go_ret
  exact ⟨X4,X5⟩


def cmp_isNaN_string.f (a0:ByteArray):Option (Bool):=some (a0.toList != a0.toList)
def cmp_Less_string.f (a0:ByteArray) (a1:ByteArray):Option (Bool):=(cmp_isNaN_string.f a0).bind fun aA=>(if aA = true then ((cmp_isNaN_string.f a1).bind fun aC=>(if aC = true then (some (Op.bytesLess a0.toList a1.toList)) else (some true))) else (some (Op.bytesLess a0.toList a1.toList)))

mutual
def q0J.l0:Nat → List ByteArray → Int → Int → Int → Option (List ByteArray)
 | 0,_,_,_,_=>none
 | k + 1,x0,x2,x3,x8=>if (wrap64 ((wrap64 (2 * x8)) + 1))≥x2 then (some x0) else (if (wrap64 ((wrap64 ((wrap64 (2 * x8)) + 1)) + 1)) < x2 then (if 0≤(wrap64 (x3 + (wrap64 ((wrap64 (2 * x8)) + 1)))) then (if (wrap64 (x3 + (wrap64 ((wrap64 (2 * x8)) + 1)))) < (x0.length:Int) then (if 0≤(wrap64 ((wrap64 (x3 + (wrap64 ((wrap64 (2 * x8)) + 1)))) + 1)) then (if (wrap64 ((wrap64 (x3 + (wrap64 ((wrap64 (2 * x8)) + 1)))) + 1)) < (x0.length:Int) then ((cmp_Less_string.f (rdOf ByteArray.empty x0 (wrap64 (x3 + (wrap64 ((wrap64 (2 * x8)) + 1))))) (rdOf ByteArray.empty x0 (wrap64 ((wrap64 (x3 + (wrap64 ((wrap64 (2 * x8)) + 1)))) + 1)))).bind fun aA=>(q0J.j1 k x0 x2 x3 x8 (wrap64 ((wrap64 (2 * x8)) + 1)) aA)) else (none)) else (none)) else (none)) else (none)) else (q0J.j1 k x0 x2 x3 x8 (wrap64 ((wrap64 (2 * x8)) + 1)) false))
def q0J.j1:Nat → List ByteArray → Int → Int → Int → Int → Bool → Option (List ByteArray)
 | 0,_,_,_,_,_,_=>none
 | k + 1,x0,x2,x3,x8,x9,aA=>if aA = true then (if 0≤(wrap64 (x3 + x8)) then (if (wrap64 (x3 + x8)) < (x0.length:Int) then (if 0≤(wrap64 (x3 + (wrap64 (x9 + 1)))) then (if (wrap64 (x3 + (wrap64 (x9 + 1)))) < (x0.length:Int) then ((cmp_Less_string.f (rdOf ByteArray.empty x0 (wrap64 (x3 + x8))) (rdOf ByteArray.empty x0 (wrap64 (x3 + (wrap64 (x9 + 1)))))).bind fun aC=>(if aC = true then (q0J.l0 k ((x0.set ((wrap64 (x3 + x8)):Int).toNat (rdOf ByteArray.empty x0 (wrap64 (x3 + (wrap64 (x9 + 1)))))).set ((wrap64 (x3 + (wrap64 (x9 + 1)))):Int).toNat (rdOf ByteArray.empty x0 (wrap64 (x3 + x8)))) x2 x3 (wrap64 (x9 + 1))) else (some x0))) else (none)) else (none)) else (none)) else (none)) else (if 0≤(wrap64 (x3 + x8)) then (if (wrap64 (x3 + x8)) < (x0.length:Int) then (if 0≤(wrap64 (x3 + x9)) then (if (wrap64 (x3 + x9)) < (x0.length:Int) then ((cmp_Less_string.f (rdOf ByteArray.empty x0 (wrap64 (x3 + x8))) (rdOf ByteArray.empty x0 (wrap64 (x3 + x9)))).bind fun aD=>(if aD = true then (q0J.l0 k ((x0.set ((wrap64 (x3 + x8)):Int).toNat (rdOf ByteArray.empty x0 (wrap64 (x3 + x9)))).set ((wrap64 (x3 + x9)):Int).toNat (rdOf ByteArray.empty x0 (wrap64 (x3 + x8)))) x2 x3 x9) else (some x0))) else (none)) else (none)) else (none)) else (none))
end
def q0J.f (k:Nat) (l0:List ByteArray) (a1:Int) (a2:Int) (a3:Int):Option (List ByteArray):=q0J.l0 k l0 a2 a3 a1
theorem q0J.mono_l:∀ k,(∀ y0 y1 y2 y3,LeO (q0J.l0 k y0 y1 y2 y3) (q0J.l0 (k + 1) y0 y1 y2 y3))∧(∀ y0 y1 y2 y3 y4 y5,LeO (q0J.j1 k y0 y1 y2 y3 y4 y5) (q0J.j1 (k + 1) y0 y1 y2 y3 y4 y5))
 | 0=>⟨fun _ _ _ _ r h=>by simp [q0J.l0] at h,fun _ _ _ _ _ _ r h=>by simp [q0J.j1] at h⟩
 | k + 1=>by
  obtain ⟨aA,aC⟩:=q0J.mono_l k;refine ⟨?_,?_⟩
  ·intro y0 y1 y2 y3;unfold q0J.l0;exact X56
  ·intro y0 y1 y2 y3 y4 y5;unfold q0J.j1;exact X56
theorem q0J.mono:∀ a0 a1 a2 a3 k,LeO (q0J.f k a0 a1 a2 a3) (q0J.f (k + 1) a0 a1 a2 a3):=by
 intro a0 a1 a2 a3 k;obtain ⟨aA,aC⟩:=q0J.mono_l k;unfold q0J.f;exact X56




section
open Go Go.Sort
mutual
def q1p.l0:Nat → List ByteArray → List S28 → Int → Option (List ByteArray)
 | 0,_,_,_=>none
 | k + 1,xs,l,i=>if i < (l.length:Int) then (if 0≤i then ((q1p.f k xs (q0b l i).f0 (q0b l i).f1 (q0b l i).f2 (q0b l i).f3).bind fun t=>q1p.l0 k t l (wrap64 (i + 1))) else none) else some xs
def q1p.f:Nat → List ByteArray → Int → ByteArray → Int → List S28 → Option (List ByteArray)
 | 0,_,_,_,_,_=>none
 | k + 1,xs,a0,a1,a2,l=>(q2g.f a0).bind fun b=>if b = true then (if xs.length < 1000000000 then q1p.l0 k (xs++[a1]) l 0 else none) else q1p.l0 k xs l 0
end
theorem q1p.calls (w0:World) (k:Nat):∀ (v0:Value) (xs:List ByteArray) (a0:Int) (a1:ByteArray) (a2:Int) (A:Option Addr) (c:Nat) (l:List S28) (r:List ByteArray) (w:World) (aA:Below w0.heap.size w0 w) (hO:Kd.R Kd.string 9 w w0.heap.size (fun _=>True) v0 xs) (hr:Kd.C k28 w0 A l.length l) (hc:l.length≤c) (h:q1p.f k xs a0 a1 a2 l = some r),
  Calls Tryz.prog 42 #[v0,.agg #[.int .i64 a0,.string a1,.int .i64 a2,.slice A l.length c]] w fun e w'=>∃ v':Value,e = .returned v'∧Kd.R Kd.string 9 w' w0.heap.size (fun _=>True) v' r∧Below w0.heap.size w0 w':=by
 induction k using Nat.strongRecOn with
 | _ k ih=>
 intro v0 xs a0 a1 a2 A c l r w aA hO hr hc h;cases k with
 | zero=>exact absurd h (by simp [q1p.f])
 | succ k=>
 simp only [q1p.f] at h;have hu25:=Tryz.underlying28;have HR:=am hr;have HC:=am hc;clear hr hc;have HB:=am aA;have HO:=am hO;clear aA hO;obtain ⟨b,aC,h⟩:=Option.bind_eq_some_iff.mp h;have A1:=am aC;clear aC;have loop:∀ (W:World) (u:Value) (ys:List ByteArray),q0c (q1p.l0 k ys l 0 = some r) → q0c (Kd.R Kd.string 9 W w0.heap.size (fun _=>True) u ys) → q0c (Below w0.heap.size w0 W) → True:=fun _ _ _ _ _ _=>trivial;clear loop;cases b with
 | true=>
  rw [if_pos rfl] at h;by_cases cl:xs.length < 1000000000
  case neg=>rw [if_neg cl] at h;exact absurd h (by simp)
  rw [if_pos cl] at h;have CL:=am cl;clear cl;have H':=am h;clear h;go_enter Tryz.func42,Tryz.ntmps42;go_wp2_with (first|((with_reducible refine gd 3 ?_);refine be 3 #[.int .i64 a0,.string a1,.int .i64 a2,.slice A l.length c] 28 ?_;intro aD hg w1 hbox hb;have aE:=am hbox;have GE1:=am (show w0.heap.size≤aD by rw [hg];exact HB.out.size);have NV:=am (show some aD≠v0.ownBlock from fun e_=>by have:=Kd.R_lt HO.out aD e_.symm;omega);replace HO:=am (Kd.R_below HO.out hb);replace HB:=am (q3g HB.out HB.out.size hb);clear hb hbox hg;have Z1:=bc4 aE)|((with_reducible refine gc 76 ?_);refine gL (some 9) Tryz.func76 #[.int .i64 a0] ?_;(with_reducible refine (q2g.calls a0 true _ A1.out).mono ?_);rintro e w' ⟨rfl,⟨nd,rfl⟩⟩;refine ⟨_,rfl,?_⟩)|((with_reducible refine q1l (b:=.append) (xs:=#[.tmp 10,.tmp 13]) rfl ?_);(try (refine q1w (by rfl) ?_;dsimp only));at_builtin;refine Kd.R_append Kd.string (w0:=w0) w0.heap.size rfl (.tmp 10) (.tmp 13) 43 9 (.string ⟨#[]⟩) 16 rfl Tryz.underlying43 q2J rfl (by decide) (by omega) v0 xs a1 [.string a1] (fun _=>True) (fun _=>False) rfl rfl ?aP (fun _ hk=>hk.elim) (fun _ _=>trivial) ?aO ?aB ?aS ?aL ?_;(case aP=>exact rfl);(case aO=>exact (aR HO.out));(case aB=>exact X169);(case aS=>exact (X169:Below w0.heap.size w0 _).size);(case aL=>have:=CL.out;omega);intro u2 w2 ho hb hg hat;replace aE:=am (q1k (by (with_reducible repeat (first | refine q0o ?_ _ | refine q0p ?_ | refine q0f ?_ _));exact aE.out) hg NV.out);replace HO:=am ho;replace HB:=am hb;clear ho hb hg hat;have Z2:=bc4 aE))
  clear h;go_loopg [0,18] k (fun kq aG aH w'=>∃ (u:Value) (ys:List ByteArray) (i:Int),aG = u∧aH = .int .i64 i∧q0c (q1p.l0 kq ys l i = some r)∧q0c (kq≤k)∧q0c (Kd.R Kd.string 9 w' w0.heap.size (fun _=>True) u ys)∧q0c (Below w0.heap.size w0 w'))
  case atStart=>exact ⟨_,xs++[a1],0,rfl,rfl,H',⟨Nat.le_refl _⟩,⟨aR HO.out⟩,⟨X169⟩⟩
  case round=>
   clear H';clear Z1 Z2 aE HO HB;obtain ⟨u,ys,i,rfl,rfl,HA,aI,HO,HB⟩:=hrel;cases gk with
   | zero=>exact absurd HA.out (by simp [q1p.l0])
   | succ k1=>
    have H:=HA.out;clear HA;simp only [q1p.l0] at H;by_cases c4:i < (l.length:Int)
    ·rw [if_pos c4] at H;have c4b:=dT c4;by_cases c5:0≤i
     ·rw [if_pos c5] at H;have c5b:=dT c5;obtain ⟨t1,aJ,H⟩:=Option.bind_eq_some_iff.mp H;have A7:=am aJ;clear aJ;have H':=am H;clear H;obtain ⟨aK,A3,c3,e1,aM,aQ,aT,aU,aW,aX⟩:=q2w HR.out i c5 c4;cases e1;replace aM:=cB HB aM;replace aQ:=cB HB aQ;replace aT:=cB HB aT;replace aU:=cB HB aU;have aY:=am aX;have aZ:=am aW;clear aX aW;replace c4:=eq_true c4;replace c5:=eq_true c5;go_wp2_with (first|((with_reducible refine gd 6 ?_);refine be 6 #[.int .i64 0,.string ⟨#[]⟩,.int .i64 0,.slice none 0 0] 28 ?_;intro bA hg w8 hbox hb;have bB:=am hbox;have bC:=am (show w0.heap.size≤bA by rw [hg];exact (X169:Below w0.heap.size w0 _).size);replace HO:=am (Kd.R_below (Kd.R_elderB (aR HO.out) bA (Nat.le_of_eq hg.symm)) hb);replace HB:=am (q3g X169 (by rw [← hg];exact bC.out) hb);clear hb hbox hg;have Z2:=bc4 bB)|((with_reducible refine gc 42 ?_);refine gL (some 24) Tryz.func42 #[u0,.agg #[.int .i64 ((q0b l i).f0),.string ((q0b l i).f1),.int .i64 ((q0b l i).f2),.slice A3 ((q0b l i).f3).length c3]] ?_;(refine (ih k1 X139 u0 ys ((q0b l i).f0) ((q0b l i).f1) ((q0b l i).f2) A3 c3 ((q0b l i).f3) t1 _ ?s1 ?s2 aY.out aZ.out A7.out).mono ?_);(case s1=>exact X170);(case s2=>exact Kd.R_mono (ok:=fun k=>True∧k≠bA) X171 (fun _ _=>trivial));rintro e bD ⟨u',rfl,hO',hb'⟩;refine ⟨_,rfl,?_⟩;clear HO HB;have HO:=am hO';have HB:=am hb';clear hO' hb'))
      go_roundg k1
      case measure=>have:=aI.out;omega
      case rel=>exact ⟨_,t1,wrap64 (i + 1),rfl,X4,H',⟨X139⟩,⟨aR HO.out⟩,⟨X169⟩⟩
     ·exact iN c5 H
    ·rw [if_neg c4] at H;have c4b:=dF c4;obtain rfl:=Option.some.inj H;go_wp2
     go_ret
     exact ⟨_,rfl,aR HO.out,X169⟩
 | false=>
  rw [if_neg (by decide)] at h;have H':=am h;clear h;go_enter Tryz.func42,Tryz.ntmps42;go_wp2_with (first|((with_reducible refine gd 3 ?_);refine be 3 #[.int .i64 a0,.string a1,.int .i64 a2,.slice A l.length c] 28 ?_;intro aD hg w1 hbox hb;have aE:=am hbox;replace HO:=am (Kd.R_below HO.out hb);replace HB:=am (q3g HB.out HB.out.size hb);clear hb hbox hg;have Z1:=bc4 aE)|((with_reducible refine gc 76 ?_);refine gL (some 9) Tryz.func76 #[.int .i64 a0] ?_;(with_reducible refine (q2g.calls a0 false _ A1.out).mono ?_);rintro e w' ⟨rfl,⟨nd,rfl⟩⟩;refine ⟨_,rfl,?_⟩))
  clear h;go_loopg [0,18] k (fun kq aG aH w'=>∃ (u:Value) (ys:List ByteArray) (i:Int),aG = u∧aH = .int .i64 i∧q0c (q1p.l0 kq ys l i = some r)∧q0c (kq≤k)∧q0c (Kd.R Kd.string 9 w' w0.heap.size (fun _=>True) u ys)∧q0c (Below w0.heap.size w0 w'))
  case atStart=>exact ⟨_,xs,0,rfl,rfl,H',⟨Nat.le_refl _⟩,⟨aR HO.out⟩,⟨X169⟩⟩
  case round=>
   clear H';clear Z1 aE HO HB;obtain ⟨u,ys,i,rfl,rfl,HA,aI,HO,HB⟩:=hrel;cases gk with
   | zero=>exact absurd HA.out (by simp [q1p.l0])
   | succ k1=>
    have H:=HA.out;clear HA;simp only [q1p.l0] at H;by_cases c4:i < (l.length:Int)
    ·rw [if_pos c4] at H;have c4b:=dT c4;by_cases c5:0≤i
     ·rw [if_pos c5] at H;have c5b:=dT c5;obtain ⟨t1,aJ,H⟩:=Option.bind_eq_some_iff.mp H;have A7:=am aJ;clear aJ;have H':=am H;clear H;obtain ⟨aK,A3,c3,e1,aM,aQ,aT,aU,aW,aX⟩:=q2w HR.out i c5 c4;cases e1;replace aM:=cB HB aM;replace aQ:=cB HB aQ;replace aT:=cB HB aT;replace aU:=cB HB aU;have aY:=am aX;have aZ:=am aW;clear aX aW;replace c4:=eq_true c4;replace c5:=eq_true c5;go_wp2_with (first|((with_reducible refine gd 6 ?_);refine be 6 #[.int .i64 0,.string ⟨#[]⟩,.int .i64 0,.slice none 0 0] 28 ?_;intro bA hg w8 hbox hb;have bB:=am hbox;have bC:=am (show w0.heap.size≤bA by rw [hg];exact (X169:Below w0.heap.size w0 _).size);replace HO:=am (Kd.R_below (Kd.R_elderB (aR HO.out) bA (Nat.le_of_eq hg.symm)) hb);replace HB:=am (q3g X169 (by rw [← hg];exact bC.out) hb);clear hb hbox hg;have Z2:=bc4 bB)|((with_reducible refine gc 42 ?_);refine gL (some 24) Tryz.func42 #[u0,.agg #[.int .i64 ((q0b l i).f0),.string ((q0b l i).f1),.int .i64 ((q0b l i).f2),.slice A3 ((q0b l i).f3).length c3]] ?_;(refine (ih k1 X139 u0 ys ((q0b l i).f0) ((q0b l i).f1) ((q0b l i).f2) A3 c3 ((q0b l i).f3) t1 _ ?s1 ?s2 aY.out aZ.out A7.out).mono ?_);(case s1=>exact X170);(case s2=>exact Kd.R_mono (ok:=fun k=>True∧k≠bA) X171 (fun _ _=>trivial));rintro e bD ⟨u',rfl,hO',hb'⟩;refine ⟨_,rfl,?_⟩;clear HO HB;have HO:=am hO';have HB:=am hb';clear hO' hb'))
      go_roundg k1
      case measure=>have:=aI.out;omega
      case rel=>exact ⟨_,t1,wrap64 (i + 1),rfl,X4,H',⟨X139⟩,⟨aR HO.out⟩,⟨X169⟩⟩
     ·exact iN c5 H
    ·rw [if_neg c4] at H;have c4b:=dF c4;obtain rfl:=Option.some.inj H;go_wp2
     go_ret
     exact ⟨_,rfl,aR HO.out,X169⟩
def q0L (xs:List ByteArray):List (List UInt8):=xs.map (·.data.toList)
def q2s (ls:List (List UInt8)):List ByteArray:=ls.map fun l=>⟨l.toArray⟩
theorem q3J (xs:List ByteArray):q2s (q0L xs) = xs:=by
 unfold q2s q0L;rw [List.map_map];conv=>rhs;rw [← List.map_id xs]
 exact List.map_congr_left fun l _=>by simp
theorem q3d (ls:List (List UInt8)):q0L (q2s ls) = ls:=by
 unfold q2s q0L;rw [List.map_map];conv=>rhs;rw [← List.map_id ls]
 exact List.map_congr_left fun l _=>by simp
theorem q3s (xs:List ByteArray):encs Value.string xs = (q0L xs).map encStr:=by
 simp [encs,q0L,encStr]
theorem q1G (xs:List ByteArray):(q0L xs).length = xs.length:=by simp [q0L]
def q3E (xs:List ByteArray):List ByteArray:=q2s ((q0L xs).mergeSort fun x y=>decide (x≤y))
theorem q4d (xs:List ByteArray):(q3E xs).length = xs.length:=by simp [q3E,q2s,q0L]
theorem sort_R (w0 w:World) (v:Value) (xs:List ByteArray) (hb:Below w0.heap.size w0 w) (hO:Kd.R Kd.string 9 w w0.heap.size (fun _=>True) v xs) (hl:xs.length < 1000000000000) :
  Calls Tryz.prog 43 #[v] w fun e w'=>e = .returned (.tuple #[])∧Kd.R Kd.string 9 w' w0.heap.size (fun _=>True) v (q3E xs)∧Below w0.heap.size w0 w':=by
 have ho:=Kd.own_of_R hO;rw [q3s] at ho;rcases ho.2 with ⟨hnil,h0⟩ | ⟨g,cap,cur,rfl,hbase,hbk,h1,h2,h3,h4⟩
 ·have hx:xs = []:=List.length_eq_zero_iff.1 h0;subst hx hnil;refine (Tryz.slices_Sort_string_none none 0 w).mono ?_;rintro e w' ⟨rfl,rfl⟩;exact ⟨rfl,by simpa [q3E,q0L,q2s] using hO,hb⟩
 ·have hg:g < w.heap.size:=(Array.getElem?_eq_some_iff.1 hbk).1;have hH:Holds encStr w g 0 (q0L xs).toArray:=holds_of_block hbk (by rw [q1G];simpa using h4);have hc:=Tryz.slices_Sort_string g 0 cap (q0L xs) w hH hg (by rw [q1G];omega);rw [q1G] at hc;refine hc.mono ?_;rintro e w' ⟨rfl,n,os,rfl⟩;have hlen:((q0L xs).mergeSort fun x y=>decide (x≤y)).length = (q0L xs).length:=by simp
  refine ⟨rfl,?_,?_⟩
  ·have h5:=ownsRow_sorted (n:=n) (os:=os) hlen hbase hbk (by rw [q1G];exact h1) h2 h3;rw [q1G] at h5;refine Kd.R_of_own ?_ (fun _ _=>trivial);rw [q4d,q3s];unfold q3E;rw [q3d];exact h5
  ·exact q3Q hb (some g) hb.size (grownBy_sorted _) (fun k hk=>by cases hk;exact hbase)
theorem q6X {W:World} {base:Nat} {v:Value} {zs:List (List UInt8)} (h:W.ownsRow base 9 1 v zs.length (zs.map encStr)):Kd.R Kd.string 9 W base (fun _=>True) v (q2s zs):=by
 refine Kd.R_of_own ?_ (fun _ _=>trivial);rw [q3s,q3d];rwa [show (q2s zs).length = zs.length by simp [q2s]]
def q3k (xs:List ByteArray):List ByteArray:=q2s (Lib.compact (q0L xs))
theorem q7M (w0 w:World) (v:Value) (xs:List ByteArray) (hb:Below w0.heap.size w0 w) (hO:Kd.R Kd.string 9 w w0.heap.size (fun _=>True) v xs) (hl:xs.length < 1000000000000) (hle:(Lib.compact (q0L xs)).length≤xs.length) :
  Calls Tryz.prog 44 #[v] w fun e w'=>∃ v',e = .returned v'∧Kd.R Kd.string 9 w' w0.heap.size (fun _=>True) v' (q3k xs)∧Below w0.heap.size w0 w':=by
 have ho:=Kd.own_of_R hO;rw [q3s] at ho;rcases ho.2 with ⟨hnil,h0⟩ | ⟨g,cap,cur,rfl,hbase,hbk,h1,h2,h3,h4⟩
 ·have hx:xs = []:=List.length_eq_zero_iff.1 h0;subst hx hnil;refine (Tryz.slices_Compact_string_empty none 0 w).mono ?_;rintro e w' ⟨rfl,rfl⟩;refine ⟨_,rfl,?_,hb⟩;have:q3k [] = []:=by simp [q3k,q0L,q2s,Lib.compact,Lib.compactUpTo]
  rw [this];exact hO
 ·have hg:g < w.heap.size:=(Array.getElem?_eq_some_iff.1 hbk).1;have hH:Holds encStr w g 0 (q0L xs).toArray:=holds_of_block hbk (by rw [q1G];simpa using h4);have hc:=Tryz.slices_Compact_string g 0 cap (q0L xs) w hH (by rw [q1G];omega) (by rw [q1G];exact h1);rw [q1G] at hc;refine hc.mono ?_;rintro e w' ⟨rfl,n,rfl⟩;have hlen:(Lib.compact (q0L xs)++List.replicate (xs.length - (Lib.compact (q0L xs)).length) []).length = (q0L xs).length:=by
   rw [List.length_append,List.length_replicate,q1G];omega
  have h5:=ownsRow_sorted (n:=n) (os:=#[]) hlen hbase hbk (by rw [q1G];exact h1) h2 h3;rw [q1G] at h5;have hgr:∀ W:World,grow W #[] = W:=fun W=>by simp [grow]
  rw [hgr] at h5;generalize hz:Lib.compact (q0L xs)++List.replicate (xs.length - (Lib.compact (q0L xs)).length) [] = zs at *
  rw [q1G] at hlen;rw [← hlen] at h5;have h6:=q6X h5;have hzl:(Lib.compact (q0L xs)).length≤(q2s zs).length:=by rw [← hz];unfold q2s;rw [List.length_map,List.length_append];omega
  refine ⟨_,rfl,?_,?_⟩
  ·have h7:=Kd.R_take (m:=(Lib.compact (q0L xs)).length) h6 hzl;have h8:(q2s zs).take (Lib.compact (q0L xs)).length = q3k xs:=by
    rw [← hz];unfold q2s q3k q2s;rw [← List.map_take,List.take_left]
   rw [h8] at h7;exact h7
  ·have:=grownBy_sorted (w:=w) (g:=g) (n:=n) (os:=#[]) zs.toArray;rw [hgr] at this;exact q3Q hb (some g) hb.size this (fun k hk=>by cases hk;exact hbase)
def q2t.f (k:Nat) (a0:Int) (a1:ByteArray) (a2:Int) (l:List S28):Option (List ByteArray):=
 (q1p.f k [] a0 a1 a2 l).bind fun xs=>if xs.length < 1000000000∧(Lib.compact (q0L (q3E xs))).length≤(q3E xs).length then some (q3k (q3E xs)) else none
theorem q2t.calls (k:Nat) (a0:Int) (a1:ByteArray) (a2:Int) (A:Option Addr) (c:Nat) (l:List S28) (r:List ByteArray) (w:World) (hr:Kd.C k28 w A l.length l) (hc:l.length≤c) (h:q2t.f k a0 a1 a2 l = some r) :
  Calls Tryz.prog 17 #[.agg #[.int .i64 a0,.string a1,.int .i64 a2,.slice A l.length c]] w fun e w'=>∃ aA:Value,e = .returned aA∧Kd.R Kd.string 9 w' w.heap.size (fun _=>True) aA r∧Below w.heap.size w w':=by
 have hu25:=Tryz.underlying28;have HR:=am hr;have HC:=am hc;clear hr hc;have HB:=am (Below.refl w.heap.size w);unfold q2t.f at h;obtain ⟨xs,aC,h⟩:=Option.bind_eq_some_iff.mp h;have A1:=am aC;clear aC;split at h
 case isFalse=>cases h
 rename_i hs
 obtain rfl:=Option.some.inj h;have HL:=am hs;clear hs;go_enter Tryz.func17,Tryz.ntmps17;go_wp2_with (first|((with_reducible refine gd 1 ?_);refine be 1 #[.int .i64 a0,.string a1,.int .i64 a2,.slice A l.length c] 28 ?_;intro gb1 hg w1 hbox hb;have aD:=am hbox;replace HB:=am (q3g HB.out HB.out.size hb);clear hb hbox hg;have Z1:=bc4 aD)|((with_reducible refine gc 42 ?_);refine gL (some 5) Tryz.func42 #[.slice none 0 0,.agg #[.int .i64 a0,.string a1,.int .i64 a2,.slice A l.length c]] ?_;(refine (q1p.calls w k (.slice none 0 0) [] a0 a1 a2 A c l xs _ ?s1 (Kd.R_nil _ _ _ _ _) HR.out HC.out A1.out).mono ?_);(case s1=>exact X169);rintro e w11 ⟨u,rfl,hO,hb⟩;refine ⟨_,rfl,?_⟩;replace HB:=am hb;have HO:=am hO;clear hb hO)|((with_reducible refine gc 43 ?_);refine gL (some 7) Tryz.func43 #[u] ?_;(refine (sort_R w _ u xs ?s1 ?s2 (by have:=HL.out.1;omega)).mono ?_);(case s1=>exact X169);(case s2=>exact aR HO.out);rintro e w12 ⟨rfl,hO,hb⟩;refine ⟨_,rfl,?_⟩;replace HB:=am hb;replace HO:=am hO;clear hb hO)|((with_reducible refine gc 44 ?_);refine gL (some 9) Tryz.func44 #[u] ?_;(refine (q7M w _ u (q3E xs) ?s1 ?s2 (by rw [q4d];have:=HL.out.1;omega) HL.out.2).mono ?_);(case s1=>exact X169);(case s2=>exact aR HO.out);rintro e w13 ⟨u2,rfl,hO,hb⟩;refine ⟨_,rfl,?_⟩;replace HB:=am hb;replace HO:=am hO;clear hb hO))
 go_ret
 exact ⟨_,rfl,aR HO.out,X169⟩
theorem q1p.mono_l:∀ k,(∀ xs l i,LeO (q1p.l0 k xs l i) (q1p.l0 (k + 1) xs l i))∧(∀ xs a0 a1 a2 l,LeO (q1p.f k xs a0 a1 a2 l) (q1p.f (k + 1) xs a0 a1 a2 l))
 | 0=>⟨fun _ _ _ r h=>by simp [q1p.l0] at h,fun _ _ _ _ _ r h=>by simp [q1p.f] at h⟩
 | k + 1=>by
  obtain ⟨aA,aC⟩:=q1p.mono_l k;refine ⟨fun xs l i=>?_,fun xs a0 a1 a2 l=>?_⟩
  ·unfold q1p.l0;exact (by repeat' first | apply aA | apply aC | exact LeO.refl _ | exact LeO.none _ | refine LeO.ite ?_ ?_ | refine LeO.bind ?_ (fun _=>?_))
  ·unfold q1p.f;exact (by repeat' first | apply aA | exact LeO.refl _ | exact LeO.none _ | refine LeO.ite ?_ ?_ | refine LeO.bind ?_ (fun _=>?_))
theorem q2t.mono:∀ a0 a1 a2 l k,LeO (q2t.f k a0 a1 a2 l) (q2t.f (k + 1) a0 a1 a2 l):=by
 intro a0 a1 a2 l k;have ih:=(q1p.mono_l k).2;unfold q2t.f;exact LeO.bind (ih _ _ _ _ _) (fun _=>LeO.refl _)
end
def q2m.l0:Nat → List ByteArray → ByteArray → Int → Option (List ByteArray)
 | 0,_,_,_=>none
 | k + 1,l,s,i=>if i < (l.length:Int) then (if 0≤i then (if Op.bytesLess (rdOf ByteArray.empty l i).toList s.toList = true then q2m.l0 k l s (wrap64 (i + 1)) else (if (rdOf ByteArray.empty l i).toList = s.toList then some l else none)) else none) else none
def q2m.f (k:Nat) (l:List ByteArray) (s:ByteArray):Option (List ByteArray):=q2m.l0 k l s 0
theorem q2m.mono_l:∀ k,∀ l s i,LeO (q2m.l0 k l s i) (q2m.l0 (k + 1) l s i)
 | 0=>fun _ _ _ r h=>by simp [q2m.l0] at h
 | k + 1=>fun l s i=>by
  have ih:=q2m.mono_l k;unfold q2m.l0;exact (by repeat' first | apply ih | exact LeO.refl _ | exact LeO.none _ | refine LeO.ite ?_ ?_)
theorem q2m.mono:∀ l s k,LeO (q2m.f k l s) (q2m.f (k + 1) l s):=fun l s k=>q2m.mono_l k l s 0
theorem q2m.calls (k:Nat) (A:Option Addr) (c:Nat) (l:List ByteArray) (s:ByteArray) (r:List ByteArray) (w:World) (hr:Kd.C Kd.string w A l.length l) (hc:l.length≤c) (h:q2m.f k l s = some r) :
  Calls Tryz.prog 45 #[.slice A l.length c,.string s] w fun e w'=>e = .returned (.slice A l.length c)∧r = l∧q1Y w w':=by
 have HR:=am hr;have HC:=am hc;clear hr hc;have H':=am (show q2m.l0 k l s 0 = some r from h);clear h;go_enter Tryz.func45,Tryz.ntmps45;go_wp2
 go_loopg [5] k (fun kq v5 w'=>∃ (i:Int),v5 = .int .i64 i∧q0c (q2m.l0 kq l s i = some r)∧q0c (kq≤k)∧q1Y w w')
 case atStart=>exact ⟨0,rfl,H',⟨Nat.le_refl _⟩,by first | exact q1Y.refl _ | exact ⟨⟨_,rfl⟩⟩⟩
 case round=>
  clear H';obtain ⟨i,rfl,HA,aA,⟨m1,rfl⟩⟩:=hrel;cases gk with
  | zero=>exact absurd HA.out (by simp [q2m.l0])
  | succ k1=>
   have H:=HA.out;clear HA;simp only [q2m.l0] at H;by_cases c4:i < (l.length:Int)
   ·rw [if_pos c4] at H;have c4b:=dT c4;by_cases c5:0≤i
    ·rw [if_pos c5] at H;have c5b:=dT c5;obtain ⟨ad,e1,hx⟩:=Kd.at_string HR.out i c5 c4;cases e1;have c4':=eq_true c4;have c5':=eq_true c5;by_cases c6:Op.bytesLess (rdOf ByteArray.empty l i).toList s.toList = true
     ·rw [if_pos c6] at H;have H':=am H;clear H;go_wp2
      go_roundg k1
      case measure=>have:=aA.out;omega
      case rel=>exact ⟨wrap64 (i + 1),X4,H',⟨by have:=aA.out;omega⟩,by first | exact q1Y.refl _ | exact ⟨⟨_,rfl⟩⟩ | exact ⟨⟨_ + 1,rfl⟩⟩⟩
     ·rw [if_neg c6] at H;have c6b:=Bool.eq_false_iff.mpr c6;by_cases c7:(rdOf ByteArray.empty l i).toList = s.toList
      ·rw [if_pos c7] at H;have c7b:=eT c7;clear c7 c6;obtain rfl:=Option.some.inj H;go_wp2
       go_ret
       refine ⟨rfl,?_⟩;first | exact ⟨rfl,⟨⟨_,rfl⟩⟩⟩ | exact ⟨⟨_,rfl⟩⟩ | exact ⟨rfl,⟨_,rfl⟩⟩ | exact ⟨_,rfl⟩
      ·exact iN c7 H
    ·exact iN c5 H
   ·exact iN c4 H
def q1K.l0:Nat → List ByteArray → ByteArray → Int → Option (List ByteArray)
 | 0,_,_,_=>none
 | k + 1,x0,x1,x5=>if x5 < (x0.length:Int) then (if 0≤x5 then (if (Op.bytesLess ((rdOf ByteArray.empty x0 x5).toList) x1.toList) = true then (q1K.l0 k x0 x1 (wrap64 (x5 + 1))) else (if (rdOf ByteArray.empty x0 x5).toList = x1.toList then (none) else ((some (([]:List ByteArray):List ByteArray)).bind fun aA=>(if x5≤(x0.length:Int) then (if aA.length + (x0.take (x5:Int).toNat).length < 8796093022208 then ((some (aA++(x0.take (x5:Int).toNat):List ByteArray)).bind fun aC=>((some (([x1]:List ByteArray):List ByteArray)).bind fun aD=>(if aC.length + aD.length < 8796093022208 then ((some (aC++aD:List ByteArray)).bind fun aE=>(if aE.length + (x0.drop (x5:Int).toNat).length < 8796093022208 then (some (aE++(x0.drop (x5:Int).toNat))) else (none))) else (none)))) else (none)) else (none))))) else (none)) else ((some (([]:List ByteArray):List ByteArray)).bind fun aG=>(if 0≤x5 then (if x5≤(x0.length:Int) then (if aG.length + (x0.take (x5:Int).toNat).length < 8796093022208 then ((some (aG++(x0.take (x5:Int).toNat):List ByteArray)).bind fun aH=>((some (([x1]:List ByteArray):List ByteArray)).bind fun aI=>(if aH.length + aI.length < 8796093022208 then ((some (aH++aI:List ByteArray)).bind fun aJ=>(if aJ.length + (x0.drop (x5:Int).toNat).length < 8796093022208 then (some (aJ++(x0.drop (x5:Int).toNat))) else (none))) else (none)))) else (none)) else (none)) else (none)))
def q1K.f (k:Nat) (l0:List ByteArray) (a1:ByteArray):Option (List ByteArray):=q1K.l0 k l0 a1 0
theorem q1K.mono_l:∀ k,(∀ y0 y1 y2,LeO (q1K.l0 k y0 y1 y2) (q1K.l0 (k + 1) y0 y1 y2))
 | 0=>fun _ _ _ r h=>by simp [q1K.l0] at h
 | k + 1=>by
  have aA:=q1K.mono_l k
  ·intro y0 y1 y2;unfold q1K.l0;exact X120
theorem q1K.mono:∀ a0 a1 k,LeO (q1K.f k a0 a1) (q1K.f (k + 1) a0 a1):=by
 intro a0 a1 k;have aA:=q1K.mono_l k;unfold q1K.f;exact X120
def q1K.T6:Bool × List (List Nat × List Nat):=(true,[([],[]),([],[]),([],[]),([1,2],[1,2]),([0,3],[0,3]),([],[]),([5],[5]),([4,6,4],[4,6]),([],[]),([],[]),([8,9],[8,9]),([7,10,7],[7,10]),([11,11,0,1,2,3,4,5,6,7,8,9,10,11],[11])])
def q1K.B6:List Nat:=[0,0,0,6,15,0,32,127,0,0,768,2047,4095]
theorem q1K.tab6:rtab .any (q4B Tryz.f45 6) = q1K.T6:=by kernel_rfl
theorem q1K.bits6:q2D q1K.T6.2 q1K.B6 = true:=by kernel_rfl
theorem q1K.calls (k:Nat) (A0:Option Addr) (c0:Nat) (l0:List ByteArray) (a1:ByteArray) (r:List ByteArray) (w:World) (aA:Kd.C Kd.string w A0 l0.length l0) (aC:l0.length≤c0) (h:q1K.f k l0 a1 = some r) :
  Calls Tryz.prog 45 #[.slice A0 l0.length c0,.string a1] w fun e w'=>∃ aD:Value,e = .returned (aD)∧Kd.R Kd.string 9 w' w.heap.size (fun _=>True) aD r∧Below w.heap.size w w':=by
 have aE:=am aA;have aG:=am aC;clear aA aC;have HB:=am (Below.refl w.heap.size w);have H:(q1K.l0 k l0 a1 0) = some r:=h;clear h;have H':=am H;clear H;go_enter Tryz.func45,Tryz.ntmps45;go_wp2
 go_loopg [5] k (fun kq v5 w'=>∃ (aH:Int),v5 = .int .i64 aH∧q0c (q1K.l0 kq l0 a1 aH = some r)∧q0c (kq≤k)∧q0c (Below w.heap.size w w'))
 case atStart=>exact ⟨(0),X4,H',⟨Nat.le_refl _⟩,⟨X13⟩⟩
 case round=>
  clear H';(try clear c2 p2);obtain ⟨aH,rfl,HA,aI,HB⟩:=hrel;cases gk with
  | zero=>exact absurd HA.out (by simp [q1K.l0])
  | succ k1=>
   have H:=HA.out;clear HA;simp only [q1K.l0] at H;by_cases c3:aH < (l0.length:Int)
   ·rw [if_pos c3] at H;have c3b0:=dT c3;clear c3;by_cases c4:0≤aH
    ·rw [if_pos c4] at H;have c4b0:=dT c4;clear c4;by_cases c5:(Op.bytesLess ((rdOf ByteArray.empty l0 aH).toList) a1.toList) = true
     ·rw [if_pos c5] at H;have c5b0:(Op.bytesLess ((rdOf ByteArray.empty l0 aH).toList) a1.toList) = true:=c5;clear c5;have H':=am H;clear H;have aJ:0≤(aH:Int):=of_decide_eq_true X8;have aK:aH < (l0.length:Int):=of_decide_eq_true X8;obtain ⟨aM,e755,aQ⟩:=Kd.at_string aE.out aH aJ aK;cases e755;replace aQ:=cB HB aQ;replace aJ:=eq_true aJ;replace aK:=eq_true aK;go_wp2
      go_roundg k1
      case measure=>have:=aI.out;omega
      case rel=>exact ⟨(wrap64 (aH + 1)),X4,H',⟨X139⟩,⟨X13⟩⟩
     ·rw [if_neg c5] at H;have c5b0:(Op.bytesLess ((rdOf ByteArray.empty l0 aH).toList) a1.toList) = false:=by simpa using c5
      clear c5;by_cases c6:(rdOf ByteArray.empty l0 aH).toList = a1.toList
      ·exact iP c6 H
      ·rw [if_neg c6] at H;have c6b0:=nF c6;have c6b1:=nT c6;obtain ⟨aT,aU⟩:∃ y_:List ByteArray,y_ = (([]:List ByteArray)):=⟨_,rfl⟩;replace H:(if aH≤(l0.length:Int) then (if aT.length + (l0.take (aH:Int).toNat).length < 8796093022208 then ((some (aT++(l0.take (aH:Int).toNat):List ByteArray)).bind fun aW=>((some (([a1]:List ByteArray):List ByteArray)).bind fun aX=>(if aW.length + aX.length < 8796093022208 then ((some (aW++aX:List ByteArray)).bind fun aY=>(if aY.length + (l0.drop (aH:Int).toNat).length < 8796093022208 then (some (aY++(l0.drop (aH:Int).toNat))) else (none))) else (none)))) else (none)) else (none)) = some r:=by first|(rw [aU];with_reducible exact H)|(have aZ:=(Option.bind_some _ _).symm.trans H;rw [aU];with_reducible exact aZ)|(have aZ:=(Option.bind_some _ _).symm.trans H;with_reducible exact aZ) | with_reducible exact H|(rw [aU];exact H) | exact H
       have bA:=am aU;clear aU;have c7b0:=eq_true (of_decide_eq_true X8:0≤aH);by_cases c8:aH≤(l0.length:Int)
       ·rw [if_pos c8] at H;have c8b0:=eq_true c8;have c8b1:=dT c8;clear c8;by_cases c9:aT.length + (l0.take (aH:Int).toNat).length < 8796093022208
        ·rw [if_pos c9] at H;have bB:=am c9;clear c9;obtain ⟨aW,bC,H⟩:=oE H;(try dsimp only at H)
         have bD:=am bC;clear bC;obtain ⟨aX,bE,H⟩:=oE H;(try dsimp only at H)
         have bF:=am bE;clear bE;by_cases c10:aW.length + aX.length < 8796093022208
         ·rw [if_pos c10] at H;have bG:=am c10;clear c10;obtain ⟨aY,bH,H⟩:=oE H;(try dsimp only at H)
          have bI:=am bH;clear bH;have c11b0:=eq_true (of_decide_eq_true X8:0≤aH);have c12b0:=eq_true (of_decide_eq_true X8:aH≤(l0.length:Int));by_cases bJ:aY.length + (l0.drop (aH:Int).toNat).length < 8796093022208
          ·rw [if_pos bJ] at H;have bK:=am bJ;clear bJ;obtain ⟨bL,bM⟩:∃ y_:List ByteArray,y_ = (aY++(l0.drop (aH:Int).toNat)):=⟨_,rfl⟩;rw [← bM] at H;(try rw [oG bL] at H)
           have bN:=am bM;clear bM;obtain rfl:=Option.some.inj H;have aJ:0≤(aH:Int):=of_decide_eq_true X8;have aK:aH < (l0.length:Int):=of_decide_eq_true X8;obtain ⟨aM,e755,aQ⟩:=Kd.at_string aE.out aH aJ aK;cases e755;replace aQ:=cB HB aQ;replace aJ:=eq_true aJ;replace aK:=eq_true aK;have bO:0≤(aH:Int):=of_decide_eq_true X8;have bP:aH < (l0.length:Int):=of_decide_eq_true X8;obtain ⟨bQ,e756,bR⟩:=Kd.at_string aE.out aH bO bP;obtain rfl:aM = bQ:=(by injection e756);replace bR:=cB HB bR;replace bO:=eq_true bO;replace bP:=eq_true bP;try go_wp2
           replace HB:=am (q0D HB.out);obtain ⟨i015,bT,_,bU,_⟩:=info_parts q2J;obtain ⟨hcut15,bV,bW⟩:=q4i (P:=Tryz.prog) Value.string ⟨#[]⟩ 43 9 .i64 Tryz.underlying43 bT bU (some aM) c0 l0 aH (of_decide_eq_true X8) (of_decide_eq_true X8) aG.out;have bX:=am (Kd.C_of_reads (h1:=fun _=>rfl) (bV _ (Kd.reads_of_C aE.out)));have HC760:=am bW;clear bV bW bT bU;obtain ⟨i016,bY,_,bZ,_⟩:=info_parts q2J;obtain ⟨A16,hcut16,cA,cC⟩:=q4e (P:=Tryz.prog) Value.string ⟨#[]⟩ 43 9 .i64 Tryz.underlying43 bY bZ (some aM) c0 l0 aH (of_decide_eq_true X8) (of_decide_eq_true X8) aG.out;have cD:=am (Kd.C_of_reads (h1:=fun _=>rfl) (cA _ (Kd.reads_of_C aE.out)));have HC770:=am cC;clear cA cC bY bZ;refine q2P (n:=13) (S:=fun w'=>True) (ds:=[]) #[false,false,false,false,false,false,false,false,false,false,false,false,false] X22 rfl rfl trivial (fun hHeld=>?_);refine q2d q1K.tab6 q1K.bits6 (fun HT_ HW_=>?_);generalize wr.drew = w14 at HB bX cD hHeld ⊢
           refine pu 1 (some 34) (lb 13 2) HT_ ?_;refine pu 2 (some 35) (lb 13 6) HT_ ?_;refine pu 3 (some 36) (lb 13 14) HT_ ?_;refine pu 5 (some 38) (lb 13 46) HT_ ?_;refine pu 8 (some 41) (lb 13 302) HT_ ?_;refine pu 9 (some 42) (lb 13 814) HT_ ?_;refine pu 10 (some 43) (lb 13 1838) HT_ ?_;refine q4z (σ:=Value × Value × Value) 3 #[true,true,true,true,true,true,true,false,true,true,true,false,false] (fun s_=>[(33,s_.1),(37,s_.2.1),(39,s_.2.2)]) (fun s_ w'=>(Kd.R Kd.string 9 w' w.heap.size (fun k_=>some k_≠(s_.2.2:Value).ownBlock) s_.2.1 aW)∧(Kd.R Kd.string 9 w' w.heap.size (fun k_=>some k_≠(s_.2.1:Value).ownBlock) s_.2.2 aX)∧(Below w.heap.size w w')) ?_ ?_;rotate_left
           ·intro hCont;refine two_ (i:=0) (j:=6) (Ni:=some 33) (Nj:=some 39) #[true,true,true,true,false,true,false,false,true,true,true,false,false] #[false,true,true,true,false,true,true,false,true,true,true,false,false] rfl rfl rfl rfl (q4b HT_.out X22) (by decide) (by decide) (fun K hK=>?_) (fun K hK=>?_)
            ·skip
             refine Kd.R_lit_step Kd.string _ 9 ?hg (N:=33) ?hd (xs:=([]:List ByteArray)) (inner:=[]) (ok:=fun _=>True) (okp:=fun _=>True) ?hr ?hp (fun _ hk=>hk) trivial (Below.refl _ _) (Nat.le_refl _) (by simp) ?_;(case hd=>rfl);(case hg=>rfl);(case hr=>exact X64);(case hp=>exact (Reps.none _ _));intro cE cF cG hb hg_ hnew_;clear hg_ hnew_;(first | rw [← bA.out] at cG|(simp only [Int.reduceToNat] at cG;rw [← bA.out] at cG));have cH:=am (Kd.R_lower cG (q0j X13));replace HB:=bS X13 hb;clear hb cG;refine hK.out _ _ trivial (fun hHeld=>?_);clear hK K;refine q1B (a':=?_) ?_ ?_;rotate_left
             ·exact pA (some 33)
             refine two_ (i:=4) (j:=6) (Ni:=some 37) (Nj:=some 39) #[true,true,true,true,true,true,false,false,true,true,true,false,false] #[true,true,true,true,false,true,true,false,true,true,true,false,false] rfl rfl rfl rfl (q4b HT_.out X22) (by decide) (by decide) (fun K hK=>?_) (fun K hK=>?_)
             ·skip
              refine Kd.R_append_rows_step Kd.string (w0:=w) w.heap.size (by rfl) (.tmp 33) (.tmp 36) 43 9 (.string ⟨#[]⟩) 16 rfl Tryz.underlying43 q2J rfl (by decide) (by omega) cE aT (l0.take (aH:Int).toNat) _ _ _ (fun _=>True) (fun _=>False) rfl rfl ?aO ?aR (fun _ _ h=>h) (fun _ h=>h.elim) ?aF ?aB ?aS ?aL ?_;(case aR=>exact X172);(case aB=>exact X13);(case aF=>exact (fun _ _=>trivial));(case aO=>exact (aR cH.out));(case aS=>exact (q0j X13));(case aL=>exact X173);intro cI cJ ho hb hg hat;rw [← bD.out] at ho;replace HB:=am (hb);have cK:=am (ho);clear cH;clear ho hb hg hat;refine hK.out _ _ trivial (fun hHeld=>?_);clear hK K;refine q1B (a':=?_) ?_ ?_;rotate_left
              ·exact pA (some 37)
              refine oo 6 (some 39) (lb 13 1919) HT_ (fun K hK=>?_);refine Kd.R_lit_step Kd.string _ 9 ?hg (N:=39) ?hd (xs:=([a1]:List ByteArray)) (inner:=[.string a1]) (ok:=fun _=>True) (okp:=fun _=>True) ?hr ?hp (fun _ hk=>hk) trivial (Below.refl _ _) (Nat.le_refl _) (by simp) ?_;(case hd=>rfl);(case hg=>rfl);(case hr=>exact X64);(case hp=>exact (Reps.one (show Kd.M Kd.string _ _ _ a1 [.string a1] from rfl) (Reps.none _ _)));intro cL w20 cM hb hg_ hnew_;clear hg_ hnew_;(first | rw [← bF.out] at cM|(simp only [Int.reduceToNat] at cM;rw [← bF.out] at cM));have cN:=am (Kd.R_lower (Kd.R_new' cM (Kd.R_lt (aR cK.out))) (q0j X13));replace cK:=am (Kd.R_elder' (aR cK.out) (Kd.R_base cM) hb);replace HB:=bS X13 hb;clear hb cM;refine hK.out _ _ trivial (fun hHeld=>?_);clear hK K;refine q1B (a':=?_) ?_ ?_;rotate_left
              ·exact pA (some 39)
              exact q1B (by simp only [q2M,Act.put,List.setIfInBounds_toArray,List.set_cons_zero,List.set_cons_succ]) (hCont (cE,cI,cL) _ ⟨(aR (Kd.R_mono cK.out (fun _ hk=>hk.2))),(aR (Kd.R_mono cN.out (fun _ hk=>hk.2))),X13⟩)
             ·skip
              refine Kd.R_lit_step Kd.string _ 9 ?hg (N:=39) ?hd (xs:=([a1]:List ByteArray)) (inner:=[.string a1]) (ok:=fun _=>True) (okp:=fun _=>True) ?hr ?hp (fun _ hk=>hk) trivial (Below.refl _ _) (Nat.le_refl _) (by simp) ?_;(case hd=>rfl);(case hg=>rfl);(case hr=>exact X64);(case hp=>exact (Reps.one (show Kd.M Kd.string _ _ _ a1 [.string a1] from rfl) (Reps.none _ _)));intro cL cJ cO hb hg_ hnew_;clear hg_ hnew_;(first | rw [← bF.out] at cO|(simp only [Int.reduceToNat] at cO;rw [← bF.out] at cO));have cN:=am (Kd.R_lower (Kd.R_new' cO (Kd.R_lt (aR cH.out))) (q0j X13));replace cH:=am (Kd.R_elder' (aR cH.out) (Kd.R_base cO) hb);replace HB:=bS X13 hb;clear hb cO;refine hK.out _ _ trivial (fun hHeld=>?_);clear hK K;refine q1B (a':=?_) ?_ ?_;rotate_left
              ·exact pA (some 39)
              refine oo 4 (some 37) (lb 13 1919) HT_ (fun K hK=>?_);refine Kd.R_append_rows_step Kd.string (w0:=w) w.heap.size (by rfl) (.tmp 33) (.tmp 36) 43 9 (.string ⟨#[]⟩) 16 rfl Tryz.underlying43 q2J rfl (by decide) (by omega) cE aT (l0.take (aH:Int).toNat) _ _ _ (fun k_=>some k_≠(cL:Value).ownBlock) (fun _=>False) rfl rfl ?aO ?aR (fun _ _ h=>h) (fun _ h=>h.elim) ?aF ?aB ?aS ?aL ?_;(case aR=>exact X172);(case aB=>exact X13);(case aF=>exact (fun k_ hk=>Kd.fresh' (Kd.R_lt (aR cN.out)) k_ hk));(case aO=>exact (aR (Kd.R_mono cH.out (fun _ hk=>hk.2))));(case aS=>exact (q0j X13));(case aL=>exact X173);intro cI cP ho hb hg hat;rw [← bD.out] at ho;replace cN:=am (Kd.R_after (ok:=(fun _=>True)) (aR cN.out) hg hat);replace HB:=am (hb);have cK:=am (ho);clear cH;clear ho hb hg hat;refine hK.out _ _ trivial (fun hHeld=>?_);clear hK K;refine q1B (a':=?_) ?_ ?_;rotate_left
              ·exact pA (some 37)
              exact q1B (by simp only [q2M,Act.put,List.setIfInBounds_toArray,List.set_cons_zero,List.set_cons_succ]) (hCont (cE,cI,cL) _ ⟨(aR cK.out),(aR (Kd.R_mono cN.out (fun _ hk=>hk.2))),X13⟩)
            ·skip
             refine Kd.R_lit_step Kd.string _ 9 ?hg (N:=39) ?hd (xs:=([a1]:List ByteArray)) (inner:=[.string a1]) (ok:=fun _=>True) (okp:=fun _=>True) ?hr ?hp (fun _ hk=>hk) trivial (Below.refl _ _) (Nat.le_refl _) (by simp) ?_;(case hd=>rfl);(case hg=>rfl);(case hr=>exact X64);(case hp=>exact (Reps.one (show Kd.M Kd.string _ _ _ a1 [.string a1] from rfl) (Reps.none _ _)));intro cL cF cG hb hg_ hnew_;clear hg_ hnew_;(first | rw [← bF.out] at cG|(simp only [Int.reduceToNat] at cG;rw [← bF.out] at cG));have cN:=am (Kd.R_lower cG (q0j X13));replace HB:=bS X13 hb;clear hb cG;refine hK.out _ _ trivial (fun hHeld=>?_);clear hK K;refine q1B (a':=?_) ?_ ?_;rotate_left
             ·exact pA (some 39)
             refine oo 0 (some 33) (lb 13 1903) HT_ (fun K hK=>?_);refine Kd.R_lit_step Kd.string _ 9 ?hg (N:=33) ?hd (xs:=([]:List ByteArray)) (inner:=[]) (ok:=fun _=>True) (okp:=fun _=>True) ?hr ?hp (fun _ hk=>hk) trivial (Below.refl _ _) (Nat.le_refl _) (by simp) ?_;(case hd=>rfl);(case hg=>rfl);(case hr=>exact X64);(case hp=>exact (Reps.none _ _));intro cE cJ cO hb hg_ hnew_;clear hg_ hnew_;(first | rw [← bA.out] at cO|(simp only [Int.reduceToNat] at cO;rw [← bA.out] at cO));have cH:=am (Kd.R_lower (Kd.R_new' cO (Kd.R_lt (aR cN.out))) (q0j X13));replace cN:=am (Kd.R_elder' (aR cN.out) (Kd.R_base cO) hb);replace HB:=bS X13 hb;clear hb cO;refine hK.out _ _ trivial (fun hHeld=>?_);clear hK K;refine q1B (a':=?_) ?_ ?_;rotate_left
             ·exact pA (some 33)
             refine oo 4 (some 37) (lb 13 1919) HT_ (fun K hK=>?_);refine Kd.R_append_rows_step Kd.string (w0:=w) w.heap.size (by rfl) (.tmp 33) (.tmp 36) 43 9 (.string ⟨#[]⟩) 16 rfl Tryz.underlying43 q2J rfl (by decide) (by omega) cE aT (l0.take (aH:Int).toNat) _ _ _ (fun k_=>some k_≠(cL:Value).ownBlock) (fun _=>False) rfl rfl ?aO ?aR (fun _ _ h=>h) (fun _ h=>h.elim) ?aF ?aB ?aS ?aL ?_;(case aR=>exact X172);(case aB=>exact X13);(case aF=>exact (fun k_ hk=>Kd.fresh' (Kd.R_lt (aR cN.out)) k_ hk));(case aO=>exact (aR (Kd.R_mono cH.out (fun _ hk=>hk.2))));(case aS=>exact (q0j X13));(case aL=>exact X173);intro cI cP ho hb hg hat;rw [← bD.out] at ho;replace cN:=am (Kd.R_after (ok:=(fun _=>True)) (aR cN.out) hg hat);replace HB:=am (hb);have cK:=am (ho);clear cH;clear ho hb hg hat;refine hK.out _ _ trivial (fun hHeld=>?_);clear hK K;refine q1B (a':=?_) ?_ ?_;rotate_left
             ·exact pA (some 37)
             exact q1B (by simp only [q2M,Act.put,List.setIfInBounds_toArray,List.set_cons_zero,List.set_cons_succ]) (hCont (cE,cI,cL) _ ⟨(aR cK.out),(aR (Kd.R_mono cN.out (fun _ hk=>hk.2))),X13⟩)
           rintro ⟨cE,cI,cL⟩ cQ ⟨cR,cS,cT⟩;have cK:q0c (Kd.R Kd.string 9 cQ w.heap.size (fun k_=>some k_≠(cL:Value).ownBlock) cI aW):=⟨cR⟩;have cN:q0c (Kd.R Kd.string 9 cQ w.heap.size (fun k_=>some k_≠(cI:Value).ownBlock) cL aX):=⟨cS⟩;replace HB:q0c (Below w.heap.size w cQ):=⟨cT⟩;clear cR cS cT;have hHeld:=trivial;obtain ⟨cU,cV,cW⟩:=Kd.R_slice cN.out;(first | subst cW|(injection cW with cX cY cZ;have dA:=cX.symm;have dB:=cZ.symm;clear cX cY cZ;subst dA;subst dB));refine q1B (a':=?_) ?_ ?_;rotate_left
           ·simp only [q2M,Act.put,List.setIfInBounds_toArray,List.set_cons_zero,List.set_cons_succ];rfl
           refine oo 7 (some 40) (lb 13 2047) HT_ (fun K hK=>?_);refine Kd.R_append_rows_step Kd.string (w0:=w) w.heap.size (by rfl) (.tmp 37) (.tmp 39) 43 9 (.string ⟨#[]⟩) 16 rfl Tryz.underlying43 q2J rfl (by decide) (by omega) cI aW aX _ _ _ (fun k_=>some k_≠(.slice cU aX.length cV:Value).ownBlock) (fun _=>False) rfl rfl ?aO ?aR (fun _ _ h=>h) (fun _ h=>h.elim) ?aF ?aB ?aS ?aL ?_;(case aR=>repeat (first | exact (Kd.R_reads' cN.out).2.2|(with_reducible refine Kd.C_alloc ?_ _)|(with_reducible refine Kd.C_drewN ?_ _)|(with_reducible refine Kd.C_drew ?_)));(case aB=>exact X13);(case aF=>exact (fun k_ hk=>Kd.fresh' (Kd.R_lt (aR cN.out)) k_ hk));(case aO=>exact (aR cK.out));(case aS=>exact (q0j X13));(case aL=>have:=bG.out;omega);intro dC w23 ho hb hg hat;rw [← bI.out] at ho;replace cN:=am (Kd.R_after (ok:=(fun _=>True)) (aR (Kd.R_mono cN.out (fun _ hk=>⟨trivial,hk⟩))) hg hat);replace HB:=am (hb);have dD:=am (ho);clear cK;clear ho hb hg hat;refine hK.out _ _ trivial (fun hHeld=>?_);clear hK K;refine q1B (a':=?_) ?_ ?_;rotate_left
           ·exact pA (some 40)
           refine oo 11 (some 44) (lb 13 4095) HT_ (fun K hK=>?_);refine Kd.R_append_rows_step Kd.string (w0:=w) w.heap.size (by rfl) (.tmp 40) (.tmp 43) 43 9 (.string ⟨#[]⟩) 16 rfl Tryz.underlying43 q2J rfl (by decide) (by omega) dC aY (l0.drop (aH:Int).toNat) _ _ _ (fun k_=>some k_≠(.slice cU aX.length cV:Value).ownBlock) (fun _=>False) rfl rfl ?aO ?aR (fun _ _ h=>h) (fun _ h=>h.elim) ?aF ?aB ?aS ?aL ?_;(case aR=>first|(rw [← show (l0.drop (aH:Int).toNat).length = (l0.length - aH.toNat) from List.length_drop];repeat (first | exact (Kd.C_below cD.out HB.out)|(with_reducible refine Kd.C_alloc ?_ _)|(with_reducible refine Kd.C_drewN ?_ _)|(with_reducible refine Kd.C_drew ?_)))|(repeat (first | exact (Kd.C_below cD.out HB.out)|(with_reducible refine Kd.C_alloc ?_ _)|(with_reducible refine Kd.C_drewN ?_ _)|(with_reducible refine Kd.C_drew ?_))));(case aB=>exact X13);(case aF=>exact (fun k_ hk=>Kd.fresh' (Kd.R_lt (aR cN.out)) k_ hk));(case aO=>exact (aR dD.out));(case aS=>exact (q0j X13));(case aL=>have:=bK.out;have hlx_:=(show (l0.drop (aH:Int).toNat).length = (l0.length - aH.toNat) from List.length_drop);omega);intro v772 w25 ho hb hg hat;rw [← bN.out] at ho;replace cN:=am (Kd.R_after (ok:=(fun _=>True)) (aR cN.out) hg hat);replace HB:=am (hb);have dE:=am (ho);clear dD;clear ho hb hg hat;refine hK.out _ _ trivial (fun hHeld=>?_);clear hK K;refine q1B (a':=?_) ?_ ?_;rotate_left
           ·exact pA (some 44)
           refine pu 12 (some 4) (lb 13 8191) HT_ ?_;refine q3q (q2B HT_.out X22) ?_;try go_wp2
           go_ret
           exact ⟨_,X14,aR (Kd.R_mono dE.out (fun _ hk=>trivial)),X13⟩
          ·exact iN bJ H
         ·exact iN c10 H
        ·exact iN c9 H
       ·exact iN c8 H
    ·exact iN c4 H
   ·rw [if_neg c3] at H;have c3b0:=dF c3;clear c3;obtain ⟨dG,dH⟩:∃ y_:List ByteArray,y_ = (([]:List ByteArray)):=⟨_,rfl⟩;replace H:(if 0≤aH then (if aH≤(l0.length:Int) then (if dG.length + (l0.take (aH:Int).toNat).length < 8796093022208 then ((some (dG++(l0.take (aH:Int).toNat):List ByteArray)).bind fun dI=>((some (([a1]:List ByteArray):List ByteArray)).bind fun dJ=>(if dI.length + dJ.length < 8796093022208 then ((some (dI++dJ:List ByteArray)).bind fun dK=>(if dK.length + (l0.drop (aH:Int).toNat).length < 8796093022208 then (some (dK++(l0.drop (aH:Int).toNat))) else (none))) else (none)))) else (none)) else (none)) else (none)) = some r:=by first|(rw [dH];with_reducible exact H)|(have aZ:=(Option.bind_some _ _).symm.trans H;rw [dH];with_reducible exact aZ)|(have aZ:=(Option.bind_some _ _).symm.trans H;with_reducible exact aZ) | with_reducible exact H|(rw [dH];exact H) | exact H
    have dL:=am dH;clear dH;by_cases dM:0≤aH
    ·rw [if_pos dM] at H;have c26b0:=eq_true dM;have c26b1:=dT dM;clear dM;by_cases dN:aH≤(l0.length:Int)
     ·rw [if_pos dN] at H;have c27b0:=eq_true dN;have c27b1:=dT dN;clear dN;by_cases dO:dG.length + (l0.take (aH:Int).toNat).length < 8796093022208
      ·rw [if_pos dO] at H;have dP:=am dO;clear dO;obtain ⟨dI,dQ,H⟩:=oE H;(try dsimp only at H)
       have dR:=am dQ;clear dQ;obtain ⟨dJ,dS,H⟩:=oE H;(try dsimp only at H)
       have dU:=am dS;clear dS;by_cases dV:dI.length + dJ.length < 8796093022208
       ·rw [if_pos dV] at H;have dW:=am dV;clear dV;obtain ⟨dK,dX,H⟩:=oE H;(try dsimp only at H)
        have dY:=am dX;clear dX;have c30b0:=eq_true (of_decide_eq_true X8:0≤aH);have c31b0:=eq_true (of_decide_eq_true X8:aH≤(l0.length:Int));by_cases dZ:dK.length + (l0.drop (aH:Int).toNat).length < 8796093022208
        ·rw [if_pos dZ] at H;have eA:=am dZ;clear dZ;obtain ⟨eB,eC⟩:∃ y_:List ByteArray,y_ = (dK++(l0.drop (aH:Int).toNat)):=⟨_,rfl⟩;rw [← eC] at H;(try rw [oG eB] at H)
         have eD:=am eC;clear eC;obtain rfl:=Option.some.inj H;try go_wp2
         replace HB:=am (q0D HB.out);obtain ⟨i034,eE,_,eG,_⟩:=info_parts q2J;obtain ⟨hcut34,eH,eI⟩:=q4i (P:=Tryz.prog) Value.string ⟨#[]⟩ 43 9 .i64 Tryz.underlying43 eE eG A0 c0 l0 aH (of_decide_eq_true X8) (of_decide_eq_true X8) aG.out;have eJ:=am (Kd.C_of_reads (h1:=fun _=>rfl) (eH _ (Kd.reads_of_C aE.out)));have HC777:=am eI;clear eH eI eE eG;obtain ⟨i035,eK,_,eL,_⟩:=info_parts q2J;obtain ⟨A35,hcut35,eM,eN⟩:=q4e (P:=Tryz.prog) Value.string ⟨#[]⟩ 43 9 .i64 Tryz.underlying43 eK eL A0 c0 l0 aH (of_decide_eq_true X8) (of_decide_eq_true X8) aG.out;have eO:=am (Kd.C_of_reads (h1:=fun _=>rfl) (eM _ (Kd.reads_of_C aE.out)));have HC787:=am eN;clear eM eN eK eL;refine q2P (n:=13) (S:=fun w'=>True) (ds:=[]) #[false,false,false,false,false,false,false,false,false,false,false,false,false] X22 rfl rfl trivial (fun hHeld=>?_);refine q2d q1K.tab6 q1K.bits6 (fun HT_ HW_=>?_);generalize wr.drew = w33 at HB eJ eO hHeld ⊢
         refine pu 1 (some 34) (lb 13 2) HT_ ?_;refine pu 2 (some 35) (lb 13 6) HT_ ?_;refine pu 3 (some 36) (lb 13 14) HT_ ?_;refine pu 5 (some 38) (lb 13 46) HT_ ?_;refine pu 8 (some 41) (lb 13 302) HT_ ?_;refine pu 9 (some 42) (lb 13 814) HT_ ?_;refine pu 10 (some 43) (lb 13 1838) HT_ ?_;refine q4z (σ:=Value × Value × Value) 3 #[true,true,true,true,true,true,true,false,true,true,true,false,false] (fun s_=>[(33,s_.1),(37,s_.2.1),(39,s_.2.2)]) (fun s_ w'=>(Kd.R Kd.string 9 w' w.heap.size (fun k_=>some k_≠(s_.2.2:Value).ownBlock) s_.2.1 dI)∧(Kd.R Kd.string 9 w' w.heap.size (fun k_=>some k_≠(s_.2.1:Value).ownBlock) s_.2.2 dJ)∧(Below w.heap.size w w')) ?_ ?_;rotate_left
         ·intro hCont;refine two_ (i:=0) (j:=6) (Ni:=some 33) (Nj:=some 39) #[true,true,true,true,false,true,false,false,true,true,true,false,false] #[false,true,true,true,false,true,true,false,true,true,true,false,false] rfl rfl rfl rfl (q4b HT_.out X22) (by decide) (by decide) (fun K hK=>?_) (fun K hK=>?_)
          ·skip
           refine Kd.R_lit_step Kd.string _ 9 ?hg (N:=33) ?hd (xs:=([]:List ByteArray)) (inner:=[]) (ok:=fun _=>True) (okp:=fun _=>True) ?hr ?hp (fun _ hk=>hk) trivial (Below.refl _ _) (Nat.le_refl _) (by simp) ?_;(case hd=>rfl);(case hg=>rfl);(case hr=>exact X64);(case hp=>exact (Reps.none _ _));intro eP eQ eR hb hg_ hnew_;clear hg_ hnew_;(first | rw [← dL.out] at eR|(simp only [Int.reduceToNat] at eR;rw [← dL.out] at eR));have eS:=am (Kd.R_lower eR (q0j X13));replace HB:=bS X13 hb;clear hb eR;refine hK.out _ _ trivial (fun hHeld=>?_);clear hK K;refine q1B (a':=?_) ?_ ?_;rotate_left
           ·exact pA (some 33)
           refine two_ (i:=4) (j:=6) (Ni:=some 37) (Nj:=some 39) #[true,true,true,true,true,true,false,false,true,true,true,false,false] #[true,true,true,true,false,true,true,false,true,true,true,false,false] rfl rfl rfl rfl (q4b HT_.out X22) (by decide) (by decide) (fun K hK=>?_) (fun K hK=>?_)
           ·skip
            refine Kd.R_append_rows_step Kd.string (w0:=w) w.heap.size (by rfl) (.tmp 33) (.tmp 36) 43 9 (.string ⟨#[]⟩) 16 rfl Tryz.underlying43 q2J rfl (by decide) (by omega) eP dG (l0.take (aH:Int).toNat) _ _ _ (fun _=>True) (fun _=>False) rfl rfl ?aO ?aR (fun _ _ h=>h) (fun _ h=>h.elim) ?aF ?aB ?aS ?aL ?_;(case aR=>exact X174);(case aB=>exact X13);(case aF=>exact (fun _ _=>trivial));(case aO=>exact (aR eS.out));(case aS=>exact (q0j X13));(case aL=>exact X175);intro eU eV ho hb hg hat;rw [← dR.out] at ho;replace HB:=am (hb);have eW:=am (ho);clear eS;clear ho hb hg hat;refine hK.out _ _ trivial (fun hHeld=>?_);clear hK K;refine q1B (a':=?_) ?_ ?_;rotate_left
            ·exact pA (some 37)
            refine oo 6 (some 39) (lb 13 1919) HT_ (fun K hK=>?_);refine Kd.R_lit_step Kd.string _ 9 ?hg (N:=39) ?hd (xs:=([a1]:List ByteArray)) (inner:=[.string a1]) (ok:=fun _=>True) (okp:=fun _=>True) ?hr ?hp (fun _ hk=>hk) trivial (Below.refl _ _) (Nat.le_refl _) (by simp) ?_;(case hd=>rfl);(case hg=>rfl);(case hr=>exact X64);(case hp=>exact (Reps.one (show Kd.M Kd.string _ _ _ a1 [.string a1] from rfl) (Reps.none _ _)));intro eX w39 eY hb hg_ hnew_;clear hg_ hnew_;(first | rw [← dU.out] at eY|(simp only [Int.reduceToNat] at eY;rw [← dU.out] at eY));have eZ:=am (Kd.R_lower (Kd.R_new' eY (Kd.R_lt (aR eW.out))) (q0j X13));replace eW:=am (Kd.R_elder' (aR eW.out) (Kd.R_base eY) hb);replace HB:=bS X13 hb;clear hb eY;refine hK.out _ _ trivial (fun hHeld=>?_);clear hK K;refine q1B (a':=?_) ?_ ?_;rotate_left
            ·exact pA (some 39)
            exact q1B (by simp only [q2M,Act.put,List.setIfInBounds_toArray,List.set_cons_zero,List.set_cons_succ]) (hCont (eP,eU,eX) _ ⟨(aR (Kd.R_mono eW.out (fun _ hk=>hk.2))),(aR (Kd.R_mono eZ.out (fun _ hk=>hk.2))),X13⟩)
           ·skip
            refine Kd.R_lit_step Kd.string _ 9 ?hg (N:=39) ?hd (xs:=([a1]:List ByteArray)) (inner:=[.string a1]) (ok:=fun _=>True) (okp:=fun _=>True) ?hr ?hp (fun _ hk=>hk) trivial (Below.refl _ _) (Nat.le_refl _) (by simp) ?_;(case hd=>rfl);(case hg=>rfl);(case hr=>exact X64);(case hp=>exact (Reps.one (show Kd.M Kd.string _ _ _ a1 [.string a1] from rfl) (Reps.none _ _)));intro eX eV fA hb hg_ hnew_;clear hg_ hnew_;(first | rw [← dU.out] at fA|(simp only [Int.reduceToNat] at fA;rw [← dU.out] at fA));have eZ:=am (Kd.R_lower (Kd.R_new' fA (Kd.R_lt (aR eS.out))) (q0j X13));replace eS:=am (Kd.R_elder' (aR eS.out) (Kd.R_base fA) hb);replace HB:=bS X13 hb;clear hb fA;refine hK.out _ _ trivial (fun hHeld=>?_);clear hK K;refine q1B (a':=?_) ?_ ?_;rotate_left
            ·exact pA (some 39)
            refine oo 4 (some 37) (lb 13 1919) HT_ (fun K hK=>?_);refine Kd.R_append_rows_step Kd.string (w0:=w) w.heap.size (by rfl) (.tmp 33) (.tmp 36) 43 9 (.string ⟨#[]⟩) 16 rfl Tryz.underlying43 q2J rfl (by decide) (by omega) eP dG (l0.take (aH:Int).toNat) _ _ _ (fun k_=>some k_≠(eX:Value).ownBlock) (fun _=>False) rfl rfl ?aO ?aR (fun _ _ h=>h) (fun _ h=>h.elim) ?aF ?aB ?aS ?aL ?_;(case aR=>exact X174);(case aB=>exact X13);(case aF=>exact (fun k_ hk=>Kd.fresh' (Kd.R_lt (aR eZ.out)) k_ hk));(case aO=>exact (aR (Kd.R_mono eS.out (fun _ hk=>hk.2))));(case aS=>exact (q0j X13));(case aL=>exact X175);intro eU fB ho hb hg hat;rw [← dR.out] at ho;replace eZ:=am (Kd.R_after (ok:=(fun _=>True)) (aR eZ.out) hg hat);replace HB:=am (hb);have eW:=am (ho);clear eS;clear ho hb hg hat;refine hK.out _ _ trivial (fun hHeld=>?_);clear hK K;refine q1B (a':=?_) ?_ ?_;rotate_left
            ·exact pA (some 37)
            exact q1B (by simp only [q2M,Act.put,List.setIfInBounds_toArray,List.set_cons_zero,List.set_cons_succ]) (hCont (eP,eU,eX) _ ⟨(aR eW.out),(aR (Kd.R_mono eZ.out (fun _ hk=>hk.2))),X13⟩)
          ·skip
           refine Kd.R_lit_step Kd.string _ 9 ?hg (N:=39) ?hd (xs:=([a1]:List ByteArray)) (inner:=[.string a1]) (ok:=fun _=>True) (okp:=fun _=>True) ?hr ?hp (fun _ hk=>hk) trivial (Below.refl _ _) (Nat.le_refl _) (by simp) ?_;(case hd=>rfl);(case hg=>rfl);(case hr=>exact X64);(case hp=>exact (Reps.one (show Kd.M Kd.string _ _ _ a1 [.string a1] from rfl) (Reps.none _ _)));intro eX eQ eR hb hg_ hnew_;clear hg_ hnew_;(first | rw [← dU.out] at eR|(simp only [Int.reduceToNat] at eR;rw [← dU.out] at eR));have eZ:=am (Kd.R_lower eR (q0j X13));replace HB:=bS X13 hb;clear hb eR;refine hK.out _ _ trivial (fun hHeld=>?_);clear hK K;refine q1B (a':=?_) ?_ ?_;rotate_left
           ·exact pA (some 39)
           refine oo 0 (some 33) (lb 13 1903) HT_ (fun K hK=>?_);refine Kd.R_lit_step Kd.string _ 9 ?hg (N:=33) ?hd (xs:=([]:List ByteArray)) (inner:=[]) (ok:=fun _=>True) (okp:=fun _=>True) ?hr ?hp (fun _ hk=>hk) trivial (Below.refl _ _) (Nat.le_refl _) (by simp) ?_;(case hd=>rfl);(case hg=>rfl);(case hr=>exact X64);(case hp=>exact (Reps.none _ _));intro eP eV fA hb hg_ hnew_;clear hg_ hnew_;(first | rw [← dL.out] at fA|(simp only [Int.reduceToNat] at fA;rw [← dL.out] at fA));have eS:=am (Kd.R_lower (Kd.R_new' fA (Kd.R_lt (aR eZ.out))) (q0j X13));replace eZ:=am (Kd.R_elder' (aR eZ.out) (Kd.R_base fA) hb);replace HB:=bS X13 hb;clear hb fA;refine hK.out _ _ trivial (fun hHeld=>?_);clear hK K;refine q1B (a':=?_) ?_ ?_;rotate_left
           ·exact pA (some 33)
           refine oo 4 (some 37) (lb 13 1919) HT_ (fun K hK=>?_);refine Kd.R_append_rows_step Kd.string (w0:=w) w.heap.size (by rfl) (.tmp 33) (.tmp 36) 43 9 (.string ⟨#[]⟩) 16 rfl Tryz.underlying43 q2J rfl (by decide) (by omega) eP dG (l0.take (aH:Int).toNat) _ _ _ (fun k_=>some k_≠(eX:Value).ownBlock) (fun _=>False) rfl rfl ?aO ?aR (fun _ _ h=>h) (fun _ h=>h.elim) ?aF ?aB ?aS ?aL ?_;(case aR=>exact X174);(case aB=>exact X13);(case aF=>exact (fun k_ hk=>Kd.fresh' (Kd.R_lt (aR eZ.out)) k_ hk));(case aO=>exact (aR (Kd.R_mono eS.out (fun _ hk=>hk.2))));(case aS=>exact (q0j X13));(case aL=>exact X175);intro eU fB ho hb hg hat;rw [← dR.out] at ho;replace eZ:=am (Kd.R_after (ok:=(fun _=>True)) (aR eZ.out) hg hat);replace HB:=am (hb);have eW:=am (ho);clear eS;clear ho hb hg hat;refine hK.out _ _ trivial (fun hHeld=>?_);clear hK K;refine q1B (a':=?_) ?_ ?_;rotate_left
           ·exact pA (some 37)
           exact q1B (by simp only [q2M,Act.put,List.setIfInBounds_toArray,List.set_cons_zero,List.set_cons_succ]) (hCont (eP,eU,eX) _ ⟨(aR eW.out),(aR (Kd.R_mono eZ.out (fun _ hk=>hk.2))),X13⟩)
         rintro ⟨eP,eU,eX⟩ fC ⟨cR,cS,cT⟩;have eW:q0c (Kd.R Kd.string 9 fC w.heap.size (fun k_=>some k_≠(eX:Value).ownBlock) eU dI):=⟨cR⟩;have eZ:q0c (Kd.R Kd.string 9 fC w.heap.size (fun k_=>some k_≠(eU:Value).ownBlock) eX dJ):=⟨cS⟩;replace HB:q0c (Below w.heap.size w fC):=⟨cT⟩;clear cR cS cT;have hHeld:=trivial;obtain ⟨fD,fE,fF⟩:=Kd.R_slice eZ.out;(first | subst fF|(injection fF with cX cY cZ;have dA:=cX.symm;have dB:=cZ.symm;clear cX cY cZ;subst dA;subst dB));refine q1B (a':=?_) ?_ ?_;rotate_left
         ·simp only [q2M,Act.put,List.setIfInBounds_toArray,List.set_cons_zero,List.set_cons_succ];rfl
         refine oo 7 (some 40) (lb 13 2047) HT_ (fun K hK=>?_);refine Kd.R_append_rows_step Kd.string (w0:=w) w.heap.size (by rfl) (.tmp 37) (.tmp 39) 43 9 (.string ⟨#[]⟩) 16 rfl Tryz.underlying43 q2J rfl (by decide) (by omega) eU dI dJ _ _ _ (fun k_=>some k_≠(.slice fD dJ.length fE:Value).ownBlock) (fun _=>False) rfl rfl ?aO ?aR (fun _ _ h=>h) (fun _ h=>h.elim) ?aF ?aB ?aS ?aL ?_;(case aR=>repeat (first | exact (Kd.R_reads' eZ.out).2.2|(with_reducible refine Kd.C_alloc ?_ _)|(with_reducible refine Kd.C_drewN ?_ _)|(with_reducible refine Kd.C_drew ?_)));(case aB=>exact X13);(case aF=>exact (fun k_ hk=>Kd.fresh' (Kd.R_lt (aR eZ.out)) k_ hk));(case aO=>exact (aR eW.out));(case aS=>exact (q0j X13));(case aL=>have:=dW.out;omega);intro fG w42 ho hb hg hat;rw [← dY.out] at ho;replace eZ:=am (Kd.R_after (ok:=(fun _=>True)) (aR (Kd.R_mono eZ.out (fun _ hk=>⟨trivial,hk⟩))) hg hat);replace HB:=am (hb);have fH:=am (ho);clear eW;clear ho hb hg hat;refine hK.out _ _ trivial (fun hHeld=>?_);clear hK K;refine q1B (a':=?_) ?_ ?_;rotate_left
         ·exact pA (some 40)
         refine oo 11 (some 44) (lb 13 4095) HT_ (fun K hK=>?_);refine Kd.R_append_rows_step Kd.string (w0:=w) w.heap.size (by rfl) (.tmp 40) (.tmp 43) 43 9 (.string ⟨#[]⟩) 16 rfl Tryz.underlying43 q2J rfl (by decide) (by omega) fG dK (l0.drop (aH:Int).toNat) _ _ _ (fun k_=>some k_≠(.slice fD dJ.length fE:Value).ownBlock) (fun _=>False) rfl rfl ?aO ?aR (fun _ _ h=>h) (fun _ h=>h.elim) ?aF ?aB ?aS ?aL ?_;(case aR=>first|(rw [← show (l0.drop (aH:Int).toNat).length = (l0.length - aH.toNat) from List.length_drop];repeat (first | exact (Kd.C_below eO.out HB.out)|(with_reducible refine Kd.C_alloc ?_ _)|(with_reducible refine Kd.C_drewN ?_ _)|(with_reducible refine Kd.C_drew ?_)))|(repeat (first | exact (Kd.C_below eO.out HB.out)|(with_reducible refine Kd.C_alloc ?_ _)|(with_reducible refine Kd.C_drewN ?_ _)|(with_reducible refine Kd.C_drew ?_))));(case aB=>exact X13);(case aF=>exact (fun k_ hk=>Kd.fresh' (Kd.R_lt (aR eZ.out)) k_ hk));(case aO=>exact (aR fH.out));(case aS=>exact (q0j X13));(case aL=>have:=eA.out;have hlx_:=(show (l0.drop (aH:Int).toNat).length = (l0.length - aH.toNat) from List.length_drop);omega);intro v789 w44 ho hb hg hat;rw [← eD.out] at ho;replace eZ:=am (Kd.R_after (ok:=(fun _=>True)) (aR eZ.out) hg hat);replace HB:=am (hb);have fI:=am (ho);clear fH;clear ho hb hg hat;refine hK.out _ _ trivial (fun hHeld=>?_);clear hK K;refine q1B (a':=?_) ?_ ?_;rotate_left
         ·exact pA (some 44)
         refine pu 12 (some 4) (lb 13 8191) HT_ ?_;refine q3q (q2B HT_.out X22) ?_;try go_wp2
         go_ret
         exact ⟨_,X14,aR (Kd.R_mono fI.out (fun _ hk=>trivial)),X13⟩
        ·exact iN dZ H
       ·exact iN dV H
      ·exact iN dO H
     ·exact iN dN H
    ·exact iN dM H
def q1W.f (k:Nat) (l0:List ByteArray) (a1:ByteArray):Option (List ByteArray):=if l0.any (fun x=>x.toList == a1.toList) = true then q2m.f k l0 a1 else q1K.f k l0 a1
theorem q1W.mono:∀ l0 a1 k,LeO (q1W.f k l0 a1) (q1W.f (k + 1) l0 a1):=by
 intro l0 a1 k;unfold q1W.f;exact LeO.ite (q2m.mono _ _ _) (q1K.mono _ _ _)
theorem q1W.calls (k:Nat) (aA:Nat → Prop) (aC:Value) (l0:List ByteArray) (a1:ByteArray) (r:List ByteArray) (w0 w:World) (hB:Below w0.heap.size w0 w) (aD:Kd.R Kd.string 9 w w0.heap.size aA aC l0) (h:q1W.f k l0 a1 = some r) :
  Calls Tryz.prog 45 #[aC,.string a1] w fun e w'=>∃ aE:Value,e = .returned (aE)∧Kd.R Kd.string 9 w' w0.heap.size (fun k_=>(aA k_∨w.heap.size≤k_)) aE r∧Below w0.heap.size w0 w'∧Kept w w' (fun k_=>aA k_):=by
 obtain ⟨A,c,rfl,hc,hC⟩:=Kd.R_reads aD;unfold q1W.f at h;split at h
 ·refine (q2m.calls k A c l0 a1 r w hC hc h).mono ?_;rintro e w' ⟨rfl,rfl,⟨n,rfl⟩⟩;exact ⟨_,rfl,Kd.R_mono (Kd.R_drewN aD n) (fun k hk=>.inl hk),q0z hB n,Kept.drewN (Kept.refl _ _) n⟩
 ·refine (q1K.calls k A c l0 a1 r w hC hc h).mono ?_;rintro e w' ⟨v,rfl,hO,hb⟩;exact ⟨v,rfl,Kd.R_lower (Kd.R_mono (Kd.R_bound hO) (fun k hk=>.inr hk.2.1)) hB.size,q3g hB hB.size hb,Kept.of_below hb _⟩
mutual
def q0g.j0:Nat → List ByteArray → Bool → Int → ByteArray → Int → List (S28) → Option (List ByteArray)
 | 0,_,_,_,_,_,_=>none
 | k + 1,x3,aA,aC,aD,aE,aG=>if aA = true then (q0g.j1 k (([aD]:List ByteArray)) aC aD aE aG) else (q0g.j1 k x3 aC aD aE aG)
def q0g.j1:Nat → List ByteArray → Int → ByteArray → Int → List (S28) → Option (List ByteArray)
 | 0,_,_,_,_,_=>none
 | k + 1,x3,aA,aC,aD,aE=>q0g.l0 k x3 0 aA aC aD aE
def q0g.l0:Nat → List ByteArray → Int → Int → ByteArray → Int → List (S28) → Option (List ByteArray)
 | 0,_,_,_,_,_,_=>none
 | k + 1,x3,x4,aA,aC,aD,aE=>if x4 < (aE.length:Int) then (if 0≤x4 then ((q0g.f k ((q0b aE x4).f0) ((q0b aE x4).f1) ((q0b aE x4).f2) ((q0b aE x4).f3)).bind fun aG=>(q0g.l1 k x3 x4 aG 0 aA aC aD aE)) else (none)) else (some x3)
def q0g.l1:Nat → List ByteArray → Int → List ByteArray → Int → Int → ByteArray → Int → List (S28) → Option (List ByteArray)
 | 0,_,_,_,_,_,_,_,_=>none
 | k + 1,x3,x4,x5,x6,aA,aC,aD,aE=>if x6 < (x5.length:Int) then (if 0≤x6 then ((q1W.f k x3 (rdOf ByteArray.empty x5 x6)).bind fun aG=>(q0g.l1 k aG x4 x5 (wrap64 (x6 + 1)) aA aC aD aE)) else (none)) else (q0g.l0 k x3 (wrap64 (x4 + 1)) aA aC aD aE)
def q0g.f:Nat → Int → ByteArray → Int → List (S28) → Option (List ByteArray)
 | 0,_,_,_,_=>none
 | k + 1,aA,aC,aD,aE=>if aA = 4 then (q0g.j0 k ([]:List ByteArray) true aA aC aD aE) else (if aA = 11 then (q0g.j0 k ([]:List ByteArray) true aA aC aD aE) else (q0g.j0 k ([]:List ByteArray) (aA == 12) aA aC aD aE))
end
theorem q0g.mono_l:∀ k,(∀ y0 y1 y2 y3,LeO (q0g.f k y0 y1 y2 y3) (q0g.f (k + 1) y0 y1 y2 y3))∧(∀ y0 y1 y2 y3 y4 y5,LeO (q0g.j0 k y0 y1 y2 y3 y4 y5) (q0g.j0 (k + 1) y0 y1 y2 y3 y4 y5))∧(∀ y0 y1 y2 y3 y4,LeO (q0g.j1 k y0 y1 y2 y3 y4) (q0g.j1 (k + 1) y0 y1 y2 y3 y4))∧(∀ y0 y1 y2 y3 y4 y5,LeO (q0g.l0 k y0 y1 y2 y3 y4 y5) (q0g.l0 (k + 1) y0 y1 y2 y3 y4 y5))∧(∀ y0 y1 y2 y3 y4 y5 y6 y7,LeO (q0g.l1 k y0 y1 y2 y3 y4 y5 y6 y7) (q0g.l1 (k + 1) y0 y1 y2 y3 y4 y5 y6 y7))
 | 0=>⟨fun _ _ _ _ r h=>by simp [q0g.f] at h,fun _ _ _ _ _ _ r h=>by simp [q0g.j0] at h,fun _ _ _ _ _ r h=>by simp [q0g.j1] at h,fun _ _ _ _ _ _ r h=>by simp [q0g.l0] at h,fun _ _ _ _ _ _ _ _ r h=>by simp [q0g.l1] at h⟩
 | k + 1=>by
  obtain ⟨aA,aC,aD,aE,aG⟩:=q0g.mono_l k;refine ⟨?_,?_,?_,?_,?_⟩
  ·intro y0 y1 y2 y3;unfold q0g.f;exact X176
  ·intro y0 y1 y2 y3 y4 y5;unfold q0g.j0;exact X176
  ·intro y0 y1 y2 y3 y4;unfold q0g.j1;exact X176
  ·intro y0 y1 y2 y3 y4 y5;unfold q0g.l0;exact X176
  ·intro y0 y1 y2 y3 y4 y5 y6 y7;unfold q0g.l1;exact X176
theorem q0g.mono:∀ a0 a1 a2 a3 k,LeO (q0g.f k a0 a1 a2 a3) (q0g.f (k + 1) a0 a1 a2 a3):=by
 intro a0 a1 a2 a3 k;obtain ⟨aA,ih1,ih2,ih3,ih4⟩:=q0g.mono_l k;exact aA a0 a1 a2 a3
theorem q0g.calls (k:Nat):∀ (aA:Int) (aC:ByteArray) (aD:Int) (aE:Option Addr) (aG:Nat) (aH:List (S28)) (r:List ByteArray) (w:World) (aI:Kd.C k28 w aE aH.length aH) (aJ:aH.length≤aG) (h:q0g.f k aA aC aD aH = some r),
  Calls Tryz.prog 18 #[.agg #[.int .i64 aA,.string aC,.int .i64 aD,.slice aE aH.length aG]] w fun e w'=>∃ aK:Value,e = .returned (aK)∧Kd.R Kd.string 9 w' w.heap.size (fun _=>True) aK r∧Below w.heap.size w w':=by
 induction k using Nat.strongRecOn with
 | _ k ih=>
 intro aA aC aD aE aG aH r w aI aJ h;cases k with
 | zero=>exact absurd h (by simp [q0g.f])
 | succ k=>
 simp only [q0g.f] at h;have hu28:=Tryz.underlying28;have aM:=am aI;have HC0_3:=am aJ;clear aI aJ;have HB:=am (Below.refl w.heap.size w);have H:(if aA = 4 then (q0g.j0 k ([]:List ByteArray) true aA aC aD aH) else (if aA = 11 then (q0g.j0 k ([]:List ByteArray) true aA aC aD aH) else (q0g.j0 k ([]:List ByteArray) (aA == 12) aA aC aD aH))) = some r:=h;clear h;have aQ:=am H;clear H;go_enter Tryz.func18,Tryz.ntmps18;go_upto_region 2 with (first|((with_reducible refine gd 1 ?_);refine be 1 #[.int .i64 aA,.string aC,.int .i64 aD,.slice aE aH.length aG] 28 ?_;intro aT hg w3 hbox hb;have aU:=am (hbox);have GW1026:=sG (w:=w) hg X13;have aW:=sG (w:=w) hg X13;replace HB:=bS X13 hb;clear hb hbox hg))
 (try simp only [Act.put,List.setIfInBounds_toArray,List.set_cons_zero,List.set_cons_succ]);go_cut [19] (fun aX wc=>∃ (kq:Nat) (aY:Bool),aX = .bool aY∧q0c (q0g.j0 kq ([]:List ByteArray) aY aA aC aD aH = some r)∧q0c (kq≤k)∧q0c (Kd.R Kd.string 9 wc w.heap.size (fun _=>True) (.slice none 0 0) ([]:List ByteArray))∧q0c (wc.heap[aT]? = some (.cells #[.int .i64 aA,.string aC,.int .i64 aD,(.slice aE aH.length aG)] 28 (0,0)))∧q0c (Below w.heap.size w wc))
 case first=>
  have H:=aQ.out;clear aQ;by_cases c4:aA = 4
  ·rw [if_pos c4] at H;have c4b0:=eT c4;have c4b1:=eF c4;clear c4;(first | rw [c4b0]|(simp only [q2G,q2L];rw [c4b0]) | skip);have H':=am H;clear H;have Z5:=bc4 aU;go_wp2
   go_meet
   case rel=>exact ⟨_,(true),X4,H',⟨X7⟩,⟨X101⟩,⟨X177⟩,⟨X98⟩⟩
  ·rw [if_neg c4] at H;have c4b0:=nF c4;have c4b1:=nT c4;(first | rw [c4b0]|(simp only [q2G,q2L];rw [c4b0]) | skip);by_cases c6:aA = 11
   ·rw [if_pos c6] at H;have c6b0:=eT c6;have c6b1:=eF c6;clear c6;have H':=am H;clear H;have Z7:=bc4 aU;go_wp2
    go_meet
    case rel=>exact ⟨_,(true),X4,H',⟨X7⟩,⟨X101⟩,⟨X177⟩,⟨X98⟩⟩
   ·rw [if_neg c6] at H;have c6b0:=nF c6;have c6b1:=nT c6;have H':=am H;clear H;have Z8:=bc4 aU;go_wp2
    go_meet
    case rel=>exact ⟨_,((aA == 12)),X4,H',⟨X7⟩,⟨X101⟩,⟨X177⟩,⟨X98⟩⟩
 case rest=>
  clear aQ;(try clear c1 p2 c4 c4b0 c4b1 c6 c6b0 c6b1 Z5 Z7 Z8);obtain ⟨kq,aY,rfl,HA,aZ,bA,aU,HB⟩:=hcut;cases kq with
  | zero=>exact absurd HA.out (by simp [q0g.j0])
  | succ bB=>
   have H:=HA.out;clear HA;simp only [q0g.j0] at H;have bC:=am H;clear H;go_upto_if 19 with (fail)
   go_cut [3] (fun v3 wc=>∃ (kq:Nat) (bD:List ByteArray),q0c (q0g.j1 kq bD aA aC aD aH = some r)∧q0c (kq≤bB)∧q0c (Kd.R Kd.string 9 wc w.heap.size (fun _=>True) v3 bD)∧q0c (wc.heap[aT]? = some (.cells #[.int .i64 aA,.string aC,.int .i64 aD,(.slice aE aH.length aG)] 28 (0,0)))∧q0c (Below w.heap.size w wc))
   case first=>
    have H:=bC.out;clear bC;by_cases c10:aY = true
    ·subst c10;replace H:=tP H;obtain ⟨bE,bF⟩:∃ y_:List ByteArray,y_ = (([aC]:List ByteArray)):=⟨_,rfl⟩;rw [← bF] at H;(try rw [oG bE] at H)
     have bH:=am bF;clear bF;have H':=am H;clear H;have bI:=bc4 aU;go_wp2_with (first|((with_reducible refine gd 22 ?_);refine Kd.R_lit Kd.string _ 9 ?hg (N:=22) ?hd (xs:=([aC]:List ByteArray)) (inner:=[.string aC]) (ok:=fun _=>True) (okp:=fun _=>True) ?hr ?hp (fun _ hk=>hk) trivial (Below.refl _ _) (Nat.le_refl _) (by simp) ?_;(case hd=>rfl);(case hg=>rfl);(case hr=>exact X64);(case hp=>exact (Reps.one (show Kd.M Kd.string _ _ _ aC [.string aC] from rfl) (Reps.none _ _)));intro v1028 w12 bJ hb hg_ hnew_;clear hg_ hnew_;(first | rw [← bH.out] at bJ|(simp only [Int.reduceToNat] at bJ;rw [← bH.out] at bJ));have bK:=am (Kd.R_lower (Kd.R_new' bJ (Kd.R_lt (aR bA.out))) (q0j X98));replace bA:=am (Kd.R_elder' (aR bA.out) (Kd.R_base bJ) hb);replace aU:=kB aU hb;replace HB:=bS X98 hb;clear hb bJ))
     go_meet
     case rel=>exact ⟨_,(bE),H',⟨X178⟩,⟨aR (Kd.R_mono bK.out (fun _ hk=>trivial))⟩,⟨X177⟩,⟨X98⟩⟩
    ·replace c10:=Bool.eq_false_iff.mpr c10;subst c10;replace H:=tN H;have H':=am H;clear H;go_wp2
     go_meet
     case rel=>exact ⟨_,(([]:List ByteArray)),H',⟨X178⟩,⟨aR bA.out⟩,⟨X177⟩,⟨X98⟩⟩
   case rest=>
    clear bC;(try clear c1);(try clear p2 p2);(try clear c4 c4b0 c4b1 c6 c6b0 c6b1 c10 bI Z5 Z7 Z8);obtain ⟨kq,bD,HA,bL,bA,aU,HB⟩:=hcut;cases kq with
    | zero=>exact absurd HA.out (by simp [q0g.j1])
    | succ bM=>
     have H:=HA.out;clear HA;simp only [q0g.j1] at H;have H':=am H;clear H;go_wp2
     go_loopg [3,4] bM (fun kq v3 v4 w'=>∃ (bN:List ByteArray) (bO:Int),v4 = .int .i64 bO∧q0c (q0g.l0 kq bN bO aA aC aD aH = some r)∧q0c (kq≤bM)∧q0c (Kd.R Kd.string 9 w' w.heap.size (fun _=>True) v3 bN)∧q0c (w'.heap[aT]? = some (.cells #[.int .i64 aA,.string aC,.int .i64 aD,(.slice aE aH.length aG)] 28 (0,0)))∧q0c (Below w.heap.size w w'))
     case atStart=>exact ⟨(bD),(0),X4,H',⟨Nat.le_refl _⟩,⟨aR bA.out⟩,⟨X177⟩,⟨X98⟩⟩
     case round=>
      clear H';(try clear c1);(try clear p2 p2);(try clear c4 c4b0 c4b1 c6 c6b0 c6b1 c10 bI Z5 Z7 Z8);obtain ⟨bN,bO,rfl,HA,bP,bA,aU,HB⟩:=hrel;cases gk with
      | zero=>exact absurd HA.out (by simp [q0g.l0])
      | succ k3=>
       have H:=HA.out;clear HA;simp only [q0g.l0] at H;by_cases bQ:bO < (aH.length:Int)
       ·rw [if_pos bQ] at H;have c14b0:=dT bQ;clear bQ;by_cases bR:0≤bO
        ·rw [if_pos bR] at H;have c15b0:=dT bR;clear bR;obtain ⟨bT,bU,H⟩:=oB H;(try dsimp only at H);have bV:=am bU;clear bU;have H':=am H;clear H;have bW:=bc4 aU;have bX:0≤(bO:Int):=of_decide_eq_true X8;have bY:bO < (aH.length:Int):=of_decide_eq_true X8;obtain ⟨bZ,cA,cC,e1030,cD,cE,cF,cG,cH,cI⟩:=q2w aM.out bO bX bY;cases e1030;replace cD:=cB HB cD;replace cE:=cB HB cE;replace cF:=cB HB cF;replace cG:=cB HB cG;have cJ:=am cI;have cK:=am cH;clear cI cH;replace bX:=eq_true bX;replace bY:=eq_true bY;go_wp2_with (first|((with_reducible refine gc 18 ?_);refine gL (some 35) Tryz.func18 #[.agg #[.int .i64 ((q0b aH bO).f0),.string ((q0b aH bO).f1),.int .i64 ((q0b aH bO).f2),.slice cA ((q0b aH bO).f3).length cC]] ?_;(with_reducible refine (ih k3 (by have:=aZ.out;have:=bL.out;have:=bP.out;omega) ((q0b aH bO).f0) ((q0b aH bO).f1) ((q0b aH bO).f2) _ _ ((q0b aH bO).f3) bT _ ?side1 ?side2 bV.out).mono ?_);(case side1=>repeat (first | exact (Kd.C_below cJ.out HB.out)|(with_reducible refine Kd.C_alloc ?_ _)|(with_reducible refine Kd.C_drewN ?_ _)|(with_reducible refine Kd.C_drew ?_)));(case side2=>exact cK.out);rintro e w18 ⟨cL,rfl,cM,hb⟩;refine ⟨_,rfl,?_⟩;have cN:=am (Kd.R_lower (Kd.R_new' cM (Kd.R_lt (aR bA.out))) (q0j X98));replace bA:=am (Kd.R_elder' (aR bA.out) (Kd.R_base cM) hb);replace aU:=kB aU hb;replace HB:=bS X98 hb;clear hb;(try clear cM)))
         go_loopg [3,6] k3 (fun kq v3 v6 w'=>∃ (cO:List ByteArray) (cP:Int),v6 = .int .i64 cP∧q0c (q0g.l1 kq cO bO bT cP aA aC aD aH = some r)∧q0c (kq≤k3)∧q0c (Kd.R Kd.string 9 w' w.heap.size (fun k_=>some k_≠(cL:Value).ownBlock) v3 cO)∧q0c (Kd.R Kd.string 9 w' w.heap.size (fun k_=>some k_≠(v3:Value).ownBlock) cL bT)∧q0c (w'.heap[aT]? = some (.cells #[.int .i64 aA,.string aC,.int .i64 aD,(.slice (some bZ) aH.length aG)] 28 (0,0)))∧q0c (Below w.heap.size w w'))
         case atStart=>exact ⟨(bN),(0),X4,H',⟨Nat.le_refl _⟩,⟨aR (Kd.R_mono bA.out (fun _ hk=>hk.2))⟩,⟨aR (Kd.R_mono cN.out (fun _ hk=>hk.2))⟩,⟨X177⟩,⟨X98⟩⟩
         case round=>
          clear H';(try clear c1 p1 q1 hx1);(try clear p2 p2);(try clear c4 c4b0 c4b1 c6 c6b0 c6b1 c10 p10 q10 hx10 bQ c14b0 bR c15b0 c18 bI bW Z5 Z7 Z8 cD cE cF cG bX bY);obtain ⟨cO,cP,rfl,HA,cQ,bA,cR,aU,HB⟩:=hrel;cases gk with
          | zero=>exact absurd HA.out (by simp [q0g.l1])
          | succ k4=>
           have H:=HA.out;clear HA;simp only [q0g.l1] at H;by_cases cS:cP < (bT.length:Int)
           ·rw [if_pos cS] at H;have c19b0:=dT cS;clear cS;by_cases cT:0≤cP
            ·rw [if_pos cT] at H;have c20b0:=dT cT;clear cT;obtain ⟨cU,cV,H⟩:=oB H;(try dsimp only at H);have cW:=am cV;clear cV;have H':=am H;clear H;obtain ⟨Ao22,cX,cY⟩:=Kd.R_slice cR.out;subst cY;have cZ:0≤(cP:Int):=of_decide_eq_true X8;have dA:cP < (bT.length:Int):=of_decide_eq_true X8;obtain ⟨dB,e1034,hx1034_0⟩:=Kd.at_string (Kd.R_reads' cR.out).2.2 cP cZ dA;cases e1034;replace cZ:=eq_true cZ;replace dA:=eq_true dA;obtain ⟨dC,dD,dE⟩:=Kd.R_slice bA.out;subst dE;go_wp2_with (first|((with_reducible refine gc 45 ?_);refine gL (some 47) Tryz.func45 #[.slice dC cO.length dD,.string (rdOf ByteArray.empty bT cP)] ?_;(with_reducible refine (q1W.calls k4 (fun k_=>some k_ = (.slice dC cO.length dD:Value).ownBlock) (.slice dC cO.length dD) cO (rdOf ByteArray.empty bT cP) cU w _ ?side1 ?side2 cW.out).mono ?_);(case side1=>exact X98);(case side2=>exact Kd.R_tight rfl bA.out);rintro e w24 ⟨dG,rfl,cM,hb,hkp⟩;refine ⟨_,rfl,?_⟩;replace aU:=am (q8S X177 hkp (fun hs_=>(fun e_=>(Kd.R_ne bA.out aU.out (by decide)) e_) hs_));have dH:=am (Kd.R_mono (ok':=fun k_=>some k_≠(.slice (some dB) bT.length cX:Value).ownBlock) cM (fun k_ hk_=>Or.elim hk_ (fun hs_=>fun e_=>(((cR.out).1 k_ e_.symm)) hs_) (fun hn_=>(Kd.fresh' (Kd.R_lt (aR cR.out)) k_ hn_))));replace cR:=am (Kd.R_mono (ok':=fun k_=>some k_≠(dG:Value).ownBlock) (Kd.R_keptB (cR.out) hkp (fun k_ hk_ hs_=>(hk_) hs_)) (fun k_ hk_=>fun e_=>Or.elim (cM.1 k_ e_.symm) (fun hs_=>hk_.2.1 hs_) (fun hn_=>Nat.not_le.2 hk_.2.2 hn_)));replace HB:=am (hb);clear bA;(try clear hb);(try clear hkp);(try clear cM)))
             go_roundg k4
             case measure=>have:=aZ.out;have:=bL.out;have:=bP.out;have:=cQ.out;omega
             case rel=>exact ⟨(cU),(wrap64 (cP + 1)),X4,H',⟨by have:=aZ.out;have:=bL.out;have:=bP.out;have:=cQ.out;omega⟩,⟨aR dH.out⟩,⟨aR cR.out⟩,⟨X177⟩,⟨X98⟩⟩
            ·exact iN cT H
           ·rw [if_neg cS] at H;have c19b0:=dF cS;clear cS;have H':=am H;clear H;obtain ⟨Ao25,co25,dI⟩:=Kd.R_slice cR.out;subst dI;go_wp2
            go_roundg k4
            case measure=>have:=aZ.out;have:=bL.out;have:=bP.out;have:=cQ.out;omega
            case rel=>exact ⟨(cO),(wrap64 (bO + 1)),X4,H',⟨by have:=aZ.out;have:=bL.out;have:=bP.out;have:=cQ.out;omega⟩,⟨aR (Kd.R_mono bA.out (fun _ hk=>trivial))⟩,⟨X177⟩,⟨X98⟩⟩
        ·exact iN bR H
       ·rw [if_neg bQ] at H;have c14b0:=dF bQ;clear bQ;obtain rfl:=Option.some.inj H;have Z26:=bc4 aU;go_wp2
        go_ret
        exact ⟨_,X14,aR bA.out,X98⟩
mutual
def q0l.j0:Nat → Bool → Int → ByteArray → Int → List (S28) → Int → ByteArray → Int → List (S28) → Option (Bool)
 | 0,_,_,_,_,_,_,_,_,_=>none
 | k + 1,aA,aC,aD,aE,aG,aH,aI,aJ,aK=>if aA = true then (none) else (q0l.l0 k 0 aC aD aE aG aH aI aJ aK)
def q0l.l0:Nat → Int → Int → ByteArray → Int → List (S28) → Int → ByteArray → Int → List (S28) → Option (Bool)
 | 0,_,_,_,_,_,_,_,_,_=>none
 | k + 1,x5,aA,aC,aD,aE,aG,aH,aI,aJ=>if x5 < (aE.length:Int) then (if 0≤x5 then (if x5 < (aJ.length:Int) then ((q0l.f k ((q0b aE x5).f0) ((q0b aE x5).f1) ((q0b aE x5).f2) ((q0b aE x5).f3) ((q0b aJ x5).f0) ((q0b aJ x5).f1) ((q0b aJ x5).f2) ((q0b aJ x5).f3)).bind fun aK=>(if aK = true then (q0l.l0 k (wrap64 (x5 + 1)) aA aC aD aE aG aH aI aJ) else (none))) else (none)) else (none)) else (some true)
def q0l.f:Nat → Int → ByteArray → Int → List (S28) → Int → ByteArray → Int → List (S28) → Option (Bool)
 | 0,_,_,_,_,_,_,_,_=>none
 | k + 1,aA,aC,aD,aE,aG,aH,aI,aJ=>if aA = aG then (if aC.toList = aH.toList then (if aD = aI then (q0l.j0 k ((aE.length:Int) != (aJ.length:Int)) aA aC aD aE aG aH aI aJ) else (q0l.j0 k true aA aC aD aE aG aH aI aJ)) else (q0l.j0 k true aA aC aD aE aG aH aI aJ)) else (q0l.j0 k true aA aC aD aE aG aH aI aJ)
end
theorem q0l.mono_l:∀ k,(∀ y0 y1 y2 y3 y4 y5 y6 y7,LeO (q0l.f k y0 y1 y2 y3 y4 y5 y6 y7) (q0l.f (k + 1) y0 y1 y2 y3 y4 y5 y6 y7))∧(∀ y0 y1 y2 y3 y4 y5 y6 y7 y8,LeO (q0l.j0 k y0 y1 y2 y3 y4 y5 y6 y7 y8) (q0l.j0 (k + 1) y0 y1 y2 y3 y4 y5 y6 y7 y8))∧(∀ y0 y1 y2 y3 y4 y5 y6 y7 y8,LeO (q0l.l0 k y0 y1 y2 y3 y4 y5 y6 y7 y8) (q0l.l0 (k + 1) y0 y1 y2 y3 y4 y5 y6 y7 y8))
 | 0=>⟨fun _ _ _ _ _ _ _ _ r h=>by simp [q0l.f] at h,fun _ _ _ _ _ _ _ _ _ r h=>by simp [q0l.j0] at h,fun _ _ _ _ _ _ _ _ _ r h=>by simp [q0l.l0] at h⟩
 | k + 1=>by
  obtain ⟨aA,aC,aD⟩:=q0l.mono_l k;refine ⟨?_,?_,?_⟩
  ·intro y0 y1 y2 y3 y4 y5 y6 y7;unfold q0l.f;exact X109
  ·intro y0 y1 y2 y3 y4 y5 y6 y7 y8;unfold q0l.j0;exact X109
  ·intro y0 y1 y2 y3 y4 y5 y6 y7 y8;unfold q0l.l0;exact X109
theorem q0l.mono:∀ a0 a1 a2 a3 a4 a5 a6 a7 k,LeO (q0l.f k a0 a1 a2 a3 a4 a5 a6 a7) (q0l.f (k + 1) a0 a1 a2 a3 a4 a5 a6 a7):=by
 intro a0 a1 a2 a3 a4 a5 a6 a7 k;obtain ⟨aA,ih1,ih2⟩:=q0l.mono_l k;exact aA a0 a1 a2 a3 a4 a5 a6 a7
def q0l.T6:Bool × List (List Nat × List Nat):=(true,[([],[]),([0],[0]),([],[]),([1,2],[1,2]),([3],[3]),([],[]),([5],[5]),([],[]),([6,7],[6,7]),([8],[8]),([4,9],[4,9]),([10],[10])])
def q0l.B6:List Nat:=[0,1,0,7,15,0,32,0,224,480,1023,2047]
theorem q0l.tab6:rtab .any (q4B Tryz.f20 6) = q0l.T6:=by kernel_rfl
theorem q0l.bits6:q2D q0l.T6.2 q0l.B6 = true:=by kernel_rfl
theorem q0l.calls (k:Nat):∀ (aA:Int) (aC:ByteArray) (aD:Int) (aE:Option Addr) (aG:Nat) (aH:List (S28)) (aI:Int) (aJ:ByteArray) (aK:Int) (aM:Option Addr) (aQ:Nat) (aT:List (S28)) (r:Bool) (w:World) (aU:Kd.C k28 w aE aH.length aH) (aW:aH.length≤aG) (aX:Kd.C k28 w aM aT.length aT) (aY:aT.length≤aQ) (h:q0l.f k aA aC aD aH aI aJ aK aT = some r),
  Calls Tryz.prog 20 #[.agg #[.int .i64 aA,.string aC,.int .i64 aD,.slice aE aH.length aG],.agg #[.int .i64 aI,.string aJ,.int .i64 aK,.slice aM aT.length aQ]] w fun e w'=>e = .returned (.bool r)∧Below w.heap.size w w':=by
 induction k using Nat.strongRecOn with
 | _ k ih=>
 intro aA aC aD aE aG aH aI aJ aK aM aQ aT r w aU aW aX aY h;cases k with
 | zero=>exact absurd h (by simp [q0l.f])
 | succ k=>
 simp only [q0l.f] at h;have hu28:=Tryz.underlying28;have aZ:=am aU;have HC0_3:=am aW;clear aU aW;have bA:=am aX;have HC1_3:=am aY;clear aX aY;have HB:=am (Below.refl w.heap.size w);have H:(if aA = aI then (if aC.toList = aJ.toList then (if aD = aK then (q0l.j0 k ((aH.length:Int) != (aT.length:Int)) aA aC aD aH aI aJ aK aT) else (q0l.j0 k true aA aC aD aH aI aJ aK aT)) else (q0l.j0 k true aA aC aD aH aI aJ aK aT)) else (q0l.j0 k true aA aC aD aH aI aJ aK aT)) = some r:=h;clear h;have bB:=am H;clear H;go_enter Tryz.func20,Tryz.ntmps20;go_upto_region 1 with (first|((with_reducible refine gd 2 ?_);(try (refine q1w (by rfl) ?_;dsimp only));refine be 2 #[.int .i64 aA,.string aC,.int .i64 aD,.slice aE aH.length aG] 28 ?_;intro bC hg w4 hbox hb;have bD:=am (hbox);have GW1038:=sG (w:=w) hg X13;have bE:=sG (w:=w) hg X13;replace HB:=bS X13 hb;clear hb hbox hg)|((with_reducible refine gd 3 ?_);(try (refine q1w (by rfl) ?_;dsimp only));refine be 3 #[.int .i64 aI,.string aJ,.int .i64 aK,.slice aM aT.length aQ] 28 ?_;intro bF hg w5 hbox hb;have bG:=am (hbox);have GW1039:=sG (w:=w) hg X179;have bH:=sG (w:=w) hg X179;replace HB:=bS X179 hb;have bI:=nLT hg bD;have bJ:=nGT hg bD;replace bD:=kB bD hb;clear hb hbox hg))
 (try simp only [Act.put,List.setIfInBounds_toArray,List.set_cons_zero,List.set_cons_succ]);go_cut [33] (fun bK wc=>∃ (kq:Nat) (bL:Bool),bK = .bool bL∧q0c (q0l.j0 kq bL aA aC aD aH aI aJ aK aT = some r)∧q0c (kq≤k)∧q0c (wc.heap[bC]? = some (.cells #[.int .i64 aA,.string aC,.int .i64 aD,(.slice aE aH.length aG)] 28 (0,0)))∧q0c (wc.heap[bF]? = some (.cells #[.int .i64 aI,.string aJ,.int .i64 aK,(.slice aM aT.length aQ)] 28 (0,0)))∧q0c (Below w.heap.size w wc))
 case first=>
  have H:=bB.out;clear bB;by_cases c6:aA = aI
  ·rw [if_pos c6] at H;have c6b0:=eT c6;have c6b1:=eF c6;clear c6;(first | rw [c6b0]|(simp only [q2G,q2L];rw [c6b0]) | skip);by_cases c7:aC.toList = aJ.toList
   ·rw [if_pos c7] at H;have c7b0:=eT c7;have c7b1:=eF c7;clear c7;by_cases c8:aD = aK
    ·rw [if_pos c8] at H;have c8b0:=eT c8;have c8b1:=eF c8;clear c8;have H':=am H;clear H;have hnb9:=bI.out;have hnc9:=bJ.out;have bM:=bc4 bD;have bN:=bc4 bG;go_wp2
     go_meet
     case rel=>exact ⟨_,(((aH.length:Int) != (aT.length:Int))),X4,H',⟨X7⟩,⟨X180⟩,⟨X181⟩,⟨X182⟩⟩
    ·rw [if_neg c8] at H;have c8b0:=nF c8;have c8b1:=nT c8;have H':=am H;clear H;have hnb12:=bI.out;have hnc12:=bJ.out;have bO:=bc4 bD;have bP:=bc4 bG;go_wp2
     go_meet
     case rel=>exact ⟨_,(true),X4,H',⟨X7⟩,⟨X180⟩,⟨X181⟩,⟨X182⟩⟩
   ·rw [if_neg c7] at H;have c7b0:=nF c7;have c7b1:=nT c7;have H':=am H;clear H;have hnb15:=bI.out;have hnc15:=bJ.out;have bQ:=bc4 bD;have bR:=bc4 bG;go_wp2
    go_meet
    case rel=>exact ⟨_,(true),X4,H',⟨X7⟩,⟨X180⟩,⟨X181⟩,⟨X182⟩⟩
  ·rw [if_neg c6] at H;have c6b0:=nF c6;have c6b1:=nT c6;(first | rw [c6b0]|(simp only [q2G,q2L];rw [c6b0]) | skip);have H':=am H;clear H;have hnb18:=bI.out;have hnc18:=bJ.out;have bT:=bc4 bD;have bU:=bc4 bG;go_wp2
   go_meet
   case rel=>exact ⟨_,(true),X4,H',⟨X7⟩,⟨X180⟩,⟨X181⟩,⟨X182⟩⟩
 case rest=>
  clear bB;(try clear c1 c2 p2 c6 c6b0 c6b1 c7 c7b0 c7b1 c8 c8b0 c8b1 c9 bV bW bX bY bM bN bO bP bQ bR bT bU);obtain ⟨kq,bL,rfl,HA,bZ,bD,bG,HB⟩:=hcut;cases kq with
  | zero=>exact absurd HA.out (by simp [q0l.j0])
  | succ cA=>
   have H:=HA.out;clear HA;simp only [q0l.j0] at H;by_cases cC:bL = true
   ·subst cC;replace H:=tP H;exact absurd H (by simp)
   ·replace cC:=Bool.eq_false_iff.mpr cC;subst cC;replace H:=tN H;have H':=am H;clear H;go_wp2
    go_loopg [5] cA (fun kq v5 w'=>∃ (cD:Int),v5 = .int .i64 cD∧q0c (q0l.l0 kq cD aA aC aD aH aI aJ aK aT = some r)∧q0c (kq≤cA)∧q0c (w'.heap[bC]? = some (.cells #[.int .i64 aA,.string aC,.int .i64 aD,(.slice aE aH.length aG)] 28 (0,0)))∧q0c (w'.heap[bF]? = some (.cells #[.int .i64 aI,.string aJ,.int .i64 aK,(.slice aM aT.length aQ)] 28 (0,0)))∧q0c (Below w.heap.size w w'))
    case atStart=>exact ⟨(0),X4,H',⟨Nat.le_refl _⟩,⟨X180⟩,⟨X181⟩,⟨X182⟩⟩
    case round=>
     clear H';(try clear c1 c2);(try clear p2 p2);(try clear c6 c6b0 c6b1 c7 c7b0 c7b1 c8 c8b0 c8b1 c9 bV bW bX bY cC bM bN bO bP bQ bR bT bU);obtain ⟨cD,rfl,HA,cE,bD,bG,HB⟩:=hrel;cases gk with
     | zero=>exact absurd HA.out (by simp [q0l.l0])
     | succ k2=>
      have H:=HA.out;clear HA;simp only [q0l.l0] at H;by_cases cF:cD < (aH.length:Int)
      ·rw [if_pos cF] at H;have c22b0:=dT cF;clear cF;by_cases cG:0≤cD
       ·rw [if_pos cG] at H;have c23b0:=dT cG;clear cG;by_cases cH:cD < (aT.length:Int)
        ·rw [if_pos cH] at H;have c24b0:=dT cH;clear cH;obtain ⟨cI,cJ,H⟩:=oB H;(try dsimp only at H);have cK:=am cJ;clear cJ;by_cases cL:cI = true
         ·subst cL;replace H:=tP H;have H':=am H;clear H;have hnb27:=bI.out;have hnc27:=bJ.out;have Z28:=bc4 bD;try go_wp2
          replace bD:=am (q0p bD.out);replace bG:=am (q0p bG.out);replace HB:=am (q0D HB.out);have cM:0≤(cD:Int):=of_decide_eq_true X8;have cN:cD < (aH.length:Int):=of_decide_eq_true X8;obtain ⟨cO,cP,cQ,e1040,cR,cS,cT,cU,cV,cW⟩:=q2w aZ.out cD cM cN;have cX:=cU;have cY:=cT;have cZ:=cS;have dA:=cR;cases e1040;replace cR:=cB HB cR;replace cS:=cB HB cS;replace cT:=cB HB cT;replace cU:=cB HB cU;have dB:=am cW;have dC:=am cV;clear cW cV;replace cM:=eq_true cM;replace cN:=eq_true cN;have dD:0≤(cD:Int):=of_decide_eq_true X8;have dE:cD < (aT.length:Int):=of_decide_eq_true X8;obtain ⟨dG,dH,dI,e1041,dJ,dK,dL,dM,dN,dO⟩:=q2w bA.out cD dD dE;have dP:=dM;have dQ:=dL;have dR:=dK;have dS:=dJ;cases e1041;replace dJ:=cB HB dJ;replace dK:=cB HB dK;replace dL:=cB HB dL;replace dM:=cB HB dM;have dU:=am dO;have dV:=am dN;clear dO dN;replace dD:=eq_true dD;replace dE:=eq_true dE;refine q2P (n:=12) (S:=fun w'=>cc4 w' bC (.int .i64 aA) (.string aC) (.int .i64 aD) (.slice (some cO) aH.length aG) (cc4 w' bF (.int .i64 aI) (.string aJ) (.int .i64 aK) (.slice (some dG) aT.length aQ) (w'.cell? (cO.add ((cD).toNat * 4)) = some (.int .i64 ((q0b aH cD).f0))∧w'.cell? ⟨(cO.add ((cD).toNat * 4)).block,(cO.add ((cD).toNat * 4)).off + 1,none⟩ = some (.string ((q0b aH cD).f1))∧w'.cell? ⟨(cO.add ((cD).toNat * 4)).block,(cO.add ((cD).toNat * 4)).off + 2,none⟩ = some (.int .i64 ((q0b aH cD).f2))∧w'.cell? ⟨(cO.add ((cD).toNat * 4)).block,(cO.add ((cD).toNat * 4)).off + 3,none⟩ = some (.slice cP ((q0b aH cD).f3).length cQ)∧w'.cell? (dG.add ((cD).toNat * 4)) = some (.int .i64 ((q0b aT cD).f0))∧w'.cell? ⟨(dG.add ((cD).toNat * 4)).block,(dG.add ((cD).toNat * 4)).off + 1,none⟩ = some (.string ((q0b aT cD).f1))∧w'.cell? ⟨(dG.add ((cD).toNat * 4)).block,(dG.add ((cD).toNat * 4)).off + 2,none⟩ = some (.int .i64 ((q0b aT cD).f2))∧w'.cell? ⟨(dG.add ((cD).toNat * 4)).block,(dG.add ((cD).toNat * 4)).off + 3,none⟩ = some (.slice dH ((q0b aT cD).f3).length dI)))) (ds:=[]) #[false,false,false,false,false,false,false,false,false,false,false,false] X22 rfl rfl (b4 bD (b4 bG ⟨(q0r HB.out dA),(q0r HB.out cZ),(q0r HB.out cY),(q0r HB.out cX),(q0r HB.out dS),(q0r HB.out dR),(q0r HB.out dQ),(q0r HB.out dP)⟩)) (fun hHeld=>?_);refine q2d q0l.tab6 q0l.bits6 (fun HT_ HW_=>?_);generalize wr.drew = w29 at bD bG HB dB dU cR cS cT cU dJ dK dL dM hHeld ⊢
          refine pu 0 (some 41) (lb 12 1) HT_ ?_;refine pu 2 (some 43) (lb 12 5) HT_ ?_;refine pu 5 (some 46) (lb 12 37) HT_ ?_;refine pu 7 (some 48) (lb 12 165) HT_ ?_;refine tk 1 (some 42) (lb 12 167) HT_ HW_ hHeld ?_;refine pu 3 (some 44) (lb 12 175) HT_ ?_;refine tk 4 (some 45) (lb 12 191) HT_ HW_ hHeld ?_;refine tk 6 (some 47) (lb 12 255) HT_ HW_ hHeld ?_;refine pu 8 (some 49) (lb 12 511) HT_ ?_;refine tk 9 (some 50) (lb 12 1023) HT_ HW_ hHeld ?_;refine oo 10 (some 51) (lb 12 2047) HT_ (fun K hK=>?_);refine gO Tryz.func20 #[.agg #[.int .i64 ((q0b aH cD).f0),.string ((q0b aH cD).f1),.int .i64 ((q0b aH cD).f2),.slice cP ((q0b aH cD).f3).length cQ],.agg #[.int .i64 ((q0b aT cD).f0),.string ((q0b aT cD).f1),.int .i64 ((q0b aT cD).f2),.slice dH ((q0b aT cD).f3).length dI]] ?_;with_reducible refine (ih k2 (by have:=bZ.out;have:=cE.out;omega) ((q0b aH cD).f0) ((q0b aH cD).f1) ((q0b aH cD).f2) _ _ ((q0b aH cD).f3) ((q0b aT cD).f0) ((q0b aT cD).f1) ((q0b aT cD).f2) _ _ ((q0b aT cD).f3) true _ ?side1 ?side2 ?side3 ?side4 cK.out).mono ?_
          (case side1=>repeat (first | exact (Kd.C_below dB.out HB.out)|(with_reducible refine Kd.C_alloc ?_ _)|(with_reducible refine Kd.C_drewN ?_ _)|(with_reducible refine Kd.C_drew ?_)));(case side2=>exact dC.out);(case side3=>repeat (first | exact (Kd.C_below dU.out HB.out)|(with_reducible refine Kd.C_alloc ?_ _)|(with_reducible refine Kd.C_drewN ?_ _)|(with_reducible refine Kd.C_drew ?_)));(case side4=>exact dV.out);rintro e w30 ⟨rfl,hb⟩;refine ⟨_,rfl,?_⟩;replace bD:=kB bD hb;replace bG:=kB bG hb;replace HB:=bS X182 hb;(try clear hb hb2 hk hi);refine hK.out _ _ (b4 bD (b4 bG ⟨(q0r HB.out dA),(q0r HB.out cZ),(q0r HB.out cY),(q0r HB.out cX),(q0r HB.out dS),(q0r HB.out dR),(q0r HB.out dQ),(q0r HB.out dP)⟩)) (fun hHeld=>?_);clear hK K;refine q1B (a':=?_) ?_ ?_;rotate_left
          ·exact pA (some 51)
          refine pu 11 (some 52) (lb 12 4095) HT_ ?_;refine q3q (q2B HT_.out X22) ?_;try go_wp2
          go_roundg k2
          case measure=>have:=bZ.out;have:=cE.out;omega
          case rel=>exact ⟨(wrap64 (cD + 1)),X4,H',⟨by have:=bZ.out;have:=cE.out;omega⟩,⟨X180⟩,⟨X181⟩,⟨X182⟩⟩
         ·replace cL:=Bool.eq_false_iff.mpr cL;subst cL;replace H:=tN H;exact absurd H (by simp)
        ·exact iN cH H
       ·exact iN cG H
      ·rw [if_neg cF] at H;have c22b0:=dF cF;clear cF;obtain rfl:=Option.some.inj H;have hnb31:=bI.out;have hnc31:=bJ.out;have Z32:=bc4 bD;go_wp2
       go_ret
       exact ⟨X14,X182⟩
end Go.Proofs.YtmffocankommaaaGreatDoor.B
