/- Printed walks: what each function of the program computes. Condition: the Lean function gives a value. -/
import Derived.Test.YtmffocankommaaaGreatDoorDYZed
import Derived.Test.YtmffocankommaaaGreatDoorDx5
import Derived.Test.YtmffocankommaaaGreatDoorDx18
namespace Go.Proofs.YtmffocankommaaaGreatDoor.P
open Go.RowKit Go.Proofs.YtmffocankommaaaGreatDoorW.PrintWords Go.Proofs.YtmffocankommaaaGreatDoorW.PrintLast Go.Proofs.YtmffocankommaaaGreatDoorW.PrintMore Go.Proofs.YtmffocankommaaaGreatDoorY Go.Proofs.YtmffocankommaaaGreatDoorS Go.Proofs.YtmffocankommaaaGreatDoorS _root_.Go.Proofs.Tryz
attribute [local go_sem] q2U q3x q3u q3V q3S q3i q3f q3v q3w
set_option linter.unusedVariables false
set_option maxHeartbeats 8000000
set_option maxRecDepth 100000
set_option linter.unusedSimpArgs false
/-- A state of type 65 at block g of W; what its slices lead to came in by w0. -/
def q1d (w0 W:World) (g:Nat) (f0:List (S61)) (f1:Int) (f2:Bool):Prop:=∃ A0 c0,W.heap[g]?=some (.cells #[sl A0 f0 c0,iv f1,.bool f2] 65 (0,0))∧w0.heap.size≤g∧Kd.C k61 w0 A0 f0.length f0
theorem q1d.grown {w0 W:World} {g:Nat} {f0:List (S61)} {f1:Int} {f2:Bool} {W1:World} {row:Option Nat} (h:q1d w0 W g f0 f1 f2) (hw:W.grownBy W1 row) (hne:some g≠row):q1d w0 W1 g f0 f1 f2:=by
 obtain⟨A0,c0,hb,hg,aA⟩:=h;exact⟨A0,c0,q4T hb hw hne,hg,aA⟩
theorem q1d.own_neN {w0 W:World} {g:Nat} {f0:List (S61)} {f1:Int} {f2:Bool} {α:Type} {d:Kd α} {e:Nat} {base:Nat} {ok:Nat→Prop} {v:Value} {xs:List α} (h:q1d w0 W g f0 f1 f2) (ho:Kd.N d e W base ok v xs) (ht:e≠65):some g≠v.ownBlock:=by
 obtain⟨A0,c0,hb,hg,hr0⟩:=h;exact q3n ho hb ht
theorem q1d.fresh {w0 W:World} {g:Nat} {f0:List (S61)} {f1:Int} {f2:Bool} (h:q1d w0 W g f0 f1 f2):∀ k,W.heap.size≤k→k≠g:=by
 obtain⟨A0,c0,hb,hg,hr0⟩:=h;exact q0u hb
theorem q1d.below {w0 W:World} {g:Nat} {f0:List (S61)} {f1:Int} {f2:Bool} {W1:World} (h:q1d w0 W g f0 f1 f2) (hw:Below W.heap.size W W1):q1d w0 W1 g f0 f1 f2:=h.grown (q5F hw none) (by simp)
theorem q1d.alloc {w0 W:World} {g:Nat} {f0:List (S61)} {f1:Int} {f2:Bool} (h:q1d w0 W g f0 f1 f2) (o:Obj):q1d w0 (W.alloc o) g f0 f1 f2:=h.below (q2j (q0r _ _) o)
theorem q1d.drewN {w0 W:World} {g:Nat} {f0:List (S61)} {f1:Int} {f2:Bool} (h:q1d w0 W g f0 f1 f2) (m:Nat):q1d w0 (W.drewN m) g f0 f1 f2:=h
theorem q1d.drew {w0 W:World} {g:Nat} {f0:List (S61)} {f1:Int} {f2:Bool} (h:q1d w0 W g f0 f1 f2):q1d w0 W.drew g f0 f1 f2:=h
theorem q1d.apart {w0 W:World} {g:Nat} {f0:List (S61)} {f1:Int} {f2:Bool} {α:Type} {d:Kd α} {e:Nat} {base:Nat} {ok:Nat→Prop} {v:Value} {xs:List α} (h:q1d w0 W g f0 f1 f2) (ho:d.R e W base ok v xs) (ht:∀ q,q ∈ e::d.E→q≠65):d.R e W base (fun k=>ok k∧k≠g) v xs:=by
 obtain⟨A0,c0,hb,hg,hr0⟩:=h;exact q0E ho hb ht
theorem q1d.own_ne {w0 W:World} {g:Nat} {f0:List (S61)} {f1:Int} {f2:Bool} {α:Type} {d:Kd α} {e:Nat} {base:Nat} {ok:Nat→Prop} {v:Value} {xs:List α} (h:q1d w0 W g f0 f1 f2) (ho:d.R e W base ok v xs) (ht:e≠65):some g≠v.ownBlock:=by
 obtain⟨A0,c0,hb,hg,hr0⟩:=h;exact q3a ho hb ht
theorem q1d.lt {w0 W:World} {g:Nat} {f0:List (S61)} {f1:Int} {f2:Bool} (h:q1d w0 W g f0 f1 f2):g<W.heap.size:=by
 obtain⟨A0,c0,hb,hg,hr0⟩:=h;exact q4N hb
theorem q1d.ge {w0 W:World} {g:Nat} {f0:List (S61)} {f1:Int} {f2:Bool} (h:q1d w0 W g f0 f1 f2):w0.heap.size≤g:=by
 obtain⟨A0,c0,hb,hg,hr0⟩:=h;exact hg
theorem q1d.farB {w0 W:World} {g:Nat} {f0:List (S61)} {f1:Int} {f2:Bool} {b o:Nat} {sp:_} {u:Value} (hne:g≠b) (h:q1d w0 W g f0 f1 f2):q1d w0 (W.setCell ⟨b,o,sp⟩ u) g f0 f1 f2:=by
 obtain⟨A0,c0,hb,hg,aA⟩:=h;exact⟨A0,c0,q1M hb hne u,hg,aA⟩
theorem q1d.far {w0 W:World} {g:Nat} {f0:List (S61)} {f1:Int} {f2:Bool} {p:Addr} (h:q1d w0 W g f0 f1 f2) (hne:g≠p.block) (u:Value):q1d w0 (W.setCell p u) g f0 f1 f2:=by
 obtain⟨A0,c0,hb,hg,aA⟩:=h;exact⟨A0,c0,q1M hb hne u,hg,aA⟩
theorem v0H {W:World} {g:Nat} {A0:Option Addr} {c0:Nat} {f0:List (S61)} {f1:Int} {f2:Bool} (h:W.heap[g]?=some (.cells #[sl A0 f0 c0,iv f1,.bool f2] 65 (0,0))):W.cell? ⟨g,0,none⟩=some (sl A0 f0 c0):=(q0X h 0).trans rfl
theorem q7j {W:World} {g:Nat} {A0:Option Addr} {c0:Nat} {f0:List (S61)} {f1:Int} {f2:Bool} (h:W.heap[g]?=some (.cells #[sl A0 f0 c0,iv f1,.bool f2] 65 (0,0))):W.cell? ⟨g,1,none⟩=some (iv f1):=(q0X h 1).trans rfl
theorem q1d.set_1 {w0 W:World} {g:Nat} {f0:List (S61)} {f1:Int} {f2:Bool} (h:q1d w0 W g f0 f1 f2) (x:Int):q1d w0 (W.setCell ⟨g,1,none⟩ (iv x)) g f0 x f2:=by
 obtain⟨A0,c0,hb,hg,aA⟩:=h;exact⟨A0,c0,by simpa using q7r hb 1 (iv x),hg,aA⟩
theorem q7F {W:World} {g:Nat} {A0:Option Addr} {c0:Nat} {f0:List (S61)} {f1:Int} {f2:Bool} (h:W.heap[g]?=some (.cells #[sl A0 f0 c0,iv f1,.bool f2] 65 (0,0))):W.cell? ⟨g,2,none⟩=some (.bool f2):=(q0X h 2).trans rfl
theorem tS65 {w0:World} {W:World} {g:Nat} {f0:List (S61)} {f1:Int} {f2:Bool} (h:q0i (q1d w0 W g f0 f1 f2)):∃ A0 c0,W.cell? ⟨g,0,none⟩=some (sl A0 f0 c0)∧W.cell? ⟨g,1,none⟩=some (iv f1)∧W.cell? ⟨g,2,none⟩=some (.bool f2)∧W.frozen? ⟨g,1,none⟩=false∧W.frozen? ⟨g,2,none⟩=false∧Kd.C k61 w0 A0 f0.length f0:=by
 obtain⟨A,c,b,_,r⟩:=h.out;exact⟨A,c,v0H b,q7j b,q7F b,q1m b 1,q1m b 2,r⟩
theorem q1d.set_2 {w0 W:World} {g:Nat} {f0:List (S61)} {f1:Int} {f2:Bool} (h:q1d w0 W g f0 f1 f2) (x:Bool):q1d w0 (W.setCell ⟨g,2,none⟩ (.bool x)) g f0 f1 x:=by
 obtain⟨A0,c0,hb,hg,aA⟩:=h;exact⟨A0,c0,by simpa using q7r hb 2 (.bool x),hg,aA⟩
def q1w.f (aA:List (S61)) (aC:Int) (aD:Bool) (a1:q0b):Option (Bool × Int × Bool):=if aD=true then (some (false,aC,aD)) else (if aC<(aA.length:Int) then (if 0≤aC then (if ((q2G aA aC).f0)=1 then (some ((((q2G aA aC).f1).toList == a1.toList),aC,aD)) else (some (false,aC,aD))) else (none)) else (some (false,aC,aD)))
theorem q1w.calls (g:Nat) (aA:List (S61)) (aC:Int) (aD:Bool) (a1:q0b) (r1:Bool) (r2:Int) (r3:Bool) (w0 w:World) (hI:q1d w0 w g aA aC aD) (hB:Below w0.heap.size w0 w) (h:q1w.f aA aC aD a1=some (r1,r2,r3)) :
  Calls prog 60 #[.pointer (some ⟨g,0,none⟩),.string a1] w fun e w'=>e=.returned (.bool r1)∧q1d w0 w' g aA r2 r3∧Below w0.heap.size w0 w'∧q2e w w' g none:=by
 have aE:=am hI;have HK:=am (q2D w g none);have HL:=am hB.size;have HGL:=am (q1d.lt hI);clear hI;have HW0:=am hB.size;have HB:=am hB;clear hB;have H:=h;clear h;unfold q1w.f at H;by_cases c3:aD=true
 ·subst c3;replace H:=tP H;replace H:=iJ3 H;obtain⟨rfl,rfl,rfl⟩:=H;obtain⟨_,_,_,_,_,_,_,_⟩:=tS65 aE;go_enter func60,ntmps60;go_wp2
  repeat (go_quiet (fail);try go_wp2)
  go_ret
  exact⟨X11,X110,X111,X112⟩
 ·replace c3:=fI c3;subst c3;replace H:=tN H;by_cases c5:aC<(aA.length:Int)
  ·rw[if_pos c5]at H;have AB:=dT c5;clear c5;by_cases c6:0≤aC
   ·rw[if_pos c6]at H;have AF:=dT c6;clear c6;by_cases c7:((q2G aA aC).f0)=1
    ·rw[if_pos c7]at H;have AC:=eT c7;have AD:=eF c7;clear c7;replace H:=iJ3 H;obtain⟨rfl,rfl,rfl⟩:=H;obtain⟨_,_,_,_,_,_,_,aK⟩:=tS65 aE;have aM:0≤(aC:Int):=q0a X16;have aQ:aC<(aA.length:Int):=q0a X16;obtain⟨aT,AA,aU,aW,aX⟩:=q5b aK aC aM aQ;cases AA;replace aU:=q0s HB.out aU;replace aW:=q0s HB.out aW;replace aX:=q0s HB.out aX;replace aM:=q0c aM;replace aQ:=q0c aQ;have aY:0≤(aC:Int):=q0a X16;have aZ:aC<(aA.length:Int):=q0a X16;obtain⟨bA,AE,bB,bC,bD⟩:=q5b aK aC aY aZ;obtain rfl:aT=bA:=(by injection AE);replace bB:=q0s HB.out bB;replace bC:=q0s HB.out bC;replace bD:=q0s HB.out bD;replace aY:=q0c aY;replace aZ:=q0c aZ;go_enter func60,ntmps60;go_wp2
     repeat (go_quiet (fail);try go_wp2)
     go_ret
     exact⟨X11,X110,X111,X112⟩
    ·rw[if_neg c7]at H;have AC:=nF c7;have AD:=nT c7;replace H:=iJ3 H;obtain⟨rfl,rfl,rfl⟩:=H;obtain⟨_,_,_,_,_,_,_,bG⟩:=tS65 aE;have aM:0≤(aC:Int):=q0a X16;have aQ:aC<(aA.length:Int):=q0a X16;obtain⟨aT,AA,aU,aW,aX⟩:=q5b bG aC aM aQ;cases AA;replace aU:=q0s HB.out aU;replace aW:=q0s HB.out aW;replace aX:=q0s HB.out aX;replace aM:=q0c aM;replace aQ:=q0c aQ;go_enter func60,ntmps60;go_wp2
     repeat (go_quiet (fail);try go_wp2)
     go_ret
     exact⟨X11,X110,X111,X112⟩
   ·exact iN c6 H
  ·rw[if_neg c5]at H;have AB:=dF c5;clear c5;replace H:=iJ3 H;obtain⟨rfl,rfl,rfl⟩:=H;obtain⟨_,_,_,_,_,_,_,_⟩:=tS65 aE;go_enter func60,ntmps60;go_wp2
   repeat (go_quiet (fail);try go_wp2)
   go_ret
   exact⟨X11,X110,X111,X112⟩

def q1b.f (aA:List (S61)) (aC:Int) (aD:Bool) (a1:Int):Option (q0b × Int × Bool):=if aD=true then (some ((⟨#[]⟩:q0b),aC,true)) else (if aC=(aA.length:Int) then (some ((⟨#[]⟩:q0b),aC,true)) else (if 0≤aC then (if aC<(aA.length:Int) then (if ((q2G aA aC).f0)=a1 then (if 0≤(wrap64 ((wrap64 (aC+1)) - 1)) then (if (wrap64 ((wrap64 (aC+1)) - 1))<(aA.length:Int) then (some ((q2G aA (wrap64 ((wrap64 (aC+1)) - 1))).f1,wrap64 (aC+1),aD)) else (none)) else (none)) else (some ((⟨#[]⟩:q0b),aC,true))) else (none)) else (none)))
theorem q1b.calls (g:Nat) (aA:List (S61)) (aC:Int) (aD:Bool) (a1:Int) (r1:q0b) (r2:Int) (r3:Bool) (w0 w:World) (hI:q1d w0 w g aA aC aD) (hB:Below w0.heap.size w0 w) (h:q1b.f aA aC aD a1=some (r1,r2,r3)) :
  Calls prog 61 #[.pointer (some ⟨g,0,none⟩),iv a1] w fun e w'=>e=.returned (.string r1)∧q1d w0 w' g aA r2 r3∧Below w0.heap.size w0 w'∧q2e w w' g none:=by
 have aE:=am hI;have HK:=am (q2D w g none);have HL:=am hB.size;have HGL:=am (q1d.lt hI);clear hI;have HW0:=am hB.size;have HB:=am hB;clear hB;have H:=h;clear h;unfold q1b.f at H;by_cases c3:aD=true
 ·subst c3;replace H:=tP H;replace H:=iJ3 H;obtain⟨rfl,rfl,rfl⟩:=H;obtain⟨_,_,_,_,_,_,_,_⟩:=tS65 aE;go_enter func61,ntmps61;go_wp2
  repeat (go_quiet (fail);try go_wp2)
  go_ret
  exact⟨X11,X110,X111,X112⟩
 ·replace c3:=fI c3;subst c3;replace H:=tN H;by_cases c5:aC=(aA.length:Int)
  ·rw[if_pos c5]at H;have AB:=eT c5;have AC:=eF c5;clear c5;replace H:=iJ3 H;obtain⟨rfl,rfl,rfl⟩:=H;obtain⟨_,_,_,_,_,_,_,_⟩:=tS65 aE;go_enter func61,ntmps61;go_wp2
   repeat (go_quiet (fail);try go_wp2)
   go_ret
   exact⟨X11,X110,X111,X112⟩
  ·rw[if_neg c5]at H;have AB:=nF c5;have AC:=nT c5;by_cases c7:0≤aC
   ·rw[if_pos c7]at H;have AI:=dT c7;clear c7;by_cases c8:aC<(aA.length:Int)
    ·rw[if_pos c8]at H;have AJ:=dT c8;clear c8;by_cases c9:((q2G aA aC).f0)=a1
     ·rw[if_pos c9]at H;have AD:=eT c9;have AE:=eF c9;clear c9;obtain⟨aK,aM⟩:∃ j_:Int,(wrap64 ((wrap64 (aC+1)) - 1))=j_:=⟨_,rfl⟩;replace H:(if 0≤(aK) then (if (aK)<(aA.length:Int) then (some ((q2G aA (aK)).f1,wrap64 (aC+1),false)) else (none)) else (none))=some (r1,r2,r3):=by first|(rw[aM]at H;exact H)|(simp only[aM]at H ⊢;exact H)
      have hji10w:(IntKind.i64.wrap ((wrap64 (aC+1)) - 1))=aK:=(q4g _).trans aM;by_cases aQ:0≤(aK)
      ·rw[if_pos aQ]at H;have AG:=dT aQ;clear aQ;by_cases aT:(aK)<(aA.length:Int)
       ·rw[if_pos aT]at H;have AH:=dT aT;clear aT;replace H:=iJ3 H;obtain⟨rfl,rfl,rfl⟩:=H;obtain⟨_,_,_,_,_,_,_,aX⟩:=tS65 aE;have aY:0≤(aC:Int):=q0a X16;have aZ:aC<(aA.length:Int):=q0a X16;obtain⟨bA,AA,bB,bC,bD⟩:=q5b aX aC aY aZ;cases AA;replace bB:=q0s HB.out bB;replace bC:=q0s HB.out bC;replace bD:=q0s HB.out bD;replace aY:=q0c aY;replace aZ:=q0c aZ;have bE:0≤((aK):Int):=q0a X16;have bF:(aK)<(aA.length:Int):=q0a X16;obtain⟨bG,AF,bH,bI,bJ⟩:=q5b aX (aK) bE bF;obtain rfl:bA=bG:=(by injection AF);have bK:bA.block≠g:=q0S (q0L (by have:=q0x _ _ bH;first|rwa [q2L]at this|exact this) (q1d.ge aE.out));replace bH:=q0s HB.out bH;replace bI:=q0s HB.out bI;replace bJ:=q0s HB.out bJ;replace bH:=(q4D (p:=⟨g,1,none⟩) X113 (iv (wrap64 (aC+1)))).trans bH;replace bI:=(q4D (p:=⟨g,1,none⟩) X113 (iv (wrap64 (aC+1)))).trans bI;replace bJ:=(q4D (p:=⟨g,1,none⟩) X113 (iv (wrap64 (aC+1)))).trans bJ;(try have hy763_0:=fun (n_:Nat)=>(show(((w.drewN n_).setCell ⟨g,1,none⟩ (iv (wrap64 (aC+1))))).cell? _=some _ from bH));(try have hy763_1:=fun (n_:Nat)=>(show(((w.drewN n_).setCell ⟨g,1,none⟩ (iv (wrap64 (aC+1))))).cell? _=some _ from bI));(try have hy763_2:=fun (n_:Nat)=>(show(((w.drewN n_).setCell ⟨g,1,none⟩ (iv (wrap64 (aC+1))))).cell? _=some _ from bJ));clear bK;replace bE:=q0c bE;replace bF:=q0c bF;go_enter func61,ntmps61;go_wp2
        repeat (go_quiet (fail);try go_wp2)
        go_ret
        exact⟨by first|rfl|(simp [q5p,q5q] <;> rfl)|(simp only[← aM];first|rfl|(simp [q5p,q5q] <;> rfl))|(simp [*,q5p,q5q] <;> rfl),X110,X111,X112⟩
       ·exact iN aT H
      ·exact iN aQ H
     ·rw[if_neg c9]at H;have AD:=nF c9;have AE:=nT c9;replace H:=iJ3 H;obtain⟨rfl,rfl,rfl⟩:=H;obtain⟨_,_,_,_,_,_,_,bN⟩:=tS65 aE;have aY:0≤(aC:Int):=q0a X16;have aZ:aC<(aA.length:Int):=q0a X16;obtain⟨bA,AA,bB,bC,bD⟩:=q5b bN aC aY aZ;cases AA;replace bB:=q0s HB.out bB;replace bC:=q0s HB.out bC;replace bD:=q0s HB.out bD;replace aY:=q0c aY;replace aZ:=q0c aZ;go_enter func61,ntmps61;go_wp2
      repeat (go_quiet (fail);try go_wp2)
      go_ret
      exact⟨X11,X110,X111,X112⟩
    ·exact iN c8 H
   ·exact iN c7 H

def q1A.f (aA:List (S61)) (aC:Int) (aD:Bool) (a1:q0b):Option (Bool × Int × Bool):=if aD=true then (some (false,aC,aD)) else (if aC<(aA.length:Int) then (if 0≤aC then (if ((q2G aA aC).f0)=4 then (some ((((q2G aA aC).f1).toList == a1.toList),aC,aD)) else (some (false,aC,aD))) else (none)) else (some (false,aC,aD)))
theorem q1A.calls (g:Nat) (aA:List (S61)) (aC:Int) (aD:Bool) (a1:q0b) (r1:Bool) (r2:Int) (r3:Bool) (w0 w:World) (hI:q1d w0 w g aA aC aD) (hB:Below w0.heap.size w0 w) (h:q1A.f aA aC aD a1=some (r1,r2,r3)) :
  Calls prog 63 #[.pointer (some ⟨g,0,none⟩),.string a1] w fun e w'=>e=.returned (.bool r1)∧q1d w0 w' g aA r2 r3∧Below w0.heap.size w0 w'∧q2e w w' g none:=by
 have aE:=am hI;have HK:=am (q2D w g none);have HL:=am hB.size;have HGL:=am (q1d.lt hI);clear hI;have HW0:=am hB.size;have HB:=am hB;clear hB;have H:=h;clear h;unfold q1A.f at H;by_cases c3:aD=true
 ·subst c3;replace H:=tP H;replace H:=iJ3 H;obtain⟨rfl,rfl,rfl⟩:=H;obtain⟨_,_,_,_,_,_,_,_⟩:=tS65 aE;go_enter func63,ntmps63;go_wp2
  repeat (go_quiet (fail);try go_wp2)
  go_ret
  exact⟨X11,X110,X111,X112⟩
 ·replace c3:=fI c3;subst c3;replace H:=tN H;by_cases c5:aC<(aA.length:Int)
  ·rw[if_pos c5]at H;have AB:=dT c5;clear c5;by_cases c6:0≤aC
   ·rw[if_pos c6]at H;have AF:=dT c6;clear c6;by_cases c7:((q2G aA aC).f0)=4
    ·rw[if_pos c7]at H;have AC:=eT c7;have AD:=eF c7;clear c7;replace H:=iJ3 H;obtain⟨rfl,rfl,rfl⟩:=H;obtain⟨_,_,_,_,_,_,_,aK⟩:=tS65 aE;have aM:0≤(aC:Int):=q0a X16;have aQ:aC<(aA.length:Int):=q0a X16;obtain⟨aT,AA,aU,aW,aX⟩:=q5b aK aC aM aQ;cases AA;replace aU:=q0s HB.out aU;replace aW:=q0s HB.out aW;replace aX:=q0s HB.out aX;replace aM:=q0c aM;replace aQ:=q0c aQ;have aY:0≤(aC:Int):=q0a X16;have aZ:aC<(aA.length:Int):=q0a X16;obtain⟨bA,AE,bB,bC,bD⟩:=q5b aK aC aY aZ;obtain rfl:aT=bA:=(by injection AE);replace bB:=q0s HB.out bB;replace bC:=q0s HB.out bC;replace bD:=q0s HB.out bD;replace aY:=q0c aY;replace aZ:=q0c aZ;go_enter func63,ntmps63;go_wp2
     repeat (go_quiet (fail);try go_wp2)
     go_ret
     exact⟨X11,X110,X111,X112⟩
    ·rw[if_neg c7]at H;have AC:=nF c7;have AD:=nT c7;replace H:=iJ3 H;obtain⟨rfl,rfl,rfl⟩:=H;obtain⟨_,_,_,_,_,_,_,bG⟩:=tS65 aE;have aM:0≤(aC:Int):=q0a X16;have aQ:aC<(aA.length:Int):=q0a X16;obtain⟨aT,AA,aU,aW,aX⟩:=q5b bG aC aM aQ;cases AA;replace aU:=q0s HB.out aU;replace aW:=q0s HB.out aW;replace aX:=q0s HB.out aX;replace aM:=q0c aM;replace aQ:=q0c aQ;go_enter func63,ntmps63;go_wp2
     repeat (go_quiet (fail);try go_wp2)
     go_ret
     exact⟨X11,X110,X111,X112⟩
   ·exact iN c6 H
  ·rw[if_neg c5]at H;have AB:=dF c5;clear c5;replace H:=iJ3 H;obtain⟨rfl,rfl,rfl⟩:=H;obtain⟨_,_,_,_,_,_,_,_⟩:=tS65 aE;go_enter func63,ntmps63;go_wp2
   repeat (go_quiet (fail);try go_wp2)
   go_ret
   exact⟨X11,X110,X111,X112⟩

def q0G.f (aA:List (S61)) (aC:Int) (aD:Bool) (a1:q0b):Option (Int × Bool):=(q1A.f aA aC aD a1).bind fun aE=>(if aE.1=true then (some (wrap64 (aE.2.1+1),aE.2.2)) else (some (aE.2.1,true)))
theorem q0G.calls (g:Nat) (aA:List (S61)) (aC:Int) (aD:Bool) (a1:q0b) (r1:Int) (r2:Bool) (w0 w:World) (hI:q1d w0 w g aA aC aD) (hB:Below w0.heap.size w0 w) (h:q0G.f aA aC aD a1=some (r1,r2)) :
  Calls prog 62 #[.pointer (some ⟨g,0,none⟩),.string a1] w fun e w'=>e=.returned (.tuple #[])∧q1d w0 w' g aA r1 r2∧Below w0.heap.size w0 w'∧q2e w w' g none:=by
 have aE:=am hI;have HK:=am (q2D w g none);have HL:=am hB.size;have HGL:=am (q1d.lt hI);clear hI;have HW0:=am hB.size;have HB:=am hB;clear hB;have H:=h;clear h;unfold q0G.f at H;obtain⟨⟨aG,aH,aI⟩,A3,H⟩:=oA H;(try dsimp only at H);go_enter func62,ntmps62;go_wp2_with (first|((with_reducible refine gc 63 ?_);refine gCc (some 6) func63 (q1A.calls g aA aC aD a1 aG aH aI w0 _ X110 X111 A3.out) ?_;rintro w5 ⟨hi,hb,hk⟩;replace HK:=am (q0e X112 hk (.inl rfl));replace HB:=am (hb);replace aE:=am (hi);clear hi hb hk;obtain⟨_,_,_,_,_,_,_,_⟩:=tS65 aE;refine q5g ?_))
 by_cases c4:aG=true
 ·subst c4;replace H:=tP H;replace H:=iJ2 H;obtain⟨rfl,rfl⟩:=H;refine on_ ?_;go_wp2
  first|go_end0|((try simp only[Exit.inBlock,Exit.then]);refine bodyPost_ret (results_none rfl _ _ _) rfl ?_)
  exact⟨X11,X110,X111,X112⟩
 ·replace c4:=fI c4;subst c4;replace H:=tN H;replace H:=iJ2 H;obtain⟨rfl,rfl⟩:=H;refine on_ ?_;go_wp2
  first|go_end0|((try simp only[Exit.inBlock,Exit.then]);refine bodyPost_ret (results_none rfl _ _ _) rfl ?_)
  exact⟨X11,X110,X111,X112⟩

def q1X.f (aA:List (S61)) (aC:Int) (aD:Bool):Option (q0b × Int × Bool):=if aD=true then ((q1b.f aA aC aD 1).bind fun aE=>(some (aE.1,aE.2.1,aE.2.2))) else (if aC<(aA.length:Int) then (if 0≤aC then (if ((q2G aA aC).f1).toList=([117]:List UInt8) then ((q1b.f aA aC true 1).bind fun aG=>(some (aG.1,aG.2.1,aG.2.2))) else (if ((q2G aA aC).f1).toList=([120]:List UInt8) then ((q1b.f aA aC true 1).bind fun aH=>(some (aH.1,aH.2.1,aH.2.2))) else ((q1b.f aA aC aD 1).bind fun aI=>(some (aI.1,aI.2.1,aI.2.2))))) else (none)) else ((q1b.f aA aC aD 1).bind fun aJ=>(some (aJ.1,aJ.2.1,aJ.2.2))))
theorem q1X.calls (g:Nat) (aA:List (S61)) (aC:Int) (aD:Bool) (r1:q0b) (r2:Int) (r3:Bool) (w0 w:World) (hI:q1d w0 w g aA aC aD) (hB:Below w0.heap.size w0 w) (h:q1X.f aA aC aD=some (r1,r2,r3)) :
  Calls prog 64 #[.pointer (some ⟨g,0,none⟩)] w fun e w'=>e=.returned (.string r1)∧q1d w0 w' g aA r2 r3∧Below w0.heap.size w0 w'∧q2e w w' g none:=by
 have aE:=am hI;have HK:=am (q2D w g none);have HL:=am hB.size;have HGL:=am (q1d.lt hI);clear hI;have HW0:=am hB.size;have HB:=am hB;clear hB;have H:=h;clear h;unfold q1X.f at H;by_cases c2:aD=true
 ·subst c2;replace H:=tP H;obtain⟨⟨aG,aH,aI⟩,A3,H⟩:=oA H;(try dsimp only at H);replace H:=iJ3 H;obtain⟨rfl,rfl,rfl⟩:=H;obtain⟨_,_,_,_,_,_,_,_⟩:=tS65 aE;go_enter func64,ntmps64;go_wp2_with (first|(go_at_call 61;(with_reducible refine(q1b.calls g aA aC true 1 aG aH aI w0 _ ?side1 ?side2 A3.out).mono ?_);(case side1=>exact X110);(case side2=>exact X111);rintro e w5 ⟨rfl,hi,hb,hk⟩;replace HK:=am (q0e X112 hk (.inl rfl));replace HB:=am (hb);replace aE:=am (hi);clear hi hb hk))
  repeat (go_quiet (first|(go_at_call 61;(with_reducible refine(q1b.calls g aA aC true 1 aG aH aI w0 _ ?side1 ?side2 A3.out).mono ?_);(case side1=>exact X110);(case side2=>exact X111);rintro e w5 ⟨rfl,hi,hb,hk⟩;replace HK:=am (q0e X112 hk (.inl rfl));replace HB:=am (hb);replace aE:=am (hi);clear hi hb hk));try go_wp2_with (first|(go_at_call 61;(with_reducible refine(q1b.calls g aA aC true 1 aG aH aI w0 _ ?side1 ?side2 A3.out).mono ?_);(case side1=>exact X110);(case side2=>exact X111);rintro e w5 ⟨rfl,hi,hb,hk⟩;replace HK:=am (q0e X112 hk (.inl rfl));replace HB:=am (hb);replace aE:=am (hi);clear hi hb hk)))
  go_ret
  exact⟨X11,X110,X111,X112⟩
 ·replace c2:=fI c2;subst c2;replace H:=tN H;by_cases c6:aC<(aA.length:Int)
  ·rw[if_pos c6]at H;have AE:=dT c6;clear c6;by_cases c7:0≤aC
   ·rw[if_pos c7]at H;have AH:=dT c7;clear c7;by_cases c8:((q2G aA aC).f1).toList=([117]:List UInt8)
    ·rw[if_pos c8]at H;have AF:=eT c8;have AG:=eF c8;clear c8;obtain⟨⟨aQ,aT,aU⟩,A9,H⟩:=oA H;(try dsimp only at H);replace H:=iJ3 H;obtain⟨rfl,rfl,rfl⟩:=H;obtain⟨_,_,_,_,_,_,_,aZ⟩:=tS65 aE;have bA:0≤(aC:Int):=q0a X16;have bB:aC<(aA.length:Int):=q0a X16;obtain⟨bC,AA,bD,bE,bF⟩:=q5b aZ aC bA bB;cases AA;replace bD:=q0s HB.out bD;replace bE:=q0s HB.out bE;replace bF:=q0s HB.out bF;replace bA:=q0c bA;replace bB:=q0c bB;go_enter func64,ntmps64;go_wp2_with (first|(go_at_call 61;(with_reducible refine(q1b.calls g aA aC true 1 aQ aT aU w0 _ ?side1 ?side2 A9.out).mono ?_);(case side1=>exact X110);(case side2=>exact X111);rintro e bG ⟨rfl,hi,hb,hk⟩;replace HK:=am (q0e X112 hk (.inl rfl));replace HB:=am (hb);replace aE:=am (hi);clear hi hb hk))
     repeat (go_quiet (first|(go_at_call 61;(with_reducible refine(q1b.calls g aA aC true 1 aQ aT aU w0 _ ?side1 ?side2 A9.out).mono ?_);(case side1=>exact X110);(case side2=>exact X111);rintro e bG ⟨rfl,hi,hb,hk⟩;replace HK:=am (q0e X112 hk (.inl rfl));replace HB:=am (hb);replace aE:=am (hi);clear hi hb hk));try go_wp2_with (first|(go_at_call 61;(with_reducible refine(q1b.calls g aA aC true 1 aQ aT aU w0 _ ?side1 ?side2 A9.out).mono ?_);(case side1=>exact X110);(case side2=>exact X111);rintro e bG ⟨rfl,hi,hb,hk⟩;replace HK:=am (q0e X112 hk (.inl rfl));replace HB:=am (hb);replace aE:=am (hi);clear hi hb hk)))
     go_ret
     exact⟨X11,X110,X111,X112⟩
    ·rw[if_neg c8]at H;have AF:=nF c8;have AG:=nT c8;by_cases bH:((q2G aA aC).f1).toList=([120]:List UInt8)
     ·rw[if_pos bH]at H;have AC:=eT bH;have AD:=eF bH;clear bH;obtain⟨⟨bI,bJ,bK⟩,bM,H⟩:=oA H;(try dsimp only at H);replace H:=iJ3 H;obtain⟨rfl,rfl,rfl⟩:=H;obtain⟨_,_,_,_,_,_,_,bP⟩:=tS65 aE;have bA:0≤(aC:Int):=q0a X16;have bB:aC<(aA.length:Int):=q0a X16;obtain⟨bC,AA,bD,bE,bF⟩:=q5b bP aC bA bB;cases AA;replace bD:=q0s HB.out bD;replace bE:=q0s HB.out bE;replace bF:=q0s HB.out bF;replace bA:=q0c bA;replace bB:=q0c bB;have bQ:0≤(aC:Int):=q0a X16;have bR:aC<(aA.length:Int):=q0a X16;obtain⟨bT,AB,bU,bV,bW⟩:=q5b bP aC bQ bR;obtain rfl:bC=bT:=(by injection AB);replace bU:=q0s HB.out bU;replace bV:=q0s HB.out bV;replace bW:=q0s HB.out bW;replace bQ:=q0c bQ;replace bR:=q0c bR;go_enter func64,ntmps64;go_wp2_with (first|(go_at_call 61;(with_reducible refine(q1b.calls g aA aC true 1 bI bJ bK w0 _ ?side1 ?side2 bM.out).mono ?_);(case side1=>exact X110);(case side2=>exact X111);rintro e bX ⟨rfl,hi,hb,hk⟩;replace HK:=am (q0e X112 hk (.inl rfl));replace HB:=am (hb);replace aE:=am (hi);clear hi hb hk))
      repeat (go_quiet (first|(go_at_call 61;(with_reducible refine(q1b.calls g aA aC true 1 bI bJ bK w0 _ ?side1 ?side2 bM.out).mono ?_);(case side1=>exact X110);(case side2=>exact X111);rintro e bX ⟨rfl,hi,hb,hk⟩;replace HK:=am (q0e X112 hk (.inl rfl));replace HB:=am (hb);replace aE:=am (hi);clear hi hb hk));try go_wp2_with (first|(go_at_call 61;(with_reducible refine(q1b.calls g aA aC true 1 bI bJ bK w0 _ ?side1 ?side2 bM.out).mono ?_);(case side1=>exact X110);(case side2=>exact X111);rintro e bX ⟨rfl,hi,hb,hk⟩;replace HK:=am (q0e X112 hk (.inl rfl));replace HB:=am (hb);replace aE:=am (hi);clear hi hb hk)))
      go_ret
      exact⟨X11,X110,X111,X112⟩
     ·rw[if_neg bH]at H;have AC:=nF bH;have AD:=nT bH;obtain⟨⟨bY,bZ,cA⟩,cD,H⟩:=oA H;(try dsimp only at H);replace H:=iJ3 H;obtain⟨rfl,rfl,rfl⟩:=H;obtain⟨_,_,_,_,_,_,_,cG⟩:=tS65 aE;have bA:0≤(aC:Int):=q0a X16;have bB:aC<(aA.length:Int):=q0a X16;obtain⟨bC,AA,bD,bE,bF⟩:=q5b cG aC bA bB;cases AA;replace bD:=q0s HB.out bD;replace bE:=q0s HB.out bE;replace bF:=q0s HB.out bF;replace bA:=q0c bA;replace bB:=q0c bB;have bQ:0≤(aC:Int):=q0a X16;have bR:aC<(aA.length:Int):=q0a X16;obtain⟨bT,AB,bU,bV,bW⟩:=q5b cG aC bQ bR;obtain rfl:bC=bT:=(by injection AB);replace bU:=q0s HB.out bU;replace bV:=q0s HB.out bV;replace bW:=q0s HB.out bW;replace bQ:=q0c bQ;replace bR:=q0c bR;go_enter func64,ntmps64;go_wp2_with (first|(go_at_call 61;(with_reducible refine(q1b.calls g aA aC false 1 bY bZ cA w0 _ ?side1 ?side2 cD.out).mono ?_);(case side1=>exact X110);(case side2=>exact X111);rintro e cH ⟨rfl,hi,hb,hk⟩;replace HK:=am (q0e X112 hk (.inl rfl));replace HB:=am (hb);replace aE:=am (hi);clear hi hb hk))
      repeat (go_quiet (first|(go_at_call 61;(with_reducible refine(q1b.calls g aA aC false 1 bY bZ cA w0 _ ?side1 ?side2 cD.out).mono ?_);(case side1=>exact X110);(case side2=>exact X111);rintro e cH ⟨rfl,hi,hb,hk⟩;replace HK:=am (q0e X112 hk (.inl rfl));replace HB:=am (hb);replace aE:=am (hi);clear hi hb hk));try go_wp2_with (first|(go_at_call 61;(with_reducible refine(q1b.calls g aA aC false 1 bY bZ cA w0 _ ?side1 ?side2 cD.out).mono ?_);(case side1=>exact X110);(case side2=>exact X111);rintro e cH ⟨rfl,hi,hb,hk⟩;replace HK:=am (q0e X112 hk (.inl rfl));replace HB:=am (hb);replace aE:=am (hi);clear hi hb hk)))
      go_ret
      exact⟨X11,X110,X111,X112⟩
   ·exact iN c7 H
  ·rw[if_neg c6]at H;have AE:=dF c6;clear c6;obtain⟨⟨cI,cJ,cK⟩,cM,H⟩:=oA H;(try dsimp only at H);replace H:=iJ3 H;obtain⟨rfl,rfl,rfl⟩:=H;obtain⟨_,_,_,_,_,_,_,_⟩:=tS65 aE;go_enter func64,ntmps64;go_wp2_with (first|(go_at_call 61;(with_reducible refine(q1b.calls g aA aC false 1 cI cJ cK w0 _ ?side1 ?side2 cM.out).mono ?_);(case side1=>exact X110);(case side2=>exact X111);rintro e cP ⟨rfl,hi,hb,hk⟩;replace HK:=am (q0e X112 hk (.inl rfl));replace HB:=am (hb);replace aE:=am (hi);clear hi hb hk))
   repeat (go_quiet (first|(go_at_call 61;(with_reducible refine(q1b.calls g aA aC false 1 cI cJ cK w0 _ ?side1 ?side2 cM.out).mono ?_);(case side1=>exact X110);(case side2=>exact X111);rintro e cP ⟨rfl,hi,hb,hk⟩;replace HK:=am (q0e X112 hk (.inl rfl));replace HB:=am (hb);replace aE:=am (hi);clear hi hb hk));try go_wp2_with (first|(go_at_call 61;(with_reducible refine(q1b.calls g aA aC false 1 cI cJ cK w0 _ ?side1 ?side2 cM.out).mono ?_);(case side1=>exact X110);(case side2=>exact X111);rintro e cP ⟨rfl,hi,hb,hk⟩;replace HK:=am (q0e X112 hk (.inl rfl));replace HB:=am (hb);replace aE:=am (hi);clear hi hb hk)))
   go_ret
   exact⟨X11,X110,X111,X112⟩
mutual
def q1S.j0:Nat→q0b→Bool→Option (Int × Bool)
 | 0,_,_=>none
 | k+1,x0,aA=>if aA=true then (some (0,false)) else (q1S.l0 k x0 0 0)
def q1S.l0:Nat→q0b→Int→Int→Option (Int × Bool)
 | 0,_,_,_=>none
 | k+1,x0,x4,x5=>if x5<(x0.size:Int) then (if 0≤x5 then (q1S.l0 k x0 (wrap64 ((wrap64 (10*x4))+(((bt x0 x5) - 48) % 256))) (wrap64 (x5+1))) else (none)) else (some (x4,true))
end
def q1S.f (k:Nat) (a0:q0b):Option (Int × Bool):=if a0.toList=([]:List UInt8) then (q1S.j0 k a0 true) else (if (a0.size:Int) > 6 then (q1S.j0 k a0 true) else ((q2g.f k a0).bind fun aA=>(if aA=(a0.size:Int) then (if 0<(a0.size:Int) then (if (bt a0 0)=48 then (q1S.j0 k a0 (decide ((a0.size:Int) > 1))) else (q1S.j0 k a0 false)) else (none)) else (q1S.j0 k a0 true))))
theorem q1S.calls (k:Nat) (a0:q0b) (r1:Int) (r2:Bool) (w:World) (h:q1S.f k a0=some (r1,r2)) :
  Calls prog 95 #[.string a0] w fun e w'=>e=.returned (.tuple #[iv r1,.bool r2])∧q3t w w':=by
 have H:=h;clear h;unfold q1S.f at H;have aA:=am H;clear H;go_enter func95,ntmps95;go_upto_region 1 with (fail)
 go_cut [29] (fun aC wc=>∃ (kq:Nat) (aD:Bool),aC=.bool aD∧q0i (q1S.j0 kq a0 aD=some (r1,r2))∧q0i (kq≤k)∧q3t w wc)
 case first=>
  have H:=aA.out;clear aA;by_cases c3:a0.toList=([]:List UInt8)
  ·rw[if_pos c3]at H;have AA:=eT c3;have AB:=eF c3;clear c3;(first|rw[AA]|(simp only[q4g,q4q];rw[AA])|skip);have H':=am H;clear H;go_wp2
   go_meet
   case rel=>exact⟨_,(true),X7,H',⟨X8⟩,X18⟩
  ·rw[if_neg c3]at H;have AA:=nF c3;have AB:=nT c3;(first|rw[AA]|(simp only[q4g,q4q];rw[AA])|skip);by_cases c4:(a0.size:Int) > 6
   ·rw[if_pos c4]at H;have AC:decide (6<(a0.size:Int))=true:=q0p c4;have AD:decide (6<a0.size)=true:=q0p (by omega);clear c4;have H':=am H;clear H;go_wp2
    go_meet
    case rel=>exact⟨_,(true),X7,H',⟨X8⟩,X18⟩
   ·rw[if_neg c4]at H;have AC:decide (6<(a0.size:Int))=false:=q0z c4;have AD:decide (6<a0.size)=false:=q0z (by omega);clear c4;obtain⟨aE,A5,H⟩:=oA H;(try dsimp only at H);by_cases c6:aE=(a0.size:Int)
    ·rw[if_pos c6]at H;have AE:=eT c6;have AF:=eF c6;clear c6;by_cases c7:0<(a0.size:Int)
     ·rw[if_pos c7]at H;have AI:=dT c7;have AJ:decide (0<a0.size)=true:=q0p (by omega);clear c7;by_cases c9:(bt a0 0)=48
      ·rw[if_pos c9]at H;have AG:=eT c9;have AH:=eF c9;clear c9;have H':=am H;clear H;go_wp2_with (first|(go_at_call 90;(with_reducible refine(q2g.calls k a0 aE _ A5.out).mono ?_);rintro e w' ⟨rfl,⟨nd,rfl⟩⟩;have p8:0≤(0:Int):=(by omega);have q8:0<a0.size:=(by have:(0:Int)<(a0.size:Int):=q0a X16;omega);have aH:∀ h:0<a0.size,((a0[0]'h).toNat:Int)=bt a0 0:=q4d a0 0;clear p8;have aI:(0<(a0.size:Int))=True:=q0c (q0a X16);replace q8:=q0c q8))
       go_meet
       case rel=>exact⟨_,(decide ((a0.size:Int) > 1)),X7,H',⟨X8⟩,X18⟩
      ·rw[if_neg c9]at H;have AG:=nF c9;have AH:=nT c9;have H':=am H;clear H;go_wp2_with (first|(go_at_call 90;(with_reducible refine(q2g.calls k a0 aE _ A5.out).mono ?_);rintro e w' ⟨rfl,⟨nd,rfl⟩⟩;have p8:0≤(0:Int):=(by omega);have q8:0<a0.size:=(by have:(0:Int)<(a0.size:Int):=q0a X16;omega);have aH:∀ h:0<a0.size,((a0[0]'h).toNat:Int)=bt a0 0:=q4d a0 0;clear p8;have aI:(0<(a0.size:Int))=True:=q0c (q0a X16);replace q8:=q0c q8))
       go_meet
       case rel=>exact⟨_,(false),X7,H',⟨X8⟩,X18⟩
     ·exact iN c7 H
    ·rw[if_neg c6]at H;have AE:=nF c6;have AF:=nT c6;have H':=am H;clear H;go_wp2_with (first|(go_at_call 90;(with_reducible refine(q2g.calls k a0 aE _ A5.out).mono ?_);rintro e w' ⟨rfl,⟨nd,rfl⟩⟩))
     go_meet
     case rel=>exact⟨_,(true),X7,H',⟨X8⟩,X18⟩
 case rest=>
  clear aA;(try clear p2 c3 AA AB c4 AC AD c6 AE AF c7 AI AJ);(try clear p8 p8);(try clear q8 q8);(try clear aH aI c9 AG AH);obtain⟨kq,aD,rfl,HA,aJ,⟨mc1,rfl⟩⟩:=hcut;cases kq with
  | zero=>exact absurd HA.out (by simp [q1S.j0])
  | succ aK=>
   have H:=HA.out;clear HA;simp only[q1S.j0]at H;by_cases c10:aD=true
   ·subst c10;replace H:=tP H;replace H:=iJ2 H;obtain⟨rfl,rfl⟩:=H;go_wp2
    go_ret2
    exact⟨X7,X18⟩
   ·replace c10:=fI c10;subst c10;replace H:=tN H;have H':=am H;clear H;go_wp2
    go_loopg [4,5] aK (fun kq v4 v5 w'=>∃ (aM:Int) (aQ:Int),v4=iv aM∧v5=iv aQ∧q0i (q1S.l0 kq a0 aM aQ=some (r1,r2))∧q0i (kq≤aK)∧q3t w w')
    case atStart=>exact⟨(0),(0),X7,X7,H',⟨q0f _⟩,X18⟩
    case round=>
     clear H';(try clear c1);(try clear p2 p2);(try clear c3 AA AB c4 AC AD c6 AE AF c7 AI AJ);(try clear p8 p8);(try clear q8 q8);(try clear aH aI c9 AG AH c10);obtain⟨aM,aQ,rfl,rfl,HA,aT,⟨m2,rfl⟩⟩:=hrel;cases gk with
     | zero=>exact absurd HA.out (by simp [q1S.l0])
     | succ k2=>
      have H:=HA.out;clear HA;simp only[q1S.l0]at H;by_cases aU:aQ<(a0.size:Int)
      ·rw[if_pos aU]at H;have AK:=dT aU;clear aU;by_cases aW:0≤aQ
       ·rw[if_pos aW]at H;have AL:=dT aW;clear aW;have H':=am H;clear H;have aX:0≤(aQ:Int):=q0a X16;have aY:aQ<(a0.size:Int):=q0a X16;have hx13:=q4d a0 aQ;replace aX:=q0c aX;replace aY:=q0c aY;go_wp2
        go_roundg k2
        case measure=>have:=aJ.out;have:=aT.out;omega
        case rel=>exact⟨(wrap64 ((wrap64 (10*aM))+(((bt a0 aQ) - 48) % 256))),(wrap64 (aQ+1)),X7,X7,H',⟨by have:=aJ.out;have:=aT.out;omega⟩,X18⟩
       ·exact iN aW H
      ·rw[if_neg aU]at H;have AK:=dF aU;clear aU;replace H:=iJ2 H;obtain⟨rfl,rfl⟩:=H;go_wp2
       go_ret2
       exact⟨X7,X18⟩

def q2y.f (k:Nat) (aA:List (S61)) (aC:Int) (aD:Bool):Option (Int × Int × Bool):=(q1b.f aA aC aD 2).bind fun aE=>((q1S.f k aE.1).bind fun aG=>(some (aG.1,aE.2.1,aE.2.2)))
theorem q2y.calls (k:Nat) (g:Nat) (aA:List (S61)) (aC:Int) (aD:Bool) (r1:Int) (r2:Int) (r3:Bool) (w0 w:World) (hI:q1d w0 w g aA aC aD) (hB:Below w0.heap.size w0 w) (h:q2y.f k aA aC aD=some (r1,r2,r3)) :
  Calls prog 66 #[.pointer (some ⟨g,0,none⟩)] w fun e w'=>e=.returned (iv r1)∧q1d w0 w' g aA r2 r3∧Below w0.heap.size w0 w'∧q2e w w' g none:=by
 have aE:=am hI;have HK:=am (q2D w g none);have HL:=am hB.size;have HGL:=am (q1d.lt hI);clear hI;have HW0:=am hB.size;have HB:=am hB;clear hB;have H:=h;clear h;unfold q2y.f at H;obtain⟨⟨aG,aH,aI⟩,A2,H⟩:=oA H;(try dsimp only at H);obtain⟨⟨aK,aM⟩,A3,H⟩:=oA H;(try dsimp only at H);replace H:=iJ3 H;obtain⟨rfl,rfl,rfl⟩:=H;go_enter func66,ntmps66;go_wp2_with (first|((with_reducible refine gc 61 ?_);refine gCc (some 7) func61 (q1b.calls g aA aC aD 2 aG aH aI w0 _ X110 X111 A2.out) ?_;rintro w4 ⟨hi,hb,hk⟩;replace HK:=am (q0e X112 hk (.inl rfl));replace HB:=am (hb);replace aE:=am (hi);clear hi hb hk)|((with_reducible refine gc 95 ?_);refine gCc (some 8) func95 (q1S.calls k aG aK aM _ A3.out) ?_;rintro w' ⟨nd,rfl⟩))
 go_ret
 exact⟨X11,X110,X111,X112⟩

def q4e.f (l0:List (S28)):Option (Int × q0b × Int × (List (S28))):=if (l0.length:Int)=1 then (if 0<(l0.length:Int) then (some ((q1o l0 0).f0,(q1o l0 0).f1,(q1o l0 0).f2,(q1o l0 0).f3)) else (none)) else (some (5,(⟨#[]⟩:q0b),0,l0))
theorem q4e.calls (aA:Nat→Prop) (A0:Option Addr) (c0:Nat) (l0:List (S28)) (r1:Int) (r2:q0b) (r3:Int) (r4:List (S28)) (w:World) (aC:Kd.V k28 28 w w.heap.size (fun k_=>aA k_) (sl A0 l0 c0) l0) (h:q4e.f l0=some (r1,r2,r3,r4)) :
  Calls prog 94 #[sl A0 l0 c0] w fun e w'=>∃ aD:Value,e=.returned (.agg #[iv r1,.string r2,iv r3,aD])∧Kd.V k28 28 w' w.heap.size (fun k_=>(aA k_∨w.heap.size≤k_)) aD r4∧Below w.heap.size w w':=by
 have hu28:=underlying28;have aE:=am (show Kd.V k28 28 w w.heap.size (fun k_=>(aA k_∨w.heap.size≤k_)) (sl A0 l0 c0) l0 from q0n aC (fun k_ hk=>.inl hk));have HB:=am (q0r w.heap.size w);have H:=h;clear h;unfold q4e.f at H;by_cases c2:(l0.length:Int)=1
 ·rw[if_pos c2]at H;have AA:=eT c2;have AB:=eF c2;clear c2;by_cases c3:0<(l0.length:Int)
  ·rw[if_pos c3]at H;have AD:=dT c3;have AE:decide (0<l0.length)=true:=q0p (by omega);clear c3;replace H:=iJ4 H;obtain⟨rfl,rfl,rfl,rfl⟩:=H;go_enter func94,ntmps94;go_wp2_with (first|((with_reducible refine gd 2 ?_);refine be 2 zNn 28 ?_;intro aG hg w4 hbox hb;replace aE:=am (q0P (q1Z (aV aE.out) aG (q0w hg.symm)) hb);have aH:=am (hbox);have aI:=sG (w:=w) hg X6;have aJ:=sG (w:=w) hg X6;replace HB:=bS X6 hb;clear hb hbox hg;have aK:0≤(0:Int):=(by omega);have aM:0<(l0.length:Int):=q0a X16;obtain⟨ad793,aQ,aT,AC,aU,aW,aX,aY,aZ,bA⟩:=q4K (q1a aE.out).2.2 0 aK aM;cases AC;obtain⟨ce793,bB,bC,bD⟩:=Kd.V_get aE.out z28 0 aK (by first|exact aM|exact q0a X16|(have e_:=(q1a aE.out).1;omega));obtain⟨ua793_3,uc793_3,rfl,bE,bF⟩:=q5J bC;have bG:=bD 3 _ rfl;rw[q4R _ _ 3 (by omega)]at bG;replace bG:=q0d (bG.symm.trans aY);injection bG with hva_ hvn_ hvc_;rw[hva_]at bF;rw[hvc_]at bE;have bH:=am (show Kd.V k28 28 _ w.heap.size _ _ ((q1o l0 0).f3) from Kd.V_mk bE bF);clear hva_ hvn_ hvc_ bF bE;clear bD bB;have qi793:(0<l0.length)=True:=q0c (by omega);(try simp only[tz0,tz1,tz2]at aU);(try simp only[tz0,tz1,tz2]at aW);(try simp only[tz0,tz1,tz2]at aX);(try simp only[tz0,tz1,tz2]at aY);have HR793_3:=am bA;have HC793_3:=am aZ;clear bA aZ;replace aK:=q0c aK;replace aM:=q0c aM;have Z5:=bc4 aH))
   refine bodyPost_ret (results_cell_row rfl _ _ aG 28 #[iv ((q1o l0 0).f0),.string ((q1o l0 0).f1),iv ((q1o l0 0).f2),sl aQ ((q1o l0 0).f3) aT] (0,0) _ rfl (bq0 aH) underlying28 rfl X4) rfl ?_;exact⟨_,X11,aV (q0n (f4V aG (sl aQ ((q1o l0 0).f3) aT) (iv ((q1o l0 0).f2)) (.string ((q1o l0 0).f1)) (iv ((q1o l0 0).f0)) bH.out oKk) (fun _ hk=>hk.1)),(X10 HB aJ)⟩
  ·exact iN c3 H
 ·rw[if_neg c2]at H;have AA:=nF c2;have AB:=nT c2;replace H:=iJ4 H;obtain⟨rfl,rfl,rfl,rfl⟩:=H;go_enter func94,ntmps94;go_wp2_with (first|((with_reducible refine gd 2 ?_);refine be 2 zNn 28 ?_;intro aG hg w6 hbox hb;replace aE:=am (q0P (q1Z (aV aE.out) aG (q0w hg.symm)) hb);have aH:=am (hbox);have aI:=sG (w:=w) hg X6;have aJ:=sG (w:=w) hg X6;replace HB:=bS X6 hb;clear hb hbox hg;have Z7:=bc4 aH))
  refine bodyPost_ret (results_cell_row rfl _ _ aG 28 #[iv 5,.string eBb,iv 0,sl A0 l0 c0] (0,0) _ rfl (bq0 aH) underlying28 rfl X4) rfl ?_;exact⟨_,X11,aV (q0n (f4V aG (sl A0 l0 c0) (iv 0) (.string eBb) (iv 5) aE.out oKk) (fun _ hk=>hk.1)),(X10 HB aJ)⟩

mutual
def q0k.l0:Nat→List (S28)→List (S61)→Int→Bool→Option (Int × q0b × Int × (List (S28)) × Int × Bool)
 | 0,_,_,_,_=>none
 | k+1,x3,aA,aC,aD=>if aD=true then (q0k.j1 k x3 false aA aC aD) else (q0k.j1 k x3 (decide (aC<(aA.length:Int))) aA aC aD)
def q0k.j1:Nat→List (S28)→Bool→List (S61)→Int→Bool→Option (Int × q0b × Int × (List (S28)) × Int × Bool)
 | 0,_,_,_,_,_=>none
 | k+1,x3,aA,aC,aD,aE=>if aA=true then ((q0y.f k aC aD aE).bind fun aG=>(if aG.2.2.2.2.1=true then (q0k.l1 k x3 aC aG.2.2.2.2.2.1 aG.2.2.2.2.2.2 aG.1 aG.2.1 aG.2.2.1 aG.2.2.2.1) else ((q4e.f x3).bind fun aH=>(some (aH.1,aH.2.1,aH.2.2.1,aH.2.2.2,aG.2.2.2.2.2.1,aG.2.2.2.2.2.2))))) else ((q4e.f x3).bind fun aI=>(some (aI.1,aI.2.1,aI.2.2.1,aI.2.2.2,aD,aE)))
def q0k.l1:Nat→List (S28)→List (S61)→Int→Bool→Int→q0b→Int→List (S28)→Option (Int × q0b × Int × (List (S28)) × Int × Bool)
 | 0,_,_,_,_,_,_,_,_=>none
 | k+1,x3,aA,aC,aD,aE,aG,aH,aI=>(q1A.f aA aC aD (⟨#[94]⟩:q0b)).bind fun aJ=>(if aJ.1=true then ((q2y.f k aA (wrap64 (aJ.2.1+1)) aJ.2.2).bind fun aK=>(q0k.l1 k x3 aA aK.2.1 aK.2.2 7 (⟨#[]⟩:q0b) aK.1 (([(⟨aE,aG,aH,aI⟩:S28)]:List (S28))))) else (if aE=5 then (if x3.length+aI.length<2513169434916 then (q0k.l0 k (x3++aI) aA aJ.2.1 aJ.2.2) else (none)) else (if x3.length<2513169434916 then (q0k.l0 k (x3++[(⟨aE,aG,aH,aI⟩:S28)]) aA aJ.2.1 aJ.2.2) else (none))))
def q0k.f:Nat→List (S61)→Int→Bool→Option (Int × q0b × Int × (List (S28)) × Int × Bool)
 | 0,_,_,_=>none
 | k+1,aA,aC,aD=>q0k.l0 k ([]:List (S28)) aA aC aD
def q0y.l0:Nat→List (S28)→List (S61)→Int→Bool→Option (Int × q0b × Int × (List (S28)) × Bool × Int × Bool)
 | 0,_,_,_,_=>none
 | k+1,x7,aA,aC,aD=>(q1A.f aA aC aD (⟨#[47]⟩:q0b)).bind fun aE=>(if aE.1=true then ((q0k.f k aA (wrap64 (aE.2.1+1)) aE.2.2).bind fun aG=>(if x7.length<2513169434916 then (q0y.l0 k (x7++[(⟨aG.1,aG.2.1,aG.2.2.1,aG.2.2.2.1⟩:S28)]) aA aG.2.2.2.2.1 aG.2.2.2.2.2) else (none))) else ((q0G.f aA aE.2.1 aE.2.2 (⟨#[41]⟩:q0b)).bind fun aH=>(if (x7.length:Int)=1 then (if 0<(x7.length:Int) then (some ((q1o x7 0).f0,(q1o x7 0).f1,(q1o x7 0).f2,(q1o x7 0).f3,true,aH.1,aH.2)) else (none)) else (some (6,(⟨#[]⟩:q0b),0,x7,true,aH.1,aH.2)))))
def q0y.f:Nat→List (S61)→Int→Bool→Option (Int × q0b × Int × (List (S28)) × Bool × Int × Bool)
 | 0,_,_,_=>none
 | k+1,aA,aC,aD=>if 0≤aC then (if aC<(aA.length:Int) then (if ((q2G aA aC).f0)=1 then (if ((q2G aA aC).f1).toList=([117]:List UInt8) then (some (1,(⟨#[]⟩:q0b),0,([]:List (S28)),true,wrap64 (aC+1),aD)) else (if ((q2G aA aC).f1).toList=([120]:List UInt8) then (some (3,(⟨#[]⟩:q0b),0,([]:List (S28)),true,wrap64 (aC+1),aD)) else ((q1A.f aA (wrap64 (aC+1)) aD (⟨#[123]⟩:q0b)).bind fun aE=>(if aE.1=true then ((q0k.f k aA (wrap64 (aE.2.1+1)) aE.2.2).bind fun aG=>((q0G.f aA aG.2.2.2.2.1 aG.2.2.2.2.2 (⟨#[125]⟩:q0b)).bind fun aH=>(some (12,(q2G aA aC).f1,0,(([(⟨aG.1,aG.2.1,aG.2.2.1,aG.2.2.2.1⟩:S28)]:List (S28))),true,aH.1,aH.2)))) else (some (4,(q2G aA aC).f1,0,([]:List (S28)),true,aE.2.1,aE.2.2)))))) else (if ((q2G aA aC).f0)=4 then (if ((q2G aA aC).f1).toList=([45]:List UInt8) then (some (2,(⟨#[]⟩:q0b),0,([]:List (S28)),true,wrap64 (aC+1),aD)) else (if ((q2G aA aC).f1).toList=([58]:List UInt8) then (some (9,(⟨#[]⟩:q0b),0,([]:List (S28)),true,wrap64 (aC+1),aD)) else (if ((q2G aA aC).f1).toList=([126]:List UInt8) then (some (10,(⟨#[]⟩:q0b),0,([]:List (S28)),true,wrap64 (aC+1),aD)) else (if ((q2G aA aC).f1).toList=([64]:List UInt8) then ((q1X.f aA (wrap64 (aC+1)) aD).bind fun aI=>(some (11,aI.1,0,([]:List (S28)),true,aI.2.1,aI.2.2))) else (if ((q2G aA aC).f1).toList=([91]:List UInt8) then ((q0k.f k aA (wrap64 (aC+1)) aD).bind fun aJ=>((q0G.f aA aJ.2.2.2.2.1 aJ.2.2.2.2.2 (⟨#[93]⟩:q0b)).bind fun aK=>(some (8,(⟨#[]⟩:q0b),0,(([(⟨aJ.1,aJ.2.1,aJ.2.2.1,aJ.2.2.2.1⟩:S28)]:List (S28))),true,aK.1,aK.2)))) else (if ((q2G aA aC).f1).toList=([40]:List UInt8) then ((q0k.f k aA (wrap64 (aC+1)) aD).bind fun aM=>(q0y.l0 k (([(⟨aM.1,aM.2.1,aM.2.2.1,aM.2.2.2.1⟩:S28)]:List (S28))) aA aM.2.2.2.2.1 aM.2.2.2.2.2)) else (some (0,(⟨#[]⟩:q0b),0,([]:List (S28)),false,wrap64 ((wrap64 (aC+1)) - 1),aD)))))))) else (some (0,(⟨#[]⟩:q0b),0,([]:List (S28)),false,aC,aD)))) else (none)) else (none)
end
def q0k.T2:Bool × List (List Nat × List Nat):=(true,[([],[]),([0],[0]),([1],[1]),([2],[2]),([3],[3]),([4],[4]),([5],[5]),([6,5],[5,6]),([7,5],[5,7]),([8,5],[5,8]),([5],[5]),([10,5],[5,10]),([11,5],[5,11]),([12,5],[5,12]),([13,5],[5,13]),([9,14,5],[5,9,14]),([5,15],[5,15])])
def q0k.B2:List Nat:=[0,1,3,7,15,31,63,127,255,511,63,1087,3135,7231,15423,32767,65535]
theorem q0k.tab2:rtab .any (q5Z Tryz.f65 2)=q0k.T2:=by kernel_rfl
theorem q0k.bits2:q4i q0k.T2.2 q0k.B2=true:=by kernel_rfl
def q0k.T7:Bool × List (List Nat × List Nat):=(true,[([],[]),([0],[0]),([],[]),([2],[2]),([1,3],[1,3]),([4,1,0,1,2,3,4],[4])])
def q0k.B7:List Nat:=[0,1,0,4,15,31]
theorem q0k.tab7:rtab .any (q5Z Tryz.f65 7)=q0k.T7:=by kernel_rfl
theorem q0k.bits7:q4i q0k.T7.2 q0k.B7=true:=by kernel_rfl

def q0y.T1:Bool × List (List Nat × List Nat):=(true,[([],[]),([0],[0]),([1],[1]),([2],[2]),([],[]),([4],[4]),([5],[5]),([6],[6]),([3,7],[3,7]),([8],[8]),([],[]),([10,9,0,1,2,3,4,5,6,7,8,9,10],[9,10])])
def q0y.B1:List Nat:=[0,1,3,7,0,16,48,112,255,511,0,2047]
theorem q0y.tab1:rtab .any (q5Z Tryz.f93 1)=q0y.T1:=by kernel_rfl
theorem q0y.bits1:q4i q0y.T1.2 q0y.B1=true:=by kernel_rfl

@[reducible] def q0k.Stmt (k:Nat):Prop:=∀ (g:Nat) (s0_0:List (S61)) (s0_1:Int) (s0_2:Bool) (r1:Int) (r2:q0b) (r3:Int) (r4:List (S28)) (r5:Int) (r6:Bool) (w0 w:World) (hI:q1d w0 w g s0_0 s0_1 s0_2) (hB:Below w0.heap.size w0 w) (h:q0k.f k s0_0 s0_1 s0_2=some (r1,r2,r3,r4,r5,r6)),
  Calls prog 65 #[.pointer (some ⟨g,0,none⟩)] w fun e w'=>∃ v3_:Value,e=.returned (.agg #[iv r1,.string r2,iv r3,v3_])∧Kd.V k28 28 w' w.heap.size (fun k_=>(w.heap.size≤k_)) v3_ r4∧q1d w0 w' g s0_0 r5 r6∧Below w0.heap.size w0 w'∧q2e w w' g none
@[reducible] def q0y.Stmt (k:Nat):Prop:=∀ (g:Nat) (s0_0:List (S61)) (s0_1:Int) (s0_2:Bool) (r1:Int) (r2:q0b) (r3:Int) (r4:List (S28)) (r5:Bool) (r6:Int) (r7:Bool) (w0 w:World) (hI:q1d w0 w g s0_0 s0_1 s0_2) (hB:Below w0.heap.size w0 w) (h:q0y.f k s0_0 s0_1 s0_2=some (r1,r2,r3,r4,r5,r6,r7)),
  Calls prog 93 #[.pointer (some ⟨g,0,none⟩)] w fun e w'=>∃ v3_:Value,e=.returned (.tuple #[.agg #[iv r1,.string r2,iv r3,v3_],.bool r5])∧Kd.V k28 28 w' w.heap.size (fun k_=>(w.heap.size≤k_)) v3_ r4∧q1d w0 w' g s0_0 r6 r7∧Below w0.heap.size w0 w'∧q2e w w' g none
theorem q0k.step (k:Nat) (ih:∀ m_,m_<k→q0k.Stmt m_) (ih_ancepsref22_reader_part:∀ m_,m_<k→q0y.Stmt m_):q0k.Stmt k:=by
 intro g aA aC aD r1 r2 r3 r4 r5 r6 w0 w hI hB h;cases k with
 | zero=>exact absurd h (by simp [q0k.f])
 | succ k=>
 simp only[q0k.f]at h;have hu28:=underlying28;have aE:=am hI;have HK:=am (q2D w g none);have HL:=am hB.size;have HGL:=am (q1d.lt hI);clear hI;have aG:=am hB.size;have HB:=am hB;clear hB;have H:(q0k.l0 k ([]:List (S28)) aA aC aD)=some (r1,r2,r3,r4,r5,r6):=h;clear h;have H':=am H;clear H;go_enter func65,ntmps65;go_wp2_with (first|((with_reducible refine gd 2 ?_);(try (refine q2p (by rfl) ?_;dsimp only));refine be 2 zNn 28 ?_;intro aH hg w2 hbox hb;replace HB:=bS X111 hb;have aI:=am (hbox);have aJ:=am ((X120:w.heap.size≤aH));have aK:=am ((q0m aG.out (X120:w.heap.size≤aH):w0.heap.size≤aH));replace HK:=am (q0e X112 (q0M hb g none) (.inl rfl));have aM:=am ((X121:g≠aH));have aQ:=am ((X122:aH≠g));replace aE:=am (q1d.below X110 hb);clear hb hbox hg))
 go_loopg [3] k (fun kq v3 w'=>∃ (aT:List (S28)) (aU:Int) (aW:Bool),q0i (q0k.l0 kq aT aA aU aW=some (r1,r2,r3,r4,r5,r6))∧q0i (kq≤k)∧q0i (Kd.N k28 28 w' w.heap.size (fun k_=>(w.heap.size≤k_)∧k_≠aH∧k_≠g) v3 aT)∧q0i (w'.heap[aH]?=some (.cells #[iv 0,.string eBb,iv 0,(.slice none 0 0)] 28 (0,0)))∧q0i (q1d w0 w' g aA aU aW)∧q0i (q2e w w' g none)∧q0i (Below w0.heap.size w0 w'))
 case atStart=>exact⟨(([]:List (S28))),(aC),(aD),H',⟨q0f _⟩,⟨X104⟩,⟨(X9 aI)⟩,⟨(X124 aE aM)⟩,⟨(X50 HK aJ)⟩,⟨X126⟩⟩
 case round=>
  clear H';(try clear p2);obtain⟨aT,aU,aW,HA,aX,aY,aI,aE,HK,HB⟩:=hrel;cases gk with
  | zero=>exact absurd HA.out (by simp [q0k.l0])
  | succ k1=>
   have H:=HA.out;clear HA;simp only[q0k.l0]at H;have aZ:=am H;clear H;go_upto_region 2 with (fail)
   go_cut [22] (fun bA wc=>∃ (kq:Nat) (bB:Bool),bA=.bool bB∧q0i (q0k.j1 kq aT bB aA aU aW=some (r1,r2,r3,r4,r5,r6))∧q0i (kq≤k1)∧q0i (Kd.N k28 28 wc w.heap.size (fun k_=>(w.heap.size≤k_)∧k_≠aH∧k_≠g) u3 aT)∧q0i (wc.heap[aH]?=some (.cells #[iv 0,.string eBb,iv 0,(.slice none 0 0)] 28 (0,0)))∧q0i (q1d w0 wc g aA aU aW)∧q0i (q2e w wc g none)∧q0i (Below w0.heap.size w0 wc))
   case first=>
    have H:=aZ.out;clear aZ;by_cases c4:aW=true
    ·subst c4;replace H:=tP H;have H':=am H;clear H;try go_wp2
     replace aY:=am (q3m aY.out);replace aI:=am (q0B aI.out);replace aE:=am (q1d.drew aE.out);replace HK:=am (q3q HK.out);replace HB:=am (q1U HB.out);obtain⟨bC,bD,bG,bH,bI,bJ,bK,_⟩:=tS65 aE;refine q4P (n:=17) (S:=fun w'=>dd3 w' g (sl bC aA bD) (iv aU) (.bool true)) (ds:=[]) (lb 17 0) X4 rfl rfl ⟨(bG).trans rfl,(bH).trans rfl,(bI).trans rfl⟩ (fun hHeld=>?_);refine q3W q0k.tab2 q0k.bits2 (fun HT_ HW_=>?_);generalize wr.drew=w5 at aY aI aE HK HB hHeld ⊢
     refine pu 0 (some 6) (lb 17 1) HT_ ?_;refine pu 1 (some 7) (lb 17 3) HT_ ?_;refine pu 2 (some 8) (lb 17 7) HT_ ?_;refine tk 3 (some 9) (lb 17 15) HT_ HW_ hHeld ?_;refine pu 4 (some 10) (lb 17 31) HT_ ?_;refine pu 5 (some 11) (lb 17 63) HT_ ?_;refine pn 6 (some 12) (lb 17 127) HT_ ?_;refine pn 7 (some 13) (lb 17 255) HT_ ?_;refine pn 8 (some 14) (lb 17 511) HT_ ?_;refine pn 9 (some 15) (lb 17 1023) HT_ ?_;refine pn 10 (some 16) (lb 17 2047) HT_ ?_;refine pn 11 (some 17) (lb 17 4095) HT_ ?_;refine pn 12 (some 18) (lb 17 8191) HT_ ?_;refine pn 13 (some 19) (lb 17 16383) HT_ ?_;refine pn 14 (some 20) (lb 17 32767) HT_ ?_;refine pn 15 (some 21) (lb 17 65535) HT_ ?_;refine pu 16 (some 22) (lb 17 131071) HT_ ?_;refine q5N (q4z HT_.out X4) ?_;try go_wp2
     go_meet
     case rel=>exact⟨_,(false),X7,H',⟨(X90 aX)⟩,⟨aN aY.out⟩,⟨(X9 aI)⟩,⟨(X124 aE aM)⟩,⟨(X50 HK aJ)⟩,⟨X126⟩⟩
    ·replace c4:=fI c4;subst c4;replace H:=tN H;have H':=am H;clear H;try go_wp2
     replace aY:=am (q3m aY.out);replace aI:=am (q0B aI.out);replace aE:=am (q1d.drew aE.out);replace HK:=am (q3q HK.out);replace HB:=am (q1U HB.out);obtain⟨bL,bM,bP,bQ,bR,bT,bU,_⟩:=tS65 aE;refine q4P (n:=17) (S:=fun w'=>dd3 w' g (sl bL aA bM) (iv aU) (.bool false)) (ds:=[]) (lb 17 0) X4 rfl rfl ⟨(bP).trans rfl,(bQ).trans rfl,(bR).trans rfl⟩ (fun hHeld=>?_);refine q3W q0k.tab2 q0k.bits2 (fun HT_ HW_=>?_);generalize wr.drew=w7 at aY aI aE HK HB hHeld ⊢
     refine pu 0 (some 6) (lb 17 1) HT_ ?_;refine pu 1 (some 7) (lb 17 3) HT_ ?_;refine pu 2 (some 8) (lb 17 7) HT_ ?_;refine tk 3 (some 9) (lb 17 15) HT_ HW_ hHeld ?_;refine pu 4 (some 10) (lb 17 31) HT_ ?_;refine pu 5 (some 11) (lb 17 63) HT_ ?_;refine pu 6 (some 12) (lb 17 127) HT_ ?_;refine pu 7 (some 13) (lb 17 255) HT_ ?_;refine pu 8 (some 14) (lb 17 511) HT_ ?_;refine pu 10 (some 16) (lb 17 1535) HT_ ?_;refine pu 11 (some 17) (lb 17 3583) HT_ ?_;refine pu 12 (some 18) (lb 17 7679) HT_ ?_;refine tk 9 (some 15) (lb 17 8191) HT_ HW_ hHeld ?_;refine tk 13 (some 19) (lb 17 16383) HT_ HW_ hHeld ?_;refine pu 14 (some 20) (lb 17 32767) HT_ ?_;refine pu 15 (some 21) (lb 17 65535) HT_ ?_;refine pu 16 (some 22) (lb 17 131071) HT_ ?_;refine q5N (q4z HT_.out X4) ?_;try go_wp2
     go_meet
     case rel=>exact⟨_,(decide (aU<(aA.length:Int))),X7,H',⟨(X90 aX)⟩,⟨aN aY.out⟩,⟨(X9 aI)⟩,⟨(X124 aE aM)⟩,⟨(X50 HK aJ)⟩,⟨X126⟩⟩
   case rest=>
    clear aZ;(try clear p2 p2);(try clear c4 c6);(try clear bG bH bI bJ bK);(try clear bP bQ bR bT bU);obtain⟨kq,bB,rfl,HA,bV,aY,aI,aE,HK,HB⟩:=hcut;cases kq with
    | zero=>exact absurd HA.out (by simp [q0k.j1])
    | succ bW=>
     have H:=HA.out;clear HA;simp only[q0k.j1]at H;by_cases c9:bB=true
     ·subst c9;replace H:=tP H;obtain⟨⟨bX,bY,bZ,cA,cC,cD,cE⟩,cG,H⟩:=oA H;(try dsimp only at H);by_cases cH:cC=true
      ·subst cH;replace H:=tP H;have H':=am H;clear H;go_wp2_with (first|((with_reducible refine gc 93 ?_);refine gC1 (some 25) func93 (ih_ancepsref22_reader_part bW (by have:=aX.out;have:=bV.out;omega) g aA aU aW bX bY bZ cA true cD cE w0 _ (X124 aE aM) X126 cG.out) ?_;rintro cI w12 ⟨cJ,hi,hb,hk⟩;have cK:=am (q2o (q0n (ok':=fun k_=>(w.heap.size≤k_)∧nO k_ u3∧k_≠aH∧k_≠g) cJ (fun k_ hk_=>⟨(q0m (q0T (w:=w) (g:=g) (row:=none) (X50 HK aJ)) hk_),(q0K (q1V (aN aY.out)) k_ hk_),(q0u (g:=aH) (o:=.cells zNn 28 (0,0)) (X9 aI) k_ hk_),((fun e_=>absurd HGL.out (q1D.2 (q0m (q0T (w:=w) (g:=g) (row:=none) (X50 HK aJ)) (e_ ▸ hk_)))))⟩)) (q0T (w:=w) (g:=g) (row:=none) (X50 HK aJ)));replace aY:=nKk aY hk;replace aI:=kK aI hk aQ;replace HK:=am (q0e (X50 HK aJ) hk (.inl rfl));replace HB:=am (hb);replace aE:=am (hi);clear hi hb hk;(try clear cJ))|((with_reducible refine gd 4 ?_);(try (refine q2p (by rfl) ?_;dsimp only));refine be 4 zNn 28 ?_;intro cL hg w13 hbox hb;replace aY:=am (q0F (q1N (aN aY.out) cL (q0w hg.symm)) hb);replace cK:=am (q0P (q1Z (aV cK.out) cL (q0w hg.symm)) hb);replace HB:=bS X126 hb;have cM:=am (hbox);have cN:=am (((X128 HK aJ):w.heap.size≤cL));have cO:=am ((q0m aG.out ((X128 HK aJ):w.heap.size≤cL):w0.heap.size≤cL));replace HK:=am (q0e (X50 HK aJ) (q0M hb g none) (.inl rfl));have cP:=nLT hg aI;have cQ:=nGT hg aI;replace aI:=kB aI hb;have cR:=am ((X129:g≠cL));have cS:=am ((X130:cL≠g));replace aE:=am (q1d.below (X124 aE aM) hb);clear hb hbox hg;have AW:=cQ.out;have AX:=cP.out;have AY:=cS.out;have AZ:=cR.out;have cT:=bc4 cM;obtain⟨cU,cV,cX⟩:=q1R cK.out;subst cX))
       go_loopg [] bW (fun kq w'=>∃ (cY:Int) (cZ:Bool) (dA:Int) (dB:q0b) (dC:Int) (dD:List (S28)) (AL:Value),q0i (q0k.l1 kq aT aA cY cZ dA dB dC dD=some (r1,r2,r3,r4,r5,r6))∧q0i (kq≤bW)∧q0i (Kd.N k28 28 w' w.heap.size (fun k_=>(w.heap.size≤k_)∧k_≠aH∧k_≠cL∧k_≠g) u3 aT)∧q0i (Kd.V k28 28 w' w.heap.size (fun k_=>(w.heap.size≤k_)∧nO k_ u3∧k_≠aH∧k_≠cL∧k_≠g) AL dD)∧q0i (w'.heap[aH]?=some (.cells #[iv 0,.string eBb,iv 0,(.slice none 0 0)] 28 (0,0)))∧q0i (w'.heap[cL]?=some (.cells #[iv dA,.string dB,iv dC,AL] 28 (0,0)))∧q0i (q1d w0 w' g aA cY cZ)∧q0i (q2e w w' g none)∧q0i (Below w0.heap.size w0 w'))
       case atStart=>exact⟨(cD),(cE),(bX),(bY),(bZ),(cA),(sl cU cA cV),H',⟨q0f _⟩,⟨aN (q0o (f4N cL (sl cU cA cV) (iv bZ) (.string bY) (iv bX) aY.out oKk) oKk)⟩,⟨aV (q0n (f4V cL (sl cU cA cV) (iv bZ) (.string bY) (iv bX) cK.out oKk) oKk)⟩,⟨by (with_reducible repeat (first|refine q0A ?_ _|refine q0B ?_|refine q0v ?_ _));refine q1M ?_ cP.out _;(with_reducible repeat (first|refine q0A ?_ _|refine q0B ?_|refine q0v ?_ _));refine q1M ?_ cP.out _;(with_reducible repeat (first|refine q0A ?_ _|refine q0B ?_|refine q0v ?_ _));refine q1M ?_ cP.out _;(with_reducible repeat (first|refine q0A ?_ _|refine q0B ?_|refine q0v ?_ _));refine q1M ?_ cP.out _;(with_reducible repeat (first|refine q0A ?_ _|refine q0B ?_|refine q0v ?_ _));exact aI.out⟩,⟨by (with_reducible repeat (first|refine q0A ?_ _|refine q0B ?_|refine q0v ?_ _));refine q1T (cs:=#[iv bX,.string bY,iv bZ,.slice none 0 0]) ?_ 3 _ rfl;refine q1T (cs:=#[iv bX,.string bY,iv 0,.slice none 0 0]) ?_ 2 _ rfl;refine q1T (cs:=#[iv bX,.string eBb,iv 0,.slice none 0 0]) ?_ 1 _ rfl;(with_reducible repeat (first|refine q0A ?_ _|refine q0B ?_|refine q0v ?_ _));refine q1T (cs:=zNn) ?_ 0 _ rfl;(with_reducible repeat (first|refine q0A ?_ _|refine q0B ?_|refine q0v ?_ _));exact cM.out⟩,⟨X131⟩,⟨X132⟩,⟨X133⟩⟩
       case round=>
        clear H';(try clear c1);(try clear p2 p2);(try clear c4 c6 c9 cH c14 c15 cT);(try clear bG bH bI bJ bK);(try clear bP bQ bR bT bU);obtain⟨cY,cZ,dA,dB,dC,dD,AL,HA,dE,aY,dG,aI,cM,aE,HK,HB⟩:=hrel;cases gk with
        | zero=>exact absurd HA.out (by simp [q0k.l1])
        | succ k3=>
         have H:=HA.out;clear HA;simp only[q0k.l1]at H;obtain⟨⟨dH,dI,dJ⟩,dL,H⟩:=oA H;(try dsimp only at H);by_cases dM:dH=true
         ·subst dM;replace H:=tP H;obtain⟨⟨dN,dO,dP⟩,dR,H⟩:=oA H;(try dsimp only at H);obtain⟨dS,dU⟩:∃ y_:List (S28),y_=(([(⟨dA,dB,dC,dD⟩:S28)]:List (S28))):=⟨_,rfl⟩;rw[← dU]at H;(try rw[oG dS]at H)
          have dW:=am dU;clear dU;have H':=am H;clear H;try go_wp2_with (first|((with_reducible refine gc 63 ?_);refine gCc (some 31) func63 (q1A.calls g aA cY cZ (⟨#[94]⟩:q0b) true dI dJ w0 _ X131 X133 dL.out) ?_;rintro dX ⟨hi,hb,hk⟩;replace aY:=nKk aY hk;replace dG:=vKk dG hk;replace aI:=kK aI hk aQ;replace cM:=kK cM hk cS;replace HK:=am (q0e X132 hk (.inl rfl));replace HB:=am (hb);replace aE:=am (hi);clear hi hb hk;obtain⟨_,_,_,_,_,_,_,_⟩:=tS65 aE;obtain⟨eA,eB,eC⟩:=q1R dG.out;subst eC))
          have eD:=am (q0o (fxN g 1 (iv (wrap64 (dI+1))) aY.out oKk) (ok':=fun k_=>(w.heap.size≤k_)∧k_≠aH∧k_≠cL∧k_≠g) oKk);have eE:=am (q0n (fxV g 1 (iv (wrap64 (dI+1))) dG.out oKk) (ok':=fun k_=>(w.heap.size≤k_)∧nO k_ u3∧k_≠aH∧k_≠cL∧k_≠g) oKk);have eG:q0i ((dX.setCell ⟨g,1,none⟩ (iv (wrap64 (dI+1)))).heap[aH]?=some (.cells zNn 28 (0,0))):=⟨by (with_reducible repeat (first|refine q0A ?_ _|refine q0B ?_|refine q0v ?_ _));refine q1M ?_ aQ.out _;(with_reducible repeat (first|refine q0A ?_ _|refine q0B ?_|refine q0v ?_ _));exact aI.out⟩;have eH:q0i ((dX.setCell ⟨g,1,none⟩ (iv (wrap64 (dI+1)))).heap[cL]?=some (.cells #[iv dA,.string dB,iv dC,sl eA dD eB] 28 (0,0))):=⟨by (with_reducible repeat (first|refine q0A ?_ _|refine q0B ?_|refine q0v ?_ _));refine q1M ?_ cS.out _;(with_reducible repeat (first|refine q0A ?_ _|refine q0B ?_|refine q0v ?_ _));exact cM.out⟩;have eI:q0i (q1d w0 (dX.setCell ⟨g,1,none⟩ (iv (wrap64 (dI+1)))) g aA (wrap64 (dI+1)) dJ):=⟨X131⟩;have eJ:q0i (q2e w (dX.setCell ⟨g,1,none⟩ (iv (wrap64 (dI+1)))) g none):=⟨X132⟩;have eK:q0i (Below w0.heap.size w0 (dX.setCell ⟨g,1,none⟩ (iv (wrap64 (dI+1))))):=⟨X133⟩;(try clear aY dG aI cM aE HK HB);generalize (dX.setCell ⟨g,1,none⟩ (iv (wrap64 (dI+1))))=eL at eD eE eG eH eI eJ eK ⊢
          have aY:=eD;have dG:=eE;have aI:=eG;have cM:=eH;have aE:=eI;have HK:=eJ;have HB:=eK;clear eD eE eG eH eI eJ eK;replace aY:=am (q3m aY.out);replace dG:=am (q3G dG.out);replace aI:=am (q0B aI.out);replace cM:=am (q0B cM.out);replace aE:=am (q1d.drew aE.out);replace HK:=am (q3q HK.out);replace HB:=am (q1U HB.out);refine q4P (n:=6) (S:=fun w'=>True) (ds:=[]) (lb 6 0) X4 rfl rfl trivial (fun hHeld=>?_);refine q3W q0k.tab7 q0k.bits7 (fun HT_ HW_=>?_);generalize eL.drew=w25 at aY dG aI cM aE HK HB hHeld ⊢
          refine pu 0 (some 39) (lb 6 1) HT_ ?_;refine v2U [1,2,3,4,5] (fun eM b a w'=>∃ (eN:Value) (eO:Value),a=q4A eM b [(1,40,iv dN),(2,41,.agg #[iv dA,.string dB,iv dC,sl eA dD eB]),(3,42,eN),(4,43,eO)]∧(Kd.N k28 28 w' w.heap.size (fun k_=>(w.heap.size≤k_)∧k_≠aH∧k_≠cL∧k_≠g) u3 aT)∧(Kd.V k28 28 w' w.heap.size (fun k_=>(w.heap.size≤k_)∧nO k_ u3∧k_≠aH∧k_≠cL∧k_≠g) (sl eA dD eB) dD)∧(w'.heap[aH]?=some (.cells zNn 28 (0,0)))∧(b 5=false→w'.heap[cL]?=some (.cells #[iv dA,.string dB,iv dC,sl eA dD eB] 28 (0,0)))∧(b 1=false→q1d w0 w' g aA (wrap64 (dI+1)) dJ)∧(q2e w w' g none)∧(Below w0.heap.size w0 w')∧(b 1=true→q1d w0 w' g aA dO dP)∧(b 3=true→Kd.N k28 28 w' w.heap.size (fun k_=>(w.heap.size≤k_)∧nO k_ u3∧k_≠aH∧k_≠cL∧k_≠g) eN dS)∧(b 5=true→w'.heap[cL]?=some (.cells #[iv 7,.string eBb,iv dN,eN] 28 (0,0)))∧(b 4=true→(eO:Value)=.agg #[iv 7,.string eBb,iv dN,eN])) HT_.out HW_.out X4 X4 ?_ ?_ ?_
          ·exact⟨.bool false,.bool false,by simp only[q4A,Bool.false_eq_true,if_false],aY.out,dG.out,aI.out,fun _=>cM.out,fun _=>aE.out,HK.out,HB.out,fun h_=>absurd h_ (by decide),fun h_=>absurd h_ (by decide),fun h_=>absurd h_ (by decide),fun h_=>absurd h_ (by decide)⟩
          ·skip
           clear aI cM HB aE HK aY dG;refine q4C ?_ ?_
           ·rintro b a w' ⟨eN,eO,ha,AF,AA,AC,AD,AJ,AH,AI,AB,AE,AG,AK⟩ hb_ hon hoff;refine⟨_,rfl,fun K hK=>?_⟩;have e39:a.tmps[39]?=some (.pointer (some ⟨g,0,none⟩)):=by rw[ha];exact(q4L rfl).trans rfl
            replace ha:=am ha;have aY:=am AF;have dG:=am AA;have aI:=am AC;have cM:=am (AD (hoff 5 X4));have aE:=am (AJ hb_);have HK:=am AH;have HB:=am AI;refine q9u func66 X4 rfl #[.pointer (some ⟨g,0,none⟩)] (by rfl) rfl rfl (by first|(simp only[List.map_toArray,List.map_cons,List.map_nil,Act.eval,Array.getD_eq_getD_getElem?,Option.getD_some,e39];done)|(simp only[List.map_toArray,List.map_cons,List.map_nil,Act.eval,Array.getD_eq_getD_getElem?,Option.getD_some,e39];rfl)) ?_;with_reducible refine(q2y.calls k3 g aA (wrap64 (dI+1)) dJ dN dO dP w0 _ ?side1 ?side2 dR.out).mono ?_
            (case side1=>exact X131);(case side2=>exact X133);rintro e eP ⟨rfl,hi,hb,hk⟩;refine⟨_,rfl,?_⟩;have eD:=nKk aY hk;have eE:=vKk dG hk;have eG:=kK aI hk aQ;have eH:=kK cM hk cS;have eI:=am (q0e X132 hk (.inl rfl));have eJ:=am (hb);have eK:=am (hi);have z_HO928:=fun (eQ:b 3=true)=>(show Kd.N k28 28 eP w.heap.size (fun k_=>(w.heap.size≤k_)∧nO k_ u3∧k_≠aH∧k_≠cL∧k_≠g) eN dS from by first|exact(q1i (aN (AE eQ)) hk oKk)|exact q0o (q1i (aN (AE eQ)) hk oKk) (fun _ h_=>by first|trivial|exact h_|exact h_.1));clear aY;clear dG;clear aI;clear cM;clear HK;clear HB;clear aE;have aY:=eD;have dG:=eE;have aI:=eG;have cM:=eH;have HK:=eI;have HB:=eJ;have aE:=eK;clear eD eE eG eH eI eJ eK;(try clear hb hb2 hk hi);refine hK.out _ _ ⟨eN,eO,(by rw[ha.out];exact q4Z 0 hb_ rfl rfl rfl),(aN aY.out),(aV dG.out),(X9 aI),fun _=>(X9 cM),fun eQ=>absurd ((q5V b 1).symm.trans eQ) (by decide),X132,X133,fun _=>X131,z_HO928,fun eQ=>absurd ((hoff 5 X4).symm.trans eQ) (by decide),fun eQ=>absurd ((hoff 4 X4).symm.trans eQ) (by decide)⟩
           refine q4C ?_ ?_
           ·rintro b a w' ⟨eN,eO,ha,AF,AA,AC,AD,AJ,AH,AI,AB,AE,AG,AK⟩ hb_ hon hoff;refine⟨_,rfl,fun K hK=>?_⟩;have e4:a.tmps[4]?=some (.pointer (some ⟨cL,0,none⟩)):=by rw[ha];exact(q4L rfl).trans rfl
            replace ha:=am ha;have aY:=am AF;have dG:=am AA;have aI:=am AC;have cM:=am (AD (hoff 5 X4));have HK:=am AH;have HB:=am AI;have hc0_:w'.cell? ⟨cL,0,none⟩=some (iv dA):=(q0X cM.out 0).trans rfl;have hc1_:w'.cell? ⟨cL,1,none⟩=some (.string dB):=(q0X cM.out 1).trans rfl;have hc2_:w'.cell? ⟨cL,2,none⟩=some (iv dC):=(q0X cM.out 2).trans rfl;have hc3_:w'.cell? ⟨cL,3,none⟩=some (sl eA dD eB):=(q0X cM.out 3).trans rfl;refine q8d (w1:=w') (v:=.agg #[iv dA,.string dB,iv dC,sl eA dD eB]) (by rfl) rfl ?_ ?_
            ·go_simp;(try simp only[q4g]);try rfl
            refine hK.out _ _ ⟨eN,eO,(by rw[ha.out];exact q4Z 1 hb_ rfl rfl rfl),AF,AA,AC,AD,AJ,AH,AI,AB,fun eQ=>absurd ((hoff 3 X4).symm.trans eQ) (by decide),fun eQ=>absurd ((hoff 5 X4).symm.trans eQ) (by decide),fun eQ=>absurd ((hoff 4 X4).symm.trans eQ) (by decide)⟩
           refine q4C ?_ ?_
           ·rintro b a w' ⟨eN,eO,ha,AF,AA,AC,AD,AJ,AH,AI,AB,AE,AG,AK⟩ hb_ hon hoff;refine⟨_,rfl,fun K hK=>?_⟩;have e41:a.tmps[41]?=some (.agg #[iv dA,.string dB,iv dC,sl eA dD eB]):=by rw[ha];exact q5e (e:=(2,41,.agg #[iv dA,.string dB,iv dC,sl eA dD eB])) 1 rfl rfl (hon 2 X4) rfl
            replace ha:=am ha;have aY:=am AF;have dG:=am AA;have aI:=am AC;have cM:=am (AD (hoff 5 X4));have HK:=am AH;have HB:=am AI;refine Kd.N_lit_step k28 _ 28 ?hg (N':=42) ?hd (xs:=([(⟨dA,dB,dC,dD⟩:S28)]:List (S28))) (inner:=[iv dA,.string dB,iv dC,sl eA dD eB]) (ok:=(fun k_=>(w.heap.size≤k_)∧nO k_ u3∧k_≠aH∧k_≠cL∧k_≠g)) (okp:=(fun k_=>(w.heap.size≤k_)∧nO k_ u3∧k_≠aH∧k_≠cL∧k_≠g)) ?hr ?hp (fun _ hk=>hk) ((show ∀ k_,w'.heap.size≤k_→(fun k_=>(w.heap.size≤k_)∧nO k_ u3∧k_≠aH∧k_≠cL∧k_≠g) k_ from fun k_ hk=>⟨(q0m (q0T (w:=w) (g:=g) (row:=none) X132) hk),q0K (q1V (aN aY.out)) k_ hk,q0u (g:=aH) (o:=.cells zNn 28 (0,0)) (X9 aI) k_ hk,q0u (g:=cL) (o:=.cells #[iv dA,.string dB,iv dC,sl eA dD eB] 28 (0,0)) (X9 cM) k_ hk,(fun e_=>absurd HGL.out (q1D.2 (q0m (q0T (w:=w) (g:=g) (row:=none) X132) (e_ ▸ hk))))⟩) _ (q0f _)) (q0r _ _) (q0f _) (by simp) ?_;(case hd=>rfl);(case hg=>rfl);(case hr=>exact X70);(case hp=>exact(Reps.c4 (show Kd.FK k28 _ _ (⟨dA,dB,dC,dD⟩:S28) [iv dA,.string dB,iv dC,sl eA dD eB] from(q5r _ _ (⟨dA,dB,dC,dD⟩:S28) (q1a (q0n (ok':=(fun k_=>(w.heap.size≤k_)∧nO k_ u3∧k_≠aH∧k_≠cL∧k_≠g)) (dG.out) oKk)).2.1 (Kd.V_F (q0n (ok':=(fun k_=>(w.heap.size≤k_)∧nO k_ u3∧k_≠aH∧k_≠cL∧k_≠g)) (dG.out) oKk)))) (q3C _ _)));intro eN eP eR hb hg_ hnew_;clear hg_ hnew_;(first|rw[← dW.out]at eR|(simp only[Int.reduceToNat]at eR;rw[← dW.out]at eR));have eD:=am (q1n (aN aY.out) (q2b eR) hb);have eE:=am (q2a (aV dG.out) (q2b eR) hb);have eG:=am (q2s eR (q0T (w:=w) (g:=g) (row:=none) X132));have eH:=kB aI hb;have eI:=kB cM hb;have eK:=am (q0e X132 (q0M hb g none) (.inl rfl));have eS:=bS (X17 HB aK cO) hb;have z_HI0:=fun (eQ:b 1=false)=>(show q1d w0 eP g aA (wrap64 (dI+1)) dJ from by first|exact(q1d.below (by repeat (first|(with_reducible first|exact(AJ eQ)|apply q1d.alloc|apply q1d.drewN|apply q1d.drew|apply q1d.set_1|apply q1d.set_2|apply q1d.farB aM.out|apply q1d.farB cR.out)|exact(AJ eQ))) hb));have z_HI0_e1:=fun (eQ:b 1=true)=>(show q1d w0 eP g aA dO dP from by first|exact(q1d.below (by repeat (first|(with_reducible first|exact(AB eQ)|apply q1d.alloc|apply q1d.drewN|apply q1d.drew|apply q1d.set_1|apply q1d.set_2|apply q1d.farB aM.out|apply q1d.farB cR.out)|exact(AB eQ))) hb));clear aY;clear dG;clear aI;clear cM;clear HK;clear HB;have aY:=eD;have dG:=eE;have eU:=eG;have aI:=eH;have cM:=eI;have HK:=eK;have HB:=eS;clear eD eE eG eH eI eK eS;clear hb eR;refine hK.out _ _ ⟨eN,eO,(by rw[ha.out];exact q4Z 2 hb_ rfl rfl rfl),(q0o (show Kd.N k28 28 _ w.heap.size (fun k_=>(w.heap.size≤k_)∧nO k_ eN∧k_≠aH∧k_≠cL∧k_≠g) u3 aT from(aN (q0o aY.out oKk))) oKk),(q0n (show Kd.V k28 28 _ w.heap.size (fun k_=>(w.heap.size≤k_)∧nO k_ eN∧nO k_ u3∧k_≠aH∧k_≠cL∧k_≠g) (sl eA dD eB) dD from(aV (q0n dG.out oKk))) oKk),(X9 aI),fun _=>(X9 cM),z_HI0,X132,(X17 HB aK cO),z_HI0_e1,fun _=>(aN eU.out),fun eQ=>absurd ((hoff 5 X4).symm.trans eQ) (by decide),fun eQ=>absurd ((hoff 4 X4).symm.trans eQ) (by decide)⟩
           refine q4C ?_ ?_
           ·rintro b a w' ⟨eN,eO,ha,AF,AA,AC,AD,AJ,AH,AI,AB,AE,AG,AK⟩ hb_ hon hoff;refine⟨_,rfl,fun K hK=>?_⟩;have e40:a.tmps[40]?=some (iv dN):=by rw[ha];exact q5e (e:=(1,40,iv dN)) 0 rfl rfl (hon 1 X4) rfl
            have e42:a.tmps[42]?=some (eN):=by rw[ha];exact q5e (e:=(3,42,eN)) 2 rfl rfl (hon 3 X4) rfl
            replace ha:=am ha;have aY:=am AF;have dG:=am AA;have aI:=am AC;have cM:=am (AD (hoff 5 X4));have HK:=am AH;have HB:=am AI;have aE:=am (AB (hon 1 X4));have eU:=am (AE (hon 3 X4));obtain⟨eV,eW,eo_⟩:=q1h eU.out;subst eo_;refine q8d (w1:=w') (v:=.agg #[iv 7,.string eBb,iv dN,sl eV dS eW]) (by rfl) rfl ?_ ?_
            ·go_simp;(try simp only[q4g]);try rfl
            refine hK.out _ _ ⟨sl eV dS eW,(.agg #[iv 7,.string eBb,iv dN,sl eV dS eW]),(by rw[ha.out];exact q4Z 3 hb_ rfl rfl rfl),AF,AA,AC,AD,fun eQ=>absurd ((hon 1 X4).symm.trans eQ) (by decide),AH,AI,AB,AE,fun eQ=>absurd ((hoff 5 X4).symm.trans eQ) (by decide),fun _=>rfl⟩
           refine q4C ?_ ?_
           ·rintro b a w' ⟨eN,eO,ha,AF,AA,AC,AD,AJ,AH,AI,AB,AE,AG,AK⟩ hb_ hon hoff;refine⟨_,rfl,fun K hK=>?_⟩;have e4:a.tmps[4]?=some (.pointer (some ⟨cL,0,none⟩)):=by rw[ha];exact(q4L rfl).trans rfl
            have e43:a.tmps[43]?=some (eO):=by rw[ha];exact q5e (e:=(4,43,eO)) 3 rfl rfl (hon 4 X4) rfl
            rw[AK (hon 4 X4)]at e43;replace ha:=am ha;have aY:=am AF;have dG:=am AA;have aI:=am AC;have cM:=am (AD hb_);have HK:=am AH;have HB:=am AI;have aE:=am (AB (hon 1 X4));have eU:=am (AE (hon 3 X4));obtain⟨eX,eY,eZ⟩:=q1h eU.out;(first|subst eZ|(injection eZ with fA fB fC;have fD:=fA.symm;have fE:=fC.symm;clear fA fB fC;subst fD;subst fE));have CB:w'.cell? ⟨cL,0,none⟩=some (iv dA):=(q0X cM.out 0).trans rfl;have BA:=q1m cM.out 0;have AO:=cP.out;have AP:=cQ.out;have CC:w'.cell? ⟨cL,1,none⟩=some (.string dB):=(q0X cM.out 1).trans rfl;have BB:=q1m cM.out 1;have AQ:=cP.out;have AR:=cQ.out;have CD:w'.cell? ⟨cL,2,none⟩=some (iv dC):=(q0X cM.out 2).trans rfl;have BC:=q1m cM.out 2;have AS:=cP.out;have AT:=cQ.out;have CE:w'.cell? ⟨cL,3,none⟩=some (sl eA dD eB):=(q0X cM.out 3).trans rfl;have BD:=q1m cM.out 3;have AU:=cP.out;have AV:=cQ.out;refine q7J (w1:=?_) (by rfl) rfl ?_ ?_;rotate_left
            ·go_simp;rfl
            refine hK.out _ _ ⟨sl eX dS eY,eO,(by rw[ha.out];exact q7u (v:=undef) rfl),(aN (q0o (f4N cL (sl eX dS eY) (iv dN) (.string eBb) (iv 7) aY.out oKk) oKk)),(aV (q0n (f4V cL (sl eX dS eY) (iv dN) (.string eBb) (iv 7) dG.out oKk) oKk)),(bq1 aI cP),fun eQ=>absurd ((q5V b 5).symm.trans eQ) (by decide),fun eQ=>absurd ((hon 1 X4).symm.trans eQ) (by decide),X132,X133,fun _=>X131,fun _=>(aN (q0o (f4N cL (sl eX dS eY) (iv dN) (.string eBb) (iv 7) eU.out oKk) oKk)),fun _=>(bq0 cM),AK⟩
           exact q8M
          rintro b a w34 hall ⟨eN,eO,ha,AF,AA,AC,AD,AJ,AH,AI,AB,AE,AG,AK⟩;clear aI cM HB aE HK aY dG;have fF:=hall 1 X4;have fG:=hall 2 X4;have fH:=hall 3 X4;have fJ:=hall 4 X4;have fK:=hall 5 X4;subst ha;obtain rfl:=AK fJ;simp only[q4A,fF,fG,fH,fJ,fK,if_true,Act.put,List.setIfInBounds_toArray,List.set_cons_zero,List.set_cons_succ];have aY:=am AF;clear AF;have dG:=am AA;clear AA;have aI:=am AC;clear AC;clear AD;clear AJ;have HK:=am AH;clear AH;have HB:=am AI;clear AI;have aE:=am (AB fF);clear AB;have eU:=am (AE fH);clear AE;have cM:=am (AG fK);clear AG;clear hall fF fG fH fJ fK;obtain⟨fL,fM,fN⟩:=q1h eU.out;(first|subst fN|(injection fN with fA fB fC;have fD:=fA.symm;have fE:=fC.symm;clear fA fB fC;subst fD;subst fE));try go_wp2
          go_roundg k3
          case measure=>have:=aX.out;have:=bV.out;have:=dE.out;omega
          case rel=>exact⟨(dO),(dP),(7),(eBb),(dN),(dS),(sl fL dS fM),H',⟨(X91 aX bV dE)⟩,⟨aN aY.out⟩,⟨Kd.N_V (aN eU.out)⟩,⟨(X9 aI)⟩,⟨(X9 cM)⟩,⟨X131⟩,⟨X132⟩,⟨X133⟩⟩
         ·replace dM:=fI dM;subst dM;replace H:=tN H;by_cases fO:dA=5
          ·rw[if_pos fO]at H;have AM:=eT fO;have AN:=eF fO;clear fO;by_cases fP:aT.length+dD.length<2513169434916
           ·rw[if_pos fP]at H;have fQ:=am fP;clear fP;obtain⟨fR,fS⟩:∃ y_:List (S28),y_=(aT++dD):=⟨_,rfl⟩;rw[← fS]at H;(try rw[oG fR]at H)
            have fT:=am fS;clear fS;have H':=am H;clear H;go_wp2_with (first|((with_reducible refine gc 63 ?_);refine gCc (some 31) func63 (q1A.calls g aA cY cZ (⟨#[94]⟩:q0b) false dI dJ w0 _ X131 X133 dL.out) ?_;rintro w38 ⟨hi,hb,hk⟩;replace aY:=nKk aY hk;replace dG:=vKk dG hk;replace aI:=kK aI hk aQ;replace cM:=kK cM hk cS;replace HK:=am (q0e X132 hk (.inl rfl));replace HB:=am (hb);replace aE:=am (hi);clear hi hb hk;have BE:=cQ.out;have BG:=cP.out;have BH:=cS.out;have BI:=cR.out;have Z41:=bc4 cM;obtain⟨fU,fV,fW⟩:=q1R dG.out;subst fW)|((with_reducible refine q2S (b:=.append) (xs:=#[.tmp 47,.tmp 49]) rfl ?_);(try (refine q2p (by rfl) ?_;dsimp only));at_builtin;refine Kd.N_append_rows k28 w.heap.size rfl (.tmp 47) (.tmp 49) 26 28 (.agg #[(iv 0),(.string ⟨#[]⟩),(iv 0),(.slice none 0 0)]) 56 rfl underlying26 q7S rfl (by decide) (by omega) u3 aT dD _ _ _ (fun k_=>(w.heap.size≤k_)∧k_≠aH∧k_≠cL∧k_≠g) (fun k_=>((fun k_=>(w.heap.size≤k_)∧k_≠aH∧k_≠cL∧k_≠g)) k_∧nO k_ u3) rfl rfl ?aO ?aR (fun _ hk=>hk) ?aF (q0r _ _) ?aS ?aL ?_;(case aR=>exact(by skip;exact Kd.V_F (q0n (ok':=(fun k_=>((fun k_=>(w.heap.size≤k_)∧k_≠aH∧k_≠cL∧k_≠g)) k_∧nO k_ u3)) (dG.out) oKk)));(case aF=>exact(fun k_ hk=>⟨(q0m (q0T (w:=w) (g:=g) (row:=none) X132) hk),q0u (g:=aH) (o:=.cells zNn 28 (0,0)) (X9 aI) k_ hk,q0u (g:=cL) (o:=.cells #[iv dA,.string dB,iv dC,sl fU dD fV] 28 (0,0)) (X9 cM) k_ hk,(fun e_=>absurd HGL.out (q1D.2 (q0m (q0T (w:=w) (g:=g) (row:=none) X132) (e_ ▸ hk))))⟩));(case aO=>exact(aN aY.out));(case aS=>exact(q0T (w:=w) (g:=g) (row:=none) X132));(case aL=>have:=fQ.out;omega);intro v930 w42 ho hb hg hat;rw[← fT.out]at ho;replace dG:=am (q2v (ok:=(fun k_=>(w.heap.size≤k_)∧k_≠aH∧k_≠cL∧k_≠g)) (aV (q0n dG.out oKk)) hg hat);replace aI:=kG aI hg (q3H aY.out (fun _ hk=>hk.2.1));replace cM:=kG cM hg (q3H aY.out (fun _ hk=>hk.2.2.1));replace HB:=am (q3N X133 HL.out hb);replace aE:=am (q1d.grown X131 hg (q1d.own_neN aE.out aY.out (by decide)));replace HK:=am (q0e X132 (q2A hg g) (q3A aY.out));have fX:=am (ho);clear aY;clear ho hb hg hat))
            go_roundg k3
            case measure=>have:=aX.out;have:=bV.out;have:=dE.out;omega
            case rel=>exact⟨(fR),(dI),(dJ),H',⟨(X91 aX bV dE)⟩,⟨aN (q0o fX.out oKk)⟩,⟨(X9 aI)⟩,⟨X131⟩,⟨X132⟩,⟨X133⟩⟩
           ·exact iN fP H
          ·rw[if_neg fO]at H;have AM:=nF fO;have AN:=nT fO;by_cases fY:aT.length<2513169434916
           ·rw[if_pos fY]at H;have fZ:=am fY;clear fY;obtain⟨gA,gB⟩:∃ y_:List (S28),y_=(aT++[(⟨dA,dB,dC,dD⟩:S28)]):=⟨_,rfl⟩;rw[← gB]at H;(try rw[oG gA]at H)
            have gC:=am gB;clear gB;have H':=am H;clear H;go_wp2_with (first|((with_reducible refine gc 63 ?_);refine gCc (some 31) func63 (q1A.calls g aA cY cZ (⟨#[94]⟩:q0b) false dI dJ w0 _ X131 X133 dL.out) ?_;rintro w45 ⟨hi,hb,hk⟩;replace aY:=nKk aY hk;replace dG:=vKk dG hk;replace aI:=kK aI hk aQ;replace cM:=kK cM hk cS;replace HK:=am (q0e X132 hk (.inl rfl));replace HB:=am (hb);replace aE:=am (hi);clear hi hb hk;have BK:=cQ.out;have BL:=cP.out;have BN:=cS.out;have BO:=cR.out;have Z48:=bc4 cM;obtain⟨gD,gE,gF⟩:=q1R dG.out;subst gF)|((with_reducible refine q2S (b:=.append) (xs:=#[.tmp 51,.tmp 53]) rfl ?_);(try (refine q2p (by rfl) ?_;dsimp only));at_builtin;refine q3K k28 w.heap.size rfl (.tmp 51) (.tmp 53) 26 28 (.agg #[(iv 0),(.string ⟨#[]⟩),(iv 0),(.slice none 0 0)]) 56 rfl underlying26 q7S rfl (by decide) (by omega) u3 aT (⟨dA,dB,dC,dD⟩:S28) [iv dA,.string dB,iv dC,sl gD dD gE] (fun k_=>(w.heap.size≤k_)∧k_≠aH∧k_≠cL∧k_≠g) (fun k_=>((fun k_=>(w.heap.size≤k_)∧k_≠aH∧k_≠cL∧k_≠g)) k_∧nO k_ u3) rfl rfl ?aP (fun _ hk=>hk) ?aF ?aO (q0r _ _) ?aS ?aL ?_;(case aP=>exact(q5r _ _ (⟨dA,dB,dC,dD⟩:S28) (q1a (q0n (ok':=(fun k_=>((fun k_=>(w.heap.size≤k_)∧k_≠aH∧k_≠cL∧k_≠g)) k_∧nO k_ u3)) (dG.out) oKk)).2.1 (Kd.V_F (q0n (ok':=(fun k_=>((fun k_=>(w.heap.size≤k_)∧k_≠aH∧k_≠cL∧k_≠g)) k_∧nO k_ u3)) (dG.out) oKk))));(case aF=>exact(fun k_ hk=>⟨(q0m (q0T (w:=w) (g:=g) (row:=none) X132) hk),q0u (g:=aH) (o:=.cells zNn 28 (0,0)) (X9 aI) k_ hk,q0u (g:=cL) (o:=.cells #[iv dA,.string dB,iv dC,sl gD dD gE] 28 (0,0)) (X9 cM) k_ hk,(fun e_=>absurd HGL.out (q1D.2 (q0m (q0T (w:=w) (g:=g) (row:=none) X132) (e_ ▸ hk))))⟩));(case aO=>exact(aN aY.out));(case aS=>exact(q0T (w:=w) (g:=g) (row:=none) X132));(case aL=>have:=fZ.out;omega);intro v933 w49 ho hb hg hat;rw[← gC.out]at ho;replace dG:=am (q2v (ok:=(fun k_=>(w.heap.size≤k_)∧k_≠aH∧k_≠cL∧k_≠g)) (aV (q0n dG.out oKk)) hg hat);replace aI:=kG aI hg (q3H aY.out (fun _ hk=>hk.2.1));replace cM:=kG cM hg (q3H aY.out (fun _ hk=>hk.2.2.1));replace HB:=am (q3N X133 HL.out hb);replace aE:=am (q1d.grown X131 hg (q1d.own_neN aE.out aY.out (by decide)));replace HK:=am (q0e X132 (q2A hg g) (q3A aY.out));have gG:=am (ho);clear aY;clear ho hb hg hat))
            go_roundg k3
            case measure=>have:=aX.out;have:=bV.out;have:=dE.out;omega
            case rel=>exact⟨(gA),(dI),(dJ),H',⟨(X91 aX bV dE)⟩,⟨aN (q0o gG.out oKk)⟩,⟨(X9 aI)⟩,⟨X131⟩,⟨X132⟩,⟨X133⟩⟩
           ·exact iN fY H
      ·replace cH:=fI cH;subst cH;replace H:=tN H;obtain⟨⟨gH,gI,gJ,gK⟩,gN,H⟩:=oA H;(try dsimp only at H);replace H:=iJ6 H;obtain⟨rfl,rfl,rfl,rfl,rfl,rfl⟩:=H;go_wp2_with (first|((with_reducible refine gc 93 ?_);refine gC1 (some 25) func93 (ih_ancepsref22_reader_part bW (by have:=aX.out;have:=bV.out;omega) g aA aU aW bX bY bZ cA false cD cE w0 _ (X124 aE aM) X126 cG.out) ?_;rintro cI w52 ⟨cJ,hi,hb,hk⟩;have cK:=am (q2o (q0n (ok':=fun k_=>(w.heap.size≤k_)∧nO k_ u3∧k_≠aH∧k_≠g) cJ (fun k_ hk_=>⟨(q0m (q0T (w:=w) (g:=g) (row:=none) (X50 HK aJ)) hk_),(q0K (q1V (aN aY.out)) k_ hk_),(q0u (g:=aH) (o:=.cells zNn 28 (0,0)) (X9 aI) k_ hk_),((fun e_=>absurd HGL.out (q1D.2 (q0m (q0T (w:=w) (g:=g) (row:=none) (X50 HK aJ)) (e_ ▸ hk_)))))⟩)) (q0T (w:=w) (g:=g) (row:=none) (X50 HK aJ)));replace aY:=nKk aY hk;replace aI:=kK aI hk aQ;replace HK:=am (q0e (X50 HK aJ) hk (.inl rfl));replace HB:=am (hb);replace aE:=am (hi);clear hi hb hk;(try clear cJ))|((with_reducible refine gd 4 ?_);(try (refine q2p (by rfl) ?_;dsimp only));refine be 4 zNn 28 ?_;intro cL hg gP hbox hb;replace aY:=am (q0F (q1N (aN aY.out) cL (q0w hg.symm)) hb);replace cK:=am (q0P (q1Z (aV cK.out) cL (q0w hg.symm)) hb);replace HB:=bS X126 hb;have cM:=am (hbox);have cN:=am (((X128 HK aJ):w.heap.size≤cL));have cO:=am ((q0m aG.out ((X128 HK aJ):w.heap.size≤cL):w0.heap.size≤cL));replace HK:=am (q0e (X50 HK aJ) (q0M hb g none) (.inl rfl));have cP:=nLT hg aI;have cQ:=nGT hg aI;replace aI:=kB aI hb;have cR:=am ((X129:g≠cL));have cS:=am ((X130:cL≠g));replace aE:=am (q1d.below (X124 aE aM) hb);clear hb hbox hg;have BP:=cQ.out;have BQ:=cP.out;have BR:=cS.out;have BU:=cR.out;have Z56:=bc4 cM;obtain⟨gQ,gR,gS⟩:=q1R cK.out;subst gS)|((with_reducible refine q6N (t:=28) (p:=4) rfl ?_);refine q6h (t:=28) (p:=4) (v:=?vo_w58) (w1:=((((gP.setCell ⟨cL,0,none⟩ (iv bX)).setCell ⟨cL,1,none⟩ (.string bY)).setCell ⟨cL,2,none⟩ (iv bZ)).setCell ⟨cL,3,none⟩ (sl gQ cA gR))) ?hg ?ho ?hn ?hr ?_;(case ho=>rfl);(case hg=>rfl);(case hn=>rfl);(case hr=>exact X70);intro gT hw;replace aY:q0i (Kd.N k28 28 gT w.heap.size (fun k_=>(w.heap.size≤k_)∧k_≠aH∧k_≠g∧k_≠cL) u3 aT):=⟨(by rw[hw];exact(aN (q0o (f4N cL (sl gQ cA gR) (iv bZ) (.string bY) (iv bX) aY.out oKk) oKk)))⟩;replace cK:q0i (Kd.V k28 28 gT w.heap.size (fun k_=>(w.heap.size≤k_)∧nO k_ u3∧k_≠aH∧k_≠g∧k_≠cL) (sl gQ cA gR) cA):=⟨(by rw[hw];exact(aV (q0n (f4V cL (sl gQ cA gR) (iv bZ) (.string bY) (iv bX) cK.out oKk) oKk)))⟩;replace aI:q0i (gT.heap[aH]?=some (.cells zNn 28 (0,0))):=⟨(by rw[hw];exact(bq1 aI cP))⟩;replace cM:q0i (gT.heap[cL]?=some (.cells #[iv bX,.string bY,iv bZ,sl gQ cA gR] 28 (0,0))):=⟨(by rw[hw];exact(bq0 cM))⟩;replace HK:q0i (q2e w gT g none):=⟨(by rw[hw];exact X132)⟩;replace HB:q0i (Below w0.heap.size w0 gT):=⟨(by rw[hw];exact X133)⟩;replace aE:q0i (q1d w0 gT g aA cD cE):=⟨(by rw[hw];exact X131)⟩;clear hw;obtain⟨gU,gV,gW⟩:=q1h aY.out;subst gW)|((with_reducible refine gc 94 ?_);refine gC1 (some 56) func94 (q4e.calls (fun k_=>((w.heap.size≤k_)∧(k_≠aH∧(k_≠g∧k_≠cL)))) _ _ aT gH gI gJ gK _ (Kd.N_V (aY.out)) gN.out) ?_;rintro v918 w60 ⟨cJ,hb⟩;replace aY:=am (q0F (aN aY.out) hb);replace cK:=am (q0P (aV cK.out) hb);have gX:=am (q2o (q0n (ok':=fun k_=>(w.heap.size≤k_)∧k_≠aH∧k_≠cL∧k_≠g) cJ (fun k_ hk_=>⟨Or.elim hk_ (fun hs_=>hs_.1) (fun hn_=>(q0m (q0T (w:=w) (g:=g) (row:=none) X132) hn_)),Or.elim hk_ (fun hs_=>hs_.2.1) (fun hn_=>(q0u (g:=aH) (o:=.cells zNn 28 (0,0)) (X9 aI) k_ hn_)),Or.elim hk_ (fun hs_=>hs_.2.2.2) (fun hn_=>(q0u (g:=cL) (o:=.cells #[iv bX,.string bY,iv bZ,sl gQ cA gR] 28 (0,0)) (X9 cM) k_ hn_)),Or.elim hk_ (fun hs_=>hs_.2.2.1) (fun hn_=>((fun e_=>absurd HGL.out (q1D.2 (q0m (q0T (w:=w) (g:=g) (row:=none) X132) (e_ ▸ hn_))))))⟩)) (q0T (w:=w) (g:=g) (row:=none) X132));replace aI:=kB aI hb;replace cM:=kB cM hb;replace HK:=am (q0e X132 (q0M hb g none) (.inl rfl));replace HB:=bS X133 hb;replace aE:=am (q1d.below X131 hb);clear hb;(try clear cJ);have BX:=aQ.out;have BY:=aM.out;have Z62:=bc4 aI;obtain⟨gY,gZ,hA⟩:=q1R gX.out;subst hA))
       refine bodyPost_ret (results_cell_row rfl _ _ aH 28 #[iv gH,.string gI,iv gJ,sl gY gK gZ] (0,0) _ rfl (bq0 aI) underlying28 rfl X4) rfl ?_;exact⟨_,X11,aV (q0n (f4V aH (sl gY gK gZ) (iv gJ) (.string gI) (iv gH) gX.out oKk) (fun _ hk=>hk.1)),X131,X133,X132⟩
     ·replace c9:=fI c9;subst c9;replace H:=tN H;obtain⟨⟨hD,hE,hF,hG⟩,hJ,H⟩:=oA H;(try dsimp only at H);replace H:=iJ6 H;obtain⟨rfl,rfl,rfl,rfl,rfl,rfl⟩:=H;obtain⟨hL,hM,hO⟩:=q1h aY.out;subst hO;go_wp2_with (first|((with_reducible refine gc 94 ?_);refine gC1 (some 56) func94 (q4e.calls (fun k_=>((w.heap.size≤k_)∧(k_≠aH∧k_≠g))) _ _ aT hD hE hF hG _ (Kd.N_V (aY.out)) hJ.out) ?_;rintro v902 w66 ⟨cJ,hb⟩;replace aY:=am (q0F (aN aY.out) hb);have hP:=am (q2o (q0n (ok':=fun k_=>(w.heap.size≤k_)∧k_≠aH∧k_≠g) cJ (fun k_ hk_=>⟨Or.elim hk_ (fun hs_=>hs_.1) (fun hn_=>(q0m (q0T (w:=w) (g:=g) (row:=none) (X50 HK aJ)) hn_)),Or.elim hk_ (fun hs_=>hs_.2.1) (fun hn_=>(q0u (g:=aH) (o:=.cells zNn 28 (0,0)) (X9 aI) k_ hn_)),Or.elim hk_ (fun hs_=>hs_.2.2) (fun hn_=>((fun e_=>absurd HGL.out (q1D.2 (q0m (q0T (w:=w) (g:=g) (row:=none) (X50 HK aJ)) (e_ ▸ hn_))))))⟩)) (q0T (w:=w) (g:=g) (row:=none) (X50 HK aJ)));replace aI:=kB aI hb;replace HK:=am (q0e (X50 HK aJ) (q0M hb g none) (.inl rfl));replace HB:=bS X126 hb;replace aE:=am (q1d.below (X124 aE aM) hb);clear hb;(try clear cJ);have BZ:=aQ.out;have CA:=aM.out;have Z68:=bc4 aI;obtain⟨hU,hV,hX⟩:=q1R hP.out;subst hX))
      refine bodyPost_ret (results_cell_row rfl _ _ aH 28 #[iv hD,.string hE,iv hF,sl hU hG hV] (0,0) _ rfl (bq0 aI) underlying28 rfl X4) rfl ?_;exact⟨_,X11,aV (q0n (f4V aH (sl hU hG hV) (iv hF) (.string hE) (iv hD) hP.out oKk) (fun _ hk=>hk.1)),(X124 aE aM),X126,(X50 HK aJ)⟩
end Go.Proofs.YtmffocankommaaaGreatDoor.P
