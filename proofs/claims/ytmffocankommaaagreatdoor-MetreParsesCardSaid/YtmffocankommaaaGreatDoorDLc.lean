/- Walks written by hand, and the law about them. No condition but what the theorems state. -/
import Derived.Test.YtmffocankommaaaGreatDoorDx33
import Derived.Test.YtmffocankommaaaGreatDoorDLb
import Derived.Test.YtmffocankommaaaGreatDoorRows
import Derived.WalkKit
import Derived.ProofKit
import Derived.OpenShut
import Derived.Deep.DeepHandedRow
import Derived.Lib.LaidTab
namespace Go.Proofs.YtmffocankommaaaGreatDoor.P
open Go.RowKit Go.Proofs.YtmffocankommaaaGreatDoorW.PrintWords Go.Proofs.YtmffocankommaaaGreatDoorW.PrintLast Go.Proofs.YtmffocankommaaaGreatDoorW.PrintMore Go.Proofs.YtmffocankommaaaGreatDoorY Go.Proofs.YtmffocankommaaaGreatDoorS
set_option linter.unusedVariables false
section
/-- Token i is this name. -/
def Kw (l:List S61) (i:Nat) (s:q0b):Prop:=∃ h:i<l.length,l[i].f0=1∧l[i].f1.toList=s.toList
instance (l:List S61) (i:Nat) (s:q0b):Decidable (Kw l i s):=by unfold Kw;exact inferInstance
theorem v2B (l:List S61) (i:Nat) (s:q0b) (hi:i≤l.length):q1w.f l (i:Int) false s=some (decide (Kw l i s),(i:Int),false):=by
 unfold q1w.f
 rw[if_neg dDd]
 by_cases h:i<l.length
 ·rw[if_pos oMm,if_pos oMm,rd36 h]
  by_cases h1:l[i].f0=1
  ·rw[if_pos h1]
   by_cases ht:l[i].f1.toList=s.toList
   ·rw[decide_eq_true (show Kw l i s from⟨h,h1,ht⟩),ht];simp
   ·rw[decide_eq_false (show ¬ Kw l i s from fun k=>ht k.2.2)];simp [ht]
  ·rw[if_neg h1,decide_eq_false (show ¬ Kw l i s from fun k=>h1 k.2.1)]
 ·rw[if_neg oMm,decide_eq_false (show ¬ Kw l i s from fun k=>h k.1)]
theorem q8l {l:List S61} {i:Nat} {s:q0b} (hi:i≤l.length) (h : ¬ Hit l i s):q1B.f l (i:Int) false 4 s=some (false,(i:Int),false):=by
 by_cases hlt:i<l.length
 ·by_cases h4:l[i].f0=4
  ·have ht : ¬ l[i].f1.toList=s.toList:=fun k=>h ⟨hlt,h4,k⟩
   simp [q1B.f,q3O l i hlt,h4,ht]
  ·exact q9G hlt h4 s
 ·obtain rfl:i=l.length:=by omega
  simp [q1B.f,q4V]
section
variable {l:List S61} (hl:l.length≤1000000)
include hl
theorem q6O {i:Nat} (hi:i≤l.length) (b:Bool) (s:q0b):∃ (i1:Nat) (b1:Bool),i≤i1∧i1≤l.length∧(b1=false→i1=i+1)∧q1c.f l (i:Int) b s=some ((i1:Int),b1)∧q0G.f l (i:Int) b s=some ((i1:Int),b1):=by
 cases b with
 | true=>exact⟨i,true,q0f _,hi,(fun k=>by cases k),q4M l i s,q5n l i s⟩
 | false=>
  by_cases h:Hit l i s
  ·have:i<l.length:=h.1
   exact⟨i+1,false,by omega,by omega,fun _=>rfl,q4G hi oMm h,q7C hi oMm h⟩
  ·exact⟨i,true,q0f _,hi,(fun k=>by cases k),v0w hi oMm h,v0D hi oMm h⟩
theorem q6z {i:Nat} (hi:i≤l.length):∃ (s:q0b) (i1:Nat) (b1:Bool),i≤i1∧i1≤l.length∧(b1=false→i1=i+1)∧q2t.f l (i:Int) false=some (s,(i1:Int),b1)∧q1X.f l (i:Int) false=some (s,(i1:Int),b1):=by
 rw[q9a l i hi oMm false]
 rcases q7X hl hi with ⟨s,e⟩|⟨s,h,e⟩
 ·exact⟨s,i,true,q0f _,hi,(fun k=>by cases k),e,e⟩
 ·exact⟨s,i+1,false,by omega,h,fun _=>rfl,e,e⟩
theorem q8b {i:Nat} (hi:i≤l.length) (b:Bool):∃ (q:Int) (i1:Nat) (b1:Bool),i≤i1∧i1≤l.length∧q0O (fun k=>q2m.f k l (i:Int) b) (q,(i1:Int),b1)∧q0O (fun k=>q2y.f k l (i:Int) b) (q,(i1:Int),b1):=by
 cases b with
 | false=>
  obtain⟨q,i1,b1,h,a,c⟩:=q7A hl hi
  exact⟨q,i1,b1,h.1,h.2,a,c⟩
 | true=>
  obtain⟨r,ha,hb⟩:=q5X ⟨#[]⟩
  unfold q2m.f q2y.f
  rw[q5T l i 2 dDd,q6t l i 2]
  simp only[Option.bind_some]
  exact⟨r.1,i,true,q0f _,hi,cBin ha (cCon _),cBin hb (cCon _)⟩
theorem v1a {i:Nat} (hi:i≤l.length) (b:Bool):(∃ n m i1,i≤i1∧i1≤l.length∧q0O (fun k=>q0g.f k l (i:Int) b) (q4w n i1 true)∧q0O (fun k=>q0k.f k l (i:Int) b) (q4w m i1 true))∨
  (∃ n i1,b=false∧q9Y n i i1∧i≤i1∧i1≤l.length∧q0O (fun k=>q0g.f k l (i:Int) b) (q4w n i1 false)∧q0O (fun k=>q0k.f k l (i:Int) b) (q4w n i1 false)):=by
 cases b with
 | true=>
  refine .inl ⟨one [],one [],i,q0f _,hi,cSuc ?_,cSuc ?_⟩
  ·simp only[q0g.f];exact q9p l [] i
  ·simp only[q0k.f];exact q8p l [] i
 | false=>
  rcases bodies hl hi with ⟨n,m,i1,h1,h2,_,a,c⟩|⟨n,i1,hg,h1,h2,a,c⟩
  ·exact .inl ⟨n,m,i1,h1,h2,a,c⟩
  ·exact .inr ⟨n,i1,rfl,hg,h1,h2,a,c⟩
end
/-- What has been read so far is no more than the tokens. -/
def Inv (i:Nat) (x1:List S68) (x2:List S70) (x3:List (List q0b)) (y:S28):Prop:=
 ∃ n m ys,CntF x1 n∧CntN y m ys∧n+m≤i∧x1.length≤i∧x2.length≤i∧x3.length≤i∧∀ w,w ∈ x3→w.length≤i
theorem Inv.mono {i j:Nat} {x1:List S68} {x2:List S70} {x3:List (List q0b)} {y:S28} (h:Inv i x1 x2 x3 y) (hj:i≤j):Inv j x1 x2 x3 y:=by
 obtain⟨n,m,ys,h1,h2,h3,h4,h5,h6,h7⟩:=h
 exact⟨n,m,ys,h1,h2,by omega,by omega,by omega,by omega,fun w hw=>by have:=h7 w hw;omega⟩
theorem v1P {x:List S68} {n m:Nat} {f:S68} {ys:List q0b} (h:CntF x n) (hf:CntN f.f1 m ys):CntF (x++[f]) (n+m):=by
 induction h with
 | nil=>rw[Nat.zero_add];exact .cons _ _ _ _ _ hf .nil
 | cons g gs a b zs hg r ih=>rw[Nat.add_assoc];exact .cons _ _ _ _ _ hg ih
def at9 (r:IR):Int:=r.2.2.2.2.2.2.2.2.1
def b10 (r:IR):Bool:=r.2.2.2.2.2.2.2.2.2
def ir (nm:q0b) (x1:List S68) (x2:List S70) (x3:List (List q0b)) (y:S28) (i:Nat) (b:Bool):IR:=(nm,x1,x2,x3,y.f0,y.f1,y.f2,y.f3,(i:Int),b)
/-- Both come to the same items, or both fail at one place. -/
def BI (l:List S61) (nm:q0b) (f g:Nat→Option IR):Prop:=
 (∃ (r r':IR) (i2:Nat),i2≤l.length∧at9 r=(i2:Int)∧b10 r=true∧at9 r'=(i2:Int)∧b10 r'=true∧q0O f r∧q0O g r')∨
 (∃ x1 x2 x3 y i2,Hit l i2 ⟨#[125]⟩∧Inv i2 x1 x2 x3 y∧q0O f (ir nm x1 x2 x3 y i2 false)∧q0O g (ir nm x1 x2 x3 y (i2+1) false))
theorem BI.map {l:List S61} {nm:q0b} {f g f' g':Nat→Option IR} (h:BI l nm f g) (hf:∀ r,q0O f r→q0O f' r) (hg:∀ r,q0O g r→q0O g' r):BI l nm f' g':=by
 rcases h with ⟨r,r',i2,h1,h2,h3,h4,h5,a,b⟩|⟨x1,x2,x3,y,i2,h1,h2,a,b⟩
 ·exact .inl ⟨r,r',i2,h1,h2,h3,h4,h5,hf _ a,hg _ b⟩
 ·exact .inr ⟨x1,x2,x3,y,i2,h1,h2,hf _ a,hg _ b⟩
theorem kw_is (w:q0b):∃ r:Bool,q0O (fun k=>q1C.f k KW w) r∧(r=true↔(w.toList=q5I.toList∨w.toList=q5U.toList∨w.toList=q7a.toList∨w.toList=q4U.toList)):=by
 have r0:rdOf ByteArray.empty KW 0=q5I:=rfl
 have r1:rdOf ByteArray.empty KW 1=q5U:=rfl
 have r2:rdOf ByteArray.empty KW 2=q7a:=rfl
 have r3:rdOf ByteArray.empty KW 3=q4U:=rfl
 have e:(KW.length:Int)=4:=rfl
 have w1:wrap64 ((0:Int)+1)=1:=by unfold wrap64;omega
 have w2:wrap64 ((1:Int)+1)=2:=by unfold wrap64;omega
 have w3:wrap64 ((2:Int)+1)=3:=by unfold wrap64;omega
 have w4:wrap64 ((3:Int)+1)=4:=by unfold wrap64;omega
 have key:∀ q:Int,q0O (fun k=>q0U.l0 k KW w (KW.length:Int) 0) q→q0O (fun k=>q1C.f k KW w) (decide (q≥0)):=by
  intro q h
  unfold q1C.f q0U.f
  exact cBin h (cCon _)
 have st:∀ (c:Int) (v:q0b) (q:Int),0≤c→c<4→rdOf ByteArray.empty KW c=v→¬ w.toList=v.toList→q0O (fun k=>q0U.l0 k KW w (KW.length:Int) (wrap64 (c+1))) q→q0O (fun k=>q0U.l0 k KW w (KW.length:Int) c) q:=by
  intro c v q h1 h2 h3 h4 h
  apply cSuc
  simp only[q0U.l0,h3]
  exact cPO (cPos h1 (cPO (cNeg h4 h)))
 have hit:∀ (c:Int) (v:q0b),0≤c→c<4→rdOf ByteArray.empty KW c=v→w.toList=v.toList→q0O (fun k=>q0U.l0 k KW w (KW.length:Int) c) c:=by
  intro c v h1 h2 h3 h4
  apply cSuc
  simp only[q0U.l0,h3]
  exact cPO (cPos h1 (cPO (cPos h4 (cCon _))))
 by_cases c0:w.toList=q5I.toList
 ·exact⟨_,key _ (hit 0 _ oMm oMm r0 c0),by simp [c0]⟩
 by_cases c1:w.toList=q5U.toList
 ·exact⟨_,key _ (st 0 _ _ oMm oMm r0 c0 (by rw[w1];exact hit 1 _ oMm oMm r1 c1)),by simp [c1]⟩
 by_cases c2:w.toList=q7a.toList
 ·exact⟨_,key _ (st 0 _ _ oMm oMm r0 c0 (by rw[w1];exact st 1 _ _ oMm oMm r1 c1 (by rw[w2];exact hit 2 _ oMm oMm r2 c2))),by simp [c2]⟩
 by_cases c3:w.toList=q4U.toList
 ·exact⟨_,key _ (st 0 _ _ oMm oMm r0 c0 (by rw[w1];exact st 1 _ _ oMm oMm r1 c1 (by rw[w2];exact st 2 _ _ oMm oMm r2 c2 (by rw[w3];exact hit 3 _ oMm oMm r3 c3)))),by simp [c3]⟩
 ·have fin:q0O (fun k=>q0U.l0 k KW w (KW.length:Int) 4) (-1):=cSuc (by simp only[q0U.l0];exact cNO (cCon _))
  exact⟨_,key (-1) (st 0 _ _ oMm oMm r0 c0 (by rw[w1];exact st 1 _ _ oMm oMm r1 c1 (by rw[w2];exact st 2 _ _ oMm oMm r2 c2 (by rw[w3];exact st 3 _ _ oMm oMm r3 c3 (by rw[w4];exact fin))))),by simp [c0,c1,c2,c3]⟩
section
variable {l:List S61} {nm:q0b} {x1:List S68} {x2:List S70} {x3:List (List q0b)} {y4:Int} {y5:q0b} {y6:Int} {y7:List S28}
/-- Behind an error both end at once. -/
theorem q8J (z:Bool) (i:Nat):q0O (fun k=>q0h.l0 k z l (i:Int) true nm x1 x2 x3 y4 y5 y6 y7) (nm,x1,x2,x3,y4,y5,y6,y7,(i:Int),true):=by
 apply cSuc
 simp only[q0h.l0]
 refine cPos trivial (cSuc ?_)
 simp only[q0h.j1]
 exact cND (cCon _)
theorem q7n (q:Int) (i:Nat):q0O (fun k=>q0l.l0 k q l (i:Int) true nm x1 x2 x3 y4 y5 y6 y7) (nm,x1,x2,x3,y4,y5,y6,y7,(i:Int),true):=by
 apply cSuc
 simp only[q0l.l0]
 refine cPos trivial (cSuc ?_)
 simp only[q0l.j2,q5n,Option.bind_some]
 exact cND (cCon _)
theorem q6w {x1':List S68} {x2':List S70} {x3':List (List q0b)} {z4:Int} {z5:q0b} {z6:Int} {z7:List S28} (z:Bool) (q:Int) {i:Nat} (hi:i≤l.length) :
  BI l nm (fun k=>q0h.l0 k z l (i:Int) true nm x1 x2 x3 y4 y5 y6 y7) (fun k=>q0l.l0 k q l (i:Int) true nm x1' x2' x3' z4 z5 z6 z7):=
 .inl ⟨_,_,i,hi,rfl,rfl,rfl,rfl,q8J z i,q7n q i⟩
/-- No item begins here. -/
theorem q7g {z:Bool} {q:Int} {i:Nat} (hi:i≤l.length) {c:Int} {w:q0b} {v:Int} {b:Bool} :
  BI l nm (fun k=>q0h.j2 k z true l (i:Int) b nm x1 x2 x3 y4 y5 y6 y7 c w v) (fun k=>q0l.j4 k q false l (i:Int) b nm x1 x2 x3 y4 y5 y6 y7):=by
 refine .inl ⟨(nm,x1,x2,x3,y4,y5,y6,y7,(i:Int),true),(nm,x1,x2,x3,y4,y5,y6,y7,(i:Int),true),i,hi,rfl,rfl,rfl,rfl,cSuc ?_,cSuc ?_⟩
 ·simp only[q0h.j2]
  exact cPos trivial (cCon _)
 ·simp only[q0l.j4,q5n,Option.bind_some]
  exact cND (q7n q i)
end
section
variable {l:List S61} (hl:l.length≤1000000) {nm:q0b} {x1:List S68} {x2:List S70} {x3:List (List q0b)} {y:S28} {z:Bool} {q:Int}
/-- Both readers of items, from token i on. -/
def ItP (l:List S61) (nm:q0b) (i:Nat):Prop:=∀ (z:Bool) (x1:List S68) (x2:List S70) (x3:List (List q0b)) (y:S28),Inv i x1 x2 x3 y →
 BI l nm (fun k=>q0h.l0 k z l (i:Int) false nm x1 x2 x3 y.f0 y.f1 y.f2 y.f3) (fun k=>q0l.l0 k (if z then 1 else 0) l (i:Int) false nm x1 x2 x3 y.f0 y.f1 y.f2 y.f3)
theorem v1B {i1 i:Nat} (h:∀ j,i<j→j≤l.length→ItP l nm j) (hi:i<i1) (hi1:i1≤l.length) (b:Bool) (z:Bool) {x1:List S68} {x2:List S70} {x3:List (List q0b)} {y:S28} (hI:b=false→Inv i1 x1 x2 x3 y) :
  BI l nm (fun k=>q0h.l0 k z l (i1:Int) b nm x1 x2 x3 y.f0 y.f1 y.f2 y.f3) (fun k=>q0l.l0 k (if z then 1 else 0) l (i1:Int) b nm x1 x2 x3 y.f0 y.f1 y.f2 y.f3):=by
 cases b with
 | true=>exact q6w z _ hi1
 | false=>exact h i1 hi hi1 z x1 x2 x3 y (hI rfl)
include hl
theorem v1b {i0:Nat} (h:∀ j,i0<j→j≤l.length→ItP l nm j) (hI:Inv i0 x1 x2 x3 y):∀ (d i:Nat),i+d=l.length→i0<i→∀ (b:Bool) (w:List q0b),w.length≤i →
  BI l nm (fun k=>q0h.l1 k z w l (i:Int) b nm x1 x2 x3 y.f0 y.f1 y.f2 y.f3) (fun k=>q0l.l1 k (if z then 1 else 0) w l (i:Int) b nm x1 x2 x3 y.f0 y.f1 y.f2 y.f3):=by
 obtain⟨n,m,ys,h1,h2,h3,h4,h5,h6,h7⟩:=id hI
 have bad:∀ (i:Nat) (w:List q0b),i≤l.length→i0≤i→BI l nm (fun k=>q0h.l1 k z w l (i:Int) true nm x1 x2 x3 y.f0 y.f1 y.f2 y.f3) (fun k=>q0l.l1 k (if z then 1 else 0) w l (i:Int) true nm x1 x2 x3 y.f0 y.f1 y.f2 y.f3):=by
  intro i w hi hi0
  refine(q6w (nm:=nm) (x1:=x1) (x2:=x2) (x3:=x3++[w]) (y4:=y.f0) (y5:=y.f1) (y6:=y.f2) (y7:=y.f3) (x1':=x1) (x2':=x2) (x3':=x3++[w]) (z4:=y.f0) (z5:=y.f1) (z6:=y.f2) (z7:=y.f3) z (if z then 1 else 0) hi).map (fun r hr=>cSuc ?_) (fun r hr=>cSuc ?_)
  ·simp only[q0h.l1,q4M,Option.bind_some]
   exact cPos trivial (cPO hr)
  ·simp only[q0l.l1,q5n,Option.bind_some]
   exact cPos trivial (cPO hr)
 intro d
 induction d with
 | zero=>
  intro i hi hi0 b w hw
  cases b with
  | true=>exact bad i w oMm oMm
  | false=>
   have hno : ¬ Hit l i ⟨#[59]⟩:=fun k=>by obtain⟨k,_⟩:=k;omega
   obtain⟨s,i1,b1,k1,k2,k3,e1,e2⟩:=q6z hl (show i≤l.length by omega)
   obtain rfl:i1=i:=by omega
   obtain rfl:b1=true:=by cases b1 with
    | true=>rfl
    | false=>have:=k3 rfl;omega
   refine(bad i1 (w++[s]) oMm oMm).map (fun r hr=>cSuc ?_) (fun r hr=>cSuc ?_)
   ·simp only[q0h.l1,q8l oMm hno,e1,Option.bind_some]
    exact cND (cND (cPO hr))
   ·simp only[q0l.l1,q9h (show i1≤l.length by omega) hno,e2,Option.bind_some]
    exact cND (cND (cPO hr))
 | succ d IH=>
  intro i hi hi0 b w hw
  cases b with
  | true=>exact bad i w oMm oMm
  | false=>
   by_cases hh:Hit l i ⟨#[59]⟩
   ·refine(v1B h (show i0<i+1 by omega) (show i+1≤l.length by omega) false z (x1:=x1) (x2:=x2) (x3:=x3++[w]) (y:=y) (fun _=>⟨n,m,ys,h1,h2,by omega,by omega,by omega,by rw[List.length_append,List.length_singleton];omega,fun v hv=>?_⟩)).map (fun r hr=>cSuc ?_) (fun r hr=>cSuc ?_)
    ·rcases List.mem_append.1 hv with hv|hv
     ·have:=h7 v hv;omega
     ·rw[List.mem_singleton.1 hv];omega
    ·simp only[q0h.l1,q7d hh,q4G (show i≤l.length by omega) oMm hh,Option.bind_some]
     exact cND (cPos trivial (cPO hr))
    ·simp only[q0l.l1,q7U (show i≤l.length by omega) hh,q7C (show i≤l.length by omega) oMm hh,Option.bind_some]
     exact cND (cPos trivial (cPO hr))
   ·obtain⟨s,i1,b1,k1,k2,k3,e1,e2⟩:=q6z hl (show i≤l.length by omega)
    have hw1:(w++[s]).length=w.length+1:=by rw[List.length_append,List.length_singleton]
    have hr1:BI l nm (fun k=>q0h.l1 k z (w++[s]) l (i1:Int) b1 nm x1 x2 x3 y.f0 y.f1 y.f2 y.f3) (fun k=>q0l.l1 k (if z then 1 else 0) (w++[s]) l (i1:Int) b1 nm x1 x2 x3 y.f0 y.f1 y.f2 y.f3):=by
     cases b1 with
     | true=>exact bad i1 _ k2 oMm
     | false=>
      obtain rfl:=k3 rfl
      exact IH (i+1) oMm oMm false _ oMm
    refine hr1.map (fun r hr=>cSuc ?_) (fun r hr=>cSuc ?_)
    ·simp only[q0h.l1,q8l oMm hh,e1,Option.bind_some]
     exact cND (cND (cPO hr))
    ·simp only[q0l.l1,q9h (show i≤l.length by omega) hh,e2,Option.bind_some]
     exact cND (cND (cPO hr))
end
end
section
theorem q0O.got {α β:Type} {o:Option α} {a:α} {g:Nat→α→Option β} {r:β} (h:o=some a) (hg:q0O (fun k=>g k a) r):q0O (fun k=>o.bind (g k)) r:=by subst h;exact hg
theorem nope : ¬ (false=true):=by decide
theorem q5h {l:List S61} {i:Nat} {s:q0b} (hi:i≤l.length) (h : ¬ Kw l i s):q1w.f l (i:Int) false s=some (false,(i:Int),false):=by rw[v2B l i s hi,decide_eq_false h]
theorem q6L {l:List S61} {i:Nat} {s:q0b} (h:Kw l i s):q1w.f l (i:Int) false s=some (true,(i:Int),false):=by rw[v2B l i s (Nat.le_of_lt h.1),decide_eq_true h]
section
variable {l:List S61} (hl:l.length≤1000000) {nm:q0b} {x1:List S68} {x2:List S70} {x3:List (List q0b)} {y:S28} {z:Bool} {i:Nat} (hi:i≤l.length)
include hi
theorem to_item (hz:z=true→¬ Hit l i ⟨#[125]⟩)
  (h:BI l nm (fun k=>q0h.j1 k z true l (i:Int) false nm x1 x2 x3 y.f0 y.f1 y.f2 y.f3) (fun k=>q0l.j2 k (if z then 1 else 0) true l (i:Int) false nm x1 x2 x3 y.f0 y.f1 y.f2 y.f3)) :
  BI l nm (fun k=>q0h.l0 k z l (i:Int) false nm x1 x2 x3 y.f0 y.f1 y.f2 y.f3) (fun k=>q0l.l0 k (if z then 1 else 0) l (i:Int) false nm x1 x2 x3 y.f0 y.f1 y.f2 y.f3):=by
 refine h.map (fun r hr=>cSuc ?_) (fun r hr=>cSuc ?_)
 ·cases z with
  | true=>
   simp only[q0h.l0,q8l hi (hz rfl),Option.bind_some]
   exact cND (cPos trivial hr)
  | false=>
   simp only[q0h.l0]
   exact cND (cND hr)
 ·cases z with
  | true=>
   simp only[q0l.l0,q9h hi (hz rfl),Option.bind_some]
   exact cND (cND hr)
  | false=>
   by_cases hh:Hit l i ⟨#[125]⟩
   ·simp only[q0l.l0,q7U hi hh,Option.bind_some]
    exact cND (cPos trivial hr)
   ·simp only[q0l.l0,q9h hi hh,Option.bind_some]
    exact cND (cND hr)
omit hi
variable (h:∀ j,i<j→j≤l.length→ItP l nm j) (hI:Inv i x1 x2 x3 y) (hlt:i<l.length) (h1:l[i].f0=1)
include hl h hI hlt h1
theorem v1e (e:l[i].f1.toList=([102,111,111,116]:List UInt8)) {c v:Int} :
  BI l nm (fun k=>q0h.j2 k z false l (i:Int) false nm x1 x2 x3 y.f0 y.f1 y.f2 y.f3 c l[i].f1 v) (fun k=>q0l.j2 k (if z then 1 else 0) true l (i:Int) false nm x1 x2 x3 y.f0 y.f1 y.f2 y.f3):=by
 have hk:Kw l i (⟨#[102,111,111,116]⟩:q0b):=⟨hlt,h1,e.trans v0g.symm⟩
 obtain⟨n0,m0,ys,g1,g2,g3,g4,g5,g6,g7⟩:=id hI
 obtain⟨s,i1,b1,p1,p2,p3,n1,n2⟩:=q6z hl (show i+1≤l.length by omega)
 obtain⟨i2,b2,q1,q2,q3,e1,e2⟩:=q6O hl p2 b1 ⟨#[61]⟩
 have A:∀ (n:S28) (i3:Nat) (b3:Bool) (r:IR),q0O (fun k=>q0g.f k l (i2:Int) b2) (q4w n i3 b3)→q0O (fun k=>(q1c.f l (i3:Int) b3 ⟨#[59]⟩).bind fun d=>q0h.l0 k z l d.1 d.2 nm (x1++[⟨s,n⟩]) x2 x3 y.f0 y.f1 y.f2 y.f3) r →
   q0O (fun k=>q0h.j2 k z false l (i:Int) false nm x1 x2 x3 y.f0 y.f1 y.f2 y.f3 c l[i].f1 v) r:=by
  intro n i3 b3 r c1 hr
  apply cSuc
  simp only[q0h.j2,q4y (show i≤1000000 by omega),n1,e1,Option.bind_some]
  refine cND (cPos e (cBin c1 ?_))
  simp only[q4w,q5l]
  exact cPO hr
 have C:∀ (n:S28) (i3:Nat) (b3:Bool) (r:IR),q0O (fun k=>q0k.f k l (i2:Int) b2) (q4w n i3 b3)→q0O (fun k=>(q0G.f l (i3:Int) b3 ⟨#[59]⟩).bind fun d=>q0l.l0 k (if z then 1 else 0) l d.1 d.2 nm (x1++[⟨s,n⟩]) x2 x3 y.f0 y.f1 y.f2 y.f3) r →
   q0O (fun k=>q0l.j2 k (if z then 1 else 0) true l (i:Int) false nm x1 x2 x3 y.f0 y.f1 y.f2 y.f3) r:=by
  intro n i3 b3 r c1 hr
  have n3:q1X.f l (wrap64 ((i:Int)+1)) false=some (s,(i1:Int),b1):=by rw[q4y (show i≤1000000 by omega)];exact n2
  apply cSuc
  simp only[q0l.j2]
  refine cPos trivial (q0O.got (q6L hk) (cPos rfl (q0O.got n3 (q0O.got e2 (cBin c1 ?_)))))
  simp only[q4w,q5l]
  exact cPO hr
 rcases v1a hl q2 b2 with ⟨n,m,i3,r1,r2,c1,c2⟩|⟨n,i3,hb,hg,r1,r2,c1,c2⟩
 ·refine(q6w (nm:=nm) (x1:=x1++[⟨s,n⟩]) (x2:=x2) (x3:=x3) (y4:=y.f0) (y5:=y.f1) (y6:=y.f2) (y7:=y.f3) (x1':=x1++[⟨s,m⟩]) (x2':=x2) (x3':=x3) (z4:=y.f0) (z5:=y.f1) (z6:=y.f2) (z7:=y.f3) z (if z then 1 else 0) r2).map (fun r hr=>A n i3 true r c1 ?_) (fun r hr=>C m i3 true r c2 ?_)
  ·simp only[q4M,Option.bind_some];exact hr
  ·simp only[q5n,Option.bind_some];exact hr
 ·obtain⟨i4,b4,t1,t2,t3,f1,f2⟩:=q6O hl r2 false ⟨#[59]⟩
  have hi2:=q3 hb
  obtain⟨mq,yq,hq,hq2⟩:=hg.2.2
  refine(v1B h (show i<i4 by omega) t2 b4 z (x1:=x1++[⟨s,n⟩]) (x2:=x2) (x3:=x3) (y:=y) (fun _=>⟨n0+mq,m0,ys,v1P g1 hq,g2,by omega,by rw[List.length_append,List.length_singleton];omega,by omega,by omega,fun w hw=>by have:=g7 w hw;omega⟩)).map (fun r hr=>A n i3 false r c1 ?_) (fun r hr=>C n i3 false r c2 ?_)
  ·rw[f1];exact hr
  ·rw[f2];exact hr
theorem v0a (e:l[i].f1.toList=([99,111,117,110,116]:List UInt8)) {c v:Int} :
  BI l nm (fun k=>q0h.j2 k z false l (i:Int) false nm x1 x2 x3 y.f0 y.f1 y.f2 y.f3 c l[i].f1 v) (fun k=>q0l.j2 k (if z then 1 else 0) true l (i:Int) false nm x1 x2 x3 y.f0 y.f1 y.f2 y.f3):=by
 have hk:Kw l i (⟨#[99,111,117,110,116]⟩:q0b):=⟨hlt,h1,e.trans q7T.symm⟩
 have e0 : ¬ l[i].f1.toList=([102,111,111,116]:List UInt8):=by rw[e];decide
 have k0 : ¬ Kw l i (⟨#[102,111,111,116]⟩:q0b):=fun k=>e0 (k.2.2.trans v0g)
 obtain⟨n0,m0,ys,g1,g2,g3,g4,g5,g6,g7⟩:=id hI
 obtain⟨s,i1,b1,p1,p2,p3,n1,n2⟩:=q6z hl (show i+1≤l.length by omega)
 obtain⟨u1,i2,b2,q1,q2,c1,d1⟩:=q8b hl p2 b1
 obtain⟨u2,i3,b3,r1,r2,c2,d2⟩:=q8b hl q2 b2
 obtain⟨i4,b4,t1,t2,t3,f1,f2⟩:=q6O hl r2 b3 ⟨#[59]⟩
 refine(v1B h (show i<i4 by omega) t2 b4 z (x1:=x1) (x2:=x2++[⟨s,u1,u2⟩]) (x3:=x3) (y:=y) (fun _=>⟨n0,m0,ys,g1,g2,by omega,by omega,by rw[List.length_append,List.length_singleton];omega,by omega,fun w hw=>by have:=g7 w hw;omega⟩)).map (fun r hr=>cSuc ?_) (fun r hr=>cSuc ?_)
 ·simp only[q0h.j2,q4y (show i≤1000000 by omega),n1,Option.bind_some]
  refine cND (cNeg e0 (cPos e (cBin c1 (cBin c2 (cPO ?_)))))
  simp only[f1,Option.bind_some]
  exact hr
 ·have n3:q1X.f l (wrap64 ((i:Int)+1)) false=some (s,(i1:Int),b1):=by rw[q4y (show i≤1000000 by omega)];exact n2
  simp only[q0l.j2]
  exact cPos trivial (q0O.got (q5h (Nat.le_of_lt hlt) k0) (cNeg nope (q0O.got (q6L hk) (cPos rfl (q0O.got n3 (cBin d1 (cBin d2 (cPO (q0O.got f2 hr)))))))))
theorem v0m (e:l[i].f1.toList=([115,111,109,101]:List UInt8)) {c v:Int} :
  BI l nm (fun k=>q0h.j2 k z false l (i:Int) false nm x1 x2 x3 y.f0 y.f1 y.f2 y.f3 c l[i].f1 v) (fun k=>q0l.j2 k (if z then 1 else 0) true l (i:Int) false nm x1 x2 x3 y.f0 y.f1 y.f2 y.f3):=by
 have hk:Kw l i (⟨#[115,111,109,101]⟩:q0b):=⟨hlt,h1,e.trans q9J.symm⟩
 have e0 : ¬ l[i].f1.toList=([102,111,111,116]:List UInt8):=by rw[e];decide
 have e1 : ¬ l[i].f1.toList=([99,111,117,110,116]:List UInt8):=by rw[e];decide
 have k0 : ¬ Kw l i (⟨#[102,111,111,116]⟩:q0b):=fun k=>e0 (k.2.2.trans v0g)
 have k1 : ¬ Kw l i (⟨#[99,111,117,110,116]⟩:q0b):=fun k=>e1 (k.2.2.trans q7T)
 obtain⟨s,i1,b1,p1,p2,p3,n1,n2⟩:=q6z hl (show i+1≤l.length by omega)
 refine(v1b hl (z:=z) h hI (l.length - i1) i1 oMm oMm b1 [s] (by rw[List.length_singleton];omega)).map (fun r hr=>cSuc ?_) (fun r hr=>cSuc ?_)
 ·simp only[q0h.j2,q4y (show i≤1000000 by omega),n1,Option.bind_some]
  exact cND (cNeg e0 (cNeg e1 (cPos e hr)))
 ·have n3:q1X.f l (wrap64 ((i:Int)+1)) false=some (s,(i1:Int),b1):=by rw[q4y (show i≤1000000 by omega)];exact n2
  simp only[q0l.j2]
  exact cPos trivial (q0O.got (q5h (Nat.le_of_lt hlt) k0) (cNeg nope (q0O.got (q5h (Nat.le_of_lt hlt) k1) (cNeg nope (q0O.got (q6L hk) (cPos rfl (q0O.got n3 hr)))))))
omit h1 in
theorem v1v (e:l[i].f1.toList=([108,105,110,101]:List UInt8)) {c v:Int} :
  BI l nm (fun k=>q0h.j2 k false false l (i:Int) false nm x1 x2 x3 y.f0 y.f1 y.f2 y.f3 c l[i].f1 v) (fun k=>q0l.j4 k 0 true l (i:Int) false nm x1 x2 x3 y.f0 y.f1 y.f2 y.f3):=by
 have e0 : ¬ l[i].f1.toList=([102,111,111,116]:List UInt8):=by rw[e];decide
 have e1 : ¬ l[i].f1.toList=([99,111,117,110,116]:List UInt8):=by rw[e];decide
 have e2 : ¬ l[i].f1.toList=([115,111,109,101]:List UInt8):=by rw[e];decide
 have w1:wrap64 ((0:Int)+1)=1:=by unfold wrap64;omega
 obtain⟨n0,m0,ys,g1,g2,g3,g4,g5,g6,g7⟩:=id hI
 have hm0:=g2.pos
 obtain⟨i2,b2,q1,q2,q3,a1,a2⟩:=q6O hl (show i+1≤l.length by omega) false ⟨#[61]⟩
 have A:∀ (n:S28) (i3:Nat) (b3:Bool) (r:IR),q0O (fun k=>q0g.f k l (i2:Int) b2) (q4w n i3 b3)→q0O (fun k=>(q1c.f l (i3:Int) b3 ⟨#[59]⟩).bind fun d=>q0h.l0 k true l d.1 d.2 nm x1 x2 x3 n.f0 n.f1 n.f2 n.f3) r →
   q0O (fun k=>q0h.j2 k false false l (i:Int) false nm x1 x2 x3 y.f0 y.f1 y.f2 y.f3 c l[i].f1 v) r:=by
  intro n i3 b3 r c1 hr
  apply cSuc
  simp only[q0h.j2,q4y (show i≤1000000 by omega),a1,Option.bind_some]
  exact cND (cNeg e0 (cNeg e1 (cNeg e2 (cPos e (cBin c1 hr)))))
 have C:∀ (n:S28) (i3:Nat) (b3:Bool) (r:IR),q0O (fun k=>q0k.f k l (i2:Int) b2) (q4w n i3 b3)→q0O (fun k=>(q0G.f l (i3:Int) b3 ⟨#[59]⟩).bind fun d=>q0l.l0 k 1 l d.1 d.2 nm x1 x2 x3 n.f0 n.f1 n.f2 n.f3) r →
   q0O (fun k=>q0l.j4 k 0 true l (i:Int) false nm x1 x2 x3 y.f0 y.f1 y.f2 y.f3) r:=by
  intro n i3 b3 r c1 hr
  apply cSuc
  simp only[q0l.j4,q4y (show i≤1000000 by omega),a2,w1,Option.bind_some]
  exact cPos trivial (cBin c1 hr)
 rcases v1a hl q2 b2 with ⟨n,m,i3,r1,r2,c1,c2⟩|⟨n,i3,hb,hg,r1,r2,c1,c2⟩
 ·refine(q6w (nm:=nm) (x1:=x1) (x2:=x2) (x3:=x3) (y4:=n.f0) (y5:=n.f1) (y6:=n.f2) (y7:=n.f3) (x1':=x1) (x2':=x2) (x3':=x3) (z4:=m.f0) (z5:=m.f1) (z6:=m.f2) (z7:=m.f3) true 1 r2).map (fun r hr=>A n i3 true r c1 ?_) (fun r hr=>C m i3 true r c2 ?_)
  ·simp only[q4M,Option.bind_some];exact hr
  ·simp only[q5n,Option.bind_some];exact hr
 ·obtain⟨i4,b4,t1,t2,t3,f1,f2⟩:=q6O hl r2 false ⟨#[59]⟩
  have hi2:=q3 hb
  obtain⟨mq,yq,hq,hq2⟩:=hg.2.2
  refine(v1B h (show i<i4 by omega) t2 b4 true (x1:=x1) (x2:=x2) (x3:=x3) (y:=n) (fun _=>⟨n0,mq,yq,g1,hq,by omega,by omega,by omega,by omega,fun w hw=>by have:=g7 w hw;omega⟩)).map (fun r hr=>A n i3 false r c1 ?_) (fun r hr=>C n i3 false r c2 ?_)
  ·rw[f1];exact hr
  ·rw[f2];exact hr
end
section
variable {l:List S61} (hl:l.length≤1000000) {nm:q0b} {x1:List S68} {x2:List S70} {x3:List (List q0b)} {y:S28} {z:Bool} {i:Nat} (hi:i≤l.length) (h:∀ j,i<j→j≤l.length→ItP l nm j) (hI:Inv i x1 x2 x3 y)
include hl hi h hI
theorem v1k :
  BI l nm (fun k=>q0h.j1 k z true l (i:Int) false nm x1 x2 x3 y.f0 y.f1 y.f2 y.f3) (fun k=>q0l.j2 k (if z then 1 else 0) true l (i:Int) false nm x1 x2 x3 y.f0 y.f1 y.f2 y.f3):=by
 by_cases hk:∃ hlt:i<l.length,l[i].f0=1
 case neg=>
  obtain⟨c,w,v,hc,hn⟩:∃ (c:Int) (w:q0b) (v:Int),c≠1∧q1u.f l (i:Int) false=some (c,w,v,(i:Int),false):=by
   by_cases hlt:i<l.length
   ·exact⟨_,_,_,fun k=>hk ⟨hlt,k⟩,q3O l i hlt⟩
   ·obtain rfl:i=l.length:=by omega
    exact⟨_,_,_,by decide,q4V l⟩
  have kn:∀ s,¬ Kw l i s:=fun s k=>hk ⟨k.1,k.2.1⟩
  refine(q7g (nm:=nm) (x1:=x1) (x2:=x2) (x3:=x3) (y4:=y.f0) (y5:=y.f1) (y6:=y.f2) (y7:=y.f3) (z:=z) (q:=if z then 1 else 0) hi (c:=c) (w:=w) (v:=v) (b:=false)).map (fun r hr=>cSuc ?_) (fun r hr=>cSuc ?_)
  ·simp only[q0h.j1,hn,Option.bind_some]
   exact cPos trivial (cNeg hc hr)
  ·simp only[q0l.j2]
   exact cPos trivial (q0O.got (q5h hi (kn _)) (cNeg nope (q0O.got (q5h hi (kn _)) (cNeg nope (q0O.got (q5h hi (kn _)) (cNeg nope (q0O.got (q5h hi (kn _)) (cNeg nope hr))))))))
 obtain⟨hlt,h1⟩:=hk
 obtain⟨t,ht,hiff⟩:=kw_is l[i].f1
 rw[v0g,q7T,q9J,q9B]at hiff
 have J:∀ (b:Bool) (r:IR),(l[i].f1.toList=([108,105,110,101]:List UInt8)∧z=true→b=true)→(¬ (l[i].f1.toList=([108,105,110,101]:List UInt8)∧z=true)→b = !t)→q0O (fun k=>q0h.j2 k z b l (i:Int) false nm x1 x2 x3 y.f0 y.f1 y.f2 y.f3 l[i].f0 l[i].f1 l[i].f2) r→q0O (fun k=>q0h.j1 k z true l (i:Int) false nm x1 x2 x3 y.f0 y.f1 y.f2 y.f3) r:=by
  intro b r c1 c2 hr
  apply cSuc
  simp only[q0h.j1,q3O l i hlt,Option.bind_some]
  refine cPos trivial (cPos h1 (cIte (fun e=>cIte (fun ez=>?_) (fun ez=>cBin ht ?_)) (fun e=>cBin ht ?_)))
  ·obtain rfl:=c1 ⟨e,ez⟩;exact hr
  ·obtain rfl:=c2 (fun k=>ez k.2);exact hr
  ·obtain rfl:=c2 (fun k=>e k.1);exact hr
 by_cases e0:l[i].f1.toList=([102,111,111,116]:List UInt8)
 ·obtain rfl:=hiff.2 (.inl e0)
  exact(v1e hl h hI hlt h1 e0).map (fun r hr=>J false r (fun k=>by rw[e0]at k;exact absurd k.1 dDd) (fun _=>rfl) hr) (fun r hr=>hr)
 by_cases e1:l[i].f1.toList=([99,111,117,110,116]:List UInt8)
 ·obtain rfl:=hiff.2 (.inr (.inl e1))
  exact(v0a hl h hI hlt h1 e1).map (fun r hr=>J false r (fun k=>by rw[e1]at k;exact absurd k.1 dDd) (fun _=>rfl) hr) (fun r hr=>hr)
 by_cases e2:l[i].f1.toList=([115,111,109,101]:List UInt8)
 ·obtain rfl:=hiff.2 (.inr (.inr (.inl e2)))
  exact(v0m hl h hI hlt h1 e2).map (fun r hr=>J false r (fun k=>by rw[e2]at k;exact absurd k.1 dDd) (fun _=>rfl) hr) (fun r hr=>hr)
 have k0 : ¬ Kw l i (⟨#[102,111,111,116]⟩:q0b):=fun k=>e0 (k.2.2.trans v0g)
 have k1 : ¬ Kw l i (⟨#[99,111,117,110,116]⟩:q0b):=fun k=>e1 (k.2.2.trans q7T)
 have k2 : ¬ Kw l i (⟨#[115,111,109,101]⟩:q0b):=fun k=>e2 (k.2.2.trans q9J)
 by_cases e3:l[i].f1.toList=([108,105,110,101]:List UInt8)
 ·have k3:Kw l i (⟨#[108,105,110,101]⟩:q0b):=⟨hlt,h1,e3.trans q9B.symm⟩
  obtain rfl:=hiff.2 (.inr (.inr (.inr e3)))
  cases z with
  | true=>
   refine(q7g (nm:=nm) (x1:=x1) (x2:=x2) (x3:=x3) (y4:=y.f0) (y5:=y.f1) (y6:=y.f2) (y7:=y.f3) (z:=true) (q:=1) hi (c:=l[i].f0) (w:=l[i].f1) (v:=l[i].f2) (b:=false)).map (fun r hr=>J true r (fun _=>rfl) (fun k=>absurd ⟨e3,rfl⟩ k) hr) (fun r hr=>cSuc ?_)
   simp only[q0l.j2]
   exact cPos trivial (q0O.got (q5h hi k0) (cNeg nope (q0O.got (q5h hi k1) (cNeg nope (q0O.got (q5h hi k2) (cNeg nope (q0O.got (q6L k3) (cPos rfl hr))))))))
  | false=>
   refine(v1v hl h hI hlt e3).map (fun r hr=>J false r (fun k=>absurd k.2 dDd) (fun _=>rfl) hr) (fun r hr=>cSuc ?_)
   simp only[q0l.j2]
   exact cPos trivial (q0O.got (q5h hi k0) (cNeg nope (q0O.got (q5h hi k1) (cNeg nope (q0O.got (q5h hi k2) (cNeg nope (q0O.got (q6L k3) (cPos rfl hr))))))))
 ·have k3 : ¬ Kw l i (⟨#[108,105,110,101]⟩:q0b):=fun k=>e3 (k.2.2.trans q9B)
  obtain rfl:t=false:=by
   cases t with
   | false=>rfl
   | true=>rcases hiff.1 rfl with k|k|k|k <;> contradiction
  refine(q7g (nm:=nm) (x1:=x1) (x2:=x2) (x3:=x3) (y4:=y.f0) (y5:=y.f1) (y6:=y.f2) (y7:=y.f3) (z:=z) (q:=if z then 1 else 0) hi (c:=l[i].f0) (w:=l[i].f1) (v:=l[i].f2) (b:=false)).map (fun r hr=>J true r (fun _=>rfl) (fun _=>rfl) hr) (fun r hr=>cSuc ?_)
  simp only[q0l.j2]
  exact cPos trivial (q0O.got (q5h hi k0) (cNeg nope (q0O.got (q5h hi k1) (cNeg nope (q0O.got (q5h hi k2) (cNeg nope (q0O.got (q5h hi k3) (cNeg nope hr))))))))
end
/-- All items by both readers. -/
theorem v0b {l:List S61} (hl:l.length≤1000000) (nm:q0b):∀ (N i:Nat),i≤l.length→l.length - i=N→ItP l nm i:=by
 intro N
 induction N using Nat.strongRecOn with
 | _ N ih=>
  intro i hi hN z x1 x2 x3 y hI
  have h:∀ j,i<j→j≤l.length→ItP l nm j:=fun j h1 h2=>ih (l.length - j) oMm j h2 rfl
  by_cases hh:z=true∧Hit l i ⟨#[125]⟩
  ·obtain⟨rfl,hh⟩:=hh
   refine .inr ⟨x1,x2,x3,y,i,hh,hI,cSuc ?_,cSuc ?_⟩
   ·simp only[q0h.l0,q7d hh,Option.bind_some]
    refine cND (cPos trivial (cSuc ?_))
    simp only[q0h.j1]
    exact cND (cCon _)
   ·simp only[q0l.l0,q7U hi hh,Option.bind_some]
    refine cND (cPos trivial (cSuc ?_))
    simp only[q0l.j2]
    exact cND (q0O.got (q7C hi oMm hh) (cCon _))
  ·exact to_item hi (fun hz k=>hh ⟨hz,k⟩) (v1k hl hi h hI)
end
section
/-- The text of a metre without an error; Parse leads back. -/
theorem v0j {a0:q0b} {l1:List S68} {l2:List S70} {l3:List (List q0b)} {y:S28} {n m:Nat} {ys:List q0b} (hF:CntF l1 n) (hL:CntN y m ys) (hz:n+m≤200) (z1:l1.length≤20) (z2:l2.length≤3) (z3:l3.length≤3)
  (hV:VM a0 l1 l2 l3 y.f0 y.f1 y.f2 y.f3) (e1:q0O (fun k=>q1j.f k a0 l1 l2 l3 y.f0 y.f1 y.f2 y.f3) 0) :
  ∃ s:q0b,q0O (fun k=>q1Q.f k a0 l1 l2 l3 y.f0 y.f1 y.f2 y.f3) (s,0)∧q0O (fun k=>q1Y.f k s) (a0,l1,l2,l3,y.f0,y.f1,y.f2,y.f3,0,0):=by
 obtain⟨a4,a5,a6,l7⟩:=y
 obtain⟨v1,v2,v3,v4,v5⟩:=hV
 obtain⟨fw,ft,hW⟩:=fw_of hF oMm v2
 obtain⟨lws,lts,hX⟩:=v0x _ v5 m ys hL oMm
 obtain⟨w0,w1⟩:=q7B v1
 have b1:=hW.wide
 have b2:=v2z ctw 31 l2 (fun x hx=>q9R (v3 x hx))
 have b3:=v2z smw 131 l3 (fun x hx=>by
  have:=q9T (v4 x hx)
  have:=(v4 x hx).2.1
  omega)
 have b4:=hX.z
 have g1:q4U.size=4:=rfl
 have g2:(⟨#[61]⟩:q0b).size=1:=rfl
 have b5:wd (fw++(l2.map ctw++(([q4U,⟨#[61]⟩]++lws)::l3.map smw)))≤15000:=by
  simp only[wd_app,wd,q5k,wid,g1,g2]
  omega
 have d6:(⟨#[109,101,116,114,101,32]⟩:q0b).size=6:=rfl
 have d3:(⟨#[32,123,10]⟩:q0b).size=3:=rfl
 have hs:((((⟨#[109,101,116,114,101,32]⟩:q0b)++a0)++(⟨#[32,123,10]⟩:q0b))).size=9+a0.size:=by
  rw[ByteArray.size_append,ByteArray.size_append,d6,d3];omega
 have f1:=fmt_l0 (l1:=l1) v4 oMm v3 oMm hX oMm l1.length 0 n fw ft (((⟨#[109,101,116,114,101,32]⟩:q0b)++a0)++(⟨#[32,123,10]⟩:q0b)) oMm (by rw[List.drop_zero];exact hW) oMm oMm oMm
 refine⟨txt a0 (fw++(l2.map ctw++(([q4U,⟨#[61]⟩]++lws)::l3.map smw))),?_,q9n w0 hW v3 v4 hX oMm oMm oMm oMm e1⟩
 unfold q1Q.f
 exact cBin e1 (cPos rfl (cPO f1))
/-- Where a text fails, both tell the same line. -/
theorem q8j {l:List S61} (hl:l.length≤1000000) (h0:l.length≠0) {i:Nat} (hi:i≤l.length):∃ ln:Int,q1Y.bad l (i:Int)=some (⟨#[]⟩,[],[],[],0,⟨#[]⟩,0,[],ln,2)∧q1O.bad l (i:Int)=some (⟨#[]⟩,[],[],[],0,⟨#[]⟩,0,[],ln,2):=by
 have hm:0≤mn (i:Int) (wrap64 ((l.length:Int) - 1))∧mn (i:Int) (wrap64 ((l.length:Int) - 1))<(l.length:Int):=by
  have hw:wrap64 ((l.length:Int) - 1)=(l.length:Int) - 1:=by unfold wrap64;omega
  rw[hw]
  unfold mn
  split <;> omega
 refine⟨(q2G l (mn (i:Int) (wrap64 ((l.length:Int) - 1)))).f2,?_,?_⟩
 ·unfold q1Y.bad
  rw[if_pos hm.1,if_pos hm.2]
 ·unfold q1O.bad
  rw[if_neg oMm,if_pos hm.1,if_pos hm.2]
/-- What Parse gives. -/
def Got (a:q0b):Prop:=∃ (a0:q0b) (l1:List S68) (l2:List S70) (l3:List (List q0b)) (y:S28) (ln e:Int),
 q0O (fun k=>q1Y.f k a) (a0,l1,l2,l3,y.f0,y.f1,y.f2,y.f3,ln,e)∧q0O (fun k=>q1O.f k a) (a0,l1,l2,l3,y.f0,y.f1,y.f2,y.f3,ln,e)∧
 (l1.length≤1048576∧(∀ x,x ∈ l1→Small x.f1)∧l2.length≤1048576∧l3.length≤1048576∧(∀ x,x ∈ l3→x.length≤1048576)∧Small y)∧
 (e=0→∃ s:q0b,q0O (fun k=>q1Q.f k a0 l1 l2 l3 y.f0 y.f1 y.f2 y.f3) (s,0)∧q0O (fun k=>q1Y.f k s) (a0,l1,l2,l3,y.f0,y.f1,y.f2,y.f3,0,0))
theorem Got.none {a:q0b} {ln e:Int} (he:e≠0) (h1:q0O (fun k=>q1Y.f k a) (⟨#[]⟩,[],[],[],0,⟨#[]⟩,0,[],ln,e)) (h2:q0O (fun k=>q1O.f k a) (⟨#[]⟩,[],[],[],0,⟨#[]⟩,0,[],ln,e)):Got a:=
 ⟨⟨#[]⟩,[],[],[],⟨0,⟨#[]⟩,0,[]⟩,ln,e,h1,h2,⟨by simp,fun x hx=>(by cases hx),by simp,by simp,fun x hx=>(by cases hx),Small.leaf _ _ _⟩,fun k=>absurd k he⟩
theorem q8A {l:List S61} {s:q0b} (b:Bool) (hb:b=true↔Kw l 0 s):q1B.f l 0 false 1 s=some (b,0,false):=by
 by_cases hlt:0<l.length
 ·have n0:q1u.f l 0 false=some (l[0].f0,l[0].f1,l[0].f2,0,false):=q3O l 0 hlt
  by_cases h1:l[0].f0=1
  ·by_cases ht:l[0].f1.toList=s.toList
   ·obtain rfl:b=true:=hb.2 ⟨hlt,h1,ht⟩
    simp [q1B.f,n0,h1,ht]
   ·obtain rfl:b=false:=by
     cases b with
     | false=>rfl
     | true=>exact absurd (hb.1 rfl).2.2 ht
    simp [q1B.f,n0,h1,ht]
  ·obtain rfl:b=false:=by
    cases b with
    | false=>rfl
    | true=>exact absurd (hb.1 rfl).2.1 h1
   simp [q1B.f,n0,h1]
 ·obtain rfl:l=[]:=List.length_eq_zero_iff.1 oMm
  obtain rfl:b=false:=by
   cases b with
   | false=>rfl
   | true=>exact absurd (hb.1 rfl).1 hlt
  have n0:q1u.f ([]:List S61) 0 false=some (0,⟨#[]⟩,0,0,false):=q4V []
  simp [q1B.f,n0]
theorem v1N {l:List S61} (hl:l.length≤1000000) {i:Nat} (hi:i≤l.length):∃ (s:q0b) (i1:Nat) (b1:Bool),i≤i1∧i1≤l.length∧q2d.f l (i:Int) false 1=some (s,(i1:Int),b1)∧q1b.f l (i:Int) false 1=some (s,(i1:Int),b1):=by
 rw[q6a l i 1 dDd hi oMm]
 by_cases h:∃ h:i<l.length,l[i].f0=1
 ·obtain⟨h,h1⟩:=h
  exact⟨_,i+1,false,by omega,h,q5w l i 1 h h1 oMm,q5w l i 1 h h1 oMm⟩
 ·exact⟨_,i,true,q0f _,hi,q6r l i 1 dDd hi (fun k k'=>h ⟨k,k'⟩),q6r l i 1 dDd hi (fun k k'=>h ⟨k,k'⟩)⟩
theorem v0p (a:q0b):Got a:=by
 obtain⟨⟨l,ln,er⟩,hl,t1,t2⟩:=tokens a
 replace hl:l.length≤20000:=hl
 have hl6:l.length≤1000000:=by omega
 by_cases h0:er=0
 case neg=>
  refine Got.none (ln:=ln) h0 ?_ ?_
  ·unfold q1Y.f q1Y.tail;exact cBin t1 (cNeg h0 (cCon _))
  ·unfold q1O.f;exact cBin t2 (cNeg h0 (cCon _))
 subst h0
 by_cases hk:Kw l 0 (⟨#[109,101,116,114,101]⟩:q0b)
 case neg=>
  have s1:q1B.f l 0 false 1 (⟨#[109,101,116,114,101]⟩:q0b)=some (false,0,false):=q8A false ⟨fun k=>(by cases k),fun k=>absurd k hk⟩
  have s2:q1w.f l 0 false (⟨#[109,101,116,114,101]⟩:q0b)=some (false,0,false):=q5h (q2W _) hk
  have k1:q2d.f l 0 true 1=some (⟨#[]⟩,0,true):=q5T l 0 1 dDd
  have k2:q1b.f l 0 true 1=some (⟨#[]⟩,0,true):=q6t l 0 1
  have x1:∀ s,q1c.f l 0 true s=some (0,true):=q4M l 0
  have x2:∀ s,q0G.f l 0 true s=some (0,true):=q5n l 0
  have hm:q0O (fun k=>q0l.f k l 0 false) (⟨#[]⟩,[],[],[],0,⟨#[]⟩,0,[],0,true):=by
   unfold q0l.f
   refine q0O.got s2 (cNeg nope (cSuc ?_))
   simp only[q0l.j0]
   exact q0O.got k2 (q0O.got k2 (q0O.got (x2 _) (q7n 0 0)))
  by_cases hz:(l.length:Int)=0
  ·refine Got.none (ln:=1) (e:=2) dDd ?_ ?_
   ·unfold q1Y.f q1Y.tail;exact cBin t1 (cPos rfl (cPos hz (cCon _)))
   ·unfold q1O.f
    refine cBin t2 (cPos rfl (cBin hm (cPos rfl ?_)))
    unfold q1O.bad
    exact cPos hz (cCon _)
  ·obtain⟨le,b1,b2⟩:=q8j hl6 (show l.length≠0 by omega) (q2W l.length)
   refine Got.none (ln:=le) (e:=2) dDd ?_ ?_
   ·unfold q1Y.f q1Y.tail
    refine cBin t1 (cPos rfl (cNeg hz (q0O.got s1 (cNeg nope (q0O.got k1 (q0O.got k1 (q0O.got (x1 _) (cBin (x:=(⟨#[]⟩,[],[],[],0,⟨#[]⟩,0,[],0,true)) ?_ (q0O.got (x1 _) (cPos rfl ?_))))))))))
    ·unfold q0h.f;exact q8J false 0
    ·exact⟨0,fun _ _=>b1⟩
   ·unfold q1O.f
    exact cBin t2 (cPos rfl (cBin hm (cPos rfl ⟨0,fun _ _=>b2⟩)))
 have hlt:=hk.1
 have hz : ¬ (l.length:Int)=0:=by omega
 have s1:q1B.f l 0 false 1 (⟨#[109,101,116,114,101]⟩:q0b)=some (true,0,false):=q8A true ⟨fun _=>hk,fun _=>rfl⟩
 have s2:q1w.f l 0 false (⟨#[109,101,116,114,101]⟩:q0b)=some (true,0,false):=q6L hk
 have k1:q2d.f l 0 false 1=some (l[0].f1,1,false):=q5w l 0 1 hlt hk.2.1 oMm
 have k2:q1b.f l 0 false 1=some (l[0].f1,1,false):=(q6a l 0 1 dDd (q2W _) oMm false).trans k1
 obtain⟨nm,i1,b1,p1,p2,q1,q2⟩:=v1N hl6 (show 1≤l.length from hlt)
 obtain⟨i2,b2,p3,p4,_,x1,x2⟩:=q6O hl6 p2 b1 (⟨#[123]⟩:q0b)
 have H:BI l nm (fun k=>q0h.l0 k false l (i2:Int) b2 nm [] [] [] 0 ⟨#[]⟩ 0 []) (fun k=>q0l.l0 k 0 l (i2:Int) b2 nm [] [] [] 0 ⟨#[]⟩ 0 []):=by
  cases b2 with
  | true=>exact q6w false 0 p4
  | false=>exact v0b hl6 nm _ i2 p4 rfl false [] [] [] ⟨0,⟨#[]⟩,0,[]⟩ ⟨0,1,_,.nil,.mk _ _ _ _ _ _ .nil,by omega,by simp,by simp,by simp,fun w hw=>by cases hw⟩
 have R:∀ (m:IR),q0O (fun k=>q0l.l0 k 0 l (i2:Int) b2 nm [] [] [] 0 ⟨#[]⟩ 0 []) m→q0O (fun k=>q0l.f k l 0 false) m:=by
  intro m hm
  unfold q0l.f
  refine q0O.got s2 (cPos rfl (cSuc ?_))
  simp only[q0l.j0]
  exact q0O.got k2 (q0O.got q2 (q0O.got x2 hm))
 have M:∀ (m:IR) (g:Nat→Option (q0b × List S68 × List S70 × List (List q0b) × Int × q0b × Int × List S28 × Int × Int)) res,q0O (fun k=>q0h.l0 k false l (i2:Int) b2 nm [] [] [] 0 ⟨#[]⟩ 0 []) m→q0O (fun k=>(q1c.f l (at9 m) (b10 m) (⟨#[125]⟩:q0b)).bind fun s6=>if s6.2=true then q1Y.bad l s6.1 else if s6.1<(l.length:Int) then q1Y.bad l s6.1 else (q1j.f k m.1 m.2.1 m.2.2.1 m.2.2.2.1 m.2.2.2.2.1 m.2.2.2.2.2.1 m.2.2.2.2.2.2.1 m.2.2.2.2.2.2.2.1).bind fun e=>if e=0 then some (m.1,m.2.1,m.2.2.1,m.2.2.2.1,m.2.2.2.2.1,m.2.2.2.2.2.1,m.2.2.2.2.2.2.1,m.2.2.2.2.2.2.2.1,0,0) else some (⟨#[]⟩,[],[],[],0,⟨#[]⟩,0,[],0,e)) res→q0O (fun k=>q1Y.f k a) res:=by
  intro m _ res hm hr
  unfold q1Y.f q1Y.tail
  refine cBin t1 (cPos rfl (cNeg hz (q0O.got s1 (cPos rfl (q0O.got k1 (q0O.got q1 (q0O.got x1 (cBin (x:=m) ?_ hr))))))))
  unfold q0h.f
  exact hm
 rcases H with ⟨r,r',i3,h3,ha,hb,ha',hb',c1,c2⟩|⟨l1,l2,l3,y,i3,h3,hI,c1,c2⟩
 ·obtain⟨le,d1,d2⟩:=q8j hl6 (show l.length≠0 by omega) h3
  refine Got.none (ln:=le) (e:=2) dDd (M r (fun _=>none) _ c1 ?_) ?_
  ·rw[ha,hb]
   exact q0O.got (q4M l i3 _) (cPos rfl ⟨0,fun _ _=>d1⟩)
  ·unfold q1O.f
   refine cBin t2 (cPos rfl (cBin (R r' c2) (cPos hb' ?_)))
   have d3:q1O.bad l (at9 r')=some (⟨#[]⟩,[],[],[],0,⟨#[]⟩,0,[],le,2):=by rw[ha'];exact d2
   exact⟨0,fun _ _=>d3⟩
 ·have hi3:i3<l.length:=h3.1
  have xe:=q4G (s:=(⟨#[125]⟩:q0b)) (show i3≤l.length by omega) oMm h3
  by_cases hend:((i3+1:Nat):Int)<(l.length:Int)
  ·obtain⟨le,d1,d2⟩:=q8j hl6 (show l.length≠0 by omega) (show i3+1≤l.length by omega)
   refine Got.none (ln:=le) (e:=2) dDd (M _ (fun _=>none) _ c1 (q0O.got xe (cNeg nope (cPos hend ⟨0,fun _ _=>d1⟩)))) ?_
   unfold q1O.f
   exact cBin t2 (cPos rfl (cBin (R _ c2) (cNeg nope (cPos hend ⟨0,fun _ _=>d2⟩))))
  ·obtain⟨n,m,ys,hF,hL,hnm,z1,z2,z3,z4⟩:=hI
   have hL':CntN ⟨y.f0,y.f1,y.f2,y.f3⟩ m ys:=by rw[q5l];exact hL
   obtain⟨e,e1,e2,e3⟩:=v0l nm hF hL' (show n+m≤100000 by omega) (show l1.length≤100000 by omega) (show l2.length≤100000 by omega) (show l3.length≤100000 by omega) (fun x hx=>by have:=z4 x hx;omega)
   by_cases he:e=0
   ·subst he
    obtain⟨hV,w1,w2,w3,w4⟩:=e3 rfl
    refine⟨nm,l1,l2,l3,y,0,0,M _ (fun _=>none) _ c1 (q0O.got xe (cNeg nope (cNeg hend (cBin e1 (cPos rfl (cCon _)))))),?_,⟨by omega,fun x hx=>?_,by omega,by omega,fun x hx=>by have:=z4 x hx;omega,q6E m y m ys (q0f _) hL oMm⟩,fun _=>v0j hF hL w1 w2 w3 w4 hV e1⟩
    ·unfold q1O.f
     exact cBin t2 (cPos rfl (cBin (R _ c2) (cNeg nope (cNeg hend (cBin e2 (cPos rfl (cCon _)))))))
    ·obtain⟨j,hj,rfl⟩:=List.getElem_of_mem hx
     obtain⟨mi,yi,hci,hmi⟩:=hF.get j hj
     exact q6E mi _ mi yi (q0f _) hci oMm
   ·refine Got.none (ln:=0) he (M _ (fun _=>none) _ c1 (q0O.got xe (cNeg nope (cNeg hend (cBin e1 (cNeg he (cCon _))))))) ?_
    unfold q1O.f
    exact cBin t2 (cPos rfl (cBin (R _ c2) (cNeg nope (cNeg hend (cBin e2 (cNeg he (cCon _)))))))
theorem q6M (a:q0b):q0O (fun k=>q2k.f k a) true:=by
 obtain⟨a0,l1,l2,l3,y,ln,e,p1,p2,⟨z1,k1,z2,z3,k3,k4⟩,hf⟩:=v0p a
 have ss:=v0L (a0:=a0) (l1:=l1) (l2:=l2) (l3:=l3) (a4:=y.f0) (a5:=y.f1) (a6:=y.f2) (l7:=y.f3) z1 k1 z2 z3 k3 (by rw[q5l];exact k4)
 unfold q2k.f
 refine cBin q7h (cPos rfl (cSuc ?_))
 simp only[q2k.j0]
 refine cIte (fun _=>cBin q7h (cCon _)) (fun _=>cBin p1 (cBin p2 (cPos rfl (cPos rfl (cBin ss (cPos rfl (cSuc ?_)))))))
 simp only[q2k.j1]
 by_cases he:e=0
 ·subst he
  obtain⟨s,f1,f2⟩:=hf rfl
  exact cND (cBin f1 (cBin f2 (cPos rfl (cPos rfl (cBin ss (cCon _))))))
 ·exact cPos (by simpa using he) (cPos trivial (cPos trivial (cBin ss (cCon _))))
end
end Go.Proofs.YtmffocankommaaaGreatDoor.P
section
namespace Go.Proofs.YtmffocankommaaaGreatDoor.WitR
open Go.ChangeShapes Go.WideShapes Go.ChangeAt Go.RowKit
/-- The values of a table's datum. -/
def valsW (d:DataW Unit):Array Value:=
 match d with
 | .agg l=>(l.map fun
  | .lit (.int .u8 n)=>Value.int .u8 n
  | .lit (.int .u64 n)=>Value.int .u64 n
  | _=>.bool false).toArray
 | _=>#[]
def heldW (v:Array Value):Obj→Obj
 | .cells _ t frozen=>.cells v t frozen
 | o=>o
noncomputable def laidWorld (os:Os):World:=
 {World.holding Tryz.prog os ⟨#[],#[],[]⟩ with heap:=(((World.holding Tryz.prog os ⟨#[],#[],[]⟩).heap.modify 1 (heldW (valsW Rows.laid_internal_strconv_uint64pow10))).modify 2 (heldW (valsW Rows.laid_math_bits_deBruijn32tab))).modify 3 (heldW (valsW Rows.laid_math_bits_deBruijn64tab))}
theorem laid_met (os:Os):laidMet Tryz.prog Rows.metreParsesRow.laid ((laidWorld os).forCall (fun _ _=>0) ⟨#[],#[.string ByteArray.empty],[]⟩).memory:=
 laidMet_of_run' 8 (by kernel_rfl) (by kernel_rfl)
theorem reads (os:Os) {H:Type} (enc:TypeId × Value→H):∃ ds places,DataW.whole enc Tryz.prog ((laidWorld os).forCall (fun _ _=>0) ⟨#[],#[.string ByteArray.empty],[]⟩).memory Tryz.f3.params.toList Rows.metreParsesSpec.vars false #[.string ByteArray.empty].toList 8=some (ds,[],places):=by
 have h:(match DataW.whole enc Tryz.prog ((laidWorld os).forCall (fun _ _=>0) ⟨#[],#[.string ByteArray.empty],[]⟩).memory Tryz.f3.params.toList Rows.metreParsesSpec.vars false #[.string ByteArray.empty].toList 8 with
  | some (ds,[],_)=>true
  | _=>false)=true:=by kernel_rfl
 split at h
 ·rename_i ds p he
  exact⟨ds,p,he⟩
 ·cases h
end Go.Proofs.YtmffocankommaaaGreatDoor.WitR
end
