/- The plain law: what the walks' functions compute answers as the statement says; the opening of the arguments; the witness's world. No program in sight but its types. Conditions: the lists within the arguments are no longer than the row's bulk. -/
import Derived.Test.YtmffocankommaaaGreatDoorDx33
namespace Go.Proofs.YtmffocankommaaaGreatDoor.P
open Go.RowKit Go.Proofs.YtmffocankommaaaGreatDoorW.PrintWords Go.Proofs.YtmffocankommaaaGreatDoorW.PrintLast Go.Proofs.YtmffocankommaaaGreatDoorW.PrintMore Go.Proofs.YtmffocankommaaaGreatDoorY Go.Proofs.YtmffocankommaaaGreatDoorS
set_option linter.unusedVariables false
section
theorem rd36 {xs:List S61} {i:Nat} (h:i<xs.length):q2G xs (i:Int)=xs[i]:=by
 show xs.getD i z61=xs[i]
 rw[List.getD_eq_getElem?_getD,List.getElem?_eq_getElem h]
 rfl
theorem q4y {i:Nat} (h:i≤1000000):wrap64 ((i:Int)+1)=((i+1:Nat):Int):=by unfold wrap64;omega
/-- Token i is this sign. -/
def Hit (l:List S61) (i:Nat) (s:q0b):Prop:=∃ h:i<l.length,l[i].f0=4∧l[i].f1.toList=s.toList
instance (l:List S61) (i:Nat) (s:q0b):Decidable (Hit l i s):=by unfold Hit;exact inferInstance
section
variable (l:List S61) (i:Nat) (s:q0b)
theorem q6x:q1u.f l (i:Int) true=some (0,⟨#[]⟩,0,(i:Int),true):=by simp [q1u.f]
theorem q4V:q1u.f l (l.length:Int) false=some (0,⟨#[]⟩,0,(l.length:Int),false):=by simp [q1u.f]
theorem q3O (h:i<l.length):q1u.f l (i:Int) false=some (l[i].f0,l[i].f1,l[i].f2,(i:Int),false):=by
 unfold q1u.f
 rw[if_neg dDd,if_neg oMm,if_pos oMm,if_pos oMm,rd36 h]
theorem q5v:q0J.f l (i:Int) true s=some (false,(i:Int),true):=by
 unfold q0J.f q1B.f
 rw[q6x]
 simp
theorem q6y (hi:i≤l.length) (hs:i≤1000000):q0J.f l (i:Int) false s=some (if Hit l i s then (true,((i+1:Nat):Int),false) else (false,(i:Int),false)):=by
 unfold q0J.f q1B.f
 by_cases h:i<l.length
 ·rw[q3O l i h]
  simp only[Option.bind_some]
  by_cases h4:l[i].f0=4
  ·rw[if_pos h4]
   simp only[Option.bind_some]
   by_cases ht:l[i].f1.toList=s.toList
   ·rw[if_pos (show Hit l i s from⟨h,h4,ht⟩),if_pos (by rw[ht];exact beq_self_eq_true _),q4y hs]
   ·rw[if_neg (show ¬ Hit l i s from fun k=>ht k.2.2),if_neg (by simpa using ht)]
  ·rw[if_neg h4,if_neg (show ¬ Hit l i s from fun k=>h4 k.2.1)]
   simp
 ·obtain rfl:i=l.length:=by omega
  rw[q4V,if_neg (show ¬ Hit l l.length s from fun k=>by obtain⟨k,_⟩:=k;omega)]
  simp
theorem q8Q:q1A.f l (i:Int) true s=some (false,(i:Int),true):=by simp [q1A.f]
theorem is_ok (hi:i≤l.length):q1A.f l (i:Int) false s=some (decide (Hit l i s),(i:Int),false):=by
 unfold q1A.f
 rw[if_neg dDd]
 by_cases h:i<l.length
 ·rw[if_pos oMm,if_pos oMm,rd36 h]
  by_cases h4:l[i].f0=4
  ·rw[if_pos h4]
   by_cases ht:l[i].f1.toList=s.toList
   ·rw[decide_eq_true (show Hit l i s from⟨h,h4,ht⟩),ht];simp
   ·rw[decide_eq_false (show ¬ Hit l i s from fun k=>ht k.2.2)];simp [ht]
  ·rw[if_neg h4,decide_eq_false (show ¬ Hit l i s from fun k=>h4 k.2.1)]
 ·rw[if_neg oMm,decide_eq_false (show ¬ Hit l i s from fun k=>h k.1)]
theorem q4M:q1c.f l (i:Int) true s=some ((i:Int),true):=by
 unfold q1c.f;rw[q5v];simp
theorem q8G (hi:i≤l.length) (hs:i≤1000000):q1c.f l (i:Int) false s=some (if Hit l i s then (((i+1:Nat):Int),false) else ((i:Int),true)):=by
 unfold q1c.f
 rw[q6y l i s hi hs]
 by_cases h:Hit l i s
 ·rw[if_pos h,if_pos h];simp
 ·rw[if_neg h,if_neg h];simp
theorem q5n:q0G.f l (i:Int) true s=some ((i:Int),true):=by
 unfold q0G.f;rw[q8Q];simp
theorem v0t (hi:i≤l.length) (hs:i≤1000000):q0G.f l (i:Int) false s=some (if Hit l i s then (((i+1:Nat):Int),false) else ((i:Int),true)):=by
 unfold q0G.f
 rw[is_ok l i s hi]
 by_cases h:Hit l i s
 ·rw[if_pos h,decide_eq_true h];simp [q4y hs]
 ·rw[if_neg h,decide_eq_false h];simp
theorem q5T (q:Int) (hq:q≠0):q2d.f l (i:Int) true q=some (⟨#[]⟩,(i:Int),true):=by
 unfold q2d.f;rw[q6x];simp [hq.symm]
theorem q6t (q:Int):q1b.f l (i:Int) true q=some (⟨#[]⟩,(i:Int),true):=by simp [q1b.f]
theorem q6a (q:Int) (hq:q≠0) (hi:i≤l.length) (hs:i≤1000000) (b:Bool):q1b.f l (i:Int) b q=q2d.f l (i:Int) b q:=by
 cases b with
 | true=>rw[q6t,q5T l i q hq]
 | false=>
  unfold q1b.f q2d.f
  rw[if_neg dDd]
  by_cases h:i<l.length
  ·rw[q3O l i h,if_neg oMm,if_pos oMm,if_pos oMm,rd36 h]
   simp only[Option.bind_some]
   by_cases h4:l[i].f0=q
   ·have e:wrap64 (wrap64 ((i:Int)+1) - 1)=(i:Int):=by unfold wrap64;omega
    rw[if_pos h4,if_pos h4,e,if_pos oMm,if_pos oMm,rd36 h]
   ·rw[if_neg h4,if_neg h4]
  ·obtain rfl:i=l.length:=by omega
   rw[if_pos rfl,q4V]
   simp [hq.symm]
theorem q5w (q:Int) (h:i<l.length) (hk:l[i].f0=q) (hs:i≤1000000):q2d.f l (i:Int) false q=some (l[i].f1,((i+1:Nat):Int),false):=by
 unfold q2d.f
 rw[q3O l i h]
 simp only[Option.bind_some]
 rw[if_pos hk,q4y hs]
theorem q6r (q:Int) (hq:q≠0) (hi:i≤l.length) (hk:∀ h:i<l.length,l[i].f0≠q):q2d.f l (i:Int) false q=some (⟨#[]⟩,(i:Int),true):=by
 unfold q2d.f
 by_cases h:i<l.length
 ·rw[q3O l i h]
  simp only[Option.bind_some]
  rw[if_neg (hk h)]
 ·obtain rfl:i=l.length:=by omega
  rw[q4V]
  simp [hq.symm]
theorem q9a (hi:i≤l.length) (hs:i≤1000000) (b:Bool):q1X.f l (i:Int) b=q2t.f l (i:Int) b:=by
 cases b with
 | true=>
  unfold q1X.f q2t.f q1B.f
  rw[if_pos rfl,q6t,q6x]
  simp [q6x,q5T l i 1 dDd]
 | false=>
  unfold q1X.f q2t.f q1B.f
  rw[if_neg dDd]
  by_cases h:i<l.length
  ·rw[if_pos oMm,if_pos oMm,rd36 h,q3O l i h,q6t,q6a l i 1 dDd hi hs]
   simp only[Option.bind_some]
   by_cases h1:l[i].f0=1
   ·rw[if_pos h1]
    by_cases hu:l[i].f1.toList=([117]:List UInt8)
    ·rw[if_pos hu]
     simp [hu,q5T l i 1 dDd]
    ·rw[if_neg hu]
     have hu':(l[i].f1.toList == ([117]:List UInt8))=false:=by simpa using hu
     by_cases hx:l[i].f1.toList=([120]:List UInt8)
     ·rw[if_pos hx]
      simp [hx,h1,q3O l i h,q5T l i 1 dDd]
     ·rw[if_neg hx]
      have hx':(l[i].f1.toList == ([120]:List UInt8))=false:=by simpa using hx
      simp [hu,hx,h1,q3O l i h]
   ·have ht:=q6r l i 1 dDd hi (fun _=>h1)
    rw[if_neg h1]
    simp only[Option.bind_some,q3O l i h,h1,if_false,ht]
    split
    ·simp
    ·split <;> simp
  ·obtain rfl:i=l.length:=by omega
   rw[if_neg oMm,q4V,q6a l l.length 1 dDd oMm hs]
   simp [q4V]
end
end
section
/-- From some number of rounds on, f comes to r. -/
def q0O {α:Type} (f:Nat→Option α) (r:α):Prop:=∃ K,∀ k,K≤k→f k=some r
theorem cBin {α β:Type} {f:Nat→Option α} {g:Nat→α→Option β} {x:α} {r:β} (h:q0O f x) (hg:q0O (fun k=>g k x) r):q0O (fun k=>(f k).bind (g k)) r:=by
 obtain⟨K,h⟩:=h
 obtain⟨L,hg⟩:=hg
 exact⟨max K L,fun k hk=>by
  show(f k).bind (g k)=some r
  rw[h k oMm]
  exact hg k oMm⟩
theorem cCon {α:Type} (r:α):q0O (fun _=>some r) r:=⟨0,fun _ _=>rfl⟩
theorem cSuc {α:Type} {f:Nat→Option α} {r:α} (h:q0O (fun k=>f (k+1)) r):q0O f r:=by
 obtain⟨K,h⟩:=h
 exact⟨K+1,fun k hk=>by
  obtain⟨j,rfl⟩:∃ j,k=j+1:=⟨k - 1,by omega⟩
  exact h j oMm⟩
theorem cPos {α:Type} {c:Prop} [Decidable c] {f g:Nat→Option α} {r:α} (hc:c) (h:q0O f r):q0O (fun k=>if c then f k else g k) r:=by simpa only[if_pos hc] using h
theorem cNeg {α:Type} {c:Prop} [Decidable c] {f g:Nat→Option α} {r:α} (hc : ¬ c) (h:q0O g r):q0O (fun k=>if c then f k else g k) r:=by simpa only[if_neg hc] using h
theorem cND {α:Type} {c:Prop} [Decidable c] {f g:Nat→Option α} {r:α} (h:q0O g r) (hc : ¬ c:=by decide):q0O (fun k=>if c then f k else g k) r:=cNeg hc h
theorem cNO {α:Type} {c:Prop} [Decidable c] {f g:Nat→Option α} {r:α} (h:q0O g r) (hc : ¬ c:=by omega):q0O (fun k=>if c then f k else g k) r:=cNeg hc h
theorem cPD {α:Type} {c:Prop} [Decidable c] {f g:Nat→Option α} {r:α} (h:q0O f r) (hc:c:=by decide):q0O (fun k=>if c then f k else g k) r:=cPos hc h
theorem cPO {α:Type} {c:Prop} [Decidable c] {f g:Nat→Option α} {r:α} (h:q0O f r) (hc:c:=by omega):q0O (fun k=>if c then f k else g k) r:=cPos hc h
/-- Lists within a node are no longer than 2^20. -/
inductive Small:S28→Prop
 | mk (a:Int) (b:q0b) (c:Int) (l:List S28) (hl:l.length≤1048576) (hk:∀ x,x ∈ l→Small x):Small ⟨a,b,c,l⟩
theorem q3j {i:Nat} (h:i≤1048576):wrap64 ((i:Int)+1)=((i+1:Nat):Int):=by unfold wrap64;omega
theorem rd25 {xs:List S28} {i:Nat} (h:i<xs.length):q1o xs (i:Int)=xs[i]:=by
 show xs.getD i z28=xs[i]
 rw[List.getD_eq_getElem?_getD,List.getElem?_eq_getElem h]
 rfl
theorem q6i:∀ (k:Nat) (a:q0b) (i:Int),q2g.l0 k a i=q2i.l0 k a i
 | 0,_,_=>rfl
 | k+1,a,i=>by
  simp only[q2g.l0,q2i.l0]
  have e:∀ x,q3g.f x=q3E.f x:=fun _=>rfl
  simp only[e,q6i k]
theorem q8B (a:q0b) (ha:a.size≤1000):∃ t,q0O (fun k=>q2i.f k a) t:=by
 have loop:∀ (d i:Nat),i+d=a.size→∃ t,q0O (fun k=>q2i.l0 k a (i:Int)) t:=by
  intro d
  induction d with
  | zero=>
   intro i hi
   exact⟨(i:Int),cSuc (by simp only[q2i.l0];exact cNO (cCon _))⟩
  | succ d IH=>
   intro i hi
   obtain⟨t,ht⟩:=IH (i+1) oMm
   have hd:∃ b,q3E.f (bt a (i:Int))=some b:=by unfold q3E.f;split <;> exact⟨_,rfl⟩
   obtain⟨b,hb⟩:=hd
   cases b with
   | true=>
    refine⟨t,cSuc ?_⟩
    simp only[q2i.l0,hb,Option.bind_some]
    refine cPO (cPO (cPos trivial ?_))
    rw[q4y oMm]
    exact ht
   | false=>
    refine⟨(i:Int),cSuc ?_⟩
    simp only[q2i.l0,hb,Option.bind_some]
    exact cPO (cPO (cND (cCon _)))
 exact loop a.size 0 oMm
theorem q8H (a:q0b):∀ (k:Nat) (x i:Int),q1E.l0 k x (q5y a) (a.size:Int) i=q1S.l0 k a x i
 | 0,_,_=>rfl
 | k+1,x,i=>by
  simp only[q1E.l0,q1S.l0,v0e,q4p]
  by_cases h:i<(a.size:Int)
  ·rw[if_pos h,if_pos h,if_pos h,q8H a k]
  ·rw[if_neg h,if_neg h]
theorem q5X (a:q0b):∃ r,q0O (fun k=>q1E.f k a) r∧q0O (fun k=>q1S.f k a) r:=by
 have jt:q0O (fun k=>q1E.j0 k a true) (0,false):=cSuc (by simp only[q1E.j0];exact cPos trivial (cCon _))
 have jr:q0O (fun k=>q1S.j0 k a true) (0,false):=cSuc (by simp only[q1S.j0];exact cPos trivial (cCon _))
 unfold q1E.f q1S.f
 by_cases h0:a.toList=([]:List UInt8)
 ·exact⟨_,cPos h0 jt,cPos h0 jr⟩
 by_cases h6:(a.size:Int) > 6
 ·exact⟨_,cNeg h0 (cPos h6 jt),cNeg h0 (cPos h6 jr)⟩
 have hpos:0<a.size:=by
  rcases Nat.eq_zero_or_pos a.size with h|h
  ·exact absurd (by rw[ByteArray.toList_eq];exact List.length_eq_zero_iff.1 (by simpa using h)) h0
  ·exact h
 obtain⟨t,ht⟩:=q8B a oMm
 have ht':q0O (fun k=>q2g.f k a) t:=by
  unfold q2g.f
  simp only[q6i]
  exact ht
 have loop:∀ (d i:Nat) (x:Int),i+d=a.size→∃ r,q0O (fun k=>q1S.l0 k a x (i:Int)) r:=by
  intro d
  induction d with
  | zero=>
   intro i x hi
   exact⟨(x,true),cSuc (by simp only[q1S.l0];exact cNO (cCon _))⟩
  | succ d IH=>
   intro i x hi
   obtain⟨r,hr⟩:=IH (i+1) (wrap64 ((wrap64 (10*x))+(((bt a i) - 48) % 256))) oMm
   refine⟨r,cSuc ?_⟩
   simp only[q1S.l0]
   refine cPO (cPO ?_)
   rw[q4y oMm]
   exact hr
 obtain⟨r,hr⟩:=loop a.size 0 0 oMm
 have jf:q0O (fun k=>q1E.j0 k a false) r:=by
  apply cSuc
  simp only[q1E.j0,Option.bind_some]
  refine cND (cPO ?_)
  rw[q4p]
  simp only[q8H]
  exact hr
 have jg:q0O (fun k=>q1S.j0 k a false) r:=by
  apply cSuc
  simp only[q1S.j0]
  exact cND hr
 by_cases hs:t=(a.size:Int)
 ·by_cases h1:(a.size:Int) > 1
  ·by_cases hb:bt a 0=48
   ·refine⟨(0,false),cNeg h0 (cNeg h6 (cBin ht (cPos hs (cPos h1 (cPO ?_))))),cNeg h0 (cNeg h6 (cBin ht' (cPos hs (cPO (cPos hb ?_)))))⟩
    ·rw[show(bt a 0 == 48)=true from by simpa using hb];exact jt
    ·rw[show decide ((a.size:Int) > 1)=true from decide_eq_true h1];exact jr
   ·refine⟨r,cNeg h0 (cNeg h6 (cBin ht (cPos hs (cPos h1 (cPO ?_))))),cNeg h0 (cNeg h6 (cBin ht' (cPos hs (cPO (cNeg hb jg)))))⟩
    rw[show(bt a 0 == 48)=false from by simpa using hb];exact jf
  ·refine⟨r,cNeg h0 (cNeg h6 (cBin ht (cPos hs (cNeg h1 jf)))),cNeg h0 (cNeg h6 (cBin ht' (cPos hs (cPO ?_))))⟩
   by_cases hb:bt a 0=48
   ·refine cPos hb ?_
    rw[show decide ((a.size:Int) > 1)=false from decide_eq_false h1];exact jg
   ·exact cNeg hb jg
 ·exact⟨_,cNeg h0 (cNeg h6 (cBin ht (cNeg hs jt))),cNeg h0 (cNeg h6 (cBin ht' (cNeg hs jr)))⟩
/-- A node with where the reader stands. -/
def q4w (n:S28) (i:Nat) (b:Bool):Int × q0b × Int × (List S28) × Int × Bool:=(n.f0,n.f1,n.f2,n.f3,(i:Int),b)
def q5H (n:S28) (ok:Bool) (i:Nat) (b:Bool):Int × q0b × Int × (List S28) × Bool × Int × Bool:=(n.f0,n.f1,n.f2,n.f3,ok,(i:Int),b)
def one (x:List S28):S28:=if x.length=1 then q1o x 0 else ⟨5,⟨#[]⟩,0,x⟩
theorem one_f (x:List S28):q4e.f x=some ((one x).f0,(one x).f1,(one x).f2,(one x).f3):=by
 unfold q4e.f one
 by_cases h:x.length=1
 ·rw[if_pos oMm,if_pos oMm,if_pos h]
 ·rw[if_neg oMm,if_neg h]
theorem v2q (l:List S61) (i:Nat):q0O (fun k=>q0H.f k l (i:Int) true) (q5H ⟨0,⟨#[]⟩,0,[]⟩ false i true):=by
 apply cSuc
 simp only[q0H.f,q6x,q5v,Option.bind_some]
 exact cCon _
theorem v1S (l:List S61) (hl:l.length≤1000000):q0O (fun k=>q0H.f k l (l.length:Int) false) (q5H ⟨0,⟨#[]⟩,0,[]⟩ false l.length false):=by
 have h:∀ s,¬ Hit l l.length s:=fun s k=>by obtain⟨k,_⟩:=k;omega
 apply cSuc
 simp only[q0H.f,q4V,q6y l l.length _ (Nat.le_refl _) hl,if_neg (h _),Option.bind_some]
 exact cCon _
theorem q5P (l:List S61) (x:List S28) (i:Nat) (b:Bool) (q0:Int) (q1:q0b) (q2:Int) (q3:List S28):q0O (fun k=>q0g.j1 k x true l (i:Int) b q0 q1 q2 q3) (q4w (one x) i b):=by
 apply cSuc
 simp only[q0g.j1]
 refine cPos trivial ?_
 unfold one
 by_cases h:x.length=1
 ·rw[if_pos h]
  exact cPO (cPO (cCon _))
 ·rw[if_neg h]
  exact cNO (cCon _)
theorem q9p (l:List S61) (x:List S28) (i:Nat):q0O (fun k=>q0g.l0 k x l (i:Int) true) (q4w (one x) i true):=by
 apply cSuc
 simp only[q0g.l0]
 refine cBin (v2q l i) ?_
 exact cNeg (show ¬ (false=true) by decide) (q5P l x i true _ _ _ _)
theorem q8p (l:List S61) (x:List S28) (i:Nat):q0O (fun k=>q0k.l0 k x l (i:Int) true) (q4w (one x) i true):=by
 apply cSuc
 simp only[q0k.l0]
 refine cPos trivial (cSuc ?_)
 simp only[q0k.j1,one_f,Option.bind_some]
 exact cND (cCon _)
end
section
mutual
inductive CntN:S28→Nat→List q0b→Prop
 | mk (a:Int) (b:q0b) (c:Int) (l:List S28) (m:Nat) (ys:List q0b) (h:CntL l m ys):CntN ⟨a,b,c,l⟩ (m+1) ((if a=4∨a=11∨a=12 then [b] else [])++ys)
inductive CntL:List S28→Nat→List q0b→Prop
 | nil:CntL [] 0 []
 | cons (x:S28) (l:List S28) (m n:Nat) (ys zs:List q0b) (h1:CntN x m ys) (h2:CntL l n zs):CntL (x::l) (m+n) (ys++zs)
end
theorem CntN.inv {a:Int} {b:q0b} {c:Int} {l:List S28} {m:Nat} {zs:List q0b} (h:CntN ⟨a,b,c,l⟩ m zs):∃ m' ys,m=m'+1∧zs=(if a=4∨a=11∨a=12 then [b] else [])++ys∧CntL l m' ys:=by
 cases h with
 | mk _ _ _ _ m ys h=>exact⟨m,ys,rfl,rfl,h⟩
theorem CntN.pos {n:S28} {m:Nat} {zs:List q0b} (h:CntN n m zs):0<m:=by
 cases h;omega
theorem CntL.inv {x:S28} {l:List S28} {m:Nat} {zs:List q0b} (h:CntL (x::l) m zs):∃ m1 m2 y1 y2,m=m1+m2∧zs=y1++y2∧CntN x m1 y1∧CntL l m2 y2:=by
 cases h with
 | cons _ _ m1 m2 y1 y2 h1 h2=>exact⟨m1,m2,y1,y2,rfl,rfl,h1,h2⟩
theorem CntL.nil_inv {m:Nat} {zs:List q0b} (h:CntL [] m zs):m=0∧zs=[]:=by
 cases h;exact⟨rfl,rfl⟩
theorem CntL.len:∀ (l:List S28) (m:Nat) (zs:List q0b),CntL l m zs→l.length≤m
 | [],m,zs,h=>by simp
 | x::l,m,zs,h=>by
  obtain⟨m1,m2,y1,y2,rfl,rfl,h1,h2⟩:=h.inv
  have:=CntL.len l m2 y2 h2
  have:=h1.pos
  simp only[List.length_cons]
  omega
theorem CntL.mem:∀ (l:List S28) (m:Nat) (zs:List q0b),CntL l m zs→∀ x,x ∈ l→∃ m' ys,CntN x m' ys∧m'≤m
 | [],m,zs,h,x,hx=>by cases hx
 | y::l,m,zs,h,x,hx=>by
  obtain⟨m1,m2,y1,y2,rfl,rfl,h1,h2⟩:=h.inv
  rcases List.mem_cons.1 hx with e|e
  ·subst e;exact⟨m1,y1,h1,by omega⟩
  ·obtain⟨m',ys,h',hl⟩:=CntL.mem l m2 y2 h2 x e
   exact⟨m',ys,h',by omega⟩
theorem q6E:∀ (M:Nat) (n:S28) (m:Nat) (ys:List q0b),m≤M→CntN n m ys→m≤1048576→Small n:=by
 intro M
 induction M with
 | zero=>intro n m ys hm h _;have:=h.pos;omega
 | succ M ih=>
  intro n m ys hm h hM
  obtain⟨a,b,c,l⟩:=n
  obtain⟨m',zs,rfl,rfl,hl⟩:=h.inv
  refine .mk _ _ _ _ (by have:=CntL.len _ _ _ hl;omega) (fun x hx=>?_)
  obtain⟨m1,y1,h1,h2⟩:=CntL.mem _ _ _ hl x hx
  exact ih x m1 y1 oMm h1 oMm
theorem wrapI {i:Int} (h : -1000000000000≤i∧i≤1000000000000):wrap64 i=i:=by unfold wrap64;omega
theorem wrapN {i:Nat} (h:i≤1000000000):wrap64 ((i:Int)+1)=((i+1:Nat):Int):=by unfold wrap64;omega
theorem v0F {l:List S28} {i:Nat} (h:i<l.length):l.drop i=l[i]::l.drop (i+1):=List.drop_eq_getElem_cons h
theorem q0O.mono {α:Type} {f:Nat→Option α} {r:α} (h:∀ k,LeO (f k) (f (k+1))) (k:Nat) (hk:f k=some r):q0O f r:=by
 refine⟨k,fun j hj=>?_⟩
 obtain⟨d,rfl⟩:∃ d,j=k+d:=⟨j - k,by omega⟩
 clear hj
 induction d with
 | zero=>exact hk
 | succ d ih=>exact h _ _ ih
theorem cIte {α:Type} {c:Prop} [Decidable c] {f g:Nat→Option α} {r:α} (hf:c→q0O f r) (hg : ¬ c→q0O g r):q0O (fun k=>if c then f k else g k) r:=by
 by_cases h:c
 ·exact cPos h (hf h)
 ·exact cNeg h (hg h)
theorem cVal {α:Type} {x r:α} (h:x=r):q0O (fun _=>some x) r:=h ▸ cCon _
theorem q6S:∀ (M:Nat) (n:S28) (m:Nat) (ys:List q0b),m≤M→CntN n m ys→m≤10000000→q0O (fun k=>q2w.f k n.f0 n.f1 n.f2 n.f3) (m:Int):=by
 intro M
 induction M with
 | zero=>intro n m ys hm h;have:=h.pos;omega
 | succ M ih=>
  intro n m ys hm h hM
  obtain⟨a,b,c,l⟩:=n
  obtain⟨m',zs,rfl,rfl,hl⟩:=h.inv
  have loop:∀ (d:Nat) (i:Nat) (m2:Nat) (zs2:List q0b),i+d=l.length→CntL (l.drop i) m2 zs2→m2≤m'→∀ q:Nat,q+m2≤20000000→q0O (fun k=>q2w.l0 k (q:Int) l (l.length:Int) (i:Int)) ((q+m2:Nat):Int):=by
   intro d
   induction d with
   | zero=>
    intro i m2 zs2 hi h2 _ q _
    rw[List.drop_eq_nil_of_le oMm]at h2
    obtain⟨rfl,rfl⟩:=h2.nil_inv
    apply cSuc
    simp only[q2w.l0]
    exact cNO (cCon _)
   | succ d IH=>
    intro i m2 zs2 hi h2 hle q hq
    have hlt:i<l.length:=by omega
    rw[v0F hlt]at h2
    obtain⟨m1,m3,y1,y3,rfl,rfl,h1,h3⟩:=h2.inv
    apply cSuc
    simp only[q2w.l0]
    refine cPO (cPO (cPO ?_))
    rw[rd25 hlt]
    refine cBin (ih _ m1 y1 oMm h1 oMm) ?_
    rw[wrapN (by have:=CntL.len _ _ _ hl;omega),wrapI oMm]
    have:=IH (i+1) m3 y3 oMm h3 oMm (q+m1) oMm
    rw[show q+m1+m3=q+(m1+m3) by omega]at this
    exact this
  apply cSuc
  simp only[q2w.f]
  have:=loop l.length 0 m' zs oMm (by simpa using hl) (q0f _) 1 oMm
  rw[show 1+m'=m'+1 by omega]at this
  exact this
set_option maxRecDepth 100000 in
theorem v1x:q3d.f 100=some true:=by decide +kernel
theorem q7h:q0O (fun k=>q3d.f k) true:=
 ⟨100,fun k hk=>by
  obtain⟨j,rfl⟩:∃ j,k=100+j:=⟨k - 100,by omega⟩
  induction j with
  | zero=>exact v1x
  | succ j ih=>exact q3d.mono _ _ (ih oMm)⟩
theorem q9x {l:List q0b} {i:Nat} (h:i<l.length):rdOf ByteArray.empty l (i:Int)=l[i]:=by
 unfold rdOf
 rw[Int.toNat_natCast,List.getD_eq_getElem?_getD,List.getElem?_eq_getElem h]
 rfl
theorem rd86 {xs:List S68} {i:Nat} (h:i<xs.length):q1F xs (i:Int)=xs[i]:=by
 show xs.getD i z68=xs[i]
 rw[List.getD_eq_getElem?_getD,List.getElem?_eq_getElem h]
 rfl
theorem rd88 {xs:List S70} {i:Nat} (h:i<xs.length):q2K xs (i:Int)=xs[i]:=by
 show xs.getD i z70=xs[i]
 rw[List.getD_eq_getElem?_getD,List.getElem?_eq_getElem h]
 rfl
theorem rdl7 {xs:List (List q0b)} {i:Nat} (h:i<xs.length):q2Y xs (i:Int)=xs[i]:=by
 show xs.getD i []=xs[i]
 rw[List.getD_eq_getElem?_getD,List.getElem?_eq_getElem h]
 rfl
end
section
theorem tl1 (c:UInt8):(⟨#[c]⟩:q0b).toList=[c]:=by rw[ByteArray.toList_eq]
theorem Small.size:∀ {n:S28},Small n→n.f3.length≤1048576
 | _,.mk _ _ _ _ hl _=>hl
theorem Small.kids:∀ {n:S28},Small n→∀ x,x ∈ n.f3→Small x
 | _,.mk _ _ _ _ _ hk=>hk
theorem Small.leaf (a:Int) (b:q0b) (c:Int):Small ⟨a,b,c,[]⟩:=.mk _ _ _ _ (by simp) (fun x h=>by cases h)
theorem Small.sole (a:Int) (b:q0b) (c:Int) {n:S28} (h:Small n):Small ⟨a,b,c,[n]⟩:=.mk _ _ _ _ (by simp) (fun x hx=>by rw[List.mem_singleton.1 hx];exact h)
/-- What a reader may give that went from i to i'. -/
def Cnt (n:S28) (i i':Nat):Prop:=n.f0=5→n.f3.length+i≤i'∧∀ y,y ∈ n.f3→y.f0≠5
/-- So many nodes, so many tokens. -/
def Qty (n:S28) (i i':Nat):Prop:=∃ m ys,CntN n m ys∧m+i≤i'
def QtyL (x:List S28) (i i':Nat):Prop:=∃ m ys,CntL x m ys∧m+i≤i'
def Good (n:S28) (i i':Nat):Prop:=Small n∧Cnt n i i'∧Qty n i i'
def q9Y (n:S28) (i i':Nat):Prop:=Small n∧Cnt n i i'∧Qty n i (i'+1)
theorem q8t:∀ (x y:List S28) (m n:Nat) (ys zs:List q0b),CntL x m ys→CntL y n zs→CntL (x++y) (m+n) (ys++zs)
 | [],y,m,n,ys,zs,h,h'=>by
  obtain⟨rfl,rfl⟩:=h.nil_inv
  simpa using h'
 | x::l,y,m,n,ys,zs,h,h'=>by
  obtain⟨m1,m2,y1,y2,rfl,rfl,h1,h2⟩:=h.inv
  rw[List.cons_append,Nat.add_assoc,List.append_assoc]
  exact .cons _ _ _ _ _ _ h1 (q8t l y m2 n y2 zs h2 h')
theorem Qty.leaf {a:Int} {b:q0b} {c:Int} {i i':Nat} (h:i+1≤i'):Qty ⟨a,b,c,[]⟩ i i':=⟨_,_,.mk _ _ _ _ _ _ .nil,by omega⟩
theorem Qty.sole {a:Int} {b:q0b} {c:Int} {n:S28} {i i' k k':Nat} (h:Qty n i i') (hk:k+i'+1≤k'+i):Qty ⟨a,b,c,[n]⟩ k k':=by
 obtain⟨m,ys,h,e⟩:=h
 exact⟨_,_,.mk _ _ _ _ _ _ (.cons _ _ _ _ _ _ h .nil),by omega⟩
theorem QtyL.node {a:Int} {b:q0b} {c:Int} {x:List S28} {i i' k:Nat} (h:QtyL x i i') (hk:i'+1≤k):Qty ⟨a,b,c,x⟩ i k:=by
 obtain⟨m,ys,h,e⟩:=h
 exact⟨_,_,.mk _ _ _ _ _ _ h,by omega⟩
theorem QtyL.add {x:List S28} {n:S28} {j i a b c:Nat} (h:QtyL x j i) (hn:Qty n a b) (hk:i+b≤c+a):QtyL (x++[n]) j c:=by
 obtain⟨m,ys,h,e⟩:=h
 obtain⟨m',ys',h',e'⟩:=hn
 exact⟨_,_,q8t _ _ _ _ _ _ h (.cons _ _ _ _ _ _ h' .nil),by omega⟩
theorem QtyL.app {x:List S28} {n:S28} {j i c:Nat} (h:QtyL x j i) (hn:Qty n i c):QtyL (x++n.f3) j c:=by
 obtain⟨m,ys,h,e⟩:=h
 obtain⟨m',ys',h',e'⟩:=hn
 obtain⟨a0,b0,c0,l0⟩:=n
 obtain⟨m2,y2,rfl,rfl,h2⟩:=h'.inv
 exact⟨_,_,q8t _ _ _ _ _ _ h h2,by omega⟩
def Wor (x:List S28) (i i':Nat):Prop:=x.length+i≤i'∧∀ y,y ∈ x→y.f0≠5
def Row (x:List S28) (i i':Nat):Prop:=x.length+i≤i'∧(∀ y,y ∈ x→Small y∧y.f0≠5)∧QtyL x i i'
theorem Good.of {a:Int} {b:q0b} {c:Int} {l:List S28} {i i':Nat} (h:Small ⟨a,b,c,l⟩) (ha:a≠5) (hn:Qty ⟨a,b,c,l⟩ i i'):Good ⟨a,b,c,l⟩ i i':=⟨h,fun k=>absurd k ha,hn⟩
theorem Good.wide {n:S28} {i i' j j':Nat} (h:Good n i i') (hj:j≤i) (hk:i'≤j'):Good n j j':=⟨h.1,fun k=>⟨by have:=(h.2.1 k).1;omega,(h.2.1 k).2⟩,by obtain⟨m,ys,h',e⟩:=h.2.2;exact⟨m,ys,h',by omega⟩⟩
theorem q9Y.out {n:S28} {i i':Nat} (h:q9Y n (i+1) i'):Good n i i':=⟨h.1,fun k=>⟨by have:=(h.2.1 k).1;omega,(h.2.1 k).2⟩,by obtain⟨m,ys,h',e⟩:=h.2.2;exact⟨m,ys,h',by omega⟩⟩
theorem q8w {x:List S28} (h:0<x.length):q1o x 0 ∈ x:=by
 have e:q1o x 0=x[0]:=rd25 h
 exact e ▸ List.getElem_mem h
theorem Cnt.wide {n:S28} {i i' j j':Nat} (h:Cnt n i i') (hj:j≤i) (hk:i'≤j'):Cnt n j j':=fun k=>⟨by have:=(h k).1;omega,(h k).2⟩
theorem Row.wor {x:List S28} {i i':Nat} (h:Row x i i'):Wor x i i':=⟨h.1,fun y hy=>(h.2.1 y hy).2⟩
theorem q9H {x:List S28} {i i':Nat} (h:Wor x i i'):Cnt (one x) i i':=by
 unfold one
 by_cases h1:x.length=1
 ·rw[if_pos h1]
  exact fun k=>absurd k (h.2 _ (q8w (by omega:0<x.length)))
 ·rw[if_neg h1]
  exact fun _=>h
theorem v2e {x:List S28} {i i':Nat} (h:Row x i i') (hi:i'≤1000000):q9Y (one x) i i':=by
 refine⟨?_,q9H h.wor,?_⟩
 ·unfold one
  by_cases h1:x.length=1
  ·rw[if_pos h1]
   exact(h.2.1 _ (q8w (by omega:0<x.length))).1
  ·rw[if_neg h1]
   exact .mk _ _ _ _ (by have:=h.1;omega) (fun y hy=>(h.2.1 y hy).1)
 ·unfold one
  by_cases h1:x.length=1
  ·rw[if_pos h1]
   obtain⟨m,ys,hc,e⟩:=h.2.2
   obtain⟨m',ys',h2,e2⟩:=CntL.mem _ _ _ hc _ (q8w (by omega:0<x.length))
   exact⟨m',ys',h2,by omega⟩
  ·rw[if_neg h1]
   exact h.2.2.node (q0f _)
section
variable {l:List S61} {i:Nat} {s:q0b}
theorem q5L (hi:i≤l.length) (hs:i≤1000000) (h : ¬ Hit l i s):q0J.f l (i:Int) false s=some (false,(i:Int),false):=by rw[q6y l i s hi hs,if_neg h]
theorem q5W (hi:i≤l.length) (hs:i≤1000000) (h:Hit l i s):q0J.f l (i:Int) false s=some (true,((i+1:Nat):Int),false):=by rw[q6y l i s hi hs,if_pos h]
theorem q9h (hi:i≤l.length) (h : ¬ Hit l i s):q1A.f l (i:Int) false s=some (false,(i:Int),false):=by rw[is_ok l i s hi,decide_eq_false h]
theorem q7U (hi:i≤l.length) (h:Hit l i s):q1A.f l (i:Int) false s=some (true,(i:Int),false):=by rw[is_ok l i s hi,decide_eq_true h]
theorem v0w (hi:i≤l.length) (hs:i≤1000000) (h : ¬ Hit l i s):q1c.f l (i:Int) false s=some ((i:Int),true):=by rw[q8G l i s hi hs,if_neg h]
theorem q4G (hi:i≤l.length) (hs:i≤1000000) (h:Hit l i s):q1c.f l (i:Int) false s=some (((i+1:Nat):Int),false):=by rw[q8G l i s hi hs,if_pos h]
theorem v0D (hi:i≤l.length) (hs:i≤1000000) (h : ¬ Hit l i s):q0G.f l (i:Int) false s=some ((i:Int),true):=by rw[v0t l i s hi hs,if_neg h]
theorem q7C (hi:i≤l.length) (hs:i≤1000000) (h:Hit l i s):q0G.f l (i:Int) false s=some (((i+1:Nat):Int),false):=by rw[v0t l i s hi hs,if_pos h]
end
theorem q5l (n:S28):(⟨n.f0,n.f1,n.f2,n.f3⟩:S28)=n:=by cases n;rfl
/-- Both come to the same part, or both fail. -/
def B7 (j i len:Nat) (f g:Nat→Option (Int × q0b × Int × (List S28) × Bool × Int × Bool)):Prop:=
 (∃ n m i2,i<i2∧i2≤len∧Cnt m j i2∧q0O f (q5H n true i2 true)∧q0O g (q5H m true i2 true))∨
 (∃ n i',Good n j i'∧i<i'∧i'≤len∧q0O f (q5H n true i' false)∧q0O g (q5H n true i' false))
def B6 (j i len:Nat) (f g:Nat→Option (Int × q0b × Int × (List S28) × Int × Bool)):Prop:=
 (∃ n m i2,i≤i2∧i2≤len∧Cnt m j i2∧q0O f (q4w n i2 true)∧q0O g (q4w m i2 true))∨
 (∃ n i',q9Y n j i'∧i≤i'∧i'≤len∧q0O f (q4w n i' false)∧q0O g (q4w n i' false))
theorem B7.map {j i i0 len:Nat} {f g f' g'} (h:B7 j i0 len f g) (hi:i≤i0) (hf:∀ r,q0O f r→q0O f' r) (hg:∀ r,q0O g r→q0O g' r):B7 j i len f' g':=by
 rcases h with ⟨n,m,i2,h0,hl,h,a,b⟩|⟨n,i',h,hl,hl',a,b⟩
 ·exact .inl ⟨n,m,i2,by omega,hl,h,hf _ a,hg _ b⟩
 ·exact .inr ⟨n,i',h,by omega,hl',hf _ a,hg _ b⟩
theorem B6.map {j i i0 len:Nat} {f g f' g'} (h:B6 j i0 len f g) (hi:i≤i0) (hf:∀ r,q0O f r→q0O f' r) (hg:∀ r,q0O g r→q0O g' r):B6 j i len f' g':=by
 rcases h with ⟨n,m,i2,h0,hl,h,a,b⟩|⟨n,i',h,hl,hl',a,b⟩
 ·exact .inl ⟨n,m,i2,by omega,hl,h,hf _ a,hg _ b⟩
 ·exact .inr ⟨n,i',h,by omega,hl',hf _ a,hg _ b⟩
/-- From a sequence on. -/
theorem B6.then {j i0 j' i len:Nat} {f g:Nat→Option (Int × q0b × Int × (List S28) × Int × Bool)} {F G:Nat→Int × q0b × Int × (List S28) × Int × Bool→Option (Int × q0b × Int × (List S28) × Bool × Int × Bool)} (h:B6 j i0 len f g)
  (hi:i<i0) (hF:∀ n i1,∃ n',q0O (fun k=>F k (q4w n i1 true)) (q5H n' true i1 true)) (hG:∀ n i1,i0≤i1→Cnt n j i1→∃ n',Cnt n' j' i1∧q0O (fun k=>G k (q4w n i1 true)) (q5H n' true i1 true))
  (hok:∀ n i',q9Y n j i'→i0≤i'→i'≤len→B7 j' i len (fun k=>F k (q4w n i' false)) (fun k=>G k (q4w n i' false))) :
  B7 j' i len (fun k=>(f k).bind (F k)) (fun k=>(g k).bind (G k)):=by
 rcases h with ⟨n,m,i2,h0,hl,h,a,b⟩|⟨n,i',h,hl,hl',a,b⟩
 ·obtain⟨n',hF⟩:=hF n i2
  obtain⟨m',hc,hG⟩:=hG m i2 h0 h
  exact .inl ⟨n',m',i2,by omega,hl,hc,cBin a hF,cBin b hG⟩
 ·exact(hok n i' h hl hl').map (q0f _) (fun _=>cBin a) (fun _=>cBin b)
theorem B7.succ {j i len:Nat} {f g} (h:B7 j i len (fun k=>f (k+1)) (fun k=>g (k+1))):B7 j i len f g:=h.map (q0f _) (fun _=>cSuc) (fun _=>cSuc)
theorem B6.succ {j i len:Nat} {f g} (h:B6 j i len (fun k=>f (k+1)) (fun k=>g (k+1))):B6 j i len f g:=h.map (q0f _) (fun _=>cSuc) (fun _=>cSuc)
/-- A v1c pair: sequence, then the closing sign. -/
theorem v1c {l:List S61} (hl:l.length≤1000000) (s:q0b) (mk:S28→S28) (hmk:∀ n,Small n→Small (mk n)) (h5:∀ n,(mk n).f0≠5) (hmn:∀ n i i' k k',Qty n i i'→k+i'+1≤k'+i→Qty (mk n) k k') {i:Nat}
  {f g:Nat→Option (Int × q0b × Int × (List S28) × Int × Bool)} {i0:Nat} (hi:i<i0) (h:B6 i0 i0 l.length f g)
  {F G:Nat→Int × q0b × Int × (List S28) × Int × Bool→Option (Int × q0b × Int × (List S28) × Bool × Int × Bool)}
  (hF:∀ k n (i1:Nat) b,F k (q4w n i1 b)=(q1c.f l (i1:Int) b s).bind fun q=>some ((mk n).f0,(mk n).f1,(mk n).f2,(mk n).f3,true,q.1,q.2))
  (hG:∀ k n (i1:Nat) b,G k (q4w n i1 b)=(q0G.f l (i1:Int) b s).bind fun q=>some ((mk n).f0,(mk n).f1,(mk n).f2,(mk n).f3,true,q.1,q.2)) :
  B7 i i l.length (fun k=>(f k).bind (F k)) (fun k=>(g k).bind (G k)):=by
 have hc:∀ n i',Cnt (mk n) i i':=fun n i' k=>absurd k (h5 n)
 refine h.then hi (fun n i1=>⟨mk n,?_⟩) (fun n i1 _ _=>⟨mk n,hc n i1,?_⟩) (fun n i' hg hl0 hl1=>?_)
 ·simp only[hF,q4M,Option.bind_some];exact cCon _
 ·simp only[hG,q5n,Option.bind_some];exact cCon _
 ·simp only[hF,hG]
  by_cases hh:Hit l i' s
  ·simp only[q4G hl1 oMm hh,q7C hl1 oMm hh,Option.bind_some]
   refine .inr ⟨mk n,i'+1,⟨hmk n hg.1,hc n _,hmn _ _ _ _ _ hg.2.2 oMm⟩,by omega,?_,cCon _,cCon _⟩
   obtain⟨hh,_⟩:=hh
   omega
  ·simp only[v0w hl1 oMm hh,v0D hl1 oMm hh,Option.bind_some]
   exact .inl ⟨mk n,mk n,i',by omega,hl1,hc n _,cCon _,cCon _⟩
theorem q7X {l:List S61} (hl:l.length≤1000000) {i:Nat} (hi:i≤l.length):(∃ s,q2t.f l (i:Int) false=some (s,(i:Int),true))∨(∃ s,i+1≤l.length∧q2t.f l (i:Int) false=some (s,((i+1:Nat):Int),false)):=by
 have ht:(∃ s,q2d.f l (i:Int) false 1=some (s,(i:Int),true))∨(∃ s,i+1≤l.length∧q2d.f l (i:Int) false 1=some (s,((i+1:Nat):Int),false)):=by
  by_cases h:∃ h:i<l.length,l[i].f0=1
  ·obtain⟨h,h1⟩:=h
   exact .inr ⟨_,h,q5w l i 1 h h1 oMm⟩
  ·exact .inl ⟨_,q6r l i 1 dDd hi (fun k k'=>h ⟨k,k'⟩)⟩
 have hb:=q5T l i 1 dDd
 unfold q2t.f q1B.f
 by_cases h:i<l.length
 ·rw[q3O l i h]
  simp only[Option.bind_some]
  by_cases h1:l[i].f0=1
  ·by_cases hu:l[i].f1.toList=([117]:List UInt8)
   ·exact .inl ⟨_,by simp [h1,hu,hb];rfl⟩
   ·by_cases hx:l[i].f1.toList=([120]:List UInt8)
    ·exact .inl ⟨_,by simp [h1,hx,hb,q3O l i h];rfl⟩
    ·rcases ht with ⟨s,e⟩|⟨s,hs,e⟩
     ·exact .inl ⟨s,by simp [h1,hu,hx,q3O l i h,e]⟩
     ·exact .inr ⟨s,hs,by simp [h1,hu,hx,q3O l i h,e]⟩
  ·rcases ht with ⟨s,e⟩|⟨s,hs,e⟩
   ·exact .inl ⟨s,by simp [h1,q3O l i h,e]⟩
   ·exact .inr ⟨s,hs,by simp [h1,q3O l i h,e]⟩
 ·obtain rfl:i=l.length:=by omega
  rw[q4V]
  rcases ht with ⟨s,e⟩|⟨s,hs,e⟩
  ·exact .inl ⟨s,by simp [q4V,e]⟩
  ·exact .inr ⟨s,hs,by simp [q4V,e]⟩
theorem q7A {l:List S61} (hl:l.length≤1000000) {i:Nat} (hi:i≤l.length):∃ (q:Int) (i1:Nat) (b:Bool),(i≤i1∧i1≤l.length)∧q0O (fun k=>q2m.f k l (i:Int) false) (q,(i1:Int),b)∧q0O (fun k=>q2y.f k l (i:Int) false) (q,(i1:Int),b):=by
 unfold q2m.f q2y.f
 rw[q6a l i 2 dDd hi oMm]
 by_cases h:∃ h:i<l.length,l[i].f0=2
 ·obtain⟨h,h2⟩:=h
  obtain⟨r,ha,hb⟩:=q5X l[i].f1
  rw[q5w l i 2 h h2 oMm]
  simp only[Option.bind_some]
  exact⟨r.1,i+1,false,⟨by omega,h⟩,cBin ha (cCon _),cBin hb (cCon _)⟩
 ·obtain⟨r,ha,hb⟩:=q5X ⟨#[]⟩
  rw[q6r l i 2 dDd hi (fun k k'=>h ⟨k,k'⟩)]
  simp only[Option.bind_some]
  exact⟨r.1,i,true,⟨q0f _,hi⟩,cBin ha (cCon _),cBin hb (cCon _)⟩
end
section
def SeqP (l:List S61) (i:Nat):Prop:=∀ x j,Row x j i→B6 j i l.length (fun k=>q0g.l0 k x l (i:Int) false) (fun k=>q0k.l0 k x l (i:Int) false)
def PowP (l:List S61) (i:Nat):Prop:=∀ x j i1 n,Row x j i1→Good n i1 i→i1<i→B6 j i l.length (fun k=>q0g.l1 k x l (i:Int) false n.f0 n.f1 n.f2 n.f3) (fun k=>q0k.l1 k x l (i:Int) false n.f0 n.f1 n.f2 n.f3)
def AltP (l:List S61) (i:Nat):Prop:=∀ x j i0,i0<i→0<x.length→x.length≤i→(∀ y,y ∈ x→Small y)→QtyL x j i→(x.length=1→Good (q1o x 0) j i)→B7 j i0 l.length (fun k=>q0H.l0 k x l (i:Int) false) (fun k=>q0y.l0 k x l (i:Int) false)
def PartP (l:List S61) (i:Nat):Prop:=B7 i i l.length (fun k=>q0H.f k l (i:Int) false) (fun k=>q0y.f k l (i:Int) false)∨
 ∃ n m,q0O (fun k=>q0H.f k l (i:Int) false) (q5H n false i false)∧q0O (fun k=>q0y.f k l (i:Int) false) (q5H m false i false)
theorem SeqP.start {l:List S61} {i:Nat} (h:SeqP l i):B6 i i l.length (fun k=>q0g.f k l (i:Int) false) (fun k=>q0k.f k l (i:Int) false):=by
 refine(h [] i ⟨by simp,fun y hy=>(by cases hy),0,[],.nil,by omega⟩).map (q0f _) (fun r hr=>cSuc ?_) (fun r hr=>cSuc ?_)
 ·simpa only[q0g.f] using hr
 ·simpa only[q0k.f] using hr
theorem q9O (l:List S61) (x:List S28) (hx:0<x.length) (i:Nat):∃ n,q0O (fun k=>q0H.l0 k x l (i:Int) true) (q5H n true i true):=by
 by_cases h:x.length=1
 ·refine⟨q1o x 0,cSuc ?_⟩
  simp only[q0H.l0,q5v,q4M,Option.bind_some]
  exact cNeg (show ¬ (false=true) by decide) (cPO (cPO (cCon _)))
 ·refine⟨⟨6,⟨#[]⟩,0,x⟩,cSuc ?_⟩
  simp only[q0H.l0,q5v,q4M,Option.bind_some]
  exact cNeg (show ¬ (false=true) by decide) (cNO (cCon _))
theorem q9V (l:List S61) (x:List S28) (hx:0<x.length) (i j:Nat) (hc:x.length=1→Cnt (q1o x 0) j i):∃ n,Cnt n j i∧q0O (fun k=>q0y.l0 k x l (i:Int) true) (q5H n true i true):=by
 by_cases h:x.length=1
 ·refine⟨q1o x 0,hc h,cSuc ?_⟩
  simp only[q0y.l0,q8Q,q5n,Option.bind_some]
  exact cNeg (show ¬ (false=true) by decide) (cPO (cPO (cCon _)))
 ·refine⟨⟨6,⟨#[]⟩,0,x⟩,fun k=>absurd k (show(6:Int)≠5 by decide),cSuc ?_⟩
  simp only[q0y.l0,q8Q,q5n,Option.bind_some]
  exact cNeg (show ¬ (false=true) by decide) (cNO (cCon _))
theorem v2k {l:List S61} (hl:l.length≤1000000) {i:Nat} (hi:i≤l.length) (hs:∀ j,i<j→j≤l.length→SeqP l j) (ha:∀ j,i<j→j≤l.length→AltP l j):AltP l i:=by
 intro x j i0 hi0 h0 hx hk hN h1
 apply B7.succ
 simp only[q0H.l0,q0y.l0]
 by_cases hh:Hit l i ⟨#[47]⟩
 ·simp only[q5W hi oMm hh,q7U hi hh,Option.bind_some,if_true,q4y (show i≤1000000 by omega)]
  have hi':i+1≤l.length:=by obtain⟨hh,_⟩:=hh;omega
  have hle:∀ n:S28,(x++[n]).length=x.length+1:=fun n=>by simp
  refine(hs (i+1) oMm hi').start.then oMm (fun n i1=>?_) (fun n i1 h8 h9=>?_) (fun n i' hg hlo hhi=>?_)
  ·obtain⟨n',h⟩:=q9O l (x++[n]) (by simp) i1
   simp only[q4w,q5l]
   exact⟨n',cPO h⟩
  ·obtain⟨n',hc,h⟩:=q9V l (x++[n]) (by simp) i1 j (fun h=>by rw[hle]at h;omega)
   simp only[q4w,q5l]
   exact⟨n',hc,cPO h⟩
  ·simp only[q4w,q5l]
   refine(ha i' oMm hhi (x++[n]) j i0 oMm (by simp) (by rw[hle];omega) (fun y hy=>?_) (hN.add hg.2.2 oMm) (fun h=>by rw[hle]at h;omega)).map oMm (fun _=>cPos oMm) (fun _=>cPos oMm)
   rcases List.mem_append.1 hy with hy|hy
   ·exact hk y hy
   ·rw[List.mem_singleton.1 hy];exact hg.1
 ·simp only[q5L hi oMm hh,q9h hi hh,Option.bind_some,Bool.false_eq_true,if_false]
  by_cases hc:Hit l i ⟨#[41]⟩
  ·simp only[q4G hi oMm hc,q7C hi oMm hc,Option.bind_some]
   have hi':i+1≤l.length:=by obtain⟨hc,_⟩:=hc;omega
   by_cases hx1:x.length=1
   ·exact .inr ⟨q1o x 0,i+1,(h1 hx1).wide (q0f _) oMm,by omega,hi',cPO (cPO (cCon _)),cPO (cPO (cCon _))⟩
   ·exact .inr ⟨⟨6,⟨#[]⟩,0,x⟩,i+1,Good.of (.mk _ _ _ _ oMm hk) dDd (hN.node (q0f _)),by omega,hi',cNO (cCon _),cNO (cCon _)⟩
  ·simp only[v0w hi oMm hc,v0D hi oMm hc,Option.bind_some]
   by_cases hx1:x.length=1
   ·exact .inl ⟨q1o x 0,q1o x 0,i,hi0,hi,(h1 hx1).2.1,cPO (cPO (cCon _)),cPO (cPO (cCon _))⟩
   ·exact .inl ⟨⟨6,⟨#[]⟩,0,x⟩,⟨6,⟨#[]⟩,0,x⟩,i,hi0,hi,fun k=>absurd k (show(6:Int)≠5 by decide),cNO (cCon _),cNO (cCon _)⟩
theorem v0B {x:List S28} {n:S28} {j i1 i:Nat} (h:Wor x j i1) (hn:Cnt n i1 i) (hi:i1<i) (h5:n.f0=5):Wor (x++n.f3) j i:=by
 have h6:=hn h5
 have h7:=h.1
 refine⟨by rw[List.length_append];omega,fun y hy=>?_⟩
 rcases List.mem_append.1 hy with hy|hy
 ·exact h.2 y hy
 ·exact h6.2 y hy
theorem v1q {x:List S28} {n:S28} {j i1 i:Nat} (h:Wor x j i1) (hi:i1<i) (h5:n.f0≠5):Wor (x++[n]) j i:=by
 have h7:=h.1
 refine⟨by rw[List.length_append,List.length_singleton];omega,fun y hy=>?_⟩
 rcases List.mem_append.1 hy with hy|hy
 ·exact h.2 y hy
 ·rw[List.mem_singleton.1 hy];exact h5
theorem v2h (l:List S61) (x:List S28) (i:Nat) (n:S28) (h1:x.length≤1000000) (h2:n.f0=5→n.f3.length≤1000000):∃ n',q0O (fun k=>q0g.l1 k x l (i:Int) true n.f0 n.f1 n.f2 n.f3) (q4w n' i true):=by
 by_cases h:n.f0=5
 ·have h2:=h2 h
  refine⟨one (x++n.f3),cSuc ?_⟩
  simp only[q0g.l1,q5v,Option.bind_some]
  exact cNeg (show ¬ (false=true) by decide) (cPos h (cPO (q9p _ _ _)))
 ·refine⟨one (x++[n]),cSuc ?_⟩
  simp only[q0g.l1,q5v,Option.bind_some,q5l]
  exact cNeg (show ¬ (false=true) by decide) (cNeg h (cPO (q9p _ _ _)))
theorem q9Q (l:List S61) (x:List S28) {i j i1:Nat} (n:S28) (hx:Wor x j i1) (hn:Cnt n i1 i) (h1:i1<i) (h2:i≤1000000):∃ n',Cnt n' j i∧q0O (fun k=>q0k.l1 k x l (i:Int) true n.f0 n.f1 n.f2 n.f3) (q4w n' i true):=by
 have h7:=hx.1
 by_cases h:n.f0=5
 ·have h6:=(hn h).1
  refine⟨one (x++n.f3),q9H (v0B hx hn h1 h),cSuc ?_⟩
  simp only[q0k.l1,q8Q,Option.bind_some]
  exact cNeg (show ¬ (false=true) by decide) (cPos h (cPO (q8p _ _ _)))
 ·refine⟨one (x++[n]),q9H (v1q hx h1 h),cSuc ?_⟩
  simp only[q0k.l1,q8Q,Option.bind_some,q5l]
  exact cNeg (show ¬ (false=true) by decide) (cNeg h (cPO (q8p _ _ _)))
theorem row_app {x:List S28} {n:S28} {j i1 i:Nat} (h:Row x j i1) (hn:Good n i1 i) (hi:i1<i) (h5:n.f0=5):Row (x++n.f3) j i:=by
 have hw:=v0B h.wor hn.2.1 hi h5
 refine⟨hw.1,fun y hy=>⟨?_,hw.2 y hy⟩,h.2.2.app hn.2.2⟩
 rcases List.mem_append.1 hy with hy|hy
 ·exact(h.2.1 y hy).1
 ·exact hn.1.kids y hy
theorem row_add {x:List S28} {n:S28} {j i1 i:Nat} (h:Row x j i1) (hn:Good n i1 i) (hi:i1<i) (h5:n.f0≠5):Row (x++[n]) j i:=by
 have hw:=v1q h.wor hi h5
 refine⟨hw.1,fun y hy=>⟨?_,hw.2 y hy⟩,h.2.2.add hn.2.2 oMm⟩
 rcases List.mem_append.1 hy with hy|hy
 ·exact(h.2.1 y hy).1
 ·rw[List.mem_singleton.1 hy];exact hn.1
theorem v2n (k:Nat) (x:List S28) (l:List S61) (c j:Int) (n:S28) (hj:wrap64 (c+1)=j) (h:q1A.f l c false ⟨#[94]⟩=some (true,c,false)):q0k.l1 (k+1) x l c false n.f0 n.f1 n.f2 n.f3=(q2y.f k l j false).bind fun aK=>q0k.l1 k x l aK.2.1 aK.2.2 7 ⟨#[]⟩ aK.1 [n]:=by
 subst hj
 simp only[q0k.l1,h,Option.bind_some,if_true,q5l]
theorem pow_hit {l:List S61} (hl:l.length≤1000000) {i:Nat} (hi:i≤l.length) (hp:∀ j,i<j→j≤l.length→PowP l j) (hh:Hit l i ⟨#[94]⟩) {x:List S28} {j i1:Nat} {n:S28} (hx:Row x j i1) (hn:Good n i1 i) (h1:i1<i):B6 j i l.length (fun k=>q0g.l1 (k+1) x l (i:Int) false n.f0 n.f1 n.f2 n.f3) (fun k=>q0k.l1 (k+1) x l (i:Int) false n.f0 n.f1 n.f2 n.f3):=by
 have hx1:=hx.1
 have hi':i+1≤l.length:=by obtain⟨hh,_⟩:=hh;omega
 obtain⟨q,i2,b,hb,a,c⟩:=q7A hl hi'
 have hS:Good ⟨7,⟨#[]⟩,q,[n]⟩ i1 i2:=Good.of (Small.sole _ _ _ hn.1) dDd (hn.2.2.sole oMm)
 have A:∀ r,q0O (fun k=>q0g.l1 k x l (i2:Int) b 7 ⟨#[]⟩ q [n]) r→q0O (fun k=>q0g.l1 (k+1) x l (i:Int) false n.f0 n.f1 n.f2 n.f3) r:=by
  intro r h
  simp only[q0g.l1,q5W hi oMm hh,Option.bind_some,if_true,q5l]
  exact cBin (g:=fun k (aK:Int × Int × Bool)=>q0g.l1 k x l aK.2.1 aK.2.2 7 ⟨#[]⟩ aK.1 [n]) a h
 have C:∀ r,q0O (fun k=>q0k.l1 k x l (i2:Int) b 7 ⟨#[]⟩ q [n]) r→q0O (fun k=>q0k.l1 (k+1) x l (i:Int) false n.f0 n.f1 n.f2 n.f3) r:=by
  intro r h
  simp only[v2n _ x l (i:Int) ((i+1:Nat):Int) n (q4y oMm) (q7U hi hh)]
  exact cBin (g:=fun k (aK:Int × Int × Bool)=>q0k.l1 k x l aK.2.1 aK.2.2 7 ⟨#[]⟩ aK.1 [n]) c h
 clear a c
 cases b with
 | true=>
  obtain⟨n1,p1⟩:=v2h l x i2 ⟨7,⟨#[]⟩,q,[n]⟩ oMm (fun k=>absurd k (show(7:Int)≠5 by decide))
  obtain⟨n2,hc,p2⟩:=q9Q l x ⟨7,⟨#[]⟩,q,[n]⟩ hx.wor hS.2.1 (show i1<i2 by omega) oMm
  exact .inl ⟨n1,n2,i2,by omega,hb.2,hc,A _ p1,C _ p2⟩
 | false=>exact(hp i2 oMm hb.2 x j i1 ⟨7,⟨#[]⟩,q,[n]⟩ hx hS oMm).map oMm A C
theorem v2d {l:List S61} (hl:l.length≤1000000) {i:Nat} (hi:i≤l.length) (hs:SeqP l i) (hp:∀ j,i<j→j≤l.length→PowP l j):PowP l i:=by
 intro x j i1 n hx hn h1
 have hx1:=hx.1
 apply B6.succ
 by_cases hh:Hit l i ⟨#[94]⟩
 ·exact pow_hit hl hi hp hh hx hn h1
 ·simp only[q0g.l1,q0k.l1,q5L hi oMm hh,q9h hi hh,Option.bind_some,Bool.false_eq_true,if_false,q5l]
  by_cases h5:n.f0=5
  ·have h6:=(hn.2.1 h5).1
   exact(hs (x++n.f3) j (row_app hx hn h1 h5)).map (q0f _) (fun _ h=>cPos h5 (cPO h)) (fun _ h=>cPos h5 (cPO h))
  ·exact(hs (x++[n]) j (row_add hx hn h1 h5)).map (q0f _) (fun _ h=>cNeg h5 (cPO h)) (fun _ h=>cNeg h5 (cPO h))
theorem v1H {l:List S61} (hl:l.length≤1000000) {i:Nat} (hi:i≤l.length) (h0:i<l.length→PartP l i) (hp:∀ j,i<j→j≤l.length→PowP l j):SeqP l i:=by
 intro x j hx
 have hg:=v2e hx oMm
 have hx1:=hx.1
 by_cases h:i<l.length
 ·have hd:decide ((i:Int)<(l.length:Int))=true:=q0p oMm
  have A:=fun n ok (i1:Nat) b r (hF:q0O (fun k=>q0H.f k l (i:Int) false) (q5H n ok i1 b)) (h:q0O (fun k=>if ok=true then q0g.j1 k x b l (i1:Int) b n.f0 n.f1 n.f2 n.f3 else q0g.j1 k x true l (i1:Int) b n.f0 n.f1 n.f2 n.f3) r)=>(show q0O (fun k=>q0g.l0 k x l (i:Int) false) r from cSuc (by simp only[q0g.l0];exact cBin hF h))
  have C:=fun n ok (i1:Nat) b r (hF:q0O (fun k=>q0y.f k l (i:Int) false) (q5H n ok i1 b)) (h:q0O (fun k=>if ok=true then q0k.l1 k x l (i1:Int) b n.f0 n.f1 n.f2 n.f3 else some (q4w (one x) i1 b)) r)=>(show q0O (fun k=>q0k.l0 k x l (i:Int) false) r from cSuc (by
   simp only[q0k.l0,hd]
   refine cNeg (show ¬ (false=true) by decide) (cSuc ?_)
   simp only[q0k.j1,if_true,one_f,Option.bind_some]
   exact cBin hF h))
  rcases h0 h with (⟨n,m,i2,hl,hl',hm,a,b⟩|⟨n,i',h,hl,hl',a,b⟩)|⟨n,m,a,b⟩
  ·obtain⟨n',hc,p⟩:=q9Q l x m hx.wor hm hl oMm
   exact .inl ⟨_,_,_,by omega,hl',hc,A _ _ _ _ _ a (cPos rfl (q5P l x i2 true _ _ _ _)),C _ _ _ _ _ b (cPos rfl p)⟩
  ·refine(hp i' hl hl' x j i n hx h hl).map oMm (fun r hr=>A _ _ _ _ _ a (cPos rfl (cSuc ?_))) (fun r hr=>C _ _ _ _ _ b (cPos rfl hr))
   simp only[q0g.j1]
   exact cNeg (show ¬ (false=true) by decide) hr
  ·exact .inr ⟨one x,i,hg,q0f _,hi,A _ _ _ _ _ a (cNeg (show ¬ (false=true) by decide) (q5P l x i false _ _ _ _)),C _ _ _ _ _ b (cNeg (show ¬ (false=true) by decide) (cCon _))⟩
 ·obtain rfl:i=l.length:=by omega
  refine .inr ⟨one x,l.length,hg,q0f _,q0f _,cSuc ?_,cSuc ?_⟩
  ·simp only[q0g.l0]
   exact cBin (v1S l hl) (cNeg (show ¬ (false=true) by decide) (q5P l x l.length false _ _ _ _))
  ·simp only[q0k.l0,show decide ((l.length:Int)<(l.length:Int))=false from decide_eq_false oMm]
   refine cNeg (show ¬ (false=true) by decide) (cSuc ?_)
   simp only[q0k.j1,one_f,Option.bind_some]
   exact cNeg (show ¬ (false=true) by decide) (cCon _)
end
section
section
variable {l:List S61} {c c1 c2:Int} {t:S61} {k:Nat} (hn:q1u.f l c false=some (t.f0,t.f1,t.f2,c,false)) (hw:wrap64 (c+1)=c1) (hr:q2G l c=t) (h0:0≤c) (hl:c<(l.length:Int))
include hn in
theorem v0Z (h1:t.f0≠1) (ha:∀ u:UInt8,u ∈ ([45,58,126,64,91,40]:List UInt8)→q0J.f l c false ⟨#[u]⟩=some (false,c,false)):q0H.f (k+1) l c false=some (0,⟨#[]⟩,0,[],false,c,false):=by
 simp only[q0H.f,hn,Option.bind_some,if_neg h1,ha 45 dDd,ha 58 dDd,ha 126 dDd,ha 64 dDd,ha 91 dDd,ha 40 dDd,Bool.false_eq_true,if_false]
include hn in
theorem q8c (h1:t.f0≠1) {v:UInt8} {q:Int} (hv:v=45∧q=2∨v=58∧q=9∨v=126∧q=10) (ha:∀ u:UInt8,q0J.f l c false ⟨#[u]⟩=some (if u=v then (true,c1,false) else (false,c,false))):q0H.f (k+1) l c false=some (q,⟨#[]⟩,0,[],true,c1,false):=by
 rcases hv with ⟨rfl,rfl⟩|⟨rfl,rfl⟩|⟨rfl,rfl⟩ <;> simp [q0H.f,hn,h1,ha]
include hn in
theorem m_at (h1:t.f0≠1) (ha:∀ u:UInt8,q0J.f l c false ⟨#[u]⟩=some (if u=64 then (true,c1,false) else (false,c,false))):q0H.f (k+1) l c false=(q2t.f l c1 false).bind fun aT=>some (11,aT.1,0,[],true,aT.2.1,aT.2.2):=by
 simp [q0H.f,hn,h1,ha]
include hn in
theorem m_box (h1:t.f0≠1) (ha:∀ u:UInt8,q0J.f l c false ⟨#[u]⟩=some (if u=91 then (true,c1,false) else (false,c,false))):q0H.f (k+1) l c false=(q0g.f k l c1 false).bind fun aW=>(q1c.f l aW.2.2.2.2.1 aW.2.2.2.2.2 ⟨#[93]⟩).bind fun aX=>some (8,⟨#[]⟩,0,[⟨aW.1,aW.2.1,aW.2.2.1,aW.2.2.2.1⟩],true,aX.1,aX.2):=by
 simp [q0H.f,hn,h1,ha]
include hn in
theorem m_alt (h1:t.f0≠1) (ha:∀ u:UInt8,q0J.f l c false ⟨#[u]⟩=some (if u=40 then (true,c1,false) else (false,c,false))):q0H.f (k+1) l c false=(q0g.f k l c1 false).bind fun aZ=>q0H.l0 k [⟨aZ.1,aZ.2.1,aZ.2.2.1,aZ.2.2.2.1⟩] l aZ.2.2.2.2.1 aZ.2.2.2.2.2:=by
 simp [q0H.f,hn,h1,ha]
include hn hw in
theorem m_one (h1:t.f0=1) (hu:t.f1.toList=([117]:List UInt8)):q0H.f (k+1) l c false=some (1,⟨#[]⟩,0,[],true,c1,false):=by
 simp [q0H.f,hn,h1,hu,hw]
include hn hw in
theorem m_any (h1:t.f0=1) (hu:t.f1.toList=([120]:List UInt8)):q0H.f (k+1) l c false=some (3,⟨#[]⟩,0,[],true,c1,false):=by
 simp [q0H.f,hn,h1,hu,hw]
include hn hw in
theorem v2D (h1:t.f0=1) (hu:t.f1.toList≠([117]:List UInt8)) (hx:t.f1.toList≠([120]:List UInt8)) (ha:q0J.f l c1 false ⟨#[123]⟩=some (false,c1,false)):q0H.f (k+1) l c false=some (4,t.f1,0,[],true,c1,false):=by
 simp [q0H.f,hn,h1,hu,hx,hw,ha]
include hn hw in
theorem v1w (h1:t.f0=1) (hu:t.f1.toList≠([117]:List UInt8)) (hx:t.f1.toList≠([120]:List UInt8)) (ha:q0J.f l c1 false ⟨#[123]⟩=some (true,c2,false)):q0H.f (k+1) l c false=(q0g.f k l c2 false).bind fun aH=>(q1c.f l aH.2.2.2.2.1 aH.2.2.2.2.2 ⟨#[125]⟩).bind fun aI=>some (12,t.f1,0,[⟨aH.1,aH.2.1,aH.2.2.1,aH.2.2.2.1⟩],true,aI.1,aI.2):=by
 simp [q0H.f,hn,h1,hu,hx,hw,ha]
include hw hr h0 hl
theorem v2x (h1:t.f0≠1) (hb:wrap64 (c1 - 1)=c) (ht:t.f0=4→∀ u:UInt8,u ∈ ([45,58,126,64,91,40]:List UInt8)→t.f1.toList≠[u]):q0y.f (k+1) l c false=some (0,⟨#[]⟩,0,[],false,c,false):=by
 by_cases h4:t.f0=4
 ·have ht:=ht h4
  simp [q0y.f,hr,h0,hl,hw,hb,h4,ht 45 dDd,ht 58 dDd,ht 126 dDd,ht 64 dDd,ht 91 dDd,ht 40 dDd]
 ·simp [q0y.f,hr,h0,hl,h1,h4]
theorem v1n (h4:t.f0=4) {v:UInt8} {q:Int} (hv:v=45∧q=2∨v=58∧q=9∨v=126∧q=10) (ht:t.f1.toList=[v]):q0y.f (k+1) l c false=some (q,⟨#[]⟩,0,[],true,c1,false):=by
 rcases hv with ⟨rfl,rfl⟩|⟨rfl,rfl⟩|⟨rfl,rfl⟩ <;> simp [q0y.f,hr,h0,hl,h4,ht,hw]
theorem r_at (h4:t.f0=4) (ht:t.f1.toList=([64]:List UInt8)):q0y.f (k+1) l c false=(q1X.f l c1 false).bind fun aT=>some (11,aT.1,0,[],true,aT.2.1,aT.2.2):=by
 simp [q0y.f,hr,h0,hl,h4,ht,hw]
theorem r_box (h4:t.f0=4) (ht:t.f1.toList=([91]:List UInt8)):q0y.f (k+1) l c false=(q0k.f k l c1 false).bind fun aW=>(q0G.f l aW.2.2.2.2.1 aW.2.2.2.2.2 ⟨#[93]⟩).bind fun aX=>some (8,⟨#[]⟩,0,[⟨aW.1,aW.2.1,aW.2.2.1,aW.2.2.2.1⟩],true,aX.1,aX.2):=by
 simp [q0y.f,hr,h0,hl,h4,ht,hw]
theorem r_alt (h4:t.f0=4) (ht:t.f1.toList=([40]:List UInt8)):q0y.f (k+1) l c false=(q0k.f k l c1 false).bind fun aZ=>q0y.l0 k [⟨aZ.1,aZ.2.1,aZ.2.2.1,aZ.2.2.2.1⟩] l aZ.2.2.2.2.1 aZ.2.2.2.2.2:=by
 simp [q0y.f,hr,h0,hl,h4,ht,hw]
theorem r_one (h1:t.f0=1) (hu:t.f1.toList=([117]:List UInt8)):q0y.f (k+1) l c false=some (1,⟨#[]⟩,0,[],true,c1,false):=by
 simp [q0y.f,hr,h0,hl,h1,hu,hw]
theorem r_any (h1:t.f0=1) (hu:t.f1.toList=([120]:List UInt8)):q0y.f (k+1) l c false=some (3,⟨#[]⟩,0,[],true,c1,false):=by
 simp [q0y.f,hr,h0,hl,h1,hu,hw]
theorem r_name (h1:t.f0=1) (hu:t.f1.toList≠([117]:List UInt8)) (hx:t.f1.toList≠([120]:List UInt8)) (ha:q1A.f l c1 false ⟨#[123]⟩=some (false,c1,false)):q0y.f (k+1) l c false=some (4,t.f1,0,[],true,c1,false):=by
 simp [q0y.f,hr,h0,hl,h1,hu,hx,hw,ha]
theorem r_bound (h1:t.f0=1) (hu:t.f1.toList≠([117]:List UInt8)) (hx:t.f1.toList≠([120]:List UInt8)) (ha:q1A.f l c1 false ⟨#[123]⟩=some (true,c1,false)) (hw2:wrap64 (c1+1)=c2):q0y.f (k+1) l c false=(q0k.f k l c2 false).bind fun aH=>(q0G.f l aH.2.2.2.2.1 aH.2.2.2.2.2 ⟨#[125]⟩).bind fun aI=>some (12,t.f1,0,[⟨aH.1,aH.2.1,aH.2.2.1,aH.2.2.2.1⟩],true,aI.1,aI.2):=by
 simp [q0y.f,hr,h0,hl,h1,hu,hx,hw,ha,hw2]
end
theorem q5M {l:List S61} {i:Nat} {q:Int} {s:q0b} (hq:q≠5) (hi:i+1≤l.length) (ha:∀ k,q0H.f (k+1) l (i:Int) false=some (q,s,0,[],true,((i+1:Nat):Int),false)) (hb:∀ k,q0y.f (k+1) l (i:Int) false=some (q,s,0,[],true,((i+1:Nat):Int),false)):PartP l i:=by
 refine .inl (B7.succ ?_)
 simp only[ha,hb]
 exact .inr ⟨⟨q,s,0,[]⟩,i+1,Good.of (Small.leaf _ _ _) hq (Qty.leaf (q0f _)),by omega,hi,cCon _,cCon _⟩
theorem v1g {l:List S61} (hl:l.length≤1000000) {i:Nat} (h:i<l.length) (hs:∀ j,i<j→j≤l.length→SeqP l j) (ha:∀ j,i<j→j≤l.length→AltP l j):PartP l i:=by
 have hn:=q3O l i h
 have hw:=q4y (show i≤1000000 by omega)
 have hr:=rd36 h
 have h0:(0:Int)≤(i:Int):=by omega
 have hlt:(i:Int)<(l.length:Int):=by omega
 have hb:wrap64 (((i+1:Nat):Int) - 1)=(i:Int):=by unfold wrap64;omega
 by_cases h1:l[i].f0=1
 ·by_cases hu:l[i].f1.toList=([117]:List UInt8)
  ·exact q5M dDd h (fun k=>m_one hn hw h1 hu) (fun k=>r_one hw hr h0 hlt h1 hu)
  by_cases hx:l[i].f1.toList=([120]:List UInt8)
  ·exact q5M dDd h (fun k=>m_any hn hw h1 hx) (fun k=>r_any hw hr h0 hlt h1 hx)
  by_cases hh:Hit l (i+1) ⟨#[123]⟩
  ·have hi2:i+1+1≤l.length:=by obtain⟨hh,_⟩:=hh;omega
   have hw2:=q4y (show i+1≤1000000 by omega)
   refine .inl (B7.succ ?_)
   simp only[v1w hn hw h1 hu hx (q5W h oMm hh),r_bound hw hr h0 hlt h1 hu hx (q7U h hh) hw2]
   exact v1c hl ⟨#[125]⟩ (fun n=>⟨12,l[i].f1,0,[n]⟩) (fun n hn=>Small.sole _ _ _ hn) (fun n=>show(12:Int)≠5 by decide) (fun n _ _ _ _ h e=>h.sole e) (show i<i+1+1 by omega) (hs (i+1+1) oMm hi2).start (fun k n i1 b=>by simp only[q4w,q5l]) (fun k n i1 b=>by simp only[q4w,q5l])
  ·exact q5M dDd h (fun k=>v2D hn hw h1 hu hx (q5L h oMm hh)) (fun k=>r_name hw hr h0 hlt h1 hu hx (q9h h hh))
 have hk:∀ v:UInt8,l[i].f0=4→l[i].f1.toList=[v]→∀ u:UInt8,q0J.f l (i:Int) false ⟨#[u]⟩=some (if u=v then (true,((i+1:Nat):Int),false) else (false,(i:Int),false)):=by
  intro v h4 ht u
  by_cases huv:u=v
  ·rw[if_pos huv,q5W oMm oMm ⟨h,h4,by rw[ht,tl1,huv]⟩]
  ·rw[if_neg huv,q5L oMm oMm (fun k=>huv (by have:=k.2.2;rw[ht,tl1]at this;simpa using this.symm))]
 by_cases h4:l[i].f0=4
 ·by_cases t1:l[i].f1.toList=([45]:List UInt8)
  ·exact q5M dDd h (fun k=>q8c hn h1 (.inl ⟨rfl,rfl⟩) (hk _ h4 t1)) (fun k=>v1n hw hr h0 hlt h4 (.inl ⟨rfl,rfl⟩) t1)
  by_cases t2:l[i].f1.toList=([58]:List UInt8)
  ·exact q5M dDd h (fun k=>q8c hn h1 (.inr (.inl ⟨rfl,rfl⟩)) (hk _ h4 t2)) (fun k=>v1n hw hr h0 hlt h4 (.inr (.inl ⟨rfl,rfl⟩)) t2)
  by_cases t3:l[i].f1.toList=([126]:List UInt8)
  ·exact q5M dDd h (fun k=>q8c hn h1 (.inr (.inr ⟨rfl,rfl⟩)) (hk _ h4 t3)) (fun k=>v1n hw hr h0 hlt h4 (.inr (.inr ⟨rfl,rfl⟩)) t3)
  by_cases t4:l[i].f1.toList=([64]:List UInt8)
  ·refine .inl (B7.succ ?_)
   simp only[m_at hn h1 (hk _ h4 t4),r_at hw hr h0 hlt h4 t4,q9a l (i+1) h oMm]
   rcases q7X hl h with ⟨s,e⟩|⟨s,hs2,e⟩
   ·simp only[e,Option.bind_some]
    exact .inl ⟨⟨11,s,0,[]⟩,⟨11,s,0,[]⟩,i+1,by omega,h,fun k=>absurd k (show(11:Int)≠5 by decide),cCon _,cCon _⟩
   ·simp only[e,Option.bind_some]
    exact .inr ⟨⟨11,s,0,[]⟩,i+1+1,Good.of (Small.leaf _ _ _) dDd (Qty.leaf oMm),by omega,hs2,cCon _,cCon _⟩
  by_cases t5:l[i].f1.toList=([91]:List UInt8)
  ·refine .inl (B7.succ ?_)
   simp only[m_box hn h1 (hk _ h4 t5),r_box hw hr h0 hlt h4 t5]
   exact v1c hl ⟨#[93]⟩ (fun n=>⟨8,⟨#[]⟩,0,[n]⟩) (fun n hn=>Small.sole _ _ _ hn) (fun n=>show(8:Int)≠5 by decide) (fun n _ _ _ _ h e=>h.sole e) (show i<i+1 by omega) (hs (i+1) oMm h).start (fun k n i1 b=>by simp only[q4w,q5l]) (fun k n i1 b=>by simp only[q4w,q5l])
  by_cases t6:l[i].f1.toList=([40]:List UInt8)
  ·refine .inl (B7.succ ?_)
   simp only[m_alt hn h1 (hk _ h4 t6),r_alt hw hr h0 hlt h4 t6]
   refine(hs (i+1) oMm h).start.then oMm (fun n i1=>?_) (fun n i1 h8 h9=>?_) (fun n i' hg hlo hhi=>?_)
   ·simp only[q4w,q5l];exact q9O l [n] (by simp) i1
   ·simp only[q4w,q5l];exact q9V l [n] (by simp) i1 i (fun _=>h9.wide oMm (q0f _))
   ·simp only[q4w,q5l];exact ha i' oMm hhi [n] i i oMm (by simp) (by simp;omega) (fun y hy=>by rw[List.mem_singleton.1 hy];exact hg.1) (by obtain⟨m,ys,h',e⟩:=hg.out.2.2;exact⟨_,_,.cons _ _ _ _ _ _ h' .nil,by omega⟩) (fun _=>hg.out)
  have hno:∀ u:UInt8,u ∈ ([45,58,126,64,91,40]:List UInt8)→l[i].f1.toList≠[u]:=by
   intro u hu
   simp only[List.mem_cons,List.not_mem_nil,or_false]at hu
   rcases hu with rfl|rfl|rfl|rfl|rfl|rfl <;> assumption
  refine .inr ⟨⟨0,⟨#[]⟩,0,[]⟩,⟨0,⟨#[]⟩,0,[]⟩,cSuc ?_,cSuc ?_⟩
  ·simp only[v0Z hn h1 (fun u hu=>q5L oMm oMm (fun k=>hno u hu (by rw[k.2.2,tl1])))];exact cCon _
  ·simp only[v2x hw hr h0 hlt h1 hb (fun _=>hno)];exact cCon _
 ·refine .inr ⟨⟨0,⟨#[]⟩,0,[]⟩,⟨0,⟨#[]⟩,0,[]⟩,cSuc ?_,cSuc ?_⟩
  ·simp only[v0Z hn h1 (fun u hu=>q5L oMm oMm (fun k=>h4 k.2.1))];exact cCon _
  ·simp only[v2x hw hr h0 hlt h1 hb (fun k=>absurd k h4)];exact cCon _
theorem v1D {l:List S61} (hl:l.length≤1000000):∀ (N i:Nat),i≤l.length→l.length - i=N→SeqP l i∧PowP l i∧AltP l i:=by
 intro N
 induction N using Nat.strongRecOn with
 | _ N ih=>
  intro i hi hN
  have I:∀ j,i<j→j≤l.length→SeqP l j∧PowP l j∧AltP l j:=fun j h1 h2=>ih (l.length - j) oMm j h2 rfl
  have hA:=v2k hl hi (fun j h1 h2=>(I j h1 h2).1) (fun j h1 h2=>(I j h1 h2).2.2)
  have hS:=v1H hl hi (fun h=>v1g hl h (fun j h1 h2=>(I j h1 h2).1) (fun j h1 h2=>(I j h1 h2).2.2)) (fun j h1 h2=>(I j h1 h2).2.1)
  exact⟨hS,v2d hl hi hS (fun j h1 h2=>(I j h1 h2).2.1),hA⟩
/-- Both readers, from any token on. -/
theorem bodies {l:List S61} (hl:l.length≤1000000) {i:Nat} (hi:i≤l.length):B6 i i l.length (fun k=>q0g.f k l (i:Int) false) (fun k=>q0k.f k l (i:Int) false):=
 (v1D hl _ i hi rfl).1.start
end
section
theorem v2p {i:Nat} (h:i≤1000000):wrap64 ((i:Int)+2)=((i+2:Nat):Int):=by unfold wrap64;omega
theorem q4t {s:q0b} {i j m:Nat} (hj:j≤s.size) (h:m<j - i):bt (s.extract i j) ((m:Nat):Int)=bt s ((i+m:Nat):Int):=by
 have h1:((m:Nat):Int).toNat=m:=Int.toNat_natCast _
 have h2:((i+m:Nat):Int).toNat=i+m:=Int.toNat_natCast _
 unfold bt
 rw[dif_pos (show((m:Nat):Int).toNat<(s.extract i j).size by rw[h1,ByteArray.size_extract];omega),dif_pos (show((i+m:Nat):Int).toNat<s.size by rw[h2];omega)]
 simp only[h1,h2,ByteArray.getElem_extract]
theorem q4v {s:q0b} {i j:Nat} (hj:j≤s.size):(s.extract i j).size=j - i:=by rw[ByteArray.size_extract];omega
def Dg (c:Int):Bool:=decide (48≤c) && decide (c≤57)
def Sm (c:Int):Bool:=decide (97≤c) && decide (c≤122)
theorem q4F (c:Int):q3E.f c=some (Dg c):=by
 unfold q3E.f Dg
 by_cases h:c≥48
 ·rw[if_pos h,decide_eq_true (show(48:Int)≤c from h)];simp
 ·rw[if_neg h,decide_eq_false (show ¬ (48:Int)≤c from h)];simp
theorem q4r (c:Int):q3Q.f c=some (Sm c):=by
 unfold q3Q.f Sm
 by_cases h:c≥97
 ·rw[if_pos h,decide_eq_true (show(97:Int)≤c from h)];simp
 ·rw[if_neg h,decide_eq_false (show ¬ (97:Int)≤c from h)];simp
theorem q9W (c:Int):q3g.f c=some (Dg c):=q4F c
theorem q8z (c:Int):q3h.f c=some (Sm c):=q4r c
theorem q9D (s:q0b) (hs:s.size≤20000):∀ (d i:Nat),i+d=s.size→∃ t:Nat,i≤t∧t≤s.size∧(∀ m,i≤m→m<t→Dg (bt s ((m:Nat):Int))=true)∧(t<s.size→Dg (bt s (t:Int))=false)∧q0O (fun k=>q2i.l0 k s (i:Int)) (t:Int):=by
 intro d
 induction d with
 | zero=>
  intro i hi
  refine⟨i,q0f _,by omega,fun m h1 h2=>by omega,fun h=>by omega,cSuc ?_⟩
  simp only[q2i.l0]
  exact cNO (cCon _)
 | succ d IH=>
  intro i hi
  cases hb:Dg (bt s (i:Int)) with
  | true=>
   obtain⟨t,h1,h2,h3,h4,h5⟩:=IH (i+1) oMm
   refine⟨t,by omega,h2,fun m m1 m2=>?_,h4,cSuc ?_⟩
   ·by_cases e:m=i
    ·rw[e];exact hb
    ·exact h3 m oMm m2
   ·simp only[q2i.l0,q4F,hb,Option.bind_some,if_true,q4y (show i≤1000000 by omega)]
    exact cPO (cPO h5)
  | false=>
   refine⟨i,q0f _,by omega,fun m h1 h2=>by omega,fun _=>hb,cSuc ?_⟩
   simp only[q2i.l0,q4F,hb,Option.bind_some,Bool.false_eq_true,if_false]
   exact cPO (cPO (cCon _))
theorem q6m (s:q0b) (hs:s.size≤20000):∃ t:Nat,t≤s.size∧(∀ m,m<t→Dg (bt s ((m:Nat):Int))=true)∧(t<s.size→Dg (bt s (t:Int))=false)∧q0O (fun k=>q2i.f k s) (t:Int)∧q0O (fun k=>q2g.f k s) (t:Int):=by
 obtain⟨t,h1,h2,h3,h4,h5⟩:=q9D s hs s.size 0 oMm
 refine⟨t,h2,fun m hm=>h3 m (q2W _) hm,h4,h5,?_⟩
 unfold q2g.f
 simp only[q6i]
 exact h5
theorem q7R (a:q0b) (h1:0<a.size) (h6:a.size≤6) (hd:∀ m,m<a.size→Dg (bt a ((m:Nat):Int))=true):∃ v,q0O (fun k=>q1E.f k a) (if 1<a.size∧bt a 0=48 then (0,false) else (v,true)):=by
 have h0 : ¬ a.toList=([]:List UInt8):=by
  rw[ByteArray.toList_eq]
  intro h
  have:=congrArg List.length h
  rw[q4W]at this
  have:a.size=0:=this
  omega
 obtain⟨t,ht,hm,hn,hc,_⟩:=q6m a oMm
 have et:t=a.size:=by
  rcases Nat.lt_or_ge t a.size with h|h
  ·have:=hn h;rw[hd t h]at this;cases this
  ·omega
 subst et
 have loop:∀ (d i:Nat) (x:Int),i+d=a.size→∃ r,q0O (fun k=>q1E.l0 k x (q5y a) (a.size:Int) (i:Int)) (r,true):=by
  intro d
  induction d with
  | zero=>
   intro i x hi
   exact⟨x,cSuc (by simp only[q1E.l0];exact cNO (cCon _))⟩
  | succ d IH=>
   intro i x hi
   obtain⟨r,hr⟩:=IH (i+1) (wrap64 ((wrap64 (10*x))+(((rd (q5y a) (i:Int)) - 48) % 256))) oMm
   refine⟨r,cSuc ?_⟩
   simp only[q1E.l0,q4p,q4y (show i≤1000000 by omega)]
   exact cPO (cPO (cPO hr))
 obtain⟨r,hr⟩:=loop a.size 0 0 oMm
 have jf:q0O (fun k=>q1E.j0 k a false) (r,true):=by
  apply cSuc
  simp only[q1E.j0,Option.bind_some]
  refine cND (cPO ?_)
  rw[q4p]
  exact hr
 have jt:q0O (fun k=>q1E.j0 k a true) (0,false):=cSuc (by simp only[q1E.j0];exact cPos trivial (cCon _))
 refine⟨r,?_⟩
 unfold q1E.f
 by_cases hs:a.size > 1
 ·by_cases hb:bt a 0=48
  ·rw[if_pos ⟨hs,hb⟩]
   refine cNeg h0 (cNO (cBin hc (cPos rfl (cPO (cPO ?_)))))
   rw[show(bt a 0 == 48)=true from by simpa using hb];exact jt
  ·rw[if_neg (fun k=>hb k.2)]
   refine cNeg h0 (cNO (cBin hc (cPos rfl (cPO (cPO ?_)))))
   rw[show(bt a 0 == 48)=false from by simpa using hb];exact jf
 ·rw[if_neg (fun k=>hs k.1)]
  exact cNeg h0 (cNO (cBin hc (cPos rfl (cNO jf))))
theorem q8r (s:q0b) (hs:s.size≤20000):∀ (k i:Nat),i≤s.size→(q1z.l0 k s (i:Int)=q1s.l0 k s (i:Int))∧(i<s.size→∀ b,q1z.j2 k s (i:Int) b=q1s.j2 k s (i:Int) (bt s (i:Int)) b)
 | 0,i,hi=>⟨rfl,fun _ _=>rfl⟩
 | k+1,i,hi=>by
  have w1:=q4y (show i≤1000000 by omega)
  have w2:=v2p (show i≤1000000 by omega)
  refine⟨?_,fun h b=>?_⟩
  ·simp only[q1z.l0,q1s.l0,q4F,q4r,q9W,q8z,Option.bind_some]
   by_cases h:i<s.size
   ·simp only[(q8r s hs k i hi).2 h]
   ·rw[if_neg oMm,if_neg oMm]
  ·simp only[q1z.j2,q1s.j2,q4F,q4r,q9W,q8z,Option.bind_some,w1,w2]
   rw[(q8r s hs k (i+1) h).1,if_pos (show(0:Int)≤(i:Int) by omega),if_pos (show(i:Int)<(s.size:Int) by omega)]
   by_cases h1:i+1<s.size
   ·rw[(q8r s hs k (i+2) h1).1,if_neg (show ¬ ((i+1:Nat):Int)=(s.size:Int) by omega)]
    simp only[if_pos (show(0:Int)≤((i+1:Nat):Int) by omega),if_pos (show((i+1:Nat):Int)<(s.size:Int) by omega)]
   ·rw[if_pos (show((i+1:Nat):Int)=(s.size:Int) by omega)]
    simp only[if_neg (show ¬ ((i+1:Nat):Int)<(s.size:Int) by omega)]
theorem v1u (s:q0b) (hs:s.size≤20000):∀ (d i:Nat),i+d=s.size→∃ t:Nat,i≤t∧t≤s.size∧q0O (fun k=>q1s.l0 k s (i:Int)) (t:Int):=by
 intro d
 induction d using Nat.strongRecOn with
 | _ d IH=>
  intro i hi
  have w1:=q4y (show i≤1000000 by omega)
  have w2:=v2p (show i≤1000000 by omega)
  by_cases h:i<s.size
  ·have hj:∀ b,∃ t:Nat,i≤t∧t≤s.size∧q0O (fun k=>q1s.j2 k s (i:Int) (bt s (i:Int)) b) (t:Int):=by
    intro b
    obtain⟨t1,a1,b1,c1⟩:=IH (d - 1) oMm (i+1) oMm
    cases b with
    | true=>exact⟨t1,by omega,b1,cSuc (by simp only[q1s.j2,w1];exact cPos trivial c1)⟩
    | false=>
     by_cases h45:bt s (i:Int)=45
     ·by_cases h1:i+1<s.size
      ·obtain⟨t2,a2,b2,c2⟩:=IH (d - 2) oMm (i+2) oMm
       by_cases hx:Sm (bt s ((i+1:Nat):Int))=true
       ·exact⟨t2,by omega,b2,cSuc (by simp only[q1s.j2,w1,w2,q4r,Option.bind_some];exact cND (cPos h45 (cPO (cPO (cPos hx c2)))))⟩
       ·by_cases hy:Dg (bt s ((i+1:Nat):Int))=true
        ·exact⟨t2,by omega,b2,cSuc (by simp only[q1s.j2,w1,w2,q4r,q4F,Option.bind_some];exact cND (cPos h45 (cPO (cPO (cNeg hx (cPos hy c2))))))⟩
        ·exact⟨i,q0f _,by omega,cSuc (by simp only[q1s.j2,w1,w2,q4r,q4F,Option.bind_some];exact cND (cPos h45 (cPO (cPO (cNeg hx (cNeg hy (cCon _)))))))⟩
      ·exact⟨i,q0f _,by omega,cSuc (by simp only[q1s.j2,w1];exact cND (cPos h45 (cNO (cCon _))))⟩
     ·exact⟨i,q0f _,by omega,cSuc (by simp only[q1s.j2];exact cND (cNeg h45 (cCon _)))⟩
   by_cases hx:Sm (bt s (i:Int))=true
   ·obtain⟨t,a1,b1,c1⟩:=hj true
    exact⟨t,a1,b1,cSuc (by simp only[q1s.l0,q4r,Option.bind_some];exact cPO (cPO (cPos hx c1)))⟩
   ·obtain⟨t,a1,b1,c1⟩:=hj (Dg (bt s (i:Int)))
    exact⟨t,a1,b1,cSuc (by simp only[q1s.l0,q4r,q4F,Option.bind_some];exact cPO (cPO (cNeg hx c1)))⟩
  ·exact⟨i,q0f _,by omega,cSuc (by simp only[q1s.l0];exact cNO (cCon _))⟩
theorem q9A (s:q0b) (hs:s.size≤20000) (h0:0<s.size) (k:Nat):q1z.f k s=q1s.f k s:=by
 unfold q1z.f q1s.f
 have e:∀ b,q1z.j0 k s b=q1s.j0 k s b:=by
  intro b
  cases k with
  | zero=>rfl
  | succ k=>
   simp only[q1z.j0,q1s.j0]
   have:=(q8r s hs k 1 h0).1
   rw[show((1:Nat):Int)=1 from rfl]at this
   rw[this]
 simp only[e,q4r,q8z]
theorem q6u (s:q0b) (hs:s.size≤20000) (h0:0<s.size):(Sm (bt s 0)=true→∃ t:Nat,1≤t∧t≤s.size∧q0O (fun k=>q1s.f k s) (t:Int))∧(Sm (bt s 0)=false→q0O (fun k=>q1s.f k s) 0):=by
 have hn : ¬ s.toList=([]:List UInt8):=by
  rw[ByteArray.toList_eq]
  intro h
  have:=congrArg List.length h
  rw[q4W]at this
  have:s.size=0:=this
  omega
 unfold q1s.f
 refine⟨fun hb=>?_,fun hb=>?_⟩
 ·obtain⟨t,a1,b1,c1⟩:=v1u s hs (s.size - 1) 1 oMm
  refine⟨t,a1,b1,?_⟩
  simp only[q4r,hb,Option.bind_some]
  exact cNeg hn (cPO (cSuc (by simp only[q1s.j0];exact cND c1)))
 ·simp only[q4r,hb,Option.bind_some]
  exact cNeg hn (cPO (cSuc (by simp only[q1s.j0];exact cPD (cCon _))))
theorem q9s (s:q0b) (hs:s.size≤20000):∀ (d i:Nat),i+d=s.size→1≤i →
  (∃ e:Int,e≠0∧q0O (fun k=>q1G.l0 k s (i:Int)) (⟨#[]⟩,e)∧q0O (fun k=>q1l.l0 k s (i:Int)) (0,⟨#[]⟩,0,0,e))∨
  ∃ t:Nat,i≤t∧t<s.size∧q0O (fun k=>q1G.l0 k s (i:Int)) (s.extract 1 t,0)∧q0O (fun k=>q1l.l0 k s (i:Int)) (3,s.extract 1 t,0,((t+1:Nat):Int),0):=by
 intro d
 induction d with
 | zero=>
  intro i hi h1
  refine .inl ⟨2,by decide,cSuc ?_,cSuc ?_⟩
  ·simp only[q1G.l0]
   exact cNO (cSuc (by simp only[q1G.j1];exact cPO (cSuc (by simp only[q1G.j2];exact cPos trivial (cCon _)))))
  ·simp only[q1l.l0]
   exact cNO (cSuc (by simp only[q1l.j1];exact cPO (cSuc (by simp only[q1l.j2];exact cPos trivial (cCon _)))))
 | succ d IH=>
  intro i hi h1
  have hq:∃ b,q4B.f (bt s (i:Int))=some b∧q3Y.f (bt s (i:Int))=some b:=by
   unfold q4B.f q3Y.f
   split
   ·split
    ·exact⟨_,rfl,rfl⟩
    ·exact⟨_,rfl,rfl⟩
   ·exact⟨_,rfl,rfl⟩
  obtain⟨b,q1,q2⟩:=hq
  have w1:=q4y (show i≤1000000 by omega)
  cases b with
  | true=>
   have S1:∀ r,q0O (fun k=>q1G.l0 k s ((i+1:Nat):Int)) r→q0O (fun k=>q1G.l0 k s (i:Int)) r:=fun r h=>cSuc (by simp only[q1G.l0,q1,Option.bind_some,w1];exact cPO (cPO (cPos trivial h)))
   have S2:∀ r,q0O (fun k=>q1l.l0 k s ((i+1:Nat):Int)) r→q0O (fun k=>q1l.l0 k s (i:Int)) r:=fun r h=>cSuc (by simp only[q1l.l0,q2,Option.bind_some,w1];exact cPO (cPO (cPos trivial h)))
   rcases IH (i+1) oMm oMm with ⟨e,he,a,c⟩|⟨t,ht,ht2,a,c⟩
   ·exact .inl ⟨e,he,S1 _ a,S2 _ c⟩
   ·exact .inr ⟨t,by omega,ht2,S1 _ a,S2 _ c⟩
  | false=>
   have S1:∀ r,q0O (fun k=>q1G.j2 k s (i:Int) (bt s (i:Int) != 34)) r→q0O (fun k=>q1G.l0 k s (i:Int)) r:=fun r h=>cSuc (by simp only[q1G.l0,q1,Option.bind_some];exact cPO (cPO (cND (cSuc (by simp only[q1G.j1];exact cNO (cPO (cPO h)))))))
   have S2:∀ r,q0O (fun k=>q1l.j2 k s (i:Int) (bt s (i:Int) != 34)) r→q0O (fun k=>q1l.l0 k s (i:Int)) r:=fun r h=>cSuc (by simp only[q1l.l0,q2,Option.bind_some];exact cPO (cPO (cND (cSuc (by simp only[q1l.j1];exact cNO (cPO (cPO h)))))))
   have wm:wrap64 ((i:Int) - 1)=((i - 1:Nat):Int):=by unfold wrap64;omega
   have ti:((i:Nat):Int).toNat=i:=Int.toNat_natCast _
   cases hb:(bt s (i:Int) != 34) with
   | true=>
    refine .inl ⟨2,by decide,S1 _ (cSuc ?_),S2 _ (cSuc ?_)⟩
    ·simp only[q1G.j2,hb];exact cPos trivial (cCon _)
    ·simp only[q1l.j2,hb];exact cPos trivial (cCon _)
   | false=>
    by_cases h60:i - 1 > 60
    ·refine .inl ⟨3,by decide,S1 _ (cSuc ?_),S2 _ (cSuc ?_)⟩
     ·simp only[q1G.j2,hb,wm];exact cND (cPO (cCon _))
     ·simp only[q1l.j2,hb,wm];exact cND (cPO (cCon _))
    ·refine .inr ⟨i,q0f _,by omega,S1 _ (cSuc ?_),S2 _ (cSuc ?_)⟩
     ·simp only[q1G.j2,hb,wm,ti];exact cND (cNO (cPO (cPO (cCon _))))
     ·simp only[q1l.j2,hb,wm,ti,w1];exact cND (cNO (cPO (cPO (cCon _))))
theorem v1M:∀ c:Fin 256,q2n.f 30 (c.val:Int)=(q3k.f (⟨#[123,125,40,41,91,93,47,59,58,126,64,61,94,44,46,124,43,42,60,62,45]⟩:q0b) (c.val:Int)).bind fun q=>some (decide (q≥0)):=by decide +kernel
theorem v0n (c:Int) (h0:0≤c) (h1:c≤255):∃ q,q3k.f (⟨#[123,125,40,41,91,93,47,59,58,126,64,61,94,44,46,124,43,42,60,62,45]⟩:q0b) c=some q∧q0O (fun k=>q2n.f k c) (decide (q≥0)):=by
 have h:=v1M ⟨c.toNat,by omega⟩
 have e:(((⟨c.toNat,by omega⟩:Fin 256).val:Nat):Int)=c:=by show((c.toNat:Nat):Int)=c;omega
 rw[e]at h
 refine⟨_,rfl,q0O.mono (fun k=>q2n.mono c k) 30 ?_⟩
 rw[h]
 rfl
end
section
theorem v0N (s:q0b) (hs:s.size≤20000) (h0:0<s.size) :
  (∃ r r':Int × q0b × Int × Int × Int,r.2.2.2.2≠0∧r'.2.2.2.2=r.2.2.2.2∧q0O (fun k=>q3B.f k s) r∧q0O (fun k=>q2Z.f k s) r')∨
  ∃ (q:Int) (x:q0b) (m:Nat),1≤m∧m≤s.size∧q0O (fun k=>q3B.f k s) (q,x,0,(m:Int),0)∧q0O (fun k=>q2Z.f k s) (q,x,0,(m:Int),0):=by
 have hN:=q6u s hs h0
 have hi:(0:Int)<(s.size:Int):=by omega
 have ti:∀ t:Nat,((t:Nat):Int).toNat=t:=Int.toNat_natCast
 cases hb:Sm (bt s 0) with
 | true=>
  obtain⟨t,t1,t2,hc⟩:=hN.1 hb
  have S1:∀ r,q0O (fun k=>if (t:Int) > 20 then some (0,(⟨#[]⟩:q0b),(0:Int),(0:Int),(3:Int)) else some (1,s.extract 0 t,0,(t:Int),0)) r→q0O (fun k=>q3B.f k s) r:=by
   intro r h
   unfold q3B.f
   refine cPos hi ?_
   simp only[q4r,hb,Option.bind_some,if_true]
   refine cBin hc ?_
   simpa only[ti,if_pos (show(0:Int)≤(t:Int) by omega),if_pos (show(t:Int)≤(s.size:Int) by omega)] using h
  have S2:∀ r,q0O (fun k=>if (t:Int) > 20 then some (0,(⟨#[]⟩:q0b),(0:Int),(0:Int),(3:Int)) else some (1,s.extract 0 t,0,(t:Int),0)) r→q0O (fun k=>q2Z.f k s) r:=by
   intro r h
   unfold q2Z.f
   simp only[q9A s hs h0]
   refine cBin hc (cPO ?_)
   simpa only[ti,if_pos (show(0:Int)≤(t:Int) by omega),if_pos (show(t:Int)≤(s.size:Int) by omega)] using h
  by_cases h20:(t:Int) > 20
  ·exact .inl ⟨(0,⟨#[]⟩,0,0,3),(0,⟨#[]⟩,0,0,3),dDd,rfl,S1 _ (cPos h20 (cCon _)),S2 _ (cPos h20 (cCon _))⟩
  ·exact .inr ⟨1,s.extract 0 t,t,t1,t2,S1 _ (cNeg h20 (cCon _)),S2 _ (cNeg h20 (cCon _))⟩
 | false=>
  have hc:=hN.2 hb
  obtain⟨t,t2,hd,hn,d1,d2⟩:=q6m s hs
  have R:∀ r,q0O (fun k=>if (t:Int) > 0 then (if (t:Int) > 6 then some (0,(⟨#[]⟩:q0b),(0:Int),(0:Int),(3:Int)) else if bt s 0=48 then (if (t:Int) > 1 then some (0,(⟨#[]⟩:q0b),(0:Int),(0:Int),(2:Int)) else some (2,s.extract 0 t,0,(t:Int),0)) else some (2,s.extract 0 t,0,(t:Int),0)) else if bt s 0=34 then ((q1l.f k s).bind fun aD=>some (aD.1,aD.2.1,aD.2.2.1,aD.2.2.2.1,aD.2.2.2.2)) else ((q2n.f k (bt s 0)).bind fun aE=>if aE=true then some (4,s.extract 0 1,0,1,0) else some (0,(⟨#[]⟩:q0b),0,0,2))) r→q0O (fun k=>q2Z.f k s) r:=by
   intro r h
   unfold q2Z.f
   simp only[q9A s hs h0]
   refine cBin hc (cND (cBin d2 ?_))
   simpa only[ti,if_pos (show(0:Int)≤(t:Int) by omega),if_pos (show(t:Int)≤(s.size:Int) by omega),if_pos hi,if_pos (show(0:Nat)≤1 by decide),if_pos (show(1:Int)≤(s.size:Int) by omega)] using h
  cases hg:Dg (bt s 0) with
  | true=>
   have t1:1≤t:=by
    rcases Nat.eq_zero_or_pos t with h|h
    ·have:=hn oMm
     rw[h]at this
     rw[show((0:Nat):Int)=0 from rfl,hg]at this
     cases this
    ·exact h
   have T:∀ r,q0O (fun k=>if (t:Int) > 6 then some (0,(⟨#[]⟩:q0b),(0:Int),(0:Int),(3:Int)) else (q1E.f k (s.extract 0 t)).bind fun aG=>if aG.2=true then some (2,s.extract 0 t,0,(t:Int),0) else some (0,(⟨#[]⟩:q0b),0,0,2)) r→q0O (fun k=>q3B.f k s) r:=by
    intro r h
    unfold q3B.f
    refine cPos hi ?_
    simp only[q4r,q4F,hb,hg,Option.bind_some,if_true,Bool.false_eq_true,if_false]
    refine cBin d1 ?_
    simpa only[ti,if_pos (show(0:Int)≤(t:Int) by omega),if_pos (show(t:Int)≤(s.size:Int) by omega)] using h
   by_cases h6:(t:Int) > 6
   ·exact .inl ⟨(0,⟨#[]⟩,0,0,3),(0,⟨#[]⟩,0,0,3),dDd,rfl,T _ (cPos h6 (cCon _)),R _ (cPO (cPos h6 (cCon _)))⟩
   have he:(s.extract 0 t).size=t:=by rw[q4v t2];omega
   have hbt:∀ m,m<t→bt (s.extract 0 t) ((m:Nat):Int)=bt s ((m:Nat):Int):=fun m hm=>by rw[q4t t2 oMm,Nat.zero_add]
   have hb0:bt (s.extract 0 t) 0=bt s 0:=hbt 0 t1
   obtain⟨v,hv⟩:=q7R (s.extract 0 t) oMm oMm (fun m hm=>by rw[he]at hm;rw[hbt m hm];exact hd m hm)
   rw[he,hb0]at hv
   by_cases hx:1<t∧bt s 0=48
   ·rw[if_pos hx]at hv
    exact .inl ⟨(0,⟨#[]⟩,0,0,2),(0,⟨#[]⟩,0,0,2),dDd,rfl,T _ (cNeg h6 (cBin hv (cND (cCon _)))),R _ (cPO (cNeg h6 (cPos hx.2 (cPO (cCon _)))))⟩
   ·rw[if_neg hx]at hv
    refine .inr ⟨2,s.extract 0 t,t,t1,t2,T _ (cNeg h6 (cBin hv (cPos rfl (cCon _)))),R _ (cPO (cNeg h6 ?_))⟩
    by_cases h48:bt s 0=48
    ·exact cPos h48 (cNeg (fun k=>hx ⟨by omega,h48⟩) (cCon _))
    ·exact cNeg h48 (cCon _)
  | false=>
   have t0:t=0:=by
    rcases Nat.eq_zero_or_pos t with h|h
    ·exact h
    ·have:=hd 0 h
     rw[show((0:Nat):Int)=0 from rfl,hg]at this
     cases this
   have R':=fun r h=>R r (cNeg (show ¬ ((t:Nat):Int) > 0 by omega) h)
   clear R
   have T:∀ r,q0O (fun k=>if bt s 0=34 then ((q1G.f k s).bind fun aH=>some (3,aH.1,0,wrap64 ((aH.1.size:Int)+2),aH.2)) else ((q3k.f (⟨#[123,125,40,41,91,93,47,59,58,126,64,61,94,44,46,124,43,42,60,62,45]⟩:q0b) (bt s 0)).bind fun aI=>if aI≥0 then some (4,s.extract 0 1,0,1,0) else some (0,(⟨#[]⟩:q0b),0,0,2))) r→q0O (fun k=>q3B.f k s) r:=by
    intro r h
    unfold q3B.f
    refine cPos hi ?_
    simp only[q4r,q4F,hb,hg,Option.bind_some,Bool.false_eq_true,if_false]
    simpa only[if_pos (show(0:Nat)≤1 by decide),if_pos (show(1:Int)≤(s.size:Int) by omega)] using h
   by_cases h34:bt s 0=34
   ·rcases q9s s hs (s.size - 1) 1 oMm (q0f _) with ⟨e,e0,a,c⟩|⟨u,u1,u2,a,c⟩
    ·exact .inl ⟨(3,⟨#[]⟩,0,wrap64 (((⟨#[]⟩:q0b).size:Int)+2),e),(0,⟨#[]⟩,0,0,e),e0,rfl,T _ (cPos h34 (cBin a (cCon _))),R' _ (cPos h34 (cBin c (cCon _)))⟩
    ·have hw:wrap64 (((s.extract 1 u).size:Int)+2)=((u+1:Nat):Int):=by rw[q4v oMm,v2p oMm];congr 1;omega
     refine .inr ⟨3,s.extract 1 u,u+1,by omega,u2,T _ (cPos h34 (cBin a ?_)),R' _ (cPos h34 (cBin c (cCon _)))⟩
     simp only[hw]
     exact cCon _
   ·obtain⟨q,e1,c⟩:=v0n (bt s 0) (q9M s 0).1 (q9M s 0).2
    by_cases hq:q≥0
    ·rw[decide_eq_true hq]at c
     refine .inr ⟨4,s.extract 0 1,1,q0f _,h0,T _ (cNeg h34 ?_),R' _ (cNeg h34 (cBin c (cPos rfl (cCon _))))⟩
     simp only[e1,Option.bind_some]
     exact cPos hq (cCon _)
    ·rw[decide_eq_false hq]at c
     refine .inl ⟨(0,⟨#[]⟩,0,0,2),(0,⟨#[]⟩,0,0,2),dDd,rfl,T _ (cNeg h34 ?_),R' _ (cNeg h34 (cBin c (cND (cCon _))))⟩
     simp only[e1,Option.bind_some]
     exact cNeg hq (cCon _)
/-- Line feeds in d bytes from i on. -/
def lfs (a:q0b):Nat→Nat→Nat
 | _,0=>0
 | i,d+1=>(if bt a ((i:Nat):Int)=10 then 1 else 0)+lfs a (i+1) d
theorem v2H (a:q0b):∀ d i,lfs a i d≤d
 | 0,_=>q0f _
 | d+1,i=>by
  have:=v2H a d (i+1)
  unfold lfs
  split <;> omega
theorem q9q (a s:q0b) (i:Nat) (hs:s.size≤20000) (hb:∀ m,m<s.size→bt s ((m:Nat):Int)=bt a ((i+m:Nat):Int)):∀ (d m:Nat) (x:Nat),m+d=s.size→x≤20000+m→q0O (fun k=>q2M.l0 k s (x:Int) (m:Int)) ((x+lfs a (i+m) d:Nat):Int):=by
 intro d
 induction d with
 | zero=>
  intro m x hm hx
  apply cSuc
  simp only[q2M.l0]
  exact cNO (cCon _)
 | succ d IH=>
  intro m x hm hx
  have h:=hb m oMm
  apply cSuc
  simp only[q2M.l0,q4y (show m≤1000000 by omega),q4y (show x≤1000000 by omega)]
  refine cPO (cPO ?_)
  by_cases h10:bt s (m:Int)=10
  ·have:=IH (m+1) (x+1) oMm oMm
   rw[show x+lfs a (i+m) (d+1)=x+1+lfs a (i+(m+1)) d from by rw[lfs,if_pos (h ▸ h10),Nat.add_assoc i m 1,Nat.add_assoc]]
   exact cPos h10 this
  ·have:=IH (m+1) x oMm oMm
   rw[show x+lfs a (i+m) (d+1)=x+lfs a (i+(m+1)) d from by rw[lfs,if_neg (fun k=>h10 (h.trans k)),Nat.add_assoc i m 1,Nat.zero_add]]
   exact cNeg h10 this
end
section
def Wh (c:Int):Prop:=c=10∨c=32∨c=9∨c=13∨c=35
/-- s is what a holds from i0 on. -/
def Sl (a:q0b) (i0:Nat) (s:q0b):Prop:=s.size+i0=a.size∧∀ m,m<s.size→bt s ((m:Nat):Int)=bt a ((i0+m:Nat):Int)
def Sk (a:q0b) (T:Nat→List S61→Int→Int→Option ((List S61) × Int × Int)) (S:Nat→q0b→Int→Option Int) (i j:Nat):Prop:=
 i≤j∧j≤a.size∧(j<a.size→¬ Wh (bt a ((j:Nat):Int)))∧
 (∀ xs (x:Nat) r,x≤i+1→q0O (fun k=>q0V.l0 k a xs ((x+lfs a i (j - i):Nat):Int) (j:Int)) r→q0O (fun k=>T k xs (x:Int) (i:Int)) r)∧
 (∀ s i0 m,i0+m=i→Sl a i0 s→q0O (fun k=>S k s ((m:Nat):Int)) ((j - i0:Nat):Int))
theorem Sk.of {a:q0b} {T T' S S'} {i j:Nat} (h:Sk a T S (i+1) j) (w:Nat) (hw:w=if bt a ((i:Nat):Int)=10 then 1 else 0)
  (hT:∀ xs (x:Nat) r,x≤i+1→q0O (fun k=>T k xs ((x+w:Nat):Int) ((i+1:Nat):Int)) r→q0O (fun k=>T' k xs (x:Int) (i:Int)) r)
  (hS:∀ s i0 m r,i0+m=i→Sl a i0 s→q0O (fun k=>S k s ((m+1:Nat):Int)) r→q0O (fun k=>S' k s ((m:Nat):Int)) r):Sk a T' S' i j:=by
 obtain⟨h1,h2,h3,h4,h5⟩:=h
 refine⟨by omega,h2,h3,fun xs x r hx hr=>hT xs x r hx (h4 xs (x+w) r (by rw[hw];split <;> omega) ?_),fun s i0 m hm hs=>hS s i0 m _ hm hs (h5 s i0 (m+1) oMm hs)⟩
 have e:lfs a i (j - i)=w+lfs a (i+1) (j - (i+1)):=by
  rw[show j - i=j - (i+1)+1 by omega,lfs,← hw]
 rw[e,← Nat.add_assoc]at hr
 exact hr
section
variable (a:q0b) (ha:a.size≤20000)
include ha
theorem v0X {i i0 m:Nat} {s:q0b} {r:Int} (h:i<a.size) (hm:i0+m=i) (hs:Sl a i0 s) (hc:bt a ((i:Nat):Int)=10∨bt a ((i:Nat):Int)=32∨bt a ((i:Nat):Int)=9∨bt a ((i:Nat):Int)=13) (hr:q0O (fun k=>q1e.l0 k s ((m+1:Nat):Int)) r):q0O (fun k=>q1e.l0 k s ((m:Nat):Int)) r:=by
 have hz:=hs.1
 have e:=hs.2 m oMm
 rw[hm]at e
 have hj:∀ c,q0O (fun k=>q1e.j1 k s ((m:Nat):Int) c true) r:=fun c=>cSuc (by simp only[q1e.j1,q4y (show m≤1000000 by omega)];exact cPos trivial hr)
 apply cSuc
 simp only[q1e.l0,e]
 refine cPO (cPO ?_)
 rcases hc with hc|hc|hc|hc <;> rw[hc]
 ·exact cND (cND (cPos rfl (hj 10)))
 ·exact cPos rfl (hj 32)
 ·exact cND (cPos rfl (hj 9))
 ·exact cND (cND (cND (hj 13)))
omit ha in
theorem v0Y {i i0 m:Nat} {s:q0b} {r:Int} (h:i<a.size) (hm:i0+m=i) (hs:Sl a i0 s) (hc : ¬ (bt a ((i:Nat):Int)=10∨bt a ((i:Nat):Int)=32∨bt a ((i:Nat):Int)=9∨bt a ((i:Nat):Int)=13)) (hr:q0O (fun k=>if bt a ((i:Nat):Int)=35 then q1e.l1 k s ((m:Nat):Int) else some ((m:Nat):Int)) r):q0O (fun k=>q1e.l0 k s ((m:Nat):Int)) r:=by
 have hz:=hs.1
 have e:=hs.2 m oMm
 rw[hm]at e
 apply cSuc
 simp only[q1e.l0,e]
 refine cPO (cPO (cNeg (fun k=>hc (.inr (.inl k))) (cNeg (fun k=>hc (.inr (.inr (.inl k)))) (cNeg (fun k=>hc (.inl k)) (cSuc ?_)))))
 simp only[q1e.j1]
 exact cNeg (by simpa using fun k=>hc (.inr (.inr (.inr k)))) hr
omit ha in
theorem q8q {i:Nat} {xs:List S61} {x:Int} {r} (h:i<a.size) (hc : ¬ (bt a ((i:Nat):Int)=10∨bt a ((i:Nat):Int)=32∨bt a ((i:Nat):Int)=9∨bt a ((i:Nat):Int)=13)) (hr:q0O (fun k=>q0V.j1 k a xs x (i:Int) (bt a ((i:Nat):Int)) false) r):q0O (fun k=>q0V.l0 k a xs x (i:Int)) r:=by
 apply cSuc
 simp only[q0V.l0]
 refine cPO (cPO (cNeg (fun k=>hc (.inl k)) (cNeg (fun k=>hc (.inr (.inl k))) (cNeg (fun k=>hc (.inr (.inr (.inl k)))) ?_))))
 rw[show(bt a ((i:Nat):Int) == 13)=false from by simpa using fun k=>hc (.inr (.inr (.inr k)))]
 exact hr
theorem v0I {i:Nat} {xs:List S61} {x:Int} {r} (h:i<a.size) (hc:bt a ((i:Nat):Int)=32∨bt a ((i:Nat):Int)=9∨bt a ((i:Nat):Int)=13) (hr:q0O (fun k=>q0V.l0 k a xs x ((i+1:Nat):Int)) r):q0O (fun k=>q0V.l0 k a xs x (i:Int)) r:=by
 have hj:∀ c,q0O (fun k=>q0V.j1 k a xs x (i:Int) c true) r:=fun c=>cSuc (by simp only[q0V.j1,q4y (show i≤1000000 by omega)];exact cPos trivial hr)
 apply cSuc
 simp only[q0V.l0]
 refine cPO (cPO ?_)
 rcases hc with hc|hc|hc <;> rw[hc]
 ·exact cND (cPos rfl (hj 32))
 ·exact cND (cND (cPos rfl (hj 9)))
 ·exact cND (cND (cND (hj 13)))
theorem skips:∀ (d i:Nat),i+d=a.size→(∃ j,Sk a (fun k=>q0V.l0 k a) q1e.l0 i j)∧∃ j,Sk a (fun k=>q0V.l1 k a) q1e.l1 i j:=by
 intro d
 induction d with
 | zero=>
  intro i hi
  have hi:i=a.size:=by omega
  have hx:∀ x:Nat,x+lfs a i (i - i)=x:=fun x=>by rw[Nat.sub_self];rfl
  have hW:Sk a (fun k=>q0V.l0 k a) q1e.l0 i i:=by
   refine⟨q0f _,by omega,fun h=>by omega,fun xs x r _ hr=>by rw[hx]at hr;exact hr,fun s i0 m hm hs=>cSuc ?_⟩
   have hz:=hs.1
   simp only[q1e.l0,show i - i0=m by omega]
   exact cNO (cCon _)
  refine⟨⟨i,hW⟩,i,hW.1,hW.2.1,hW.2.2.1,fun xs x r h1 hr=>cSuc ?_,fun s i0 m hm hs=>cSuc ?_⟩
  ·simp only[q0V.l1]
   exact cNO (hW.2.2.2.1 xs x r h1 hr)
  ·have hz:=hs.1
   simp only[q1e.l1]
   exact cNO (hW.2.2.2.2 s i0 m hm hs)
 | succ d IH=>
  intro i hi
  have h:i<a.size:=by omega
  obtain⟨⟨j,hj⟩,⟨j',hj'⟩⟩:=IH (i+1) oMm
  have w1:=q4y (show i≤1000000 by omega)
  have hC:bt a ((i:Nat):Int)≠10→Sk a (fun k=>q0V.l1 k a) q1e.l1 i j':=by
   intro h10
   refine hj'.of 0 (by rw[if_neg h10]) (fun xs x r hx hr=>cSuc ?_) (fun s i0 m r hm hs hr=>cSuc ?_)
   ·simp only[q0V.l1,w1]
    exact cPO (cPO (cNeg h10 hr))
   ·have hz:=hs.1
    have e:=hs.2 m oMm
    rw[hm]at e
    simp only[q1e.l1,e,q4y (show m≤1000000 by omega)]
    exact cPO (cPO (cNeg h10 hr))
  have hW:∃ j,Sk a (fun k=>q0V.l0 k a) q1e.l0 i j:=by
   by_cases h10:bt a ((i:Nat):Int)=10
   ·refine⟨j,hj.of 1 (by rw[if_pos h10]) (fun xs x r hx hr=>cSuc ?_) (fun s i0 m r hm hs hr=>v0X a ha h hm hs (.inl h10) hr)⟩
    simp only[q0V.l0,w1,q4y (show x≤1000000 by omega)]
    exact cPO (cPO (cPos h10 hr))
   by_cases hw:bt a ((i:Nat):Int)=32∨bt a ((i:Nat):Int)=9∨bt a ((i:Nat):Int)=13
   ·exact⟨j,hj.of 0 (by rw[if_neg h10]) (fun xs x r hx hr=>v0I a ha h hw hr) (fun s i0 m r hm hs hr=>v0X a ha h hm hs (.inr hw) hr)⟩
   have hn : ¬ (bt a ((i:Nat):Int)=10∨bt a ((i:Nat):Int)=32∨bt a ((i:Nat):Int)=9∨bt a ((i:Nat):Int)=13):=fun k=>k.elim h10 hw
   by_cases h35:bt a ((i:Nat):Int)=35
   ·have hk:=hC h10
    refine⟨j',hk.1,hk.2.1,hk.2.2.1,fun xs x r h1 hr=>q8q a h hn (cSuc ?_),fun s i0 m hm hs=>v0Y a h hm hs hn (cPos h35 (hk.2.2.2.2 s i0 m hm hs))⟩
    simp only[q0V.j1]
    exact cND (cPos h35 (hk.2.2.2.1 xs x r h1 hr))
   ·refine⟨i,q0f _,by omega,fun _ k=>?_,fun xs x r _ hr=>by rw[Nat.sub_self]at hr;exact hr,fun s i0 m hm hs=>v0Y a h hm hs hn (cNeg h35 ?_)⟩
    ·rcases k with k|k|k|k|k
     ·exact h10 k
     ·exact hw (.inl k)
     ·exact hw (.inr (.inl k))
     ·exact hw (.inr (.inr k))
     ·exact h35 k
    ·rw[show i - i0=m by omega];exact cCon _
  refine⟨hW,?_⟩
  by_cases h10:bt a ((i:Nat):Int)=10
  ·obtain⟨j,hk⟩:=hW
   refine⟨j,hk.1,hk.2.1,hk.2.2.1,fun xs x r h1 hr=>cSuc ?_,fun s i0 m hm hs=>cSuc ?_⟩
   ·simp only[q0V.l1]
    exact cPO (cPO (cPos h10 (hk.2.2.2.1 xs x r h1 hr)))
   ·have hz:=hs.1
    have e:=hs.2 m oMm
    rw[hm]at e
    simp only[q1e.l1,e]
    exact cPO (cPO (cPos h10 (hk.2.2.2.2 s i0 m hm hs)))
  ·exact⟨j',hC h10⟩
end
theorem v2E {a:q0b} {xs:List S61} {x c m c2 q:Int} {j:Nat} {y:q0b} {r} (hj:c.toNat=j) (h0:0≤c) (h1:c≤(a.size:Int)) (hw:wrap64 (c+m)=c2) (hl:xs.length<4398046511104) (h35:bt a c≠35) (hn:q0O (fun k=>q3B.f k (a.extract j a.size)) (q,y,0,m,0)) (h:q0O (fun k=>q0V.l0 k a (xs++[⟨q,y,x⟩]) x c2) r):q0O (fun k=>q0V.j1 k a xs x c (bt a c) false) r:=by
 subst hj hw
 apply cSuc
 simp only[q0V.j1]
 exact cND (cNeg h35 (cPos h0 (cPos h1 (cBin hn (cPos rfl (cPos hl h))))))
theorem t_fail {a:q0b} {xs:List S61} {x c:Int} {j:Nat} {e} (hj:c.toNat=j) (h0:0≤c) (h1:c≤(a.size:Int)) (h35:bt a c≠35) (he:e.2.2.2.2≠0) (hn:q0O (fun k=>q3B.f k (a.extract j a.size)) e):q0O (fun k=>q0V.j1 k a xs x c (bt a c) false) ([],x,e.2.2.2.2):=by
 subst hj
 apply cSuc
 simp only[q0V.j1]
 exact cND (cNeg h35 (cPos h0 (cPos h1 (cBin hn (cNeg he (cCon _))))))
theorem r_open {a:q0b} {xs:List S61} {x x7 c d c1 f:Int} {i j:Nat} {r} (hi:c.toNat=i) (hj:c1.toNat=j) (hw:wrap64 (c+d)=c1) (hf:wrap64 (x+f)=x7) (h0:0≤c) (h1:c≤(a.size:Int)) (h2:c≤c1) (h3:c1≤(a.size:Int)) (hs:q0O (fun k=>q1e.f k (a.extract i a.size)) d) (hc:q0O (fun k=>q2M.f k (a.extract i j)) f)
  (h:q0O (fun k=>if c1=(a.size:Int) then some (xs,(0:Int),(0:Int)) else if 0≤c1 then ((q2Z.f k (a.extract j a.size)).bind fun aD=>if aD.2.2.2.2=0 then (if xs.length<4398046511104 then q2E.l0 k a (xs++[(⟨aD.1,aD.2.1,x7⟩:S61)]) x7 (wrap64 (c1+aD.2.2.2.1)) else none) else some (([]:List S61),x7,aD.2.2.2.2)) else none) r):q0O (fun k=>q2E.l0 k a xs x c) r:=by
 subst hi hj hw hf
 apply cSuc
 simp only[q2E.l0]
 exact cPos h0 (cPos h1 (cBin hs (cPos h2 (cPos h3 (cBin hc h)))))
theorem r_next {a:q0b} {xs:List S61} {x7 c1 m c2 q:Int} {j:Nat} {y:q0b} {r} (h:c1<(a.size:Int)) (h0:0≤c1) (hw:wrap64 (c1+m)=c2) (hl:xs.length<4398046511104) (hn:q0O (fun k=>q2Z.f k (a.extract j a.size)) (q,y,0,m,0)) (hr:q0O (fun k=>q2E.l0 k a (xs++[⟨q,y,x7⟩]) x7 c2) r) :
  q0O (fun k=>if c1=(a.size:Int) then some (xs,(0:Int),(0:Int)) else if 0≤c1 then ((q2Z.f k (a.extract j a.size)).bind fun aD=>if aD.2.2.2.2=0 then (if xs.length<4398046511104 then q2E.l0 k a (xs++[(⟨aD.1,aD.2.1,x7⟩:S61)]) x7 (wrap64 (c1+aD.2.2.2.1)) else none) else some (([]:List S61),x7,aD.2.2.2.2)) else none) r:=by
 subst hw
 exact cNO (cPos h0 (cBin hn (cPos rfl (cPos hl hr))))
set_option maxHeartbeats 1000000 in
theorem q9k (a:q0b) (ha:a.size≤20000):∀ (d i:Nat),i+d=a.size→∀ (xs:List S61) (x:Nat),xs.length≤i→x≤i+1 →
  ∃ r:List S61 × Int × Int,r.1.length≤a.size∧q0O (fun k=>q0V.l0 k a xs (x:Int) (i:Int)) r∧q0O (fun k=>q2E.l0 k a xs (x:Int) (i:Int)) r:=by
 intro d
 induction d using Nat.strongRecOn with
 | _ d IH=>
  intro i hi xs x hx h1
  obtain⟨⟨j,j1,j2,j3,j4,j5⟩,_⟩:=skips a ha d i hi
  have tn:∀ n:Nat,((n:Nat):Int).toNat=n:=Int.toNat_natCast
  have hsl:Sl a i (a.extract i a.size):=⟨by rw[q4v (Nat.le_refl _)];omega,fun m hm=>by rw[q4v (Nat.le_refl _)]at hm;exact q4t (q0f _) hm⟩
  have hsp:q0O (fun k=>q1e.f k (a.extract i a.size)) ((j - i:Nat):Int):=j5 _ i 0 rfl hsl
  have hz:(a.extract i j).size=j - i:=q4v j2
  have hfd:q0O (fun k=>q2M.f k (a.extract i j)) ((lfs a i (j - i):Nat):Int):=by
   have:=q9q a (a.extract i j) i oMm (fun m hm=>by rw[hz]at hm;exact q4t j2 hm) (j - i) 0 0 oMm oMm
   rw[Nat.zero_add,Nat.add_zero]at this
   exact this
  have hlf:=v2H a (j - i) i
  have ho:=fun r h=>r_open (a:=a) (xs:=xs) (x:=(x:Int)) (c:=(i:Int)) (c1:=(j:Int)) (x7:=((x+lfs a i (j - i):Nat):Int)) (r:=r) (tn i) (tn j) (by unfold wrap64;omega) (by unfold wrap64;omega) oMm oMm oMm oMm hsp hfd h
  have c0:(0:Int)≤(j:Int):=Int.natCast_nonneg j
  have c1:(j:Int)≤(a.size:Int):=by omega
  have cl:xs.length<4398046511104:=by omega
  by_cases hj:j<a.size
  ·have cj:(j:Int)<(a.size:Int):=by omega
   have cn : ¬ ((j:Int)=(a.size:Int)):=by omega
   have hn:=j3 hj
   have hn1 : ¬ (bt a ((j:Nat):Int)=10∨bt a ((j:Nat):Int)=32∨bt a ((j:Nat):Int)=9∨bt a ((j:Nat):Int)=13):=by
    intro k
    rcases k with k|k|k|k
    ·exact hn (.inl k)
    ·exact hn (.inr (.inl k))
    ·exact hn (.inr (.inr (.inl k)))
    ·exact hn (.inr (.inr (.inr (.inl k))))
   have hn2:bt a ((j:Nat):Int)≠35:=fun k=>hn (.inr (.inr (.inr (.inr k))))
   have he:(a.extract j a.size).size=a.size - j:=q4v (q0f _)
   rcases v0N (a.extract j a.size) oMm oMm with ⟨r,r',e1,e2,n1,n2⟩|⟨q,y,m,m1,m2,n1,n2⟩
   ·refine⟨([],((x+lfs a i (j - i):Nat):Int),r.2.2.2.2),q2W _,j4 xs x _ h1 (q8q a hj hn1 (t_fail (tn j) c0 c1 hn2 e1 n1)),ho _ ?_⟩
    rw[← e2]at e1 ⊢
    exact cNeg cn (cPos c0 (cBin n2 (cNeg e1 (cCon _))))
   ·obtain⟨r,r1,r2,r3⟩:=IH (d - (j+m - i)) oMm (j+m) oMm (xs++[⟨q,y,((x+lfs a i (j - i):Nat):Int)⟩]) (x+lfs a i (j - i)) (by rw[List.length_append,List.length_singleton];omega) oMm
    have hw:wrap64 ((j:Int)+(m:Int))=((j+m:Nat):Int):=by unfold wrap64;omega
    exact⟨r,r1,j4 xs x _ h1 (q8q a hj hn1 (v2E (tn j) c0 c1 hw cl hn2 n1 r2)),ho _ (r_next cj c0 hw cl n2 r3)⟩
  ·refine⟨(xs,0,0),by show xs.length≤_;omega,j4 xs x _ h1 (cSuc ?_),ho _ (cPO (cCon _))⟩
   simp only[q0V.l0]
   exact cNO (cCon _)
theorem tokens (a:q0b):∃ r:List S61 × Int × Int,r.1.length≤20000∧q0O (fun k=>q0V.f k a) r∧q0O (fun k=>q2E.f k a) r:=by
 unfold q0V.f q2E.f
 by_cases h:(a.size:Int) > 20000
 ·exact⟨([],0,3),q2W _,cPos h (cCon _),cPos h (cCon _)⟩
 ·obtain⟨r,h1,h2,h3⟩:=q9k a oMm a.size 0 oMm [] 1 (q0f _) oMm
  exact⟨r,by omega,cNeg h h2,cNeg h h3⟩
end
section
/-- Nodes of these kinds have names. -/
def Nm (a:Int):Bool:=decide (a=4∨a=11∨a=12)
def no5 (x:List S28):Bool:=x.all fun y=>decide (y.f0≠5)
def ShpT (a:Int) (x:List S28):Bool:=if a=5 then decide (x.length≠1) && no5 x else if a=6 then decide (2≤x.length) else if a=7 then decide (x.length=1) else if a=8 then decide (x.length=1) else if a=12 then decide (x.length=1) else decide (x.length=0)
/-- The kind, the fields and the kids of a node fit together. -/
def Shp (a:Int) (b:q0b) (c:Int) (x:List S28):Bool:=decide (1≤a) && decide (a≤12) && (Nm a || decide (b.toList=[])) && (decide (a=7) || decide (c=0)) && ShpT a x
theorem q7v (a:Int):q4m.f a=some (Nm a):=by
 unfold q4m.f Nm
 by_cases h4:a=4 <;> by_cases h11:a=11 <;> by_cases h12:a=12 <;> simp_all
theorem q7e {x:List S28} {i:Nat} (h:i<x.length):no5 (x.drop i)=(decide (x[i].f0≠5) && no5 (x.drop (i+1))):=by
 unfold no5
 rw[List.drop_eq_getElem_cons h,List.all_cons]
theorem v1Z (x:List S28) (hl:x.length≤1048576):∀ (d i:Nat),i+d=x.length→∃ q:Int,q0O (fun k=>q2Q.l0 k x (x.length:Int) (i:Int)) q∧decide (q≥0) = !(no5 (x.drop i)):=by
 intro d
 induction d with
 | zero=>
  intro i hi
  refine⟨-1,cSuc ?_,?_⟩
  ·simp only[q2Q.l0]
   exact cNO (cCon _)
  ·rw[List.drop_eq_nil_of_le oMm];rfl
 | succ d IH=>
  intro i hi
  have h:i<x.length:=by omega
  obtain⟨q,hq,e⟩:=IH (i+1) oMm
  by_cases h5:x[i].f0=5
  ·refine⟨i,cSuc ?_,?_⟩
   ·simp only[q2Q.l0,q4x.f,rd25 h,Option.bind_some,h5]
    exact cPO (cPO (cPO (cPD (cCon _))))
   ·rw[q7e h,decide_eq_true (show((i:Nat):Int)≥0 by omega),decide_eq_false (not_not_intro h5)];rfl
  ·refine⟨q,cSuc ?_,?_⟩
   ·simp only[q2Q.l0,q4x.f,rd25 h,Option.bind_some,q3j (show i≤1048576 by omega)]
    exact cPO (cPO (cPO (cNeg (by simpa using h5) hq)))
   ·rw[q7e h,e,decide_eq_true h5,Bool.true_and]
theorem q6Y (a:Int) (b:q0b) (c:Int) (x:List S28) (hl:x.length≤1048576):q0O (fun k=>q1P.f k a b c x) (Shp a b c x):=by
 have J2:q0O (fun k=>q1P.j2 k a b c x) (ShpT a x):=by
  obtain⟨q,hq,e⟩:=v1Z x hl x.length 0 oMm
  rw[List.drop_zero]at e
  apply cSuc
  unfold ShpT
  simp only[q1P.j2]
  refine cIte (fun h=>?_) (fun h=>?_)
  ·rw[if_pos h]
   refine cIte (fun h=>cVal ?_) (fun h=>?_)
   ·rw[decide_eq_false oMm,Bool.false_and]
   ·rw[decide_eq_true oMm,Bool.true_and]
    unfold q4f.f q2Q.f
    refine cBin (cBin hq (cCon _)) (cVal ?_)
    rw[e,Bool.not_not]
  rw[if_neg h]
  have e1:((x.length:Int) == 1)=decide (x.length=1):=by
   by_cases k:x.length=1 <;> simp [k];omega
  have e0:((x.length:Int) == 0)=decide (x.length=0):=by
   by_cases k:x.length=0 <;> simp [k]
  rw[e1,e0]
  refine cIte (fun h=>cVal ?_) (fun h=>?_)
  ·rw[if_pos h];congr 1;exact propext ⟨fun k=>by omega,fun k=>by omega⟩
  rw[if_neg h]
  refine cIte (fun h=>cVal (by rw[if_pos h])) (fun h=>?_)
  rw[if_neg h]
  refine cIte (fun h=>cVal (by rw[if_pos h])) (fun h=>?_)
  rw[if_neg h]
  refine cIte (fun h=>cVal (by rw[if_pos h])) (fun h=>?_)
  rw[if_neg h]
  exact cCon _
 have J1:∀ z,q0O (fun k=>q1P.j1 k z a b c x) (!z && (decide (a=7) || decide (c=0)) && ShpT a x):=by
  intro z
  apply cSuc
  simp only[q1P.j1]
  cases z with
  | true=>exact cPos rfl (cCon _)
  | false=>
   refine cND (cIte (fun h=>?_) (fun h=>cIte (fun h'=>?_) (fun h'=>cVal ?_)))
   ·rw[decide_eq_true h];simpa using J2
   ·rw[decide_eq_false h,decide_eq_true h'];simpa using J2
   ·rw[decide_eq_false h,decide_eq_false h'];rfl
 have J0:∀ z,q0O (fun k=>q1P.j0 k z a b c x) (!z && ((Nm a || decide (b.toList=[])) && ((decide (a=7) || decide (c=0)) && ShpT a x))):=by
  intro z
  apply cSuc
  simp only[q1P.j0,q7v,Option.bind_some]
  cases z with
  | true=>exact cPos rfl (cCon _)
  | false=>
   refine cND (cIte (fun h=>?_) (fun h=>?_))
   ·rw[h];exact J1 false
   ·rw[Bool.eq_false_iff.2 h]
    by_cases hb:b.toList=[]
    ·have:=J1 false
     rw[show(b.toList != ([]:List UInt8))=false from by simpa using hb,decide_eq_true hb]
     exact this
    ·have:=J1 true
     rw[show(b.toList != ([]:List UInt8))=true from by simpa using hb,decide_eq_false hb]
     exact this
 unfold q1P.f Shp
 refine cIte (fun h=>?_) (fun h=>?_)
 ·rw[decide_eq_false (show ¬ 1≤a by omega)];exact J0 true
 ·rw[decide_eq_true (show 1≤a by omega)]
  have:=J0 (decide (a > 12))
  rw[show(!(decide (a > 12)))=decide (a≤12) from by rw[← decide_not];congr 1;exact propext ⟨fun k=>by omega,fun k=>by omega⟩]at this
  simpa only[Bool.true_and,Bool.and_assoc] using this
theorem q9w (a:Int) (b:q0b) (c:Int) (x:List S28) (hl:x.length≤1048576):∀ (d i:Nat),i+d=x.length→q0O (fun k=>q1y.l0 k (i:Int) a b c x) (decide (x.length≠1) && no5 (x.drop i)):=by
 intro d
 induction d with
 | zero=>
  intro i hi
  apply cSuc
  simp only[q1y.l0]
  refine cNO (cVal ?_)
  rw[List.drop_eq_nil_of_le oMm]
  by_cases k:x.length=1 <;> simp [k,no5];omega
 | succ d IH=>
  intro i hi
  have h:i<x.length:=by omega
  apply cSuc
  simp only[q1y.l0,rd25 h,q3j (show i≤1048576 by omega)]
  refine cPO (cPO (cIte (fun h5=>cVal ?_) (fun h5=>?_)))
  ·rw[q7e h,decide_eq_false (not_not_intro h5),Bool.false_and,Bool.and_false]
  ·have:=IH (i+1) oMm
   rw[q7e h,decide_eq_true h5,Bool.true_and]
   exact this
theorem q9c (a:Int) (b:q0b) (c:Int) (x:List S28) (hl:x.length≤1048576):q0O (fun k=>q1y.f k a b c x) (Shp a b c x):=by
 have J1:∀ z,q0O (fun k=>q1y.j1 k z a b c x) (!z && ShpT a x):=by
  intro z
  apply cSuc
  simp only[q1y.j1]
  cases z with
  | true=>exact cPos rfl (cCon _)
  | false=>
   unfold ShpT
   rw[Bool.not_false,Bool.true_and]
   have e1:((x.length:Int) == 1)=decide (x.length=1):=by
    by_cases k:x.length=1 <;> simp [k];omega
   have e0:((x.length:Int) == 0)=decide (x.length=0):=by
    by_cases k:x.length=0 <;> simp [k]
   rw[e1,e0]
   refine cND (cIte (fun h=>?_) (fun h=>?_))
   ·rw[if_pos h]
    have:=q9w a b c x hl x.length 0 oMm
    rw[List.drop_zero]at this
    exact this
   rw[if_neg h]
   refine cIte (fun h=>cVal ?_) (fun h=>?_)
   ·rw[if_pos h];congr 1;exact propext ⟨fun k=>by omega,fun k=>by omega⟩
   rw[if_neg h]
   refine cIte (fun h=>cVal (by rw[if_pos h])) (fun h=>?_)
   rw[if_neg h]
   refine cIte (fun h=>cVal (by rw[if_pos h])) (fun h=>?_)
   rw[if_neg h]
   refine cIte (fun h=>cVal (by rw[if_pos h])) (fun h=>?_)
   rw[if_neg h]
   exact cCon _
 have hc:(c != 0) = !decide (c=0):=by by_cases k:c=0 <;> simp [k]
 have J0:∀ z,q0O (fun k=>q1y.j0 k z a b c x) (decide (1≤a) && decide (a≤12) && (z || decide (b.toList=[])) && (decide (a=7) || decide (c=0)) && ShpT a x):=by
  intro z
  apply cSuc
  simp only[q1y.j0]
  refine cIte (fun h=>?_) (fun h=>cIte (fun h'=>?_) (fun h'=>?_))
  ·rw[decide_eq_false (show ¬ 1≤a by omega)];exact J1 true
  ·rw[decide_eq_false (show ¬ a≤12 by omega),Bool.and_false];exact J1 true
  rw[decide_eq_true (show 1≤a by omega),decide_eq_true (show a≤12 by omega)]
  have A:q0O (fun k=>if a=7 then q1y.j1 k false a b c x else q1y.j1 k (c != 0) a b c x) ((decide (a=7) || decide (c=0)) && ShpT a x):=by
   refine cIte (fun h=>?_) (fun h=>?_)
   ·rw[decide_eq_true h];exact J1 false
   ·rw[decide_eq_false h,Bool.false_or]
    have:=J1 (c != 0)
    rw[hc,Bool.not_not,← hc]at this
    exact this
  refine cIte (fun h=>?_) (fun h=>?_)
  ·rw[h];exact A
  rw[Bool.eq_false_iff.2 h]
  refine cIte (fun h=>?_) (fun h=>?_)
  ·rw[decide_eq_true h];exact A
  ·rw[decide_eq_false h];exact J1 true
 unfold q1y.f Shp Nm
 refine cIte (fun h=>?_) (fun h=>cIte (fun h'=>?_) (fun h'=>?_))
 ·rw[decide_eq_true (show a=4∨a=11∨a=12 from .inl h)];exact J0 true
 ·rw[decide_eq_true (show a=4∨a=11∨a=12 from .inr (.inl h'))];exact J0 true
 ·have:=J0 (a == 12)
  rw[show decide (a=4∨a=11∨a=12)=(a == 12) from by by_cases k:a=12 <;> simp [h,h',k]]
  exact this
theorem q6o (s:q0b):∃ r,q0O (fun k=>q3b.f k s) r∧q0O (fun k=>q3l.f k s) r:=by
 unfold q3b.f q3l.f
 by_cases h0:s.toList=[]
 ·exact⟨_,cPos h0 (cCon _),cPos h0 (cCon _)⟩
 by_cases h20:(s.size:Int)≤20
 ·have hp:0<s.size:=by
   rcases Nat.eq_zero_or_pos s.size with h|h
   ·exact absurd (by rw[ByteArray.toList_eq];exact List.length_eq_zero_iff.1 (by simpa using h)) h0
   ·exact h
  have hr:=q9A s oMm hp
  have hc:∃ t:Int,q0O (fun k=>q1s.f k s) t:=by
   cases hb:Sm (bt s 0) with
   | true=>obtain⟨t,_,_,h⟩:=(q6u s oMm hp).1 hb;exact⟨_,h⟩
   | false=>exact⟨_,(q6u s oMm hp).2 hb⟩
  obtain⟨t,hc⟩:=hc
  refine⟨_,cNeg h0 (cPos h20 (cBin hc (cCon _))),cNeg h0 (cPos h20 (cBin ?_ (cCon _)))⟩
  simpa only[hr] using hc
 ·exact⟨_,cNeg h0 (cNeg h20 (cCon _)),cNeg h0 (cNeg h20 (cCon _))⟩
theorem q5R (s:q0b):∃ r,q0O (fun k=>q2z.f k s) r∧q0O (fun k=>q2x.f k s) r:=by
 obtain⟨r,h1,h2⟩:=q6o s
 unfold q2z.f q2x.f
 have:∃ q:Bool,q0O (fun k=>if r=true then (if s.toList=([117]:List UInt8) then (some false) else (some (s.toList != ([120]:List UInt8)))) else (some false)) q:=by
  split
  ·split <;> exact⟨_,cCon _⟩
  ·exact⟨_,cCon _⟩
 obtain⟨q,hq⟩:=this
 exact⟨q,cBin h1 hq,cBin h2 hq⟩
theorem q7W (x:List S28) (hl:x.length≤1048576) (a:Int) (b:q0b) (c:Int) (d:Int) (ih:∀ y,y ∈ x→∃ e,q0O (fun k=>q1x.f k y.f0 y.f1 y.f2 y.f3 (wrap64 (d+1))) e∧q0O (fun k=>q1g.f k y.f0 y.f1 y.f2 y.f3 (wrap64 (d+1))) e) :
  ∀ (m i:Nat),i+m=x.length→∃ e,q0O (fun k=>q1x.l0 k d x (x.length:Int) (i:Int)) e∧q0O (fun k=>q1g.l0 k d (i:Int) a b c x) e:=by
 intro m
 induction m with
 | zero=>
  intro i hi
  refine⟨0,cSuc ?_,cSuc ?_⟩
  ·simp only[q1x.l0];exact cNO (cCon _)
  ·simp only[q1g.l0];exact cNO (cCon _)
 | succ m IH=>
  intro i hi
  have h:i<x.length:=by omega
  obtain⟨e,h1,h2⟩:=ih _ (List.getElem_mem h)
  obtain⟨e',h1',h2'⟩:=IH (i+1) oMm
  by_cases he:e=0
  ·refine⟨e',cSuc ?_,cSuc ?_⟩
   ·simp only[q1x.l0,rd25 h,q3j (show i≤1048576 by omega)]
    exact cPO (cPO (cPO (cBin h1 (cPos he h1'))))
   ·simp only[q1g.l0,rd25 h,q3j (show i≤1048576 by omega)]
    exact cPO (cPO (cBin h2 (cPos he h2')))
  ·refine⟨e,cSuc ?_,cSuc ?_⟩
   ·simp only[q1x.l0,rd25 h]
    exact cPO (cPO (cPO (cBin h1 (cNeg he (cCon _)))))
   ·simp only[q1g.l0,rd25 h]
    exact cPO (cPO (cBin h2 (cNeg he (cCon _))))
theorem q6d:∀ (n:S28),Small n→∀ d:Int,∃ e,q0O (fun k=>q1x.f k n.f0 n.f1 n.f2 n.f3 d) e∧q0O (fun k=>q1g.f k n.f0 n.f1 n.f2 n.f3 d) e
 | ⟨a,b,c,x⟩,hs,d=>by
  cases hs with
  | mk _ _ _ _ hl hk=>
  obtain⟨e,L1,L2⟩:=q7W x hl a b c d (fun y hy=>q6d y (hk y hy) _) x.length 0 oMm
  have J:∀ z:Bool,∃ q,q0O (fun k=>q1x.j0 k d z a b c x) q∧q0O (fun k=>q1g.j0 k d z a b c x) q:=by
   intro z
   by_cases hz:z=true
   ·refine⟨2,cSuc ?_,cSuc ?_⟩
    ·simp only[q1x.j0];exact cPos hz (cCon _)
    ·simp only[q1g.j0];exact cPos hz (cCon _)
   by_cases h0:c<0
   ·refine⟨6,cSuc ?_,cSuc ?_⟩
    ·simp only[q1x.j0];exact cNeg hz (cPos h0 (cCon _))
    ·simp only[q1g.j0];refine cNeg hz (cPos h0 (cSuc ?_));simp only[q1g.j1];exact cPos trivial (cCon _)
   by_cases h9:c > 9
   ·refine⟨6,cSuc ?_,cSuc ?_⟩
    ·simp only[q1x.j0];exact cNeg hz (cNeg h0 (cPos h9 (cCon _)))
    ·simp only[q1g.j0];refine cNeg hz (cNeg h0 (cSuc ?_));simp only[q1g.j1];exact cPos (q0p h9) (cCon _)
   ·refine⟨e,cSuc ?_,cSuc ?_⟩
    ·simp only[q1x.j0];exact cNeg hz (cNeg h0 (cNeg h9 L1))
    ·simp only[q1g.j0];refine cNeg hz (cNeg h0 (cSuc ?_));simp only[q1g.j1];exact cNeg (by simpa using h9) L2
  have s1:=q6Y a b c x hl
  have s2:=q9c a b c x hl
  obtain⟨u,u1,u2⟩:=q5R b
  by_cases h12:d > 12
  ·refine⟨3,cSuc ?_,cSuc ?_⟩
   ·simp only[q1x.f];exact cPos h12 (cCon _)
   ·simp only[q1g.f];exact cPos h12 (cCon _)
  by_cases hS:Shp a b c x=true
  ·by_cases hn:Nm a=true
   ·obtain⟨q,q1,q2⟩:=J (!u)
    refine⟨q,cSuc ?_,cSuc ?_⟩
    ·simp only[q1x.f,q7v,Option.bind_some]
     exact cNeg h12 (cBin s1 (cPos hS (cPos hn (cBin u1 q1))))
    ·simp only[q1g.f]
     have hn':a=4∨a=11∨a=12:=q0a hn
     have B:=cBin (g:=fun k t953=>q1g.j0 k d (!t953) a b c x) u2 q2
     exact cNeg h12 (cBin s2 (cPos hS (cIte (fun _=>B) (fun h4=>cIte (fun _=>B) (fun h11=>cIte (fun _=>B) (fun h12=>absurd hn' oMm))))))
   ·obtain⟨q,q1,q2⟩:=J false
    refine⟨q,cSuc ?_,cSuc ?_⟩
    ·simp only[q1x.f,q7v,Option.bind_some]
     exact cNeg h12 (cBin s1 (cPos hS (cNeg hn q1)))
    ·simp only[q1g.f]
     have hn' : ¬ (a=4∨a=11∨a=12):=fun k=>hn (q0p k)
     exact cNeg h12 (cBin s2 (cPos hS (cNO (cNO (cNO q2)))))
  ·refine⟨1,cSuc ?_,cSuc ?_⟩
   ·simp only[q1x.f];exact cNeg h12 (cBin s1 (cNeg hS (cCon _)))
   ·simp only[q1g.f];exact cNeg h12 (cBin s2 (cNeg hS (cCon _)))
 termination_by n=>SizeOf.sizeOf n
 decreasing_by
  have:=List.sizeOf_lt_of_mem hy
  simp only[S28.mk.sizeOf_spec]
  omega
theorem v0q (x:List S28) (hl:x.length≤1048576) (a:Int) (b:q0b) (c:Int) (ih:∀ y,y ∈ x→∃ e,q0O (fun k=>q2w.f k y.f0 y.f1 y.f2 y.f3) e∧q0O (fun k=>q2r.f k y.f0 y.f1 y.f2 y.f3) e) :
  ∀ (m i:Nat),i+m=x.length→∀ v:Int,∃ e,q0O (fun k=>q2w.l0 k v x (x.length:Int) (i:Int)) e∧q0O (fun k=>q2r.l0 k v (i:Int) a b c x) e:=by
 intro m
 induction m with
 | zero=>
  intro i hi v
  refine⟨v,cSuc ?_,cSuc ?_⟩
  ·simp only[q2w.l0];exact cNO (cCon _)
  ·simp only[q2r.l0];exact cNO (cCon _)
 | succ m IH=>
  intro i hi v
  have h:i<x.length:=by omega
  obtain⟨e,h1,h2⟩:=ih _ (List.getElem_mem h)
  obtain⟨e',h1',h2'⟩:=IH (i+1) oMm (wrap64 (v+e))
  refine⟨e',cSuc ?_,cSuc ?_⟩
  ·simp only[q2w.l0,rd25 h,q3j (show i≤1048576 by omega)]
   exact cPO (cPO (cPO (cBin h1 h1')))
  ·simp only[q2r.l0,rd25 h,q3j (show i≤1048576 by omega)]
   exact cPO (cPO (cBin h2 h2'))
theorem q6D:∀ (n:S28),Small n→∃ e,q0O (fun k=>q2w.f k n.f0 n.f1 n.f2 n.f3) e∧q0O (fun k=>q2r.f k n.f0 n.f1 n.f2 n.f3) e
 | ⟨a,b,c,x⟩,hs=>by
  cases hs with
  | mk _ _ _ _ hl hk=>
  obtain⟨e,L1,L2⟩:=v0q x hl a b c (fun y hy=>q6D y (hk y hy)) x.length 0 oMm 1
  refine⟨e,cSuc ?_,cSuc ?_⟩
  ·simp only[q2w.f];exact L1
  ·simp only[q2r.f];exact L2
 termination_by n=>SizeOf.sizeOf n
 decreasing_by
  have:=List.sizeOf_lt_of_mem hy
  simp only[S28.mk.sizeOf_spec]
  omega
theorem v0C (x:List S28) (hl:x.length≤1048576) (a:Int) (b:q0b) (c:Int) (ih:∀ y,y ∈ x→q0O (fun k=>q0Z.f k y.f0 y.f1 y.f2 y.f3 y.f0 y.f1 y.f2 y.f3) true) :
  ∀ (m i:Nat),i+m=x.length→q0O (fun k=>q0Z.l0 k (i:Int) a b c x a b c x) true:=by
 intro m
 induction m with
 | zero=>
  intro i hi
  apply cSuc
  simp only[q0Z.l0]
  exact cNO (cCon _)
 | succ m IH=>
  intro i hi
  have h:i<x.length:=by omega
  apply cSuc
  simp only[q0Z.l0,rd25 h,q3j (show i≤1048576 by omega)]
  exact cPO (cPO (cPO (cBin (ih _ (List.getElem_mem h)) (cPos rfl (IH (i+1) oMm)))))
theorem q6R:∀ (n:S28),Small n→q0O (fun k=>q0Z.f k n.f0 n.f1 n.f2 n.f3 n.f0 n.f1 n.f2 n.f3) true
 | ⟨a,b,c,x⟩,hs=>by
  cases hs with
  | mk _ _ _ _ hl hk=>
  apply cSuc
  simp only[q0Z.f]
  refine cPos trivial (cPos trivial (cPos trivial (cSuc ?_)))
  simp only[q0Z.j0]
  exact cNeg (by simp) (v0C x hl a b c (fun y hy=>q6R y (hk y hy)) x.length 0 oMm)
 termination_by n=>SizeOf.sizeOf n
 decreasing_by
  have:=List.sizeOf_lt_of_mem hy
  simp only[S28.mk.sizeOf_spec]
  omega
end
end Go.Proofs.YtmffocankommaaaGreatDoor.P
