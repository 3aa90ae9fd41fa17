/- The plain law: what the walks' functions compute answers as the statement says; the opening of the arguments; the witness's world. No program in sight but its types. Conditions: the lists within the arguments are no longer than the row's bulk. -/
import Derived.Test.YtmffocankommaaaGreatDoorCx34
import Derived.Lib.SlicesCompact
import Derived.Lib.Strings
import Derived.Test.YtmffocankommaaaGreatDoorRows
import Derived.Deep.Slices
import Derived.ChangeArms
import Derived.WalkKit
import Derived.ProofKit
import Derived.OpenShut
import Derived.Deep.DeepHandedRow
import Derived.Lib.LaidTab
section
namespace Go.Proofs.YtmffocankommaaaGreatDoor.Asc
abbrev St:=List UInt8
def Asc (l:List St):Prop:=l.Pairwise (· < ·)
theorem irr (x:St) : ¬ x < x:=List.lt_irrefl x
theorem tr {x y z:St} (h:x < y) (k:y < z):x < z:=List.lt_trans h k
theorem tri (x y:St):x < y∨x = y∨y < x:=by
 by_cases h:x < y
 ·exact .inl h
 ·by_cases k:y < x
  ·exact .inr (.inr k)
  ·exact .inr (.inl (List.le_antisymm k h))
/-- Two ascending lists with the same members are one. -/
theorem q3w:∀ (l m:List St),Asc l → Asc m → (∀ x,x ∈ l↔x ∈ m) → l = m
 | [],[],_,_,_=>rfl
 | [],y :: m,_,_,h=>absurd ((h y).2 (by simp)) (by simp)
 | x :: l,[],_,_,h=>absurd ((h x).1 (by simp)) (by simp)
 | x :: l,y :: m,hl,hm,h=>by
  have hl':=List.pairwise_cons.1 hl
  have hm':=List.pairwise_cons.1 hm
  have hxy:x = y:=by
   rcases List.mem_cons.1 ((h x).1 (by simp)) with e | e
   ·exact e
   ·rcases List.mem_cons.1 ((h y).2 (by simp)) with e' | e'
    ·exact e'.symm
    ·exact absurd (tr (hm'.1 x e) (hl'.1 y e')) (irr _)
  subst hxy
  rw [q3w l m hl'.2 hm'.2 (fun z=>?_)]
  have hz:=h z
  simp only [List.mem_cons] at hz
  constructor
  ·intro hzl
   rcases hz.1 (.inr hzl) with e | e
   ·subst e;exact absurd (hl'.1 z hzl) (irr _)
   ·exact e
  ·intro hzm
   rcases hz.2 (.inr hzm) with e | e
   ·subst e;exact absurd (hm'.1 z hzm) (irr _)
   ·exact e
theorem q2F:∀ (x y:St),Op.bytesLess x y = true↔x < y
 | [],[]=>by simp [Op.bytesLess]
 | a :: x,[]=>by simp [Op.bytesLess]
 | [],b :: y=>by simp [Op.bytesLess]
 | a :: x,b :: y=>by
  rw [List.cons_lt_cons_iff,← q2F x y]
  simp [Op.bytesLess]
/-- What stays of an ordered list is ascending and has its members. -/
theorem q6T (zs:List St) (hs:zs.Pairwise (·≤·)):∀ m,m≤zs.length → Asc (Lib.compactUpTo zs.toArray m)∧∀ x,x ∈ Lib.compactUpTo zs.toArray m↔x ∈ zs.take m:=by
 intro m
 induction m with
 | zero=>intro _;simp [Lib.compactUpTo,Asc]
 | succ m ih=>
  intro hm
  obtain ⟨ha,hmem⟩:=ih (by omega)
  have hm':m < zs.length:=by omega
  have hg:zs.toArray[m]! = zs[m]:=by simp [hm']
  rw [Lib.compactUpTo_succ,hg]
  have htake:zs.take (m + 1) = zs.take m++[zs[m]]:=List.take_succ_eq_append_getElem hm'
  by_cases hk:Lib.keeps zs.toArray m = true
  ·rw [if_pos hk,htake]
   refine ⟨List.pairwise_append.2 ⟨ha,by simp,fun x hx y hy=>?_⟩,fun x=>by simp only [List.mem_append,hmem]⟩
   obtain rfl:y = zs[m]:=by simpa using hy
   have hx':=(hmem x).1 hx
   obtain ⟨j,hj,rfl⟩:=List.mem_iff_getElem.1 hx'
   have hjm:j < m:=by have:j < (zs.take m).length:=hj;rw [List.length_take] at this;omega
   rw [List.getElem_take]
   have h1:zs[m - 1]≠zs[m]:=by
    have:=of_decide_eq_true hk
    rcases this with h0 | h0
    ·omega
    ·have e:zs.toArray[m - 1]! = zs[m - 1]:=by simp [show m - 1 < zs.length by omega]
     rw [hg,e] at h0
     exact fun h=>h0 h.symm
   have h2:zs[m - 1]≤zs[m]:=List.pairwise_iff_getElem.1 hs (m - 1) m (by omega) hm' (by omega)
   have h3:zs[m - 1] < zs[m]:=by
    rcases tri zs[m - 1] zs[m] with h | h | h
    ·exact h
    ·exact absurd h h1
    ·exact absurd h h2
   by_cases hje:j = m - 1
   ·subst hje;exact h3
   ·have h4:zs[j]≤zs[m - 1]:=List.pairwise_iff_getElem.1 hs j (m - 1) (by omega) (by omega) (by omega)
    rcases tri zs[j] zs[m - 1] with h | h | h
    ·exact tr h h3
    ·rw [h];exact h3
    ·exact absurd h h4
  ·rw [if_neg hk,List.append_nil,htake]
   refine ⟨ha,fun x=>?_⟩
   rw [hmem,List.mem_append]
   refine ⟨.inl,fun h=>h.elim id fun h=>?_⟩
   obtain rfl:x = zs[m]:=by simpa using h
   have hk' : ¬ (m = 0∨zs.toArray[m]!≠zs.toArray[m - 1]!):=fun h=>hk (decide_eq_true h)
   have hm0:m≠0:=fun h=>hk' (.inl h)
   have he:zs.toArray[m]! = zs.toArray[m - 1]!:=Classical.byContradiction fun h=>hk' (.inr h)
   have e:zs.toArray[m - 1]! = zs[m - 1]:=by simp [show m - 1 < zs.length by omega]
   rw [hg,e] at he
   rw [he]
   exact List.mem_iff_getElem.2 ⟨m - 1,by rw [List.length_take];omega,by rw [List.getElem_take]⟩
theorem q2X (zs:List St):(Lib.compact zs).length≤zs.length:=by
 unfold Lib.compact Lib.compactUpTo
 rw [List.length_map]
 exact Nat.le_trans (List.length_filter_le _ _) (by simp)
def q5L (zs:List St):List St:=Lib.compact (zs.mergeSort fun x y=>decide (x≤y))
theorem q4a (zs:List St):Asc (q5L zs)∧∀ x,x ∈ q5L zs↔x ∈ zs:=by
 have hp:(zs.mergeSort fun x y=>decide (x≤y)).Pairwise (·≤·):=by
  have h:=List.pairwise_mergeSort (le:=fun x y:St=>decide (x≤y)) (fun a b c h k=>decide_eq_true (List.le_trans (of_decide_eq_true h) (of_decide_eq_true k))) (fun a b=>by
   rcases List.le_total a b with h | h
   ·simp [h]
   ·simp [h]) zs
  exact h.imp fun h=>of_decide_eq_true h
 have h:=q6T _ hp _ (Nat.le_refl _)
 refine ⟨h.1,fun x=>(h.2 x).trans ?_⟩
 rw [List.take_length,List.mem_mergeSort]
/-- A string put in at its place. -/
theorem q5w (l:List St) (s:St) (i:Nat) (hi:i≤l.length) (hl:Asc l) (h1:∀ j (h:j < l.length),j < i → l[j] < s) (h2:∀ j (h:j < l.length),i≤j → s < l[j]) :
  Asc (l.take i++[s]++l.drop i)∧∀ x,x ∈ l.take i++[s]++l.drop i↔x ∈ l∨x = s:=by
 have a1:∀ x,x ∈ l.take i → x < s:=fun x hx=>by
  obtain ⟨j,hj,rfl⟩:=List.mem_iff_getElem.1 hx
  rw [List.getElem_take]
  rw [List.length_take] at hj
  exact h1 j (by omega) (by omega)
 have a2:∀ x,x ∈ l.drop i → s < x:=fun x hx=>by
  obtain ⟨j,hj,rfl⟩:=List.mem_iff_getElem.1 hx
  rw [List.getElem_drop]
  rw [List.length_drop] at hj
  exact h2 (i + j) (by omega) (by omega)
 have hall:Asc (l.take i++l.drop i):=by rw [List.take_append_drop];exact hl
 have hp:=List.pairwise_append.1 hall
 refine ⟨List.pairwise_append.2 ⟨List.pairwise_append.2 ⟨hp.1,by simp,fun x hx y hy=>?_⟩,hp.2.1,fun x hx y hy=>?_⟩,fun x=>?_⟩
 ·obtain rfl:y = s:=by simpa using hy
  exact a1 x hx
 ·rcases List.mem_append.1 hx with h | h
  ·exact hp.2.2 x h y hy
  ·obtain rfl:x = s:=by simpa using h
   exact a2 y hy
 ·have:x ∈ l↔x ∈ l.take i∨x ∈ l.drop i:=by rw [← List.mem_append,List.take_append_drop]
  rw [this]
  simp only [List.mem_append,List.mem_singleton]
  constructor
  ·rintro ((h | h) | h)
   ·exact .inl (.inl h)
   ·exact .inr h
   ·exact .inl (.inr h)
  ·rintro ((h | h) | h)
   ·exact .inl (.inl h)
   ·exact .inr h
   ·exact .inl (.inr h)
end Go.Proofs.YtmffocankommaaaGreatDoor.Asc
end
section
namespace Go.Proofs.YtmffocankommaaaGreatDoor.B
open Go.RowKit Go.Proofs.YtmffocankommaaaGreatDoorW.PrintWords Go.Proofs.YtmffocankommaaaGreatDoorW.PrintLast Go.Proofs.YtmffocankommaaaGreatDoorW.PrintMore Go.Proofs.YtmffocankommaaaGreatDoorY
open Go.Proofs.YtmffocankommaaaGreatDoor.Asc (St Asc q5L q3w q4a q5w q2F q2X irr tr tri)
set_option linter.unusedVariables false
/-- From some number of rounds on, f comes to r. -/
def q0S {α:Type} (f:Nat → Option α) (r:α):Prop:=∃ K,∀ k,K≤k → f k = some r
theorem cBin {α β:Type} {f:Nat → Option α} {g:Nat → α → Option β} {x:α} {r:β} (h:q0S f x) (hg:q0S (fun k=>g k x) r):q0S (fun k=>(f k).bind (g k)) r:=by
 obtain ⟨K,h⟩:=h
 obtain ⟨L,hg⟩:=hg
 exact ⟨max K L,fun k hk=>by
  show (f k).bind (g k) = some r
  rw [h k (by omega)]
  exact hg k (by omega)⟩
theorem cCon {α:Type} (r:α):q0S (fun _=>some r) r:=⟨0,fun _ _=>rfl⟩
theorem cSuc {α:Type} {f:Nat → Option α} {r:α} (h:q0S (fun k=>f (k + 1)) r):q0S f r:=by
 obtain ⟨K,h⟩:=h
 exact ⟨K + 1,fun k hk=>by
  obtain ⟨j,rfl⟩:∃ j,k = j + 1:=⟨k - 1,by omega⟩
  exact h j (by omega)⟩
theorem cPos {α:Type} {c:Prop} [Decidable c] {f g:Nat → Option α} {r:α} (hc:c) (h:q0S f r):q0S (fun k=>if c then f k else g k) r:=by simpa only [if_pos hc] using h
theorem cNeg {α:Type} {c:Prop} [Decidable c] {f g:Nat → Option α} {r:α} (hc : ¬ c) (h:q0S g r):q0S (fun k=>if c then f k else g k) r:=by simpa only [if_neg hc] using h
theorem cND {α:Type} {c:Prop} [Decidable c] {f g:Nat → Option α} {r:α} (h:q0S g r) (hc : ¬ c:=by decide):q0S (fun k=>if c then f k else g k) r:=cNeg hc h
theorem cNO {α:Type} {c:Prop} [Decidable c] {f g:Nat → Option α} {r:α} (h:q0S g r) (hc : ¬ c:=by omega):q0S (fun k=>if c then f k else g k) r:=cNeg hc h
theorem cPD {α:Type} {c:Prop} [Decidable c] {f g:Nat → Option α} {r:α} (h:q0S f r) (hc:c:=by decide):q0S (fun k=>if c then f k else g k) r:=cPos hc h
theorem cPO {α:Type} {c:Prop} [Decidable c] {f g:Nat → Option α} {r:α} (h:q0S f r) (hc:c:=by omega):q0S (fun k=>if c then f k else g k) r:=cPos hc h
/-- Lists within a node are no longer than 2^20. -/
inductive Small:S28 → Prop
 | mk (a:Int) (b:ByteArray) (c:Int) (l:List S28) (hl:l.length≤1048576) (hk:∀ x,x ∈ l → Small x):Small ⟨a,b,c,l⟩
theorem q2e {i:Nat} (h:i≤1048576):wrap64 ((i:Int) + 1) = ((i + 1:Nat):Int):=by unfold wrap64;omega
theorem rd25 {xs:List S28} {i:Nat} (h:i < xs.length):q0b xs (i:Int) = xs[i]:=by
 show xs.getD i z28 = xs[i]
 rw [List.getD_eq_getElem?_getD,List.getElem?_eq_getElem h]
 rfl
theorem q8l (xs:List S28) (hl:xs.length≤1048576) (a:Int) (b:ByteArray) (c:Int) (ih:∀ x,x ∈ xs → q0S (fun k=>q0x.f k x.f0 x.f1 x.f2 x.f3) (x.f0,x.f1,x.f2,x.f3)) :
  ∀ m i,i + m = xs.length → q0S (fun k=>q0x.l0 k xs (xs.length:Int) (i:Int) a b c (xs.take i)) (a,b,c,xs):=by
 intro m
 induction m with
 | zero=>
  intro i hi
  obtain rfl:i = xs.length:=by omega
  apply cSuc
  simp only [q0x.l0]
  refine cNO ?_
  rw [List.take_length]
  exact cCon _
 | succ m IH=>
  intro i hi
  have hlt:i < xs.length:=by omega
  apply cSuc
  simp only [q0x.l0]
  refine cPO (cPO (cPO ?_))
  rw [rd25 hlt]
  refine cBin (ih _ (List.getElem_mem hlt)) ?_
  refine cPos (by rw [List.length_take];omega) ?_
  have h:=IH (i + 1) (by omega)
  rw [q2e (by omega)]
  rw [List.take_succ_eq_append_getElem hlt] at h
  generalize xs[i] = y at h ⊢
  cases y
  exact h
theorem q5l:∀ n:S28,Small n → q0S (fun k=>q0x.f k n.f0 n.f1 n.f2 n.f3) (n.f0,n.f1,n.f2,n.f3)
 | ⟨a,b,c,l⟩,hs=>by
  cases hs with
  | mk _ _ _ _ hl hk=>
  apply cSuc
  simp only [q0x.f]
  exact q8l l hl a b c (fun x hx=>q5l x (hk x hx)) l.length 0 (by omega)
 termination_by n=>SizeOf.sizeOf n
 decreasing_by
  have:=List.sizeOf_lt_of_mem hx
  simp only [S28.mk.sizeOf_spec]
  omega
set_option maxRecDepth 100000 in
theorem q8i:q1A.f 100 = some true:=by decide +kernel
theorem q3B:q0S (fun k=>q1A.f k) true:=
 ⟨100,fun k hk=>by
  obtain ⟨j,rfl⟩:∃ j,k = 100 + j:=⟨k - 100,by omega⟩
  induction j with
  | zero=>exact q8i
  | succ j ih=>exact q1A.mono _ _ (ih (by omega))⟩
mutual
/-- A node, how many nodes it holds, and its names in order. -/
inductive CntN:S28 → Nat → List ByteArray → Prop
 | mk (a:Int) (b:ByteArray) (c:Int) (l:List S28) (m:Nat) (ys:List ByteArray) (h:CntL l m ys):CntN ⟨a,b,c,l⟩ (m + 1) ((if a = 4∨a = 11∨a = 12 then [b] else [])++ys)
inductive CntL:List S28 → Nat → List ByteArray → Prop
 | nil:CntL [] 0 []
 | cons (x:S28) (l:List S28) (m n:Nat) (ys zs:List ByteArray) (h1:CntN x m ys) (h2:CntL l n zs):CntL (x :: l) (m + n) (ys++zs)
end
theorem CntN.inv {a:Int} {b:ByteArray} {c:Int} {l:List S28} {m:Nat} {zs:List ByteArray} (h:CntN ⟨a,b,c,l⟩ m zs):∃ m' ys,m = m' + 1∧zs = (if a = 4∨a = 11∨a = 12 then [b] else [])++ys∧CntL l m' ys:=by
 cases h with
 | mk _ _ _ _ m ys h=>exact ⟨m,ys,rfl,rfl,h⟩
theorem CntN.pos {n:S28} {m:Nat} {zs:List ByteArray} (h:CntN n m zs):0 < m:=by
 cases h;omega
theorem CntL.inv {x:S28} {l:List S28} {m:Nat} {zs:List ByteArray} (h:CntL (x :: l) m zs):∃ m1 m2 y1 y2,m = m1 + m2∧zs = y1++y2∧CntN x m1 y1∧CntL l m2 y2:=by
 cases h with
 | cons _ _ m1 m2 y1 y2 h1 h2=>exact ⟨m1,m2,y1,y2,rfl,rfl,h1,h2⟩
theorem CntL.nil_inv {m:Nat} {zs:List ByteArray} (h:CntL [] m zs):m = 0∧zs = []:=by
 cases h;exact ⟨rfl,rfl⟩
theorem CntL.len:∀ (l:List S28) (m:Nat) (zs:List ByteArray),CntL l m zs → l.length≤m
 | [],m,zs,h=>by simp
 | x :: l,m,zs,h=>by
  obtain ⟨m1,m2,y1,y2,rfl,rfl,h1,h2⟩:=h.inv
  have:=CntL.len l m2 y2 h2
  have:=h1.pos
  simp only [List.length_cons]
  omega
theorem CntL.mem:∀ (l:List S28) (m:Nat) (zs:List ByteArray),CntL l m zs → ∀ x,x ∈ l → ∃ m' ys,CntN x m' ys∧m'≤m
 | [],m,zs,h,x,hx=>by cases hx
 | y :: l,m,zs,h,x,hx=>by
  obtain ⟨m1,m2,y1,y2,rfl,rfl,h1,h2⟩:=h.inv
  rcases List.mem_cons.1 hx with e | e
  ·subst e;exact ⟨m1,y1,h1,by omega⟩
  ·obtain ⟨m',ys,h',hl⟩:=CntL.mem l m2 y2 h2 x e
   exact ⟨m',ys,h',by omega⟩
theorem q8w:∀ (M:Nat) (n:S28) (m:Nat) (ys:List ByteArray),m≤M → CntN n m ys → m≤1048576 → Small n:=by
 intro M
 induction M with
 | zero=>intro n m ys hm h _;have:=h.pos;omega
 | succ M ih=>
  intro n m ys hm h hM
  obtain ⟨a,b,c,l⟩:=n
  obtain ⟨m',zs,rfl,rfl,hl⟩:=h.inv
  refine .mk _ _ _ _ (by have:=CntL.len _ _ _ hl;omega) (fun x hx=>?_)
  obtain ⟨m1,y1,h1,h2⟩:=CntL.mem _ _ _ hl x hx
  exact ih x m1 y1 (by omega) h1 (by omega)
theorem q3V:∀ (M:Nat),(∀ n m ys,m≤M → CntN n m ys → ys.length≤m)∧(∀ l m ys,m≤M → CntL l m ys → ys.length≤m):=by
 intro M
 induction M with
 | zero=>
  refine ⟨fun n m ys hm h=>by have:=h.pos;omega,fun l m ys hm h=>?_⟩
  cases l with
  | nil=>obtain ⟨rfl,rfl⟩:=h.nil_inv;simp
  | cons x l=>have:=CntL.len _ _ _ h;simp only [List.length_cons] at this;omega
 | succ M ih=>
  have hN:∀ n m ys,m≤M + 1 → CntN n m ys → ys.length≤m:=by
   intro n m ys hm h
   obtain ⟨a,b,c,l⟩:=n
   obtain ⟨m',zs,rfl,rfl,hl⟩:=h.inv
   have:=ih.2 l m' zs (by omega) hl
   rw [List.length_append]
   split <;> simp <;> omega
  refine ⟨hN,fun l=>?_⟩
  induction l with
  | nil=>intro m ys hm h;obtain ⟨rfl,rfl⟩:=h.nil_inv;simp
  | cons x l IH=>
   intro m ys hm h
   obtain ⟨m1,m2,y1,y2,rfl,rfl,h1,h2⟩:=h.inv
   have:=hN x m1 y1 (by omega) h1
   have:=IH m2 y2 (by omega) h2
   rw [List.length_append]
   omega
theorem wrapI {i:Int} (h : -1000000000000≤i∧i≤1000000000000):wrap64 i = i:=by unfold wrap64;omega
theorem q8b {i:Nat} (h:i≤1000000000):wrap64 ((i:Int) + 1) = ((i + 1:Nat):Int):=by unfold wrap64;omega
theorem q3X {l:List S28} {i:Nat} (h:i < l.length):l.drop i = l[i] :: l.drop (i + 1):=List.drop_eq_getElem_cons h
theorem q6V (a:Int):q2g.f a = some (decide (a = 4∨a = 11∨a = 12)):=by
 unfold q2g.f
 by_cases h4:a = 4
 ·simp [h4]
 ·by_cases h11:a = 11
  ·simp [h11]
  ·simp [h4,h11]
   rfl
theorem q6J:∀ (M:Nat) (n:S28) (m:Nat) (ys:List ByteArray),m≤M → CntN n m ys → m≤10000000 → ∀ xs:List ByteArray,xs.length + m < 1000000000 → q0S (fun k=>q1p.f k xs n.f0 n.f1 n.f2 n.f3) (xs++ys):=by
 intro M
 induction M with
 | zero=>intro n m ys hm h;have:=h.pos;omega
 | succ M ih=>
  intro n m ys hm h hM xs hx
  obtain ⟨a,b,c,l⟩:=n
  obtain ⟨m',zs,rfl,rfl,hl⟩:=h.inv
  have loop:∀ (d:Nat) (i:Nat) (m2:Nat) (zs2:List ByteArray),i + d = l.length → CntL (l.drop i) m2 zs2 → m2≤m' → ∀ xs:List ByteArray,xs.length + m2 < 1000000000 → q0S (fun k=>q1p.l0 k xs l (i:Int)) (xs++zs2):=by
   intro d
   induction d with
   | zero=>
    intro i m2 zs2 hi h2 _ xs _
    rw [List.drop_eq_nil_of_le (by omega)] at h2
    obtain ⟨rfl,rfl⟩:=h2.nil_inv
    apply cSuc
    simp only [q1p.l0]
    rw [List.append_nil]
    exact cNO (cCon _)
   | succ d IH=>
    intro i m2 zs2 hi h2 hle xs hx2
    have hlt:i < l.length:=by omega
    rw [q3X hlt] at h2
    obtain ⟨m1,m3,y1,y3,rfl,rfl,h1,h3⟩:=h2.inv
    apply cSuc
    simp only [q1p.l0]
    refine cPO (cPO ?_)
    rw [rd25 hlt]
    refine cBin (ih _ m1 y1 (by omega) h1 (by omega) xs (by omega)) ?_
    rw [q8b (by have:=CntL.len _ _ _ hl;omega),← List.append_assoc]
    exact IH (i + 1) m3 y3 (by omega) h3 (by omega) (xs++y1) (by have:=(q3V _).1 _ _ _ (Nat.le_refl _) h1;rw [List.length_append];omega)
  apply cSuc
  simp only [q1p.f]
  rw [q6V]
  refine cBin (cCon _) ?_
  by_cases hn:a = 4∨a = 11∨a = 12
  ·refine cPos (decide_eq_true hn) (cPO ?_)
   rw [if_pos hn,← List.append_assoc]
   exact loop l.length 0 m' zs (by omega) (by simpa using hl) (Nat.le_refl _) (xs++[b]) (by simp;omega)
  ·refine cNeg (by simpa using hn) ?_
   rw [if_neg hn,List.nil_append]
   exact loop l.length 0 m' zs (by omega) (by simpa using hl) (Nat.le_refl _) xs (by omega)
theorem q5n:∀ (M:Nat) (n:S28) (m:Nat) (ys:List ByteArray),m≤M → CntN n m ys → m≤10000000 → q0S (fun k=>q0Y.f k n.f0 n.f1 n.f2 n.f3) (m:Int):=by
 intro M
 induction M with
 | zero=>intro n m ys hm h;have:=h.pos;omega
 | succ M ih=>
  intro n m ys hm h hM
  obtain ⟨a,b,c,l⟩:=n
  obtain ⟨m',zs,rfl,rfl,hl⟩:=h.inv
  have loop:∀ (d:Nat) (i:Nat) (m2:Nat) (zs2:List ByteArray),i + d = l.length → CntL (l.drop i) m2 zs2 → m2≤m' → ∀ q:Nat,q + m2≤20000000 → q0S (fun k=>q0Y.l0 k (q:Int) l (l.length:Int) (i:Int)) ((q + m2:Nat):Int):=by
   intro d
   induction d with
   | zero=>
    intro i m2 zs2 hi h2 _ q _
    rw [List.drop_eq_nil_of_le (by omega)] at h2
    obtain ⟨rfl,rfl⟩:=h2.nil_inv
    apply cSuc
    simp only [q0Y.l0]
    exact cNO (cCon _)
   | succ d IH=>
    intro i m2 zs2 hi h2 hle q hq
    have hlt:i < l.length:=by omega
    rw [q3X hlt] at h2
    obtain ⟨m1,m3,y1,y3,rfl,rfl,h1,h3⟩:=h2.inv
    apply cSuc
    simp only [q0Y.l0]
    refine cPO (cPO (cPO ?_))
    rw [rd25 hlt]
    refine cBin (ih _ m1 y1 (by omega) h1 (by omega)) ?_
    rw [q8b (by have:=CntL.len _ _ _ hl;omega),wrapI (by omega)]
    have:=IH (i + 1) m3 y3 (by omega) h3 (by omega) (q + m1) (by omega)
    rw [show q + m1 + m3 = q + (m1 + m3) by omega] at this
    exact this
  apply cSuc
  simp only [q0Y.f]
  have:=loop l.length 0 m' zs (by omega) (by simpa using hl) (Nat.le_refl _) 1 (by omega)
  rw [show 1 + m' = m' + 1 by omega] at this
  exact this
/-- The names of a list, each once, in order. -/
def NM (ys:List ByteArray):List ByteArray:=q2s (q5L (q0L ys))
theorem q7A (ys:List ByteArray):q0L (NM ys) = q5L (q0L ys):=q3d _
theorem q5U (ys:List ByteArray):(NM ys).length≤ys.length:=by
 unfold NM q2s q5L
 rw [List.length_map]
 exact Nat.le_trans (q2X _) (by simp [q0L])
theorem q6P (n:S28) (m:Nat) (ys:List ByteArray) (h:CntN n m ys) (hm:m≤10000000):q0S (fun k=>q2t.f k n.f0 n.f1 n.f2 n.f3) (NM ys):=by
 have h1:=q6J m n m ys (Nat.le_refl _) h hm [] (by simp;omega)
 rw [List.nil_append] at h1
 have hl:=(q3V m).1 n m ys (Nat.le_refl _) h
 unfold q2t.f
 refine cBin h1 ?_
 refine cPos ⟨by omega,?_⟩ ?_
 ·have:=q2X (q0L (q3E ys))
  rwa [q1G] at this
 ·have:q3k (q3E ys) = NM ys:=by
   unfold q3k NM q3E q5L
   rw [q3d]
  rw [this]
  exact cCon _
theorem q6H (l:List ByteArray) (hl:l.length≤1000000000):q0S (fun k=>q0y.f k l l) true:=by
 unfold q0y.f
 refine cPos rfl ?_
 have loop:∀ (d i:Nat),i + d = l.length → q0S (fun k=>q0y.l0 k l l (l.length:Int) (i:Int)) true:=by
  intro d
  induction d with
  | zero=>
   intro i hi
   apply cSuc
   simp only [q0y.l0]
   exact cNO (cCon _)
  | succ d IH=>
   intro i hi
   apply cSuc
   simp only [q0y.l0]
   refine cPO (cPO (cPO (cPO (cPos trivial ?_))))
   rw [q8b (by omega)]
   exact IH (i + 1) (by omega)
 exact loop l.length 0 (by omega)
theorem rdl7 {xs:List (List ByteArray)} {i:Nat} (h:i < xs.length):q1X xs (i:Int) = xs[i]:=by
 show xs.getD i [] = xs[i]
 rw [List.getD_eq_getElem?_getD,List.getElem?_eq_getElem h]
 rfl
end Go.Proofs.YtmffocankommaaaGreatDoor.B
end
section
namespace Go.Proofs.YtmffocankommaaaGreatDoor.B
open Go.RowKit Go.Proofs.YtmffocankommaaaGreatDoorW.PrintWords Go.Proofs.YtmffocankommaaaGreatDoorW.PrintLast Go.Proofs.YtmffocankommaaaGreatDoorW.PrintMore Go.Proofs.YtmffocankommaaaGreatDoorY
open Go.Proofs.YtmffocankommaaaGreatDoor.Asc (St Asc q5L q3w q4a q5w q2F q2X irr tr tri)
set_option linter.unusedVariables false
theorem q3i {l:List ByteArray} {i:Nat} (h:i < l.length):(rdOf ByteArray.empty l (i:Int)).toList = (q0L l)[i]'(by rw [q1G];exact h):=by
 unfold rdOf q0L
 rw [List.getElem_map,ByteArray.toList_eq,Int.toNat_natCast,List.getD_eq_getElem?_getD,List.getElem?_eq_getElem h]
 rfl
theorem q7P {l:List ByteArray} {i:Nat} (h:i < l.length):rdOf ByteArray.empty l (i:Int) = l[i]:=by
 unfold rdOf
 rw [Int.toNat_natCast,List.getD_eq_getElem?_getD,List.getElem?_eq_getElem h]
 rfl
def Put (l:List ByteArray) (s:St) (r:List ByteArray):Prop:=Asc (q0L r)∧(∀ x,x ∈ q0L r↔x ∈ q0L l∨x = s)∧r.length≤l.length + 1
theorem q9g (l:List ByteArray) (s:ByteArray) (i:Nat) (hi:i≤l.length) (hA:Asc (q0L l)) (h1:∀ j (h:j < (q0L l).length),j < i → (q0L l)[j] < s.data.toList) (h2:∀ j (h:j < (q0L l).length),i≤j → s.data.toList < (q0L l)[j]) :
  Put l s.data.toList (l.take i++[s]++l.drop i):=by
 have e:q0L (l.take i++[s]++l.drop i) = (q0L l).take i++[s.data.toList]++(q0L l).drop i:=by
  simp [q0L,List.map_append,List.map_take,List.map_drop]
 have h:=q5w (q0L l) s.data.toList i (by rw [q1G];exact hi) hA h1 h2
 refine ⟨by rw [e];exact h.1,fun x=>by rw [e];exact h.2 x,?_⟩
 simp only [List.length_append,List.length_take,List.length_drop,List.length_cons,List.length_nil]
 omega
theorem q7s (l:List ByteArray) (s:ByteArray) (hA:Asc (q0L l)) (hl:l.length≤20000000) (hs:s.data.toList ∉ q0L l) :
  ∃ r,q0S (fun k=>q1K.f k l s) r∧Put l s.data.toList r:=by
 unfold q1K.f
 have hLL:(q0L l).length = l.length:=q1G l
 have loop:∀ (d i:Nat),i + d = l.length → (∀ j (h:j < (q0L l).length),j < i → (q0L l)[j] < s.data.toList) → ∃ r,q0S (fun k=>q1K.l0 k l s (i:Int)) r∧Put l s.data.toList r:=by
  intro d
  induction d with
  | zero=>
   intro i hi h1
   refine ⟨_,cSuc ?_,q9g l s i (by omega) hA h1 (fun j h hij=>by omega)⟩
   simp only [q1K.l0,Option.bind_some,List.nil_append,Int.toNat_natCast,List.length_nil,List.length_cons,List.length_append,List.length_take,List.length_drop]
   refine cNO (cPO (cPO (cPO (cPO (cPO (cCon _))))))
  | succ d IH=>
   intro i hi h1
   have hlt:i < l.length:=by omega
   by_cases hb:(q0L l)[i]'(by omega) < s.data.toList
   ·obtain ⟨r,hr,hp⟩:=IH (i + 1) (by omega) (fun j h hj=>by
     by_cases e:j = i
     ·subst e;exact hb
     ·exact h1 j h (by omega))
    refine ⟨r,cSuc ?_,hp⟩
    simp only [q1K.l0]
    refine cPO (cPO (cPos ?_ ?_))
    ·rw [q3i hlt,ByteArray.toList_eq,q2F];exact hb
    ·rw [q8b (by omega)];exact hr
   ·have hne:(q0L l)[i]'(by omega)≠s.data.toList:=fun e=>hs (e ▸ List.getElem_mem _)
    have hgt:s.data.toList < (q0L l)[i]'(by omega):=by
     rcases tri ((q0L l)[i]'(by omega)) s.data.toList with h | h | h
     ·exact absurd h hb
     ·exact absurd h hne
     ·exact h
    refine ⟨_,cSuc ?_,q9g l s i (by omega) hA h1 (fun j h hij=>?_)⟩
    ·simp only [q1K.l0,Option.bind_some,List.nil_append,Int.toNat_natCast,List.length_nil,List.length_cons,List.length_append,List.length_take,List.length_drop]
     refine cPO (cPO (cNeg ?_ (cNeg ?_ (cPO (cPO (cPO (cPO (cCon _))))))))
     ·rw [q3i hlt,ByteArray.toList_eq,q2F];exact hb
     ·rw [q3i hlt,ByteArray.toList_eq];exact hne
    ·by_cases e:j = i
     ·subst e;exact hgt
     ·exact tr hgt (List.pairwise_iff_getElem.1 hA i j (by omega) h (by omega))
 exact loop l.length 0 (by omega) (fun j _ h=>by omega)
theorem q7D (l:List ByteArray) (s:ByteArray) (hA:Asc (q0L l)) (hl:l.length≤20000000) (hs:s.data.toList ∈ q0L l):q0S (fun k=>q2m.f k l s) l:=by
 unfold q2m.f
 have hLL:(q0L l).length = l.length:=q1G l
 obtain ⟨p,hp,he⟩:=List.mem_iff_getElem.1 hs
 have loop:∀ (d i:Nat),i + d = p → q0S (fun k=>q2m.l0 k l s (i:Int)) l:=by
  intro d
  induction d with
  | zero=>
   intro i hi
   obtain rfl:i = p:=by omega
   have hlt:i < l.length:=by omega
   apply cSuc
   simp only [q2m.l0]
   refine cPO (cPO (cNeg ?_ (cPos ?_ (cCon _))))
   ·rw [q3i hlt,ByteArray.toList_eq,q2F,he];exact irr _
   ·rw [q3i hlt,ByteArray.toList_eq,he]
  | succ d IH=>
   intro i hi
   have hlt:i < l.length:=by omega
   apply cSuc
   simp only [q2m.l0]
   refine cPO (cPO (cPos ?_ ?_))
   ·rw [q3i hlt,ByteArray.toList_eq,q2F,← he]
    exact List.pairwise_iff_getElem.1 hA i p (by omega) hp (by omega)
   ·rw [q8b (by omega)];exact IH (i + 1) (by omega)
 exact loop p 0 (by omega)
theorem q7H (l:List ByteArray) (s:ByteArray) (hA:Asc (q0L l)) (hl:l.length≤20000000):∃ r,q0S (fun k=>q1W.f k l s) r∧Put l s.data.toList r:=by
 unfold q1W.f
 have hany:(l.any (fun x=>x.toList == s.toList) = true)↔s.data.toList ∈ q0L l:=by
  unfold q0L
  rw [List.any_eq_true]
  constructor
  ·rintro ⟨x,hx,h⟩
   have h:=eq_of_beq h
   rw [ByteArray.toList_eq,ByteArray.toList_eq] at h
   exact List.mem_map.2 ⟨x,hx,h⟩
  ·intro h
   obtain ⟨x,hx,h⟩:=List.mem_map.1 h
   exact ⟨x,hx,by rw [ByteArray.toList_eq,ByteArray.toList_eq,h];exact beq_self_eq_true _⟩
 by_cases h:s.data.toList ∈ q0L l
 ·refine ⟨l,cPos (hany.2 h) (q7D l s hA hl h),hA,fun x=>⟨.inl,fun k=>k.elim id fun e=>e ▸ h⟩,by omega⟩
 ·obtain ⟨r,hr,hp⟩:=q7s l s hA hl h
  exact ⟨r,cNeg (fun k=>h (hany.1 k)) hr,hp⟩
theorem q6D {u v:List ByteArray} (h:q0L u = q0L v):u = v:=by rw [← q3J u,h,q3J]
theorem q8z (ys:List ByteArray):Asc (q0L (NM ys))∧∀ x,x ∈ q0L (NM ys)↔x ∈ q0L ys:=by rw [q7A];exact q4a _
theorem NM_is {u ys:List ByteArray} (h:Asc (q0L u)) (hm:∀ x,x ∈ q0L u↔x ∈ q0L ys):u = NM ys:=
 q6D (q3w _ _ h (q8z ys).1 (fun x=>(hm x).trans ((q8z ys).2 x).symm))
theorem q3v (u v:List ByteArray):q0L (u++v) = q0L u++q0L v:=by simp [q0L]
end Go.Proofs.YtmffocankommaaaGreatDoor.B
end
section
namespace Go.Proofs.YtmffocankommaaaGreatDoor.B
open Go.RowKit Go.Proofs.YtmffocankommaaaGreatDoorW.PrintWords Go.Proofs.YtmffocankommaaaGreatDoorW.PrintLast Go.Proofs.YtmffocankommaaaGreatDoorW.PrintMore Go.Proofs.YtmffocankommaaaGreatDoorY
set_option linter.unusedVariables false
theorem q8x (l:List S28) (hl:l.length≤1048576) (a:Int) (b:ByteArray) (c:Int) (ih:∀ x,x ∈ l → ∀ q,∃ t,q0S (fun k=>q0M.f k x.f0 x.f1 x.f2 x.f3 q) t) :
  ∀ m i,i + m = l.length → ∀ q,∃ t,q0S (fun k=>q0M.l0 k q (i:Int) a b c l) t:=by
 intro m
 induction m with
 | zero=>
  intro i hi q
  exact ⟨q,cSuc (by simp only [q0M.l0];exact cNO (cCon _))⟩
 | succ m IH=>
  intro i hi q
  have hlt:i < l.length:=by omega
  by_cases hq:q≥0
  ·obtain ⟨t,ht⟩:=ih _ (List.getElem_mem hlt) q
   obtain ⟨u,hu⟩:=IH (i + 1) (by omega) t
   refine ⟨u,cSuc ?_⟩
   simp only [q0M.l0]
   refine cPO (cPos hq (cPO ?_))
   rw [rd25 hlt]
   refine cBin ht ?_
   rw [q2e (by omega)]
   exact hu
  ·exact ⟨q,cSuc (by simp only [q0M.l0];exact cPO (cNeg hq (cCon _)))⟩
theorem q5u:∀ n:S28,Small n → ∀ q,∃ t,q0S (fun k=>q0M.f k n.f0 n.f1 n.f2 n.f3 q) t
 | ⟨a,b,c,l⟩,hs,q=>by
  cases hs with
  | mk _ _ _ _ hl hk=>
  obtain ⟨t,ht⟩:=q8x l hl a b c (fun x hx=>q5u x (hk x hx)) l.length 0 (by omega) (wrap64 ((wrap64 (q - 1)) - (wrap64 ((b.size:Int) / 40))))
  exact ⟨t,cSuc (by simp only [q0M.f];exact ht)⟩
 termination_by n=>SizeOf.sizeOf n
 decreasing_by
  have:=List.sizeOf_lt_of_mem hx
  simp only [S28.mk.sizeOf_spec]
  omega
theorem q5E (n:S28) (h:Small n) (q:Int):∃ t,q0S (fun k=>q1H.f k n.f0 n.f1 n.f2 n.f3 q) t:=by
 obtain ⟨t,ht⟩:=q5u n h q
 exact ⟨_,cBin ht (cCon _)⟩
end Go.Proofs.YtmffocankommaaaGreatDoor.B
end
section
namespace Go.Proofs.YtmffocankommaaaGreatDoor.B
open Go.RowKit Go.Proofs.YtmffocankommaaaGreatDoorW.PrintWords Go.Proofs.YtmffocankommaaaGreatDoorW.PrintLast Go.Proofs.YtmffocankommaaaGreatDoorW.PrintMore Go.Proofs.YtmffocankommaaaGreatDoorY
set_option linter.unusedVariables false
theorem rd36 {xs:List S61} {i:Nat} (h:i < xs.length):q3e xs (i:Int) = xs[i]:=by
 show xs.getD i z61 = xs[i]
 rw [List.getD_eq_getElem?_getD,List.getElem?_eq_getElem h]
 rfl
theorem q3R {i:Nat} (h:i≤1000000):wrap64 ((i:Int) + 1) = ((i + 1:Nat):Int):=by unfold wrap64;omega
/-- Token i is this sign. -/
def Hit (l:List S61) (i:Nat) (s:ByteArray):Prop:=∃ h:i < l.length,l[i].f0 = 4∧l[i].f1.toList = s.toList
instance (l:List S61) (i:Nat) (s:ByteArray):Decidable (Hit l i s):=by unfold Hit;exact inferInstance
section
variable (l:List S61) (i:Nat) (s:ByteArray)
theorem q7i:q0w.f l (l.length:Int) false = some (0,⟨#[]⟩,0,(l.length:Int),false):=by simp [q0w.f]
theorem q2V (h:i < l.length):q0w.f l (i:Int) false = some (l[i].f0,l[i].f1,l[i].f2,(i:Int),false):=by
 unfold q0w.f
 rw [if_neg (by decide),if_neg (by omega),if_pos (by omega),if_pos (by omega),rd36 h]
theorem q3Z (hi:i≤l.length) (hs:i≤1000000):q0i.f l (i:Int) false s = some (if Hit l i s then (true,((i + 1:Nat):Int),false) else (false,(i:Int),false)):=by
 unfold q0i.f q1i.f
 by_cases h:i < l.length
 ·rw [q2V l i h]
  simp only [Option.bind_some]
  by_cases h4:l[i].f0 = 4
  ·rw [if_pos h4]
   simp only [Option.bind_some]
   by_cases ht:l[i].f1.toList = s.toList
   ·rw [if_pos (show Hit l i s from ⟨h,h4,ht⟩),if_pos (by rw [ht];exact beq_self_eq_true _),q3R hs]
   ·rw [if_neg (show ¬ Hit l i s from fun k=>ht k.2.2),if_neg (by simpa using ht)]
  ·rw [if_neg h4,if_neg (show ¬ Hit l i s from fun k=>h4 k.2.1)]
   simp
 ·obtain rfl:i = l.length:=by omega
  rw [q7i,if_neg (show ¬ Hit l l.length s from fun k=>by obtain ⟨k,_⟩:=k;omega)]
  simp
theorem q7V (hi:i≤l.length) (hs:i≤1000000):q0F.f l (i:Int) false s = some (if Hit l i s then (((i + 1:Nat):Int),false) else ((i:Int),true)):=by
 unfold q0F.f
 rw [q3Z l i s hi hs]
 by_cases h:Hit l i s
 ·rw [if_pos h,if_pos h];simp
 ·rw [if_neg h,if_neg h];simp
theorem q7U (q:Int) (h:i < l.length) (hk:l[i].f0 = q) (hs:i≤1000000):q1j.f l (i:Int) false q = some (l[i].f1,((i + 1:Nat):Int),false):=by
 unfold q1j.f
 rw [q2V l i h]
 simp only [Option.bind_some]
 rw [if_pos hk,q3R hs]
end
/-- From some number of rounds on, f comes to r. -/
theorem cIte {α:Type} {c:Prop} [Decidable c] {f g:Nat → Option α} {r:α} (hf:c → q0S f r) (hg : ¬ c → q0S g r):q0S (fun k=>if c then f k else g k) r:=by
 by_cases h:c
 ·exact cPos h (hf h)
 ·exact cNeg h (hg h)
theorem cVal {α:Type} {x r:α} (h:x = r):q0S (fun _=>some x) r:=h ▸ cCon _
theorem q0S.mono {α:Type} {f:Nat → Option α} {r:α} (h:∀ k,LeO (f k) (f (k + 1))) (k:Nat) (hk:f k = some r):q0S f r:=by
 refine ⟨k,fun j hj=>?_⟩
 obtain ⟨d,rfl⟩:∃ d,j = k + d:=⟨j - k,by omega⟩
 clear hj
 induction d with
 | zero=>exact hk
 | succ d ih=>exact h _ _ ih
def q4u (n:S28) (i:Nat) (b:Bool):Int × ByteArray × Int × (List S28) × Int × Bool:=(n.f0,n.f1,n.f2,n.f3,(i:Int),b)
def q4A (n:S28) (ok:Bool) (i:Nat) (b:Bool):Int × ByteArray × Int × (List S28) × Bool × Int × Bool:=(n.f0,n.f1,n.f2,n.f3,ok,(i:Int),b)
def one (x:List S28):S28:=if x.length = 1 then q0b x 0 else ⟨5,⟨#[]⟩,0,x⟩
theorem q8G (l:List S61) (hl:l.length≤1000000):q0S (fun k=>q0u.f k l (l.length:Int) false) (q4A ⟨0,⟨#[]⟩,0,[]⟩ false l.length false):=by
 have h:∀ s,¬ Hit l l.length s:=fun s k=>by obtain ⟨k,_⟩:=k;omega
 apply cSuc
 simp only [q0u.f,q7i,q3Z l l.length _ (Nat.le_refl _) hl,if_neg (h _),Option.bind_some]
 exact cCon _
theorem q4D (l:List S61) (x:List S28) (i:Nat) (b:Bool) (q0:Int) (q1:ByteArray) (q2:Int) (q3:List S28):q0S (fun k=>q0a.j1 k x true l (i:Int) b q0 q1 q2 q3) (q4u (one x) i b):=by
 apply cSuc
 simp only [q0a.j1]
 refine cPos trivial ?_
 unfold one
 by_cases h:x.length = 1
 ·rw [if_pos h]
  exact cPO (cPO (cCon _))
 ·rw [if_neg h]
  exact cNO (cCon _)
theorem tl1 (c:UInt8):(⟨#[c]⟩:ByteArray).toList = [c]:=by rw [ByteArray.toList_eq]
theorem Small.size:∀ {n:S28},Small n → n.f3.length≤1048576
 | _,.mk _ _ _ _ hl _=>hl
theorem Small.kids:∀ {n:S28},Small n → ∀ x,x ∈ n.f3 → Small x
 | _,.mk _ _ _ _ _ hk=>hk
def Cnt (n:S28) (i i':Nat):Prop:=n.f0 = 5 → n.f3.length + i≤i'∧∀ y,y ∈ n.f3 → y.f0≠5
def Good (n:S28) (i i':Nat):Prop:=Small n∧Cnt n i i'
theorem Good.of {a:Int} {b:ByteArray} {c:Int} {l:List S28} {i i':Nat} (h:Small ⟨a,b,c,l⟩) (ha:a≠5):Good ⟨a,b,c,l⟩ i i':=⟨h,fun k=>absurd k ha⟩
theorem Good.wide {n:S28} {i i' j j':Nat} (h:Good n i i') (hj:j≤i) (hk:i'≤j'):Good n j j':=⟨h.1,fun k=>⟨by have:=(h.2 k).1;omega,(h.2 k).2⟩⟩
theorem Cnt.wide {n:S28} {i i' j j':Nat} (h:Cnt n i i') (hj:j≤i) (hk:i'≤j'):Cnt n j j':=fun k=>⟨by have:=(h k).1;omega,(h k).2⟩
section
variable {l:List S61} {i:Nat} {s:ByteArray}
theorem q4w (hi:i≤l.length) (hs:i≤1000000) (h : ¬ Hit l i s):q0i.f l (i:Int) false s = some (false,(i:Int),false):=by rw [q3Z l i s hi hs,if_neg h]
theorem q5I (hi:i≤l.length) (hs:i≤1000000) (h:Hit l i s):q0i.f l (i:Int) false s = some (true,((i + 1:Nat):Int),false):=by rw [q3Z l i s hi hs,if_pos h]
theorem q5N (hi:i≤l.length) (hs:i≤1000000) (h:Hit l i s):q0F.f l (i:Int) false s = some (((i + 1:Nat):Int),false):=by rw [q7V l i s hi hs,if_pos h]
end
theorem q6c (n:S28):(⟨n.f0,n.f1,n.f2,n.f3⟩:S28) = n:=by cases n;rfl
section
variable {l:List S61} {c c1 c2:Int} {t:S61} {k:Nat} (hn:q0w.f l c false = some (t.f0,t.f1,t.f2,c,false)) (hw:wrap64 (c + 1) = c1) (hr:q3e l c = t) (h0:0≤c) (hl:c < (l.length:Int))
include hn in
theorem m_none (h1:t.f0≠1) (ha:∀ u:UInt8,u ∈ ([45,58,126,64,91,40]:List UInt8) → q0i.f l c false ⟨#[u]⟩ = some (false,c,false)):q0u.f (k + 1) l c false = some (0,⟨#[]⟩,0,[],false,c,false):=by
 simp only [q0u.f,hn,Option.bind_some,if_neg h1,ha 45 (by decide),ha 58 (by decide),ha 126 (by decide),ha 64 (by decide),ha 91 (by decide),ha 40 (by decide),Bool.false_eq_true,if_false]
include hn in
theorem q7X (h1:t.f0≠1) {v:UInt8} {q:Int} (hv:v = 45∧q = 2∨v = 58∧q = 9∨v = 126∧q = 10) (ha:∀ u:UInt8,q0i.f l c false ⟨#[u]⟩ = some (if u = v then (true,c1,false) else (false,c,false))):q0u.f (k + 1) l c false = some (q,⟨#[]⟩,0,[],true,c1,false):=by
 rcases hv with ⟨rfl,rfl⟩ | ⟨rfl,rfl⟩ | ⟨rfl,rfl⟩ <;> simp [q0u.f,hn,h1,ha]
include hn in
theorem m_at (h1:t.f0≠1) (ha:∀ u:UInt8,q0i.f l c false ⟨#[u]⟩ = some (if u = 64 then (true,c1,false) else (false,c,false))):q0u.f (k + 1) l c false = (q1M.f l c1 false).bind fun aT=>some (11,aT.1,0,[],true,aT.2.1,aT.2.2):=by
 simp [q0u.f,hn,h1,ha]
include hn in
theorem m_box (h1:t.f0≠1) (ha:∀ u:UInt8,q0i.f l c false ⟨#[u]⟩ = some (if u = 91 then (true,c1,false) else (false,c,false))):q0u.f (k + 1) l c false = (q0a.f k l c1 false).bind fun aW=>(q0F.f l aW.2.2.2.2.1 aW.2.2.2.2.2 ⟨#[93]⟩).bind fun aX=>some (8,⟨#[]⟩,0,[⟨aW.1,aW.2.1,aW.2.2.1,aW.2.2.2.1⟩],true,aX.1,aX.2):=by
 simp [q0u.f,hn,h1,ha]
include hn in
theorem m_alt (h1:t.f0≠1) (ha:∀ u:UInt8,q0i.f l c false ⟨#[u]⟩ = some (if u = 40 then (true,c1,false) else (false,c,false))):q0u.f (k + 1) l c false = (q0a.f k l c1 false).bind fun aZ=>q0u.l0 k [⟨aZ.1,aZ.2.1,aZ.2.2.1,aZ.2.2.2.1⟩] l aZ.2.2.2.2.1 aZ.2.2.2.2.2:=by
 simp [q0u.f,hn,h1,ha]
include hn hw in
theorem m_one (h1:t.f0 = 1) (hu:t.f1.toList = ([117]:List UInt8)):q0u.f (k + 1) l c false = some (1,⟨#[]⟩,0,[],true,c1,false):=by
 simp [q0u.f,hn,h1,hu,hw]
include hn hw in
theorem m_any (h1:t.f0 = 1) (hu:t.f1.toList = ([120]:List UInt8)):q0u.f (k + 1) l c false = some (3,⟨#[]⟩,0,[],true,c1,false):=by
 simp [q0u.f,hn,h1,hu,hw]
include hn hw in
theorem m_name (h1:t.f0 = 1) (hu:t.f1.toList≠([117]:List UInt8)) (hx:t.f1.toList≠([120]:List UInt8)) (ha:q0i.f l c1 false ⟨#[123]⟩ = some (false,c1,false)):q0u.f (k + 1) l c false = some (4,t.f1,0,[],true,c1,false):=by
 simp [q0u.f,hn,h1,hu,hx,hw,ha]
include hn hw in
theorem m_bound (h1:t.f0 = 1) (hu:t.f1.toList≠([117]:List UInt8)) (hx:t.f1.toList≠([120]:List UInt8)) (ha:q0i.f l c1 false ⟨#[123]⟩ = some (true,c2,false)):q0u.f (k + 1) l c false = (q0a.f k l c2 false).bind fun aH=>(q0F.f l aH.2.2.2.2.1 aH.2.2.2.2.2 ⟨#[125]⟩).bind fun aI=>some (12,t.f1,0,[⟨aH.1,aH.2.1,aH.2.2.1,aH.2.2.2.1⟩],true,aI.1,aI.2):=by
 simp [q0u.f,hn,h1,hu,hx,hw,ha]
end
/-- q0S to a part, or fails. -/
def T7 (j i len:Nat) (f:Nat → Option (Int × ByteArray × Int × (List S28) × Bool × Int × Bool)):Prop:=
 (∃ n i1,q0S f (q4A n true i1 true))∨(∃ n i',Good n j i'∧i < i'∧i'≤len∧q0S f (q4A n true i' false))
def T6 (j i len:Nat) (f:Nat → Option (Int × ByteArray × Int × (List S28) × Int × Bool)):Prop:=
 (∃ n i1,q0S f (q4u n i1 true))∨(∃ n i',Good n j i'∧i≤i'∧i'≤len∧q0S f (q4u n i' false))
theorem T7.map {j i i0 len:Nat} {f f'} (h:T7 j i0 len f) (hi:i≤i0) (hf:∀ r,q0S f r → q0S f' r):T7 j i len f':=by
 rcases h with ⟨n,i1,a⟩ | ⟨n,i',h,hl,hl',a⟩
 ·exact .inl ⟨n,i1,hf _ a⟩
 ·exact .inr ⟨n,i',h,by omega,hl',hf _ a⟩
theorem T6.map {j i i0 len:Nat} {f f'} (h:T6 j i0 len f) (hi:i≤i0) (hf:∀ r,q0S f r → q0S f' r):T6 j i len f':=by
 rcases h with ⟨n,i1,a⟩ | ⟨n,i',h,hl,hl',a⟩
 ·exact .inl ⟨n,i1,hf _ a⟩
 ·exact .inr ⟨n,i',h,by omega,hl',hf _ a⟩
theorem T7.succ {j i len:Nat} {f} (h:T7 j i len (fun k=>f (k + 1))):T7 j i len f:=h.map (Nat.le_refl _) (fun _=>cSuc)
theorem T6.succ {j i len:Nat} {f} (h:T6 j i len (fun k=>f (k + 1))):T6 j i len f:=h.map (Nat.le_refl _) (fun _=>cSuc)
theorem T6.then {j i0 j' i len:Nat} {f:Nat → Option (Int × ByteArray × Int × (List S28) × Int × Bool)} {F:Nat → Int × ByteArray × Int × (List S28) × Int × Bool → Option (Int × ByteArray × Int × (List S28) × Bool × Int × Bool)} (h:T6 j i0 len f)
  (hF:∀ n i1,∃ n' i',q0S (fun k=>F k (q4u n i1 true)) (q4A n' true i' true)) (hok:∀ n i',Good n j i' → i0≤i' → i'≤len → T7 j' i len (fun k=>F k (q4u n i' false))):T7 j' i len (fun k=>(f k).bind (F k)):=by
 rcases h with ⟨n,i1,a⟩ | ⟨n,i',h,hl,hl',a⟩
 ·obtain ⟨n',i',hF⟩:=hF n i1
  exact .inl ⟨n',i',cBin a hF⟩
 ·exact (hok n i' h hl hl').map (Nat.le_refl _) (fun _=>cBin a)
end Go.Proofs.YtmffocankommaaaGreatDoor.B
end
section
namespace Go.Proofs.YtmffocankommaaaGreatDoor.B
open Go.RowKit Go.Proofs.YtmffocankommaaaGreatDoorW.PrintWords Go.Proofs.YtmffocankommaaaGreatDoorW.PrintLast Go.Proofs.YtmffocankommaaaGreatDoorW.PrintMore Go.Proofs.YtmffocankommaaaGreatDoorY
set_option linter.unusedVariables false
theorem q8O {i:Nat} (h:i≤1000000):wrap64 ((i:Int) + 2) = ((i + 2:Nat):Int):=by unfold wrap64;omega
theorem q2U {s:ByteArray} {i j m:Nat} (hj:j≤s.size) (h:m < j - i):bt (s.extract i j) ((m:Nat):Int) = bt s ((i + m:Nat):Int):=by
 have h1:((m:Nat):Int).toNat = m:=Int.toNat_natCast _
 have h2:((i + m:Nat):Int).toNat = i + m:=Int.toNat_natCast _
 unfold bt
 rw [dif_pos (show ((m:Nat):Int).toNat < (s.extract i j).size by rw [h1,ByteArray.size_extract];omega),dif_pos (show ((i + m:Nat):Int).toNat < s.size by rw [h2];omega)]
 simp only [h1,h2,ByteArray.getElem_extract]
theorem q2Y {s:ByteArray} {i j:Nat} (hj:j≤s.size):(s.extract i j).size = j - i:=by rw [ByteArray.size_extract];omega
def Dg (c:Int):Bool:=decide (48≤c) && decide (c≤57)
def Sm (c:Int):Bool:=decide (97≤c) && decide (c≤122)
theorem q2W (c:Int):q1R.f c = some (Dg c):=by
 unfold q1R.f Dg
 by_cases h:c≥48
 ·rw [if_pos h,decide_eq_true (show (48:Int)≤c from h)];simp
 ·rw [if_neg h,decide_eq_false (show ¬ (48:Int)≤c from h)];simp
theorem q2I (c:Int):q1L.f c = some (Sm c):=by
 unfold q1L.f Sm
 by_cases h:c≥97
 ·rw [if_pos h,decide_eq_true (show (97:Int)≤c from h)];simp
 ·rw [if_neg h,decide_eq_false (show ¬ (97:Int)≤c from h)];simp
theorem q7e (c:Int):q2b.f c = some (Dg c):=q2W c
theorem q5K (c:Int):q1E.f c = some (Sm c):=q2I c
theorem q6v (s:ByteArray) (hs:s.size≤20000):∀ (d i:Nat),i + d = s.size → ∃ t:Nat,i≤t∧t≤s.size∧(∀ m,i≤m → m < t → Dg (bt s ((m:Nat):Int)) = true)∧(t < s.size → Dg (bt s (t:Int)) = false)∧q0S (fun k=>q1c.l0 k s (i:Int)) (t:Int):=by
 intro d
 induction d with
 | zero=>
  intro i hi
  refine ⟨i,Nat.le_refl _,by omega,fun m h1 h2=>by omega,fun h=>by omega,cSuc ?_⟩
  simp only [q1c.l0]
  exact cNO (cCon _)
 | succ d IH=>
  intro i hi
  cases hb:Dg (bt s (i:Int)) with
  | true=>
   obtain ⟨t,h1,h2,h3,h4,h5⟩:=IH (i + 1) (by omega)
   refine ⟨t,by omega,h2,fun m m1 m2=>?_,h4,cSuc ?_⟩
   ·by_cases e:m = i
    ·rw [e];exact hb
    ·exact h3 m (by omega) m2
   ·simp only [q1c.l0,q2W,hb,Option.bind_some,if_true,q3R (show i≤1000000 by omega)]
    exact cPO (cPO h5)
  | false=>
   refine ⟨i,Nat.le_refl _,by omega,fun m h1 h2=>by omega,fun _=>hb,cSuc ?_⟩
   simp only [q1c.l0,q2W,hb,Option.bind_some,Bool.false_eq_true,if_false]
   exact cPO (cPO (cCon _))
theorem q5a (s:ByteArray) (hs:s.size≤20000):∃ t:Nat,t≤s.size∧(∀ m,m < t → Dg (bt s ((m:Nat):Int)) = true)∧(t < s.size → Dg (bt s (t:Int)) = false)∧q0S (fun k=>q1c.f k s) (t:Int)∧True:=by
 obtain ⟨t,h1,h2,h3,h4,h5⟩:=q6v s hs s.size 0 (by omega)
 exact ⟨t,h2,fun m hm=>h3 m (Nat.zero_le _) hm,h4,h5,trivial⟩
theorem q7q (a:ByteArray) (h1:0 < a.size) (h6:a.size≤6) (hd:∀ m,m < a.size → Dg (bt a ((m:Nat):Int)) = true):∃ v,q0S (fun k=>q0Q.f k a) (if 1 < a.size∧bt a 0 = 48 then (0,false) else (v,true)):=by
 have h0 : ¬ a.toList = ([]:List UInt8):=by
  rw [ByteArray.toList_eq]
  intro h
  have:=congrArg List.length h
  rw [q3p] at this
  have:a.size = 0:=this
  omega
 obtain ⟨t,ht,hm,hn,hc,_⟩:=q5a a (by omega)
 have et:t = a.size:=by
  rcases Nat.lt_or_ge t a.size with h | h
  ·have:=hn h;rw [hd t h] at this;cases this
  ·omega
 subst et
 have loop:∀ (d i:Nat) (x:Int),i + d = a.size → ∃ r,q0S (fun k=>q0Q.l0 k x (q3G a) (a.size:Int) (i:Int)) (r,true):=by
  intro d
  induction d with
  | zero=>
   intro i x hi
   exact ⟨x,cSuc (by simp only [q0Q.l0];exact cNO (cCon _))⟩
  | succ d IH=>
   intro i x hi
   obtain ⟨r,hr⟩:=IH (i + 1) (wrap64 ((wrap64 (10 * x)) + (((rd (q3G a) (i:Int)) - 48) % 256))) (by omega)
   refine ⟨r,cSuc ?_⟩
   simp only [q0Q.l0,q2N,q3R (show i≤1000000 by omega)]
   exact cPO (cPO (cPO hr))
 obtain ⟨r,hr⟩:=loop a.size 0 0 (by omega)
 have jf:q0S (fun k=>q0Q.j0 k a false) (r,true):=by
  apply cSuc
  simp only [q0Q.j0,Option.bind_some]
  refine cND (cPO ?_)
  rw [q2N]
  exact hr
 have jt:q0S (fun k=>q0Q.j0 k a true) (0,false):=cSuc (by simp only [q0Q.j0];exact cPos trivial (cCon _))
 refine ⟨r,?_⟩
 unfold q0Q.f
 by_cases hs:a.size > 1
 ·by_cases hb:bt a 0 = 48
  ·rw [if_pos ⟨hs,hb⟩]
   refine cNeg h0 (cNO (cBin hc (cPos rfl (cPO (cPO ?_)))))
   rw [show (bt a 0 == 48) = true from by simpa using hb];exact jt
  ·rw [if_neg (fun k=>hb k.2)]
   refine cNeg h0 (cNO (cBin hc (cPos rfl (cPO (cPO ?_)))))
   rw [show (bt a 0 == 48) = false from by simpa using hb];exact jf
 ·rw [if_neg (fun k=>hs k.1)]
  exact cNeg h0 (cNO (cBin hc (cPos rfl (cNO jf))))
theorem q5D (s:ByteArray) (hs:s.size≤20000):∀ (k i:Nat),i≤s.size → (q0v.l0 k s (i:Int) = q0E.l0 k s (i:Int))∧(i < s.size → ∀ b,q0v.j2 k s (i:Int) b = q0E.j2 k s (i:Int) (bt s (i:Int)) b)
 | 0,i,hi=>⟨rfl,fun _ _=>rfl⟩
 | k + 1,i,hi=>by
  have w1:=q3R (show i≤1000000 by omega)
  have w2:=q8O (show i≤1000000 by omega)
  refine ⟨?_,fun h b=>?_⟩
  ·simp only [q0v.l0,q0E.l0,q2W,q2I,q7e,q5K,Option.bind_some]
   by_cases h:i < s.size
   ·simp only [(q5D s hs k i hi).2 h]
   ·rw [if_neg (by omega),if_neg (by omega)]
  ·simp only [q0v.j2,q0E.j2,q2W,q2I,q7e,q5K,Option.bind_some,w1,w2]
   rw [(q5D s hs k (i + 1) h).1,if_pos (show (0:Int)≤(i:Int) by omega),if_pos (show (i:Int) < (s.size:Int) by omega)]
   by_cases h1:i + 1 < s.size
   ·rw [(q5D s hs k (i + 2) h1).1,if_neg (show ¬ ((i + 1:Nat):Int) = (s.size:Int) by omega)]
    simp only [if_pos (show (0:Int)≤((i + 1:Nat):Int) by omega),if_pos (show ((i + 1:Nat):Int) < (s.size:Int) by omega)]
   ·rw [if_pos (show ((i + 1:Nat):Int) = (s.size:Int) by omega)]
    simp only [if_neg (show ¬ ((i + 1:Nat):Int) < (s.size:Int) by omega)]
theorem q8m (s:ByteArray) (hs:s.size≤20000):∀ (d i:Nat),i + d = s.size → ∃ t:Nat,i≤t∧t≤s.size∧q0S (fun k=>q0E.l0 k s (i:Int)) (t:Int):=by
 intro d
 induction d using Nat.strongRecOn with
 | _ d IH=>
  intro i hi
  have w1:=q3R (show i≤1000000 by omega)
  have w2:=q8O (show i≤1000000 by omega)
  by_cases h:i < s.size
  ·have hj:∀ b,∃ t:Nat,i≤t∧t≤s.size∧q0S (fun k=>q0E.j2 k s (i:Int) (bt s (i:Int)) b) (t:Int):=by
    intro b
    obtain ⟨t1,a1,b1,c1⟩:=IH (d - 1) (by omega) (i + 1) (by omega)
    cases b with
    | true=>exact ⟨t1,by omega,b1,cSuc (by simp only [q0E.j2,w1];exact cPos trivial c1)⟩
    | false=>
     by_cases h45:bt s (i:Int) = 45
     ·by_cases h1:i + 1 < s.size
      ·obtain ⟨t2,a2,b2,c2⟩:=IH (d - 2) (by omega) (i + 2) (by omega)
       by_cases hx:Sm (bt s ((i + 1:Nat):Int)) = true
       ·exact ⟨t2,by omega,b2,cSuc (by simp only [q0E.j2,w1,w2,q2I,Option.bind_some];exact cND (cPos h45 (cPO (cPO (cPos hx c2)))))⟩
       ·by_cases hy:Dg (bt s ((i + 1:Nat):Int)) = true
        ·exact ⟨t2,by omega,b2,cSuc (by simp only [q0E.j2,w1,w2,q2I,q2W,Option.bind_some];exact cND (cPos h45 (cPO (cPO (cNeg hx (cPos hy c2))))))⟩
        ·exact ⟨i,Nat.le_refl _,by omega,cSuc (by simp only [q0E.j2,w1,w2,q2I,q2W,Option.bind_some];exact cND (cPos h45 (cPO (cPO (cNeg hx (cNeg hy (cCon _)))))))⟩
      ·exact ⟨i,Nat.le_refl _,by omega,cSuc (by simp only [q0E.j2,w1];exact cND (cPos h45 (cNO (cCon _))))⟩
     ·exact ⟨i,Nat.le_refl _,by omega,cSuc (by simp only [q0E.j2];exact cND (cNeg h45 (cCon _)))⟩
   by_cases hx:Sm (bt s (i:Int)) = true
   ·obtain ⟨t,a1,b1,c1⟩:=hj true
    exact ⟨t,a1,b1,cSuc (by simp only [q0E.l0,q2I,Option.bind_some];exact cPO (cPO (cPos hx c1)))⟩
   ·obtain ⟨t,a1,b1,c1⟩:=hj (Dg (bt s (i:Int)))
    exact ⟨t,a1,b1,cSuc (by simp only [q0E.l0,q2I,q2W,Option.bind_some];exact cPO (cPO (cNeg hx c1)))⟩
  ·exact ⟨i,Nat.le_refl _,by omega,cSuc (by simp only [q0E.l0];exact cNO (cCon _))⟩
theorem name_rf (s:ByteArray) (hs:s.size≤20000) (h0:0 < s.size) (k:Nat):q0v.f k s = q0E.f k s:=by
 unfold q0v.f q0E.f
 have e:∀ b,q0v.j0 k s b = q0E.j0 k s b:=by
  intro b
  cases k with
  | zero=>rfl
  | succ k=>
   simp only [q0v.j0,q0E.j0]
   have:=(q5D s hs k 1 h0).1
   rw [show ((1:Nat):Int) = 1 from rfl] at this
   rw [this]
 simp only [e,q2I,q5K]
theorem q5b (s:ByteArray) (hs:s.size≤20000) (h0:0 < s.size):(Sm (bt s 0) = true → ∃ t:Nat,1≤t∧t≤s.size∧q0S (fun k=>q0E.f k s) (t:Int))∧(Sm (bt s 0) = false → q0S (fun k=>q0E.f k s) 0):=by
 have hn : ¬ s.toList = ([]:List UInt8):=by
  rw [ByteArray.toList_eq]
  intro h
  have:=congrArg List.length h
  rw [q3p] at this
  have:s.size = 0:=this
  omega
 unfold q0E.f
 refine ⟨fun hb=>?_,fun hb=>?_⟩
 ·obtain ⟨t,a1,b1,c1⟩:=q8m s hs (s.size - 1) 1 (by omega)
  refine ⟨t,a1,b1,?_⟩
  simp only [q2I,hb,Option.bind_some]
  exact cNeg hn (cPO (cSuc (by simp only [q0E.j0];exact cND c1)))
 ·simp only [q2I,hb,Option.bind_some]
  exact cNeg hn (cPO (cSuc (by simp only [q0E.j0];exact cPD (cCon _))))
end Go.Proofs.YtmffocankommaaaGreatDoor.B
end
section
namespace Go.Proofs.YtmffocankommaaaGreatDoor.B
open Go.RowKit Go.Proofs.YtmffocankommaaaGreatDoorW.PrintWords Go.Proofs.YtmffocankommaaaGreatDoorW.PrintLast Go.Proofs.YtmffocankommaaaGreatDoorW.PrintMore Go.Proofs.YtmffocankommaaaGreatDoorY
set_option linter.unusedVariables false
/-- Nodes of these kinds have names. -/
def Nm (a:Int):Bool:=decide (a = 4∨a = 11∨a = 12)
def no5 (x:List S28):Bool:=x.all fun y=>decide (y.f0≠5)
def ShpT (a:Int) (x:List S28):Bool:=if a = 5 then decide (x.length≠1) && no5 x else if a = 6 then decide (2≤x.length) else if a = 7 then decide (x.length = 1) else if a = 8 then decide (x.length = 1) else if a = 12 then decide (x.length = 1) else decide (x.length = 0)
/-- The kind, the fields and the kids of a node fit together. -/
def Shp (a:Int) (b:ByteArray) (c:Int) (x:List S28):Bool:=decide (1≤a) && decide (a≤12) && (Nm a || decide (b.toList = [])) && (decide (a = 7) || decide (c = 0)) && ShpT a x
theorem q4U (a:Int):q2g.f a = some (Nm a):=by
 unfold q2g.f Nm
 by_cases h4:a = 4 <;> by_cases h11:a = 11 <;> by_cases h12:a = 12 <;> simp_all
theorem q4E {x:List S28} {i:Nat} (h:i < x.length):no5 (x.drop i) = (decide (x[i].f0≠5) && no5 (x.drop (i + 1))):=by
 unfold no5
 rw [List.drop_eq_getElem_cons h,List.all_cons]
theorem q8Q (x:List S28) (hl:x.length≤1048576):∀ (d i:Nat),i + d = x.length → ∃ q:Int,q0S (fun k=>q1r.l0 k x (x.length:Int) (i:Int)) q∧decide (q≥0) = !(no5 (x.drop i)):=by
 intro d
 induction d with
 | zero=>
  intro i hi
  refine ⟨-1,cSuc ?_,?_⟩
  ·simp only [q1r.l0]
   exact cNO (cCon _)
  ·rw [List.drop_eq_nil_of_le (by omega)];rfl
 | succ d IH=>
  intro i hi
  have h:i < x.length:=by omega
  obtain ⟨q,hq,e⟩:=IH (i + 1) (by omega)
  by_cases h5:x[i].f0 = 5
  ·refine ⟨i,cSuc ?_,?_⟩
   ·simp only [q1r.l0,q2H.f,rd25 h,Option.bind_some,h5]
    exact cPO (cPO (cPO (cPD (cCon _))))
   ·rw [q4E h,decide_eq_true (show ((i:Nat):Int)≥0 by omega),decide_eq_false (not_not_intro h5)];rfl
  ·refine ⟨q,cSuc ?_,?_⟩
   ·simp only [q1r.l0,q2H.f,rd25 h,Option.bind_some,q2e (show i≤1048576 by omega)]
    exact cPO (cPO (cPO (cNeg (by simpa using h5) hq)))
   ·rw [q4E h,e,decide_eq_true h5,Bool.true_and]
theorem q4x (a:Int) (b:ByteArray) (c:Int) (x:List S28) (hl:x.length≤1048576):q0S (fun k=>q0P.f k a b c x) (Shp a b c x):=by
 have J2:q0S (fun k=>q0P.j2 k a b c x) (ShpT a x):=by
  obtain ⟨q,hq,e⟩:=q8Q x hl x.length 0 (by omega)
  rw [List.drop_zero] at e
  apply cSuc
  unfold ShpT
  simp only [q0P.j2]
  refine cIte (fun h=>?_) (fun h=>?_)
  ·rw [if_pos h]
   refine cIte (fun h=>cVal ?_) (fun h=>?_)
   ·rw [decide_eq_false (by omega),Bool.false_and]
   ·rw [decide_eq_true (by omega),Bool.true_and]
    unfold q2u.f q1r.f
    refine cBin (cBin hq (cCon _)) (cVal ?_)
    rw [e,Bool.not_not]
  rw [if_neg h]
  have e1:((x.length:Int) == 1) = decide (x.length = 1):=by
   by_cases k:x.length = 1 <;> simp [k];omega
  have e0:((x.length:Int) == 0) = decide (x.length = 0):=by
   by_cases k:x.length = 0 <;> simp [k]
  rw [e1,e0]
  refine cIte (fun h=>cVal ?_) (fun h=>?_)
  ·rw [if_pos h];congr 1;exact propext ⟨fun k=>by omega,fun k=>by omega⟩
  rw [if_neg h]
  refine cIte (fun h=>cVal (by rw [if_pos h])) (fun h=>?_)
  rw [if_neg h]
  refine cIte (fun h=>cVal (by rw [if_pos h])) (fun h=>?_)
  rw [if_neg h]
  refine cIte (fun h=>cVal (by rw [if_pos h])) (fun h=>?_)
  rw [if_neg h]
  exact cCon _
 have J1:∀ z,q0S (fun k=>q0P.j1 k z a b c x) (!z && (decide (a = 7) || decide (c = 0)) && ShpT a x):=by
  intro z
  apply cSuc
  simp only [q0P.j1]
  cases z with
  | true=>exact cPos rfl (cCon _)
  | false=>
   refine cND (cIte (fun h=>?_) (fun h=>cIte (fun h'=>?_) (fun h'=>cVal ?_)))
   ·rw [decide_eq_true h];simpa using J2
   ·rw [decide_eq_false h,decide_eq_true h'];simpa using J2
   ·rw [decide_eq_false h,decide_eq_false h'];rfl
 have J0:∀ z,q0S (fun k=>q0P.j0 k z a b c x) (!z && ((Nm a || decide (b.toList = [])) && ((decide (a = 7) || decide (c = 0)) && ShpT a x))):=by
  intro z
  apply cSuc
  simp only [q0P.j0,q4U,Option.bind_some]
  cases z with
  | true=>exact cPos rfl (cCon _)
  | false=>
   refine cND (cIte (fun h=>?_) (fun h=>?_))
   ·rw [h];exact J1 false
   ·rw [Bool.eq_false_iff.2 h]
    by_cases hb:b.toList = []
    ·have:=J1 false
     rw [show (b.toList != ([]:List UInt8)) = false from by simpa using hb,decide_eq_true hb]
     exact this
    ·have:=J1 true
     rw [show (b.toList != ([]:List UInt8)) = true from by simpa using hb,decide_eq_false hb]
     exact this
 unfold q0P.f Shp
 refine cIte (fun h=>?_) (fun h=>?_)
 ·rw [decide_eq_false (show ¬ 1≤a by omega)];exact J0 true
 ·rw [decide_eq_true (show 1≤a by omega)]
  have:=J0 (decide (a > 12))
  rw [show (!(decide (a > 12))) = decide (a≤12) from by rw [← decide_not];congr 1;exact propext ⟨fun k=>by omega,fun k=>by omega⟩] at this
  simpa only [Bool.true_and,Bool.and_assoc] using this
theorem q6E (a:Int) (b:ByteArray) (c:Int) (x:List S28) (hl:x.length≤1048576):∀ (d i:Nat),i + d = x.length → q0S (fun k=>q0s.l0 k (i:Int) a b c x) (decide (x.length≠1) && no5 (x.drop i)):=by
 intro d
 induction d with
 | zero=>
  intro i hi
  apply cSuc
  simp only [q0s.l0]
  refine cNO (cVal ?_)
  rw [List.drop_eq_nil_of_le (by omega)]
  by_cases k:x.length = 1 <;> simp [k,no5];omega
 | succ d IH=>
  intro i hi
  have h:i < x.length:=by omega
  apply cSuc
  simp only [q0s.l0,rd25 h,q2e (show i≤1048576 by omega)]
  refine cPO (cPO (cIte (fun h5=>cVal ?_) (fun h5=>?_)))
  ·rw [q4E h,decide_eq_false (not_not_intro h5),Bool.false_and,Bool.and_false]
  ·have:=IH (i + 1) (by omega)
   rw [q4E h,decide_eq_true h5,Bool.true_and]
   exact this
theorem q6i (a:Int) (b:ByteArray) (c:Int) (x:List S28) (hl:x.length≤1048576):q0S (fun k=>q0s.f k a b c x) (Shp a b c x):=by
 have J1:∀ z,q0S (fun k=>q0s.j1 k z a b c x) (!z && ShpT a x):=by
  intro z
  apply cSuc
  simp only [q0s.j1]
  cases z with
  | true=>exact cPos rfl (cCon _)
  | false=>
   unfold ShpT
   rw [Bool.not_false,Bool.true_and]
   have e1:((x.length:Int) == 1) = decide (x.length = 1):=by
    by_cases k:x.length = 1 <;> simp [k];omega
   have e0:((x.length:Int) == 0) = decide (x.length = 0):=by
    by_cases k:x.length = 0 <;> simp [k]
   rw [e1,e0]
   refine cND (cIte (fun h=>?_) (fun h=>?_))
   ·rw [if_pos h]
    have:=q6E a b c x hl x.length 0 (by omega)
    rw [List.drop_zero] at this
    exact this
   rw [if_neg h]
   refine cIte (fun h=>cVal ?_) (fun h=>?_)
   ·rw [if_pos h];congr 1;exact propext ⟨fun k=>by omega,fun k=>by omega⟩
   rw [if_neg h]
   refine cIte (fun h=>cVal (by rw [if_pos h])) (fun h=>?_)
   rw [if_neg h]
   refine cIte (fun h=>cVal (by rw [if_pos h])) (fun h=>?_)
   rw [if_neg h]
   refine cIte (fun h=>cVal (by rw [if_pos h])) (fun h=>?_)
   rw [if_neg h]
   exact cCon _
 have hc:(c != 0) = !decide (c = 0):=by by_cases k:c = 0 <;> simp [k]
 have J0:∀ z,q0S (fun k=>q0s.j0 k z a b c x) (decide (1≤a) && decide (a≤12) && (z || decide (b.toList = [])) && (decide (a = 7) || decide (c = 0)) && ShpT a x):=by
  intro z
  apply cSuc
  simp only [q0s.j0]
  refine cIte (fun h=>?_) (fun h=>cIte (fun h'=>?_) (fun h'=>?_))
  ·rw [decide_eq_false (show ¬ 1≤a by omega)];exact J1 true
  ·rw [decide_eq_false (show ¬ a≤12 by omega),Bool.and_false];exact J1 true
  rw [decide_eq_true (show 1≤a by omega),decide_eq_true (show a≤12 by omega)]
  have A:q0S (fun k=>if a = 7 then q0s.j1 k false a b c x else q0s.j1 k (c != 0) a b c x) ((decide (a = 7) || decide (c = 0)) && ShpT a x):=by
   refine cIte (fun h=>?_) (fun h=>?_)
   ·rw [decide_eq_true h];exact J1 false
   ·rw [decide_eq_false h,Bool.false_or]
    have:=J1 (c != 0)
    rw [hc,Bool.not_not,← hc] at this
    exact this
  refine cIte (fun h=>?_) (fun h=>?_)
  ·rw [h];exact A
  rw [Bool.eq_false_iff.2 h]
  refine cIte (fun h=>?_) (fun h=>?_)
  ·rw [decide_eq_true h];exact A
  ·rw [decide_eq_false h];exact J1 true
 unfold q0s.f Shp Nm
 refine cIte (fun h=>?_) (fun h=>cIte (fun h'=>?_) (fun h'=>?_))
 ·rw [decide_eq_true (show a = 4∨a = 11∨a = 12 from .inl h)];exact J0 true
 ·rw [decide_eq_true (show a = 4∨a = 11∨a = 12 from .inr (.inl h'))];exact J0 true
 ·have:=J0 (a == 12)
  rw [show decide (a = 4∨a = 11∨a = 12) = (a == 12) from by by_cases k:a = 12 <;> simp [h,h',k]]
  exact this
theorem q4Z (s:ByteArray):∃ r,q0S (fun k=>q1z.f k s) r∧q0S (fun k=>q1x.f k s) r:=by
 unfold q1z.f q1x.f
 by_cases h0:s.toList = []
 ·exact ⟨_,cPos h0 (cCon _),cPos h0 (cCon _)⟩
 by_cases h20:(s.size:Int)≤20
 ·have hp:0 < s.size:=by
   rcases Nat.eq_zero_or_pos s.size with h | h
   ·exact absurd (by rw [ByteArray.toList_eq];exact List.length_eq_zero_iff.1 (by simpa using h)) h0
   ·exact h
  have hr:=name_rf s (by omega) hp
  have hc:∃ t:Int,q0S (fun k=>q0E.f k s) t:=by
   cases hb:Sm (bt s 0) with
   | true=>obtain ⟨t,_,_,h⟩:=(q5b s (by omega) hp).1 hb;exact ⟨_,h⟩
   | false=>exact ⟨_,(q5b s (by omega) hp).2 hb⟩
  obtain ⟨t,hc⟩:=hc
  refine ⟨_,cNeg h0 (cPos h20 (cBin hc (cCon _))),cNeg h0 (cPos h20 (cBin ?_ (cCon _)))⟩
  simpa only [hr] using hc
 ·exact ⟨_,cNeg h0 (cNeg h20 (cCon _)),cNeg h0 (cNeg h20 (cCon _))⟩
theorem q4Y (s:ByteArray):∃ r,q0S (fun k=>q1q.f k s) r∧q0S (fun k=>q1y.f k s) r:=by
 obtain ⟨r,h1,h2⟩:=q4Z s
 unfold q1q.f q1y.f
 have:∃ q:Bool,q0S (fun k=>if r = true then (if s.toList = ([117]:List UInt8) then (some false) else (some (s.toList != ([120]:List UInt8)))) else (some false)) q:=by
  split
  ·split <;> exact ⟨_,cCon _⟩
  ·exact ⟨_,cCon _⟩
 obtain ⟨q,hq⟩:=this
 exact ⟨q,cBin h1 hq,cBin h2 hq⟩
theorem q5t (x:List S28) (hl:x.length≤1048576) (a:Int) (b:ByteArray) (c:Int) (d:Int) (ih:∀ y,y ∈ x → ∃ e,q0S (fun k=>q0G.f k y.f0 y.f1 y.f2 y.f3 (wrap64 (d + 1))) e∧q0S (fun k=>q0q.f k y.f0 y.f1 y.f2 y.f3 (wrap64 (d + 1))) e) :
  ∀ (m i:Nat),i + m = x.length → ∃ e,q0S (fun k=>q0G.l0 k d x (x.length:Int) (i:Int)) e∧q0S (fun k=>q0q.l0 k d (i:Int) a b c x) e:=by
 intro m
 induction m with
 | zero=>
  intro i hi
  refine ⟨0,cSuc ?_,cSuc ?_⟩
  ·simp only [q0G.l0];exact cNO (cCon _)
  ·simp only [q0q.l0];exact cNO (cCon _)
 | succ m IH=>
  intro i hi
  have h:i < x.length:=by omega
  obtain ⟨e,h1,h2⟩:=ih _ (List.getElem_mem h)
  obtain ⟨e',h1',h2'⟩:=IH (i + 1) (by omega)
  by_cases he:e = 0
  ·refine ⟨e',cSuc ?_,cSuc ?_⟩
   ·simp only [q0G.l0,rd25 h,q2e (show i≤1048576 by omega)]
    exact cPO (cPO (cPO (cBin h1 (cPos he h1'))))
   ·simp only [q0q.l0,rd25 h,q2e (show i≤1048576 by omega)]
    exact cPO (cPO (cBin h2 (cPos he h2')))
  ·refine ⟨e,cSuc ?_,cSuc ?_⟩
   ·simp only [q0G.l0,rd25 h]
    exact cPO (cPO (cPO (cBin h1 (cNeg he (cCon _)))))
   ·simp only [q0q.l0,rd25 h]
    exact cPO (cPO (cBin h2 (cNeg he (cCon _))))
theorem q3L:∀ (n:S28),Small n → ∀ d:Int,∃ e,q0S (fun k=>q0G.f k n.f0 n.f1 n.f2 n.f3 d) e∧q0S (fun k=>q0q.f k n.f0 n.f1 n.f2 n.f3 d) e
 | ⟨a,b,c,x⟩,hs,d=>by
  cases hs with
  | mk _ _ _ _ hl hk=>
  obtain ⟨e,L1,L2⟩:=q5t x hl a b c d (fun y hy=>q3L y (hk y hy) _) x.length 0 (by omega)
  have J:∀ z:Bool,∃ q,q0S (fun k=>q0G.j0 k d z a b c x) q∧q0S (fun k=>q0q.j0 k d z a b c x) q:=by
   intro z
   by_cases hz:z = true
   ·refine ⟨2,cSuc ?_,cSuc ?_⟩
    ·simp only [q0G.j0];exact cPos hz (cCon _)
    ·simp only [q0q.j0];exact cPos hz (cCon _)
   by_cases h0:c < 0
   ·refine ⟨6,cSuc ?_,cSuc ?_⟩
    ·simp only [q0G.j0];exact cNeg hz (cPos h0 (cCon _))
    ·simp only [q0q.j0];refine cNeg hz (cPos h0 (cSuc ?_));simp only [q0q.j1];exact cPos trivial (cCon _)
   by_cases h9:c > 9
   ·refine ⟨6,cSuc ?_,cSuc ?_⟩
    ·simp only [q0G.j0];exact cNeg hz (cNeg h0 (cPos h9 (cCon _)))
    ·simp only [q0q.j0];refine cNeg hz (cNeg h0 (cSuc ?_));simp only [q0q.j1];exact cPos (decide_eq_true h9) (cCon _)
   ·refine ⟨e,cSuc ?_,cSuc ?_⟩
    ·simp only [q0G.j0];exact cNeg hz (cNeg h0 (cNeg h9 L1))
    ·simp only [q0q.j0];refine cNeg hz (cNeg h0 (cSuc ?_));simp only [q0q.j1];exact cNeg (by simpa using h9) L2
  have s1:=q4x a b c x hl
  have s2:=q6i a b c x hl
  obtain ⟨u,u1,u2⟩:=q4Y b
  by_cases h12:d > 12
  ·refine ⟨3,cSuc ?_,cSuc ?_⟩
   ·simp only [q0G.f];exact cPos h12 (cCon _)
   ·simp only [q0q.f];exact cPos h12 (cCon _)
  by_cases hS:Shp a b c x = true
  ·by_cases hn:Nm a = true
   ·obtain ⟨q,q1,q2⟩:=J (!u)
    refine ⟨q,cSuc ?_,cSuc ?_⟩
    ·simp only [q0G.f,q4U,Option.bind_some]
     exact cNeg h12 (cBin s1 (cPos hS (cPos hn (cBin u1 q1))))
    ·simp only [q0q.f]
     have hn':a = 4∨a = 11∨a = 12:=of_decide_eq_true hn
     have B:=cBin (g:=fun k t953=>q0q.j0 k d (!t953) a b c x) u2 q2
     exact cNeg h12 (cBin s2 (cPos hS (cIte (fun _=>B) (fun h4=>cIte (fun _=>B) (fun h11=>cIte (fun _=>B) (fun h12=>absurd hn' (by omega)))))))
   ·obtain ⟨q,q1,q2⟩:=J false
    refine ⟨q,cSuc ?_,cSuc ?_⟩
    ·simp only [q0G.f,q4U,Option.bind_some]
     exact cNeg h12 (cBin s1 (cPos hS (cNeg hn q1)))
    ·simp only [q0q.f]
     have hn' : ¬ (a = 4∨a = 11∨a = 12):=fun k=>hn (decide_eq_true k)
     exact cNeg h12 (cBin s2 (cPos hS (cNO (cNO (cNO q2)))))
  ·refine ⟨1,cSuc ?_,cSuc ?_⟩
   ·simp only [q0G.f];exact cNeg h12 (cBin s1 (cNeg hS (cCon _)))
   ·simp only [q0q.f];exact cNeg h12 (cBin s2 (cNeg hS (cCon _)))
 termination_by n=>SizeOf.sizeOf n
 decreasing_by
  have:=List.sizeOf_lt_of_mem hy
  simp only [S28.mk.sizeOf_spec]
  omega
theorem q7E (x:List S28) (hl:x.length≤1048576) (a:Int) (b:ByteArray) (c:Int) (ih:∀ y,y ∈ x → ∃ e,q0S (fun k=>q0Y.f k y.f0 y.f1 y.f2 y.f3) e∧q0S (fun k=>q0I.f k y.f0 y.f1 y.f2 y.f3) e) :
  ∀ (m i:Nat),i + m = x.length → ∀ v:Int,∃ e,q0S (fun k=>q0Y.l0 k v x (x.length:Int) (i:Int)) e∧q0S (fun k=>q0I.l0 k v (i:Int) a b c x) e:=by
 intro m
 induction m with
 | zero=>
  intro i hi v
  refine ⟨v,cSuc ?_,cSuc ?_⟩
  ·simp only [q0Y.l0];exact cNO (cCon _)
  ·simp only [q0I.l0];exact cNO (cCon _)
 | succ m IH=>
  intro i hi v
  have h:i < x.length:=by omega
  obtain ⟨e,h1,h2⟩:=ih _ (List.getElem_mem h)
  obtain ⟨e',h1',h2'⟩:=IH (i + 1) (by omega) (wrap64 (v + e))
  refine ⟨e',cSuc ?_,cSuc ?_⟩
  ·simp only [q0Y.l0,rd25 h,q2e (show i≤1048576 by omega)]
   exact cPO (cPO (cPO (cBin h1 h1')))
  ·simp only [q0I.l0,rd25 h,q2e (show i≤1048576 by omega)]
   exact cPO (cPO (cBin h2 h2'))
theorem q5e:∀ (n:S28),Small n → ∃ e,q0S (fun k=>q0Y.f k n.f0 n.f1 n.f2 n.f3) e∧q0S (fun k=>q0I.f k n.f0 n.f1 n.f2 n.f3) e
 | ⟨a,b,c,x⟩,hs=>by
  cases hs with
  | mk _ _ _ _ hl hk=>
  obtain ⟨e,L1,L2⟩:=q7E x hl a b c (fun y hy=>q5e y (hk y hy)) x.length 0 (by omega) 1
  refine ⟨e,cSuc ?_,cSuc ?_⟩
  ·simp only [q0Y.f];exact L1
  ·simp only [q0I.f];exact L2
 termination_by n=>SizeOf.sizeOf n
 decreasing_by
  have:=List.sizeOf_lt_of_mem hy
  simp only [S28.mk.sizeOf_spec]
  omega
theorem q7K (x:List S28) (hl:x.length≤1048576) (a:Int) (b:ByteArray) (c:Int) (ih:∀ y,y ∈ x → q0S (fun k=>q0l.f k y.f0 y.f1 y.f2 y.f3 y.f0 y.f1 y.f2 y.f3) true) :
  ∀ (m i:Nat),i + m = x.length → q0S (fun k=>q0l.l0 k (i:Int) a b c x a b c x) true:=by
 intro m
 induction m with
 | zero=>
  intro i hi
  apply cSuc
  simp only [q0l.l0]
  exact cNO (cCon _)
 | succ m IH=>
  intro i hi
  have h:i < x.length:=by omega
  apply cSuc
  simp only [q0l.l0,rd25 h,q2e (show i≤1048576 by omega)]
  exact cPO (cPO (cPO (cBin (ih _ (List.getElem_mem h)) (cPos rfl (IH (i + 1) (by omega))))))
theorem q5o:∀ (n:S28),Small n → q0S (fun k=>q0l.f k n.f0 n.f1 n.f2 n.f3 n.f0 n.f1 n.f2 n.f3) true
 | ⟨a,b,c,x⟩,hs=>by
  cases hs with
  | mk _ _ _ _ hl hk=>
  apply cSuc
  simp only [q0l.f]
  refine cPos trivial (cPos trivial (cPos trivial (cSuc ?_)))
  simp only [q0l.j0]
  exact cNeg (by simp) (q7K x hl a b c (fun y hy=>q5o y (hk y hy)) x.length 0 (by omega))
 termination_by n=>SizeOf.sizeOf n
 decreasing_by
  have:=List.sizeOf_lt_of_mem hy
  simp only [S28.mk.sizeOf_spec]
  omega
end Go.Proofs.YtmffocankommaaaGreatDoor.B
end
section
namespace Go.Proofs.YtmffocankommaaaGreatDoor.B
open Go.RowKit Go.Proofs.YtmffocankommaaaGreatDoorW.PrintWords Go.Proofs.YtmffocankommaaaGreatDoorW.PrintLast Go.Proofs.YtmffocankommaaaGreatDoorW.PrintMore Go.Proofs.YtmffocankommaaaGreatDoorY
set_option linter.unusedVariables false
/-- A token without its line. -/
abbrev Tok:=Int × ByteArray
def sg (c:UInt8):Tok:=(4,⟨#[c]⟩)
def em:ByteArray:=⟨#[]⟩
/-- A name that can be a foot's, a mark's, a tag's. -/
def Nme (b:ByteArray):Prop:=b.toList≠([117]:List UInt8)∧b.toList≠([120]:List UInt8)
/-- A number's text and its value. -/
def Num (y:ByteArray) (c:Int):Prop:=q0S (fun k=>q0Q.f k y) (c,true)
mutual
/-- The tokens of a part. -/
inductive Tk:S28 → List Tok → Prop
 | light:Tk ⟨1,em,0,[]⟩ [(1,⟨#[117]⟩)]
 | heavy:Tk ⟨2,em,0,[]⟩ [sg 45]
 | anceps:Tk ⟨3,em,0,[]⟩ [(1,⟨#[120]⟩)]
 | fin:Tk ⟨9,em,0,[]⟩ [sg 58]
 | bridge:Tk ⟨10,em,0,[]⟩ [sg 126]
 | foot (b:ByteArray) (hb:Nme b):Tk ⟨4,b,0,[]⟩ [(1,b)]
 | mark (b:ByteArray) (hb:Nme b):Tk ⟨11,b,0,[]⟩ [sg 64,(1,b)]
 | opt (n:S28) (ts:List Tok) (h:TkB n ts):Tk ⟨8,em,0,[n]⟩ (sg 91 :: (ts++[sg 93]))
 | tag (b:ByteArray) (hb:Nme b) (n:S28) (ts:List Tok) (h:TkB n ts):Tk ⟨12,b,0,[n]⟩ ((1,b) :: sg 123 :: (ts++[sg 125]))
 | alt (n n2:S28) (ns:List S28) (ts us:List Tok) (h:TkB n ts) (h2:TkA (n2 :: ns) us):Tk ⟨6,em,0,n :: n2 :: ns⟩ (sg 40 :: (ts++us))
 | pow (n:S28) (ts:List Tok) (c:Int) (y:ByteArray) (h5:n.f0≠5) (h7:n.f0≠7) (h:Tk n ts) (hy:Num y c):Tk ⟨7,em,c,[n]⟩ (ts++[sg 94,(2,y)])
 | powp (n:S28) (ts:List Tok) (c:Int) (y:ByteArray) (h:TkB n ts) (hy:Num y c):Tk ⟨7,em,c,[n]⟩ (sg 40 :: (ts++[sg 41,sg 94,(2,y)]))
/-- The tokens of a body. -/
inductive TkB:S28 → List Tok → Prop
 | part (n:S28) (ts:List Tok) (h5:n.f0≠5) (h:Tk n ts):TkB n ts
 | seq (ns:List S28) (ts:List Tok) (h1:ns.length≠1) (h:TkS ns ts):TkB ⟨5,em,0,ns⟩ ts
/-- Parts in a row. -/
inductive TkS:List S28 → List Tok → Prop
 | nil:TkS [] []
 | cons (n:S28) (ns:List S28) (ts us:List Tok) (h5:n.f0≠5) (h:Tk n ts) (r:TkS ns us):TkS (n :: ns) (ts++us)
/-- Further alternatives, up to the closing sign. -/
inductive TkA:List S28 → List Tok → Prop
 | nil:TkA [] [sg 41]
 | cons (n:S28) (ns:List S28) (ts us:List Tok) (h:TkB n ts) (r:TkA ns us):TkA (n :: ns) (sg 47 :: (ts++us))
end
/-- From i on l holds these tokens. -/
def At (l:List S61) (i:Nat) (ts:List Tok):Prop:=i + ts.length≤l.length∧∀ j (h:j < ts.length) (h':i + j < l.length),l[i + j].f0 = ts[j].1∧l[i + j].f1 = ts[j].2
theorem At.left {l:List S61} {i:Nat} {ts us:List Tok} (h:At l i (ts++us)):At l i ts:=by
 have hl:=h.1
 rw [List.length_append] at hl
 refine ⟨by omega,fun j hj h'=>?_⟩
 have:=h.2 j (by rw [List.length_append];omega) h'
 rw [List.getElem_append_left hj] at this
 exact this
theorem At.right {l:List S61} {i:Nat} {ts us:List Tok} (h:At l i (ts++us)):At l (i + ts.length) us:=by
 have hl:=h.1
 rw [List.length_append] at hl
 refine ⟨by omega,fun j hj h'=>?_⟩
 have:=h.2 (ts.length + j) (by rw [List.length_append];omega) (by omega)
 rw [List.getElem_append_right (by omega)] at this
 simp only [Nat.add_sub_cancel_left] at this
 simp only [show i + ts.length + j = i + (ts.length + j) by omega]
 exact this
theorem At.head {l:List S61} {i:Nat} {t:Tok} {ts:List Tok} (h:At l i (t :: ts)):∃ hi:i < l.length,l[i].f0 = t.1∧l[i].f1 = t.2:=by
 have hl:=h.1
 rw [List.length_cons] at hl
 exact ⟨by omega,h.2 0 (by simp) (by omega)⟩
theorem At.tail {l:List S61} {i:Nat} {t:Tok} {ts:List Tok} (h:At l i (t :: ts)):At l (i + 1) ts:=At.right (ts:=[t]) (us:=ts) h
theorem At.sign {l:List S61} {i:Nat} {c:UInt8} {ts:List Tok} (h:At l i (sg c :: ts)):Hit l i ⟨#[c]⟩:=by
 obtain ⟨hi,h1,h2⟩:=h.head
 exact ⟨hi,h1,by rw [h2];rfl⟩
theorem At.nosign {l:List S61} {i:Nat} {t:Tok} {ts:List Tok} (h:At l i (t :: ts)) {s:ByteArray} (hs:t.1 = 4 → t.2.toList≠s.toList) : ¬ Hit l i s:=by
 obtain ⟨hi,h1,h2⟩:=h.head
 rintro ⟨_,k1,k2⟩
 exact hs (h1 ▸ k1) (by rw [← h2];exact k2)
/-- What may follow a part: neither a power nor an opening brace. -/
def Fol (l:List S61) (i:Nat):Prop:=i≤l.length∧¬ Hit l i ⟨#[94]⟩∧¬ Hit l i ⟨#[123]⟩
/-- No part begins here. -/
def q4F (l:List S61) (i:Nat):Prop:=Fol l i∧∃ n,q0S (fun k=>q0u.f k l (i:Int) false) (q4A n false i false)
theorem q8B {c d:UInt8} (h:c≠d):(sg c).1 = 4 → (sg c).2.toList≠(⟨#[d]⟩:ByteArray).toList:=fun _ k=>h (by
 have:([c]:List UInt8) = [d]:=by rw [← tl1 c,← tl1 d];exact k
 simpa using this)
/-- A part begins with a name, or with a sign that is neither a power nor a brace. -/
def Beg (t:Tok):Prop:=t.1 = 1∨∃ c:UInt8,t = sg c∧c≠94∧c≠123
theorem Tk.first:∀ {n:S28} {ts:List Tok},Tk n ts → ∃ t us,ts = t :: us∧Beg t
 | _,_,.light=>⟨_,_,rfl,.inl rfl⟩
 | _,_,.heavy=>⟨_,_,rfl,.inr ⟨45,rfl,by decide,by decide⟩⟩
 | _,_,.anceps=>⟨_,_,rfl,.inl rfl⟩
 | _,_,.fin=>⟨_,_,rfl,.inr ⟨58,rfl,by decide,by decide⟩⟩
 | _,_,.bridge=>⟨_,_,rfl,.inr ⟨126,rfl,by decide,by decide⟩⟩
 | _,_,.foot b hb=>⟨_,_,rfl,.inl rfl⟩
 | _,_,.mark b hb=>⟨_,_,rfl,.inr ⟨64,rfl,by decide,by decide⟩⟩
 | _,_,.opt n ts h=>⟨_,_,rfl,.inr ⟨91,rfl,by decide,by decide⟩⟩
 | _,_,.tag b hb n ts h=>⟨_,_,rfl,.inl rfl⟩
 | _,_,.alt n n2 ns ts us h h2=>⟨_,_,rfl,.inr ⟨40,rfl,by decide,by decide⟩⟩
 | _,_,.pow n ts c y h5 h7 h hy=>by
  obtain ⟨t,us,rfl,k⟩:=Tk.first h
  exact ⟨t,us++[sg 94,(2,y)],rfl,k⟩
 | _,_,.powp n ts c y h hy=>⟨_,_,rfl,.inr ⟨40,rfl,by decide,by decide⟩⟩
theorem Beg.fol {l:List S61} {i:Nat} {t:Tok} {us:List Tok} (h:At l i (t :: us)) (hb:Beg t):Fol l i:=by
 refine ⟨by have:=h.1;omega,h.nosign (fun e=>?_),h.nosign (fun e=>?_)⟩
 ·rcases hb with h1 | ⟨c,rfl,h1,h2⟩
  ·rw [h1] at e;exact absurd e (by decide)
  ·exact q8B h1 e
 ·rcases hb with h1 | ⟨c,rfl,h1,h2⟩
  ·rw [h1] at e;exact absurd e (by decide)
  ·exact q8B h2 e
/-- Closing signs begin no part, and follow one. -/
theorem q3h {l:List S61} (hl:l.length≤1000000) {i:Nat} {c:UInt8} (h:Hit l i ⟨#[c]⟩) (hc:c = 93∨c = 125∨c = 41∨c = 47∨c = 59):q4F l i:=by
 obtain ⟨hi,h4,ht⟩:=h
 have hno:∀ u:UInt8,u≠c → ¬ Hit l i ⟨#[u]⟩:=fun u hu k=>hu (by
  have:=k.2.2
  rw [ht,tl1,tl1] at this
  simpa using this.symm)
 have hne:∀ u:UInt8,u ∈ ([45,58,126,64,91,40,94,123]:List UInt8) → u≠c:=by
  intro u hu e
  subst e
  rcases hc with rfl | rfl | rfl | rfl | rfl <;> exact absurd hu (by decide)
 refine ⟨⟨by omega,hno 94 (hne 94 (by decide)),hno 123 (hne 123 (by decide))⟩,⟨0,em,0,[]⟩,cSuc ?_⟩
 have h1:l[i].f0≠1:=by rw [h4];decide
 simp only [m_none (q2V l i hi) h1 (fun u hu=>q4w (by omega) (by omega) (hno u (hne u (by
  simp only [List.mem_cons,List.not_mem_nil,or_false] at hu ⊢
  rcases hu with h | h | h | h | h | h <;> simp [h]))))]
 exact cCon _
theorem q5V {l:List S61} (hl:l.length≤1000000):q4F l l.length:=by
 have h:∀ s,¬ Hit l l.length s:=fun s k=>by obtain ⟨k,_⟩:=k;omega
 exact ⟨⟨Nat.le_refl _,h _,h _⟩,_,q8G l hl⟩
end Go.Proofs.YtmffocankommaaaGreatDoor.B
end
section
namespace Go.Proofs.YtmffocankommaaaGreatDoor.B
open Go.RowKit Go.Proofs.YtmffocankommaaaGreatDoorW.PrintWords Go.Proofs.YtmffocankommaaaGreatDoorW.PrintLast Go.Proofs.YtmffocankommaaaGreatDoorW.PrintMore Go.Proofs.YtmffocankommaaaGreatDoorY
set_option linter.unusedVariables false
/-- The parser reads a part, powers apart. -/
def q7W (l:List S61) (n:S28) (i j:Nat):Prop:=q0S (fun k=>q0u.f k l (i:Int) false) (q4A n true j false)
def SeqR (l:List S61) (n:S28) (i j:Nat):Prop:=q0S (fun k=>q0a.f k l (i:Int) false) (q4u n j false)
/-- It goes on behind a part that is put behind others. -/
def OnR (l:List S61) (n:S28) (i j:Nat):Prop:=∀ (x:List S28) r,x.length≤1000000 → q0S (fun k=>q0a.l0 k (x++[n]) l (j:Int) false) r → q0S (fun k=>q0a.l0 k x l (i:Int) false) r
section
variable {l:List S61} (hl:l.length≤1000000)
include hl
theorem q7T {n:S28} {i j:Nat} (h5:n.f0≠5) (hf:Fol l j) (h:q7W l n i j):OnR l n i j:=by
 intro x r hx hr
 apply cSuc
 simp only [q0a.l0]
 refine cBin h (cPos rfl (cSuc ?_))
 simp only [q0a.j1,q4A]
 refine cND (cSuc ?_)
 simp only [q0a.l1,q4w hf.1 (by have:=hf.1;omega) hf.2.1,Option.bind_some,q6c]
 exact cND (cNeg h5 (cPO hr))
theorem q9k {n:S28} {i j:Nat} {c:Int} {y:ByteArray} (hy:Num y c) (hA:At l j [sg 94,(2,y)]) (hf:Fol l (j + 2)) (h:q7W l n i j):OnR l ⟨7,em,c,[n]⟩ i (j + 2):=by
 intro x r hx hr
 have hj:=hA.1
 rw [show ([sg 94,(2,y)]:List Tok).length = 2 from rfl] at hj
 obtain ⟨h1,k1,k2⟩:=hA.tail.head
 apply cSuc
 simp only [q0a.l0]
 refine cBin h (cPos rfl (cSuc ?_))
 simp only [q0a.j1,q4A]
 refine cND (cSuc ?_)
 simp only [q0a.l1,q5I (show j≤l.length by omega) (by omega) hA.sign,Option.bind_some,q6c]
 refine cPos trivial (cBin (x:=(c,((j + 2:Nat):Int),false)) ?_ (cSuc ?_))
 ·unfold q1J.f
  simp only [q7U l (j + 1) 2 h1 k1 (by omega),Option.bind_some,k2]
  exact cBin hy (cCon _)
 ·simp only [q0a.l1,q4w hf.1 (by have:=hf.1;omega) hf.2.1,Option.bind_some]
  exact cND (cND (cPO hr))
omit hl in
theorem q8v {n:S28} {i j:Nat} (hs:q4F l j) (h:OnR l n i j):SeqR l n i j:=by
 obtain ⟨hf,m,hm⟩:=hs
 apply cSuc
 simp only [q0a.f]
 refine h [] _ (Nat.zero_le _) (cSuc ?_)
 simp only [q0a.l0]
 refine cBin hm (cNeg (show ¬ (false = true) by decide) ?_)
 exact q4D l [n] j false _ _ _ _
theorem q3C {i:Nat} {v:UInt8} (h:i < l.length) (h4:l[i].f0 = 4) (ht:l[i].f1.toList = [v]):∀ u:UInt8,q0i.f l (i:Int) false ⟨#[u]⟩ = some (if u = v then (true,((i + 1:Nat):Int),false) else (false,(i:Int),false)):=by
 intro u
 by_cases huv:u = v
 ·rw [if_pos huv,q5I (by omega) (by omega) ⟨h,h4,by rw [ht,tl1,huv]⟩]
 ·rw [if_neg huv,q4w (by omega) (by omega) (fun k=>huv (by have:=k.2.2;rw [ht,tl1] at this;simpa using this.symm))]
theorem name_in {i:Nat} (h:i < l.length) (h1:l[i].f0 = 1) (hb:Nme l[i].f1):q1M.f l (i:Int) false = some (l[i].f1,((i + 1:Nat):Int),false):=by
 have ht:=q7U l i 1 h h1 (by omega)
 unfold q1M.f q1i.f
 rw [q2V l i h]
 simp only [Option.bind_some]
 have hu:(l[i].f1.toList == (⟨#[117]⟩:ByteArray).toList) = false:=by rw [tl1];simpa using hb.1
 have hx:(l[i].f1.toList == (⟨#[120]⟩:ByteArray).toList) = false:=by rw [tl1];simpa using hb.2
 rw [if_pos h1,hu]
 simp only [Option.bind_some]
 rw [if_neg (by decide),q2V l i h]
 simp only [Option.bind_some]
 rw [if_pos h1,hx]
 simp only [Option.bind_some]
 rw [if_neg (by decide),ht]
 rfl
theorem q5C {n:S28} {i j:Nat} (hi:i≤l.length) (hs:SeqR l n (i + 1) j) (ho:Hit l i ⟨#[40]⟩) (hc:Hit l j ⟨#[41]⟩):q7W l n i (j + 1):=by
 obtain ⟨h,h4,ht⟩:=ho
 rw [tl1] at ht
 have hj:j < l.length:=by obtain ⟨k,_⟩:=hc;exact k
 have hns : ¬ Hit l j ⟨#[47]⟩:=fun k=>by
  have a:=hc.2.2
  have b:=k.2.2
  rw [a,tl1,tl1] at b
  exact absurd b (by decide)
 apply cSuc
 simp only [m_alt (q2V l i h) (show l[i].f0≠1 by rw [h4];decide) (q3C hl h h4 ht)]
 refine cBin hs ?_
 simp only [q4u,q6c]
 apply cSuc
 simp only [q0u.l0,q4w (show j≤l.length by omega) (by omega) hns,q5N (show j≤l.length by omega) (by omega) hc,Option.bind_some]
 exact cND (cPos rfl (cPos (by simp) (cCon _)))
end
def Kp (l:List S61) (n:S28) (ts:List Tok):Prop:=∀ i,At l i ts → ¬ Hit l (i + ts.length) ⟨#[123]⟩ → n.f0≠7 → q7W l n i (i + ts.length)
def Op1 (l:List S61) (n:S28) (ts:List Tok):Prop:=∀ i,At l i ts → Fol l (i + ts.length) → OnR l n i (i + ts.length)
def Bp (l:List S61) (n:S28) (ts:List Tok):Prop:=∀ i,At l i ts → q4F l (i + ts.length) → SeqR l n i (i + ts.length)
def Sp (l:List S61) (ns:List S28) (ts:List Tok):Prop:=∀ i,At l i ts → Fol l (i + ts.length) → ∀ (x:List S28) r,x.length + ts.length≤1000000 → q0S (fun k=>q0a.l0 k (x++ns) l ((i + ts.length:Nat):Int) false) r → q0S (fun k=>q0a.l0 k x l (i:Int) false) r
def Ap (l:List S61) (ns:List S28) (ts:List Tok):Prop:=∀ i,At l i ts → ∀ x:List S28,0 < x.length → 1 < x.length + ns.length → x.length + ts.length≤1000000 → q0S (fun k=>q0u.l0 k x l (i:Int) false) (q4A ⟨6,em,0,x++ns⟩ true (i + ts.length) false)
section
variable {l:List S61} (hl:l.length≤1000000)
include hl
theorem q5s {ns:List S28} {ts:List Tok} (h:TkA ns ts) {i:Nat} (hA:At l i ts):q4F l i:=by
 cases h with
 | nil=>exact q3h hl hA.sign (.inr (.inr (.inl rfl)))
 | cons n ns ts us h r=>exact q3h hl hA.sign (.inr (.inr (.inr (.inl rfl))))
theorem q8L:∀ (N:Nat),(∀ n ts,ts.length≤N → Tk n ts → Kp l n ts∧(n.f0≠5 → Op1 l n ts))∧(∀ n ts,ts.length≤N → TkB n ts → Bp l n ts)∧(∀ ns ts,ts.length≤N → TkS ns ts → Sp l ns ts)∧(∀ ns ts,ts.length≤N → TkA ns ts → Ap l ns ts):=by
 intro N
 induction N with
 | zero=>
  refine ⟨fun n ts hN h=>?_,fun n ts hN h=>?_,fun ns ts hN h=>?_,fun ns ts hN h=>?_⟩
  ·obtain ⟨t,us,rfl,_⟩:=h.first
   exact absurd hN (by simp)
  ·cases h with
   | part n ts h5 h=>
    obtain ⟨t,us,rfl,_⟩:=h.first
    exact absurd hN (by simp)
   | seq ns ts h1 h=>
    cases h with
    | nil=>
     intro i hA hs
     obtain ⟨hf,m,hm⟩:=hs
     apply cSuc
     simp only [q0a.f]
     apply cSuc
     simp only [q0a.l0]
     exact cBin hm (cNeg (show ¬ (false = true) by decide) (q4D l [] i false _ _ _ _))
    | cons n ns ts us h5 h r=>
     obtain ⟨t,us',rfl,_⟩:=h.first
     exact absurd hN (by simp)
  ·cases h with
   | nil=>intro i hA hf x r hx hr;rw [List.append_nil] at hr;exact hr
   | cons n ns ts us h5 h r=>
    obtain ⟨t,us',rfl,_⟩:=h.first
    exact absurd hN (by simp)
  ·cases h with
   | nil=>exact absurd hN (by simp)
   | cons n ns ts us h r=>exact absurd hN (by simp)
 | succ N IH=>
  obtain ⟨IT,IB,IS,IA⟩:=IH
  have KT:∀ n ts,ts.length≤N + 1 → Tk n ts → Kp l n ts:=by
   intro n ts hN h i hA hF h7
   cases h with
   | light=>
    obtain ⟨h,h1,ht⟩:=hA.head
    exact cSuc (by simp only [m_one (q2V l i h) (q3R (by omega)) h1 (by rw [ht,tl1])];exact cCon _)
   | anceps=>
    obtain ⟨h,h1,ht⟩:=hA.head
    exact cSuc (by simp only [m_any (q2V l i h) (q3R (by omega)) h1 (by rw [ht,tl1])];exact cCon _)
   | heavy=>
    obtain ⟨h,h4,ht⟩:=hA.head
    exact cSuc (by simp only [q7X (q2V l i h) (show l[i].f0≠1 by rw [h4];decide) (.inl ⟨rfl,rfl⟩) (q3C hl h h4 (by rw [ht];exact tl1 _))];exact cCon _)
   | fin=>
    obtain ⟨h,h4,ht⟩:=hA.head
    exact cSuc (by simp only [q7X (q2V l i h) (show l[i].f0≠1 by rw [h4];decide) (.inr (.inl ⟨rfl,rfl⟩)) (q3C hl h h4 (by rw [ht];exact tl1 _))];exact cCon _)
   | bridge=>
    obtain ⟨h,h4,ht⟩:=hA.head
    exact cSuc (by simp only [q7X (q2V l i h) (show l[i].f0≠1 by rw [h4];decide) (.inr (.inr ⟨rfl,rfl⟩)) (q3C hl h h4 (by rw [ht];exact tl1 _))];exact cCon _)
   | foot b hb=>
    obtain ⟨h,h1,ht⟩:=hA.head
    have ht:l[i].f1 = b:=ht
    rw [← ht] at hb ⊢
    exact cSuc (by simp only [m_name (q2V l i h) (q3R (by omega)) h1 hb.1 hb.2 (q4w h (by omega) hF)];exact cCon _)
   | mark b hb=>
    obtain ⟨h,h4,ht⟩:=hA.head
    obtain ⟨h',h1,hb'⟩:=hA.tail.head
    have hb':l[i + 1].f1 = b:=hb'
    have hn:=name_in hl h' h1 (by rw [hb'];exact hb)
    exact cSuc (by simp only [m_at (q2V l i h) (show l[i].f0≠1 by rw [h4];decide) (q3C hl h h4 (by rw [ht];exact tl1 _)),hn,Option.bind_some,hb'];exact cCon _)
   | opt n ts h=>
    obtain ⟨hi,h4,ht⟩:=hA.head
    have hT:=hA.tail
    rw [List.length_cons,List.length_append] at hN
    have hc:=(hT.right).sign
    have hs:=IB n ts (by omega) h (i + 1) hT.left (q3h hl hc (.inl rfl))
    have hj:i + 1 + ts.length < l.length:=by obtain ⟨k,_⟩:=hc;exact k
    apply cSuc
    simp only [m_box (q2V l i hi) (show l[i].f0≠1 by rw [h4];decide) (q3C hl hi h4 (by rw [ht];exact tl1 _))]
    refine cBin hs ?_
    simp only [q4u,q6c,q5N (show i + 1 + ts.length≤l.length by omega) (by omega) hc,Option.bind_some]
    exact cVal (by simp only [q4A,List.length_cons,List.length_append,List.length_nil];congr 6;omega)
   | tag b hb n ts h=>
    obtain ⟨hi,h1,ht⟩:=hA.head
    have ht:l[i].f1 = b:=ht
    have hT:=hA.tail.tail
    rw [List.length_cons,List.length_cons,List.length_append] at hN
    have hc:=(hT.right).sign
    have ho:=hA.tail.sign
    have hi2:i + 1 < l.length:=by obtain ⟨k,_⟩:=ho;exact k
    have hs:=IB n ts (by omega) h (i + 1 + 1) hT.left (q3h hl hc (.inr (.inl rfl)))
    have hj:i + 1 + 1 + ts.length < l.length:=by obtain ⟨k,_⟩:=hc;exact k
    apply cSuc
    simp only [m_bound (q2V l i hi) (q3R (by omega)) h1 (by rw [ht];exact hb.1) (by rw [ht];exact hb.2) (q5I (by omega) (by omega) ho)]
    refine cBin hs ?_
    simp only [q4u,q6c,q5N (show i + 1 + 1 + ts.length≤l.length by omega) (by omega) hc,Option.bind_some,ht]
    exact cVal (by simp only [q4A,List.length_cons,List.length_append,List.length_nil];congr 6;omega)
   | alt n n2 ns ts us h h2=>
    obtain ⟨hi,h4,ht⟩:=hA.head
    have hT:=hA.tail
    rw [List.length_cons,List.length_append] at hN
    have hlen:=hA.1
    rw [List.length_cons,List.length_append] at hlen
    have hs:=IB n ts (by omega) h (i + 1) hT.left (q5s hl h2 hT.right)
    have ha:=IA (n2 :: ns) us (by omega) h2 (i + 1 + ts.length) hT.right [n] (by simp) (by simp) (by simp;omega)
    apply cSuc
    simp only [m_alt (q2V l i hi) (show l[i].f0≠1 by rw [h4];decide) (q3C hl hi h4 (by rw [ht];exact tl1 _))]
    refine cBin hs ?_
    simp only [q4u,q6c]
    rw [show i + (sg 40 :: (ts++us)).length = i + 1 + ts.length + us.length by simp only [List.length_cons,List.length_append];omega]
    exact ha
   | pow n ts c y h5 h7' h hy=>exact absurd rfl h7
   | powp n ts c y h hy=>exact absurd rfl h7
  have OT:∀ n ts,ts.length≤N + 1 → Tk n ts → n.f0≠5 → Op1 l n ts:=by
   intro n ts hN h h5 i hA hF
   by_cases h7:n.f0 = 7
   ·cases h with
    | pow n ts c y h5' h7' h hy=>
     rw [List.length_append] at hN
     have hk:=KT n ts (by omega) h i hA.left (by
      have:=(hA.right).nosign (s:=⟨#[123]⟩) (q8B (by decide))
      exact this) h7'
     have hlen:i + (ts++[sg 94,(2,y)]).length = i + ts.length + 2:=by rw [List.length_append];show i + (ts.length + 2) = _;omega
     rw [hlen] at hF ⊢
     exact q9k hl hy hA.right hF hk
    | powp n ts c y h hy=>
     rw [List.length_cons,List.length_append] at hN
     have hT:=hA.tail
     have hR:=hT.right
     have hs:=IB n ts (by omega) h (i + 1) hT.left (q3h hl hR.sign (.inr (.inr (.inl rfl))))
     have hk:=q5C hl (by have:=hA.1;omega) hs hA.sign hR.sign
     have hlen:i + (sg 40 :: (ts++[sg 41,sg 94,(2,y)])).length = i + 1 + ts.length + 1 + 2:=by rw [List.length_cons,List.length_append];show i + (ts.length + 3 + 1) = _;omega
     rw [hlen] at hF ⊢
     exact q9k hl hy hR.tail hF hk
    | light=>exact absurd h7 (by decide)
    | heavy=>exact absurd h7 (by decide)
    | anceps=>exact absurd h7 (by decide)
    | fin=>exact absurd h7 (by decide)
    | bridge=>exact absurd h7 (by decide)
    | foot b hb=>exact absurd (show (4:Int) = 7 from h7) (by decide)
    | mark b hb=>exact absurd (show (11:Int) = 7 from h7) (by decide)
    | opt n ts h=>exact absurd (show (8:Int) = 7 from h7) (by decide)
    | tag b hb n ts h=>exact absurd (show (12:Int) = 7 from h7) (by decide)
    | alt n n2 ns ts us h h2=>exact absurd (show (6:Int) = 7 from h7) (by decide)
   ·exact q7T hl h5 hF (KT n ts hN h i hA hF.2.2 h7)
  have ST:∀ ns ts,ts.length≤N + 1 → TkS ns ts → Sp l ns ts:=by
   intro ns ts hN h i hA hF x r hx hr
   cases h with
   | nil=>rw [List.append_nil] at hr;exact hr
   | cons n ns ts us h5 h rr=>
    obtain ⟨t,ts',rfl,hb⟩:=h.first
    have hlen:(t :: ts'++us).length = (t :: ts').length + us.length:=List.length_append
    have h1:1≤(t :: ts').length:=by simp
    rw [hlen] at hN hF hx hr
    have hf:Fol l (i + (t :: ts').length):=by
     cases rr with
     | nil=>exact hF
     | cons n' ns' ts2 us2 h5' h' r'=>
      obtain ⟨t2,ts2',rfl,hb2⟩:=h'.first
      exact hb2.fol (us:=ts2'++us2) hA.right
    refine OT n (t :: ts') (by omega) h h5 i hA.left hf x r (by omega) ?_
    have hS:=IS ns us (by omega) rr (i + (t :: ts').length) hA.right (by rw [Nat.add_assoc];exact hF) (x++[n]) r (by rw [List.length_append,List.length_singleton];omega)
    rw [Nat.add_assoc,List.append_assoc] at hS
    exact hS hr
  refine ⟨fun n ts hN h=>⟨KT n ts hN h,OT n ts hN h⟩,fun n ts hN h=>?_,ST,fun ns ts hN h=>?_⟩
  ·intro i hA hs
   cases h with
   | part n ts h5 h=>exact q8v hs (OT n ts hN h h5 i hA hs.1)
   | seq ns ts h1 h=>
    obtain ⟨hf,m,hm⟩:=hs
    apply cSuc
    simp only [q0a.f]
    refine ST ns ts hN h i hA hf [] _ (by have:=hA.1;simp;omega) (cSuc ?_)
    simp only [q0a.l0]
    refine cBin hm (cNeg (show ¬ (false = true) by decide) ?_)
    have:=q4D l ns (i + ts.length) false m.f0 m.f1 m.f2 m.f3
    unfold one at this
    rw [if_neg h1] at this
    exact this
  ·intro i hA x hx h2 hz
   cases h with
   | nil=>
    have hc:=hA.sign
    have hj:i < l.length:=by obtain ⟨k,_⟩:=hc;exact k
    have hns : ¬ Hit l i ⟨#[47]⟩:=hA.nosign (q8B (by decide))
    apply cSuc
    simp only [q0u.l0,q4w (show i≤l.length by omega) (by omega) hns,q5N (show i≤l.length by omega) (by omega) hc,Option.bind_some,List.append_nil]
    exact cND (cNeg (by simp at h2;omega) (cCon _))
   | cons n ns ts us h rr=>
    have hT:=hA.tail
    rw [List.length_cons,List.length_append] at hN hz
    have hlen:=hA.1
    rw [List.length_cons,List.length_append] at hlen
    have hs:=IB n ts (by omega) h (i + 1) hT.left (q5s hl rr hT.right)
    have ha:=IA ns us (by omega) rr (i + 1 + ts.length) hT.right (x++[n]) (by simp) (by rw [List.length_append,List.length_singleton];simp at h2;omega) (by rw [List.length_append,List.length_singleton];omega)
    apply cSuc
    simp only [q0u.l0,q5I (show i≤l.length by omega) (by omega) hA.sign,Option.bind_some]
    refine cPos trivial (cBin hs ?_)
    simp only [q4u,q6c]
    rw [show i + (sg 47 :: (ts++us)).length = i + 1 + ts.length + us.length by simp only [List.length_cons,List.length_append];omega,show x++n :: ns = x++[n]++ns by simp]
    exact cPO ha
/-- The words of a body are read as this body. -/
theorem q6l {n:S28} {ts:List Tok} (h:TkB n ts) {i:Nat} (hA:At l i ts) (hs:q4F l (i + ts.length)):SeqR l n i (i + ts.length):=(q8L hl ts.length).2.1 n ts (Nat.le_refl _) h i hA hs
end
end Go.Proofs.YtmffocankommaaaGreatDoor.B
end
section
namespace Go.Proofs.YtmffocankommaaaGreatDoor.B
open Go.RowKit Go.Proofs.YtmffocankommaaaGreatDoorW.PrintWords Go.Proofs.YtmffocankommaaaGreatDoorW.PrintLast Go.Proofs.YtmffocankommaaaGreatDoorW.PrintMore Go.Proofs.YtmffocankommaaaGreatDoorY
set_option linter.unusedVariables false
def Wh (c:Int):Prop:=c = 10∨c = 32∨c = 9∨c = 13∨c = 35
section
variable (a:ByteArray) (ha:a.size≤20000)
include ha
omit ha in
theorem t_other {i:Nat} {xs:List S61} {x:Int} {r} (h:i < a.size) (hc : ¬ (bt a ((i:Nat):Int) = 10∨bt a ((i:Nat):Int) = 32∨bt a ((i:Nat):Int) = 9∨bt a ((i:Nat):Int) = 13)) (hr:q0S (fun k=>q0C.j1 k a xs x (i:Int) (bt a ((i:Nat):Int)) false) r):q0S (fun k=>q0C.l0 k a xs x (i:Int)) r:=by
 apply cSuc
 simp only [q0C.l0]
 refine cPO (cPO (cNeg (fun k=>hc (.inl k)) (cNeg (fun k=>hc (.inr (.inl k))) (cNeg (fun k=>hc (.inr (.inr (.inl k)))) ?_))))
 rw [show (bt a ((i:Nat):Int) == 13) = false from by simpa using fun k=>hc (.inr (.inr (.inr k)))]
 exact hr
theorem t_white {i:Nat} {xs:List S61} {x:Int} {r} (h:i < a.size) (hc:bt a ((i:Nat):Int) = 32∨bt a ((i:Nat):Int) = 9∨bt a ((i:Nat):Int) = 13) (hr:q0S (fun k=>q0C.l0 k a xs x ((i + 1:Nat):Int)) r):q0S (fun k=>q0C.l0 k a xs x (i:Int)) r:=by
 have hj:∀ c,q0S (fun k=>q0C.j1 k a xs x (i:Int) c true) r:=fun c=>cSuc (by simp only [q0C.j1,q3R (show i≤1000000 by omega)];exact cPos trivial hr)
 apply cSuc
 simp only [q0C.l0]
 refine cPO (cPO ?_)
 rcases hc with hc | hc | hc <;> rw [hc]
 ·exact cND (cPos rfl (hj 32))
 ·exact cND (cND (cPos rfl (hj 9)))
 ·exact cND (cND (cND (hj 13)))
end
theorem t_next {a:ByteArray} {xs:List S61} {x c m c2 q:Int} {j:Nat} {y:ByteArray} {r} (hj:c.toNat = j) (h0:0≤c) (h1:c≤(a.size:Int)) (hw:wrap64 (c + m) = c2) (hl:xs.length < 4398046511104) (h35:bt a c≠35) (hn:q0S (fun k=>q2y.f k (a.extract j a.size)) (q,y,0,m,0)) (h:q0S (fun k=>q0C.l0 k a (xs++[⟨q,y,x⟩]) x c2) r):q0S (fun k=>q0C.j1 k a xs x c (bt a c) false) r:=by
 subst hj hw
 apply cSuc
 simp only [q0C.j1]
 exact cND (cNeg h35 (cPos h0 (cPos h1 (cBin hn (cPos rfl (cPos hl h))))))
end Go.Proofs.YtmffocankommaaaGreatDoor.B
end
section
namespace Go.Proofs.YtmffocankommaaaGreatDoor.B
open Go.RowKit Go.Proofs.YtmffocankommaaaGreatDoorW.PrintWords Go.Proofs.YtmffocankommaaaGreatDoorW.PrintLast Go.Proofs.YtmffocankommaaaGreatDoorW.PrintMore Go.Proofs.YtmffocankommaaaGreatDoorY
set_option linter.unusedVariables false
theorem byte_eq {s s':ByteArray} {i j:Nat} (hi:i < s.size) (hj:j < s'.size) (h:bt s ((i:Nat):Int) = bt s' ((j:Nat):Int)):s[i] = s'[j]:=by
 have h1:=q2C s ((i:Nat):Int) (by rw [Int.toNat_natCast];exact hi)
 have h2:=q2C s' ((j:Nat):Int) (by rw [Int.toNat_natCast];exact hj)
 simp only [Int.toNat_natCast] at h1 h2
 have:s[i].toNat = s'[j].toNat:=by omega
 exact UInt8.toNat_inj.1 this
theorem q4H {s s':ByteArray} (hz:s.size = s'.size) (h:∀ j:Nat,j < s.size → bt s ((j:Nat):Int) = bt s' ((j:Nat):Int)):s = s':=by
 have:s.data = s'.data:=by
  apply Array.ext
  ·exact hz
  ·intro i h1 h2
   exact byte_eq (s:=s) (s':=s') h1 h2 (h i h1)
 cases s
 cases s'
 exact congrArg _ this
theorem q7c {s s':ByteArray} {i j:Nat} (h1:j≤s.size) (h2:j≤s'.size) (h:∀ m,i≤m → m < j → bt s' ((m:Nat):Int) = bt s ((m:Nat):Int)):s'.extract i j = s.extract i j:=by
 apply q4H
 ·rw [q2Y h1,q2Y h2]
 ·intro m hm
  rw [q2Y h2] at hm
  rw [q2U h2 hm,q2U h1 hm]
  exact h (i + m) (by omega) (by omega)
def Al1 (c:Int):Bool:=Sm c || Dg c
def Ins (c:Int):Bool:=decide (32≤c) && decide (c≤126) && decide (c≠34)
theorem q7a (c:Int):q2K.f c = some (Ins c):=by
 unfold q2K.f Ins
 by_cases h1:c≥32
 ·by_cases h2:c≤126
  ·rw [if_pos h1,if_pos h2,decide_eq_true (show 32≤c from h1),decide_eq_true h2]
   by_cases h3:c = 34 <;> simp [h3]
  ·rw [if_pos h1,if_neg h2,decide_eq_false h2];simp
 ·rw [if_neg h1,decide_eq_false (show ¬ 32≤c from h1)];simp
/-- From i on a name runs to t. -/
inductive NRun (s:ByteArray):Nat → Nat → Prop
 | stop (i:Nat) (hi:i≤s.size) (h:i < s.size → Al1 (bt s ((i:Nat):Int)) = false∧¬ (bt s ((i:Nat):Int) = 45∧i + 1 < s.size∧Al1 (bt s ((i + 1:Nat):Int)) = true)):NRun s i i
 | one (i t:Nat) (hi:i < s.size) (h:Al1 (bt s ((i:Nat):Int)) = true) (r:NRun s (i + 1) t):NRun s i t
 | two (i t:Nat) (hi:i + 1 < s.size) (h:bt s ((i:Nat):Int) = 45) (h':Al1 (bt s ((i + 1:Nat):Int)) = true) (r:NRun s (i + 2) t):NRun s i t
theorem NRun.le {s:ByteArray} {i t:Nat} (h:NRun s i t):i≤t∧t≤s.size:=by
 induction h with
 | stop i hi h=>exact ⟨Nat.le_refl _,hi⟩
 | one i t hi h r ih=>omega
 | two i t hi h h' r ih=>omega
theorem NRun.ex (s:ByteArray):∀ (d i:Nat),i + d = s.size → ∃ t,NRun s i t:=by
 intro d
 induction d using Nat.strongRecOn with
 | _ d IH=>
  intro i hi
  by_cases h:i < s.size
  ·cases ha:Al1 (bt s ((i:Nat):Int)) with
   | true=>
    obtain ⟨t,ht⟩:=IH (d - 1) (by omega) (i + 1) (by omega)
    exact ⟨t,.one i t h ha ht⟩
   | false=>
    by_cases h2:bt s ((i:Nat):Int) = 45∧i + 1 < s.size∧Al1 (bt s ((i + 1:Nat):Int)) = true
    ·obtain ⟨t,ht⟩:=IH (d - 2) (by omega) (i + 2) (by omega)
     exact ⟨t,.two i t h2.2.1 h2.1 h2.2.2 ht⟩
    ·exact ⟨i,.stop i (by omega) (fun _=>⟨ha,h2⟩)⟩
  ·exact ⟨i,.stop i (by omega) (fun k=>absurd k h)⟩
theorem q4C {c:Int} {b:Bool} (h:Al1 c = b):(b = true → Sm c = true∨(¬ Sm c = true∧Dg c = true))∧(b = false → ¬ Sm c = true∧Dg c = false):=by
 unfold Al1 at h
 cases h1:Sm c <;> cases h2:Dg c <;> simp_all
theorem NRun.comes {s:ByteArray} (hs:s.size≤20000) {i t:Nat} (h:NRun s i t):q0S (fun k=>q0E.l0 k s ((i:Nat):Int)) (t:Int):=by
 induction h with
 | stop i hi h=>
  have w1:=q3R (show i≤1000000 by omega)
  by_cases hlt:i < s.size
  ·obtain ⟨ha,h2⟩:=h hlt
   obtain ⟨a1,a2⟩:=(q4C ha).2 rfl
   have J:q0S (fun k=>q0E.j2 k s ((i:Nat):Int) (bt s ((i:Nat):Int)) (Dg (bt s ((i:Nat):Int)))) (i:Int):=by
    rw [a2]
    apply cSuc
    simp only [q0E.j2,w1]
    refine cND (cIte (fun h45=>cIte (fun h3=>cPO ?_) (fun _=>cCon _)) (fun _=>cCon _))
    simp only [q2I,q2W,Option.bind_some]
    have hb:Al1 (bt s ((i + 1:Nat):Int)) = false:=by
     cases hb:Al1 (bt s ((i + 1:Nat):Int)) with
     | false=>rfl
     | true=>exact absurd ⟨h45,by omega,hb⟩ h2
    obtain ⟨b1,b2⟩:=(q4C hb).2 rfl
    exact cNeg b1 (cNeg (by rw [b2];decide) (cCon _))
   apply cSuc
   simp only [q0E.l0,q2I,q2W,Option.bind_some]
   exact cPO (cPO (cNeg a1 J))
  ·apply cSuc
   simp only [q0E.l0]
   exact cNO (cCon _)
 | one i t hi h r ih=>
  have w1:=q3R (show i≤1000000 by omega)
  have J:q0S (fun k=>q0E.j2 k s ((i:Nat):Int) (bt s ((i:Nat):Int)) true) (t:Int):=cSuc (by simp only [q0E.j2,w1];exact cPos trivial ih)
  apply cSuc
  simp only [q0E.l0,q2I,q2W,Option.bind_some]
  refine cPO (cPO ?_)
  rcases (q4C h).1 rfl with a | ⟨a,b⟩
  ·exact cPos a J
  ·rw [b];exact cNeg a J
 | two i t hi h h' r ih=>
  have w1:=q3R (show i≤1000000 by omega)
  have w2:=q8O (show i≤1000000 by omega)
  have e1 : ¬ Sm (bt s ((i:Nat):Int)) = true:=by rw [h];decide
  have e2:Dg (bt s ((i:Nat):Int)) = false:=by rw [h];decide
  have J:q0S (fun k=>q0E.j2 k s ((i:Nat):Int) (bt s ((i:Nat):Int)) false) (t:Int):=by
   apply cSuc
   simp only [q0E.j2,w1,w2,q2I,q2W,Option.bind_some]
   refine cND (cPos h (cPO (cPO ?_)))
   rcases (q4C h').1 rfl with a | ⟨a,b⟩
   ·exact cPos a ih
   ·exact cNeg a (cPos b ih)
  apply cSuc
  simp only [q0E.l0,q2I,q2W,Option.bind_some]
  refine cPO (cPO (cNeg e1 ?_))
  rw [e2]
  exact J
/-- s' begins like s, up to m. -/
def Agr (s s':ByteArray) (m:Nat):Prop:=m≤s.size∧m≤s'.size∧∀ j:Nat,j < m → bt s' ((j:Nat):Int) = bt s ((j:Nat):Int)
/-- At m it ends, or white space follows. -/
def Stp (s:ByteArray) (m:Nat):Prop:=m < s.size → bt s ((m:Nat):Int) = 32∨bt s ((m:Nat):Int) = 10∨bt s ((m:Nat):Int) = 9∨bt s ((m:Nat):Int) = 41
theorem NRun.same {s s':ByteArray} {i t:Nat} (h:NRun s i t) (ha:Agr s s' t) (hp:Stp s' t):NRun s' i t:=by
 induction h with
 | stop i hi h=>
  refine .stop i ha.2.1 (fun hlt=>?_)
  rcases hp hlt with e | e | e | e <;> rw [e] <;> exact ⟨by decide,fun k=>absurd k.1 (by decide)⟩
 | one i t hi h r ih=>
  have hl:=r.le
  exact .one i t (by have:=ha.2.1;omega) (by rw [ha.2.2 i (by omega)];exact h) (ih ha hp)
 | two i t hi h h' r ih=>
  have hl:=r.le
  exact .two i t (by have:=ha.2.1;omega) (by rw [ha.2.2 i (by omega)];exact h) (by rw [ha.2.2 (i + 1) (by omega)];exact h') (ih ha hp)
def LexN (s:ByteArray) (m:Nat):Prop:=Sm (bt s ((0:Nat):Int)) = true∧1≤m∧m≤20∧m≤s.size∧NRun s 1 m
def LexD (s:ByteArray) (m:Nat):Prop:=Sm (bt s ((0:Nat):Int)) = false∧1≤m∧m≤6∧m≤s.size∧(∀ j:Nat,j < m → Dg (bt s ((j:Nat):Int)) = true)∧(m < s.size → Dg (bt s ((m:Nat):Int)) = false)∧¬ (1 < m∧bt s ((0:Nat):Int) = 48)
def LexQ (s:ByteArray) (t:Nat):Prop:=bt s ((0:Nat):Int) = 34∧1≤t∧t < s.size∧t≤61∧(∀ j:Nat,1≤j → j < t → Ins (bt s ((j:Nat):Int)) = true)∧bt s ((t:Nat):Int) = 34
def SGN:ByteArray:=⟨#[123,125,40,41,91,93,47,59,58,126,64,61,94,44,46,124,43,42,60,62,45]⟩
def LexS (s:ByteArray):Prop:=0 < s.size∧Sm (bt s ((0:Nat):Int)) = false∧Dg (bt s ((0:Nat):Int)) = false∧bt s ((0:Nat):Int)≠34∧∃ q,q1V.f SGN (bt s ((0:Nat):Int)) = some q∧q≥0
/-- s begins with this token, of m letters. -/
inductive Lx (s:ByteArray):Int → ByteArray → Nat → Prop
 | name (m:Nat) (h:LexN s m):Lx s 1 (s.extract 0 m) m
 | num (m:Nat) (h:LexD s m):Lx s 2 (s.extract 0 m) m
 | quot (t:Nat) (h:LexQ s t):Lx s 3 (s.extract 1 t) (t + 1)
 | sign (h:LexS s):Lx s 4 (s.extract 0 1) 1
theorem Lx.same {s s':ByteArray} {q:Int} {y:ByteArray} {m:Nat} (h:Lx s q y m) (ha:Agr s s' m) (hp:Stp s' m):Lx s' q y m:=by
 obtain ⟨h1,h2,h3⟩:=ha
 cases h with
 | name m h=>
  obtain ⟨a,b,c,d,e⟩:=h
  rw [← q7c h1 h2 (fun j _ hj=>h3 j hj)]
  exact .name m ⟨by rw [h3 0 (by omega)];exact a,b,c,h2,e.same ⟨h1,h2,h3⟩ hp⟩
 | num m h=>
  obtain ⟨a,b,c,d,e,f,g⟩:=h
  rw [← q7c h1 h2 (fun j _ hj=>h3 j hj)]
  refine .num m ⟨by rw [h3 0 (by omega)];exact a,b,c,h2,fun j hj=>by rw [h3 j hj];exact e j hj,fun hlt=>?_,by rw [h3 0 (by omega)];exact g⟩
  rcases hp hlt with k | k | k | k <;> rw [k] <;> decide
 | quot t h=>
  obtain ⟨a,b,c,d,e,f⟩:=h
  rw [← q7c (show t≤s.size by omega) (show t≤s'.size by omega) (fun j _ hj=>h3 j (by omega))]
  exact .quot t ⟨by rw [h3 0 (by omega)];exact a,b,by omega,d,fun j h1 h2=>by rw [h3 j (by omega)];exact e j h1 h2,by rw [h3 t (by omega)];exact f⟩
 | sign h=>
  obtain ⟨a,b,c,d,e⟩:=h
  rw [← q7c h1 h2 (fun j _ hj=>h3 j hj)]
  exact .sign ⟨by omega,by rw [h3 0 (by omega)];exact b,by rw [h3 0 (by omega)];exact c,by rw [h3 0 (by omega)];exact d,by rw [h3 0 (by omega)];exact e⟩
end Go.Proofs.YtmffocankommaaaGreatDoor.B
end
section
namespace Go.Proofs.YtmffocankommaaaGreatDoor.B
open Go.RowKit Go.Proofs.YtmffocankommaaaGreatDoorW.PrintWords Go.Proofs.YtmffocankommaaaGreatDoorW.PrintLast Go.Proofs.YtmffocankommaaaGreatDoorW.PrintMore Go.Proofs.YtmffocankommaaaGreatDoorY
set_option linter.unusedVariables false
theorem nonnil {s:ByteArray} (h0:0 < s.size) : ¬ s.toList = ([]:List UInt8):=by
 rw [ByteArray.toList_eq]
 intro h
 have:=congrArg List.length h
 rw [q3p] at this
 have:s.size = 0:=this
 omega
theorem q7Q {s:ByteArray} (hs:s.size≤20000) (h0:0 < s.size) {m:Nat} (hb:Sm (bt s ((0:Nat):Int)) = true) (h:NRun s 1 m):q0S (fun k=>q0E.f k s) (m:Int):=by
 have hb:Sm (bt s 0) = true:=hb
 unfold q0E.f
 simp only [q2I,hb,Option.bind_some]
 exact cNeg (nonnil h0) (cPO (cSuc (by simp only [q0E.j0];exact cND (h.comes hs))))
theorem q8t {s:ByteArray} (hs:s.size≤20000) {m:Nat} (hm:m≤s.size) (h1:∀ j:Nat,j < m → Dg (bt s ((j:Nat):Int)) = true) (h2:m < s.size → Dg (bt s ((m:Nat):Int)) = false):q0S (fun k=>q1c.f k s) (m:Int):=by
 obtain ⟨t,t2,hd,hn,d1,d2⟩:=q5a s hs
 obtain rfl:t = m:=by
  rcases Nat.lt_trichotomy t m with h | h | h
  ·have a:=hn (by omega)
   rw [h1 t h] at a
   cases a
  ·exact h
  ·have a:=hd m h
   rw [h2 (by omega)] at a
   cases a
 exact d1
theorem q8k {s:ByteArray} (hs:s.size≤20000) {t:Nat} (ht:t≤s.size) (hE:t < s.size → Ins (bt s ((t:Nat):Int)) = false) (r:ByteArray × Int) (hr:q0S (fun k=>q0R.j1 k s ((t:Nat):Int)) r) :
  ∀ (d i:Nat),i + d = t → (∀ j,i≤j → j < t → Ins (bt s ((j:Nat):Int)) = true) → q0S (fun k=>q0R.l0 k s ((i:Nat):Int)) r:=by
 intro d
 induction d with
 | zero=>
  intro i hi _
  obtain rfl:i = t:=by omega
  apply cSuc
  simp only [q0R.l0,q7a,Option.bind_some]
  by_cases h:i < s.size
  ·exact cPO (cPO (cNeg (by rw [hE h];decide) hr))
  ·exact cNO hr
 | succ d IH=>
  intro i hi hI
  apply cSuc
  simp only [q0R.l0,q7a,Option.bind_some,q3R (show i≤1000000 by omega)]
  exact cPO (cPO (cPos (hI i (Nat.le_refl _) (by omega)) (IH (i + 1) (by omega) (fun j h1 h2=>hI j (by omega) h2))))
theorem q8c {s:ByteArray} (hs:s.size≤20000) {t:Nat} (h:LexQ s t):q0S (fun k=>q0R.f k s) (s.extract 1 t,0):=by
 obtain ⟨a,b,c,d,e,f⟩:=h
 have wm:wrap64 ((t:Int) - 1) = ((t - 1:Nat):Int):=by unfold wrap64;omega
 have ti:((t:Nat):Int).toNat = t:=Int.toNat_natCast _
 unfold q0R.f
 refine q8k hs (by omega) (fun _=>by rw [f];decide) _ (cSuc ?_) (t - 1) 1 (by omega) e
 simp only [q0R.j1]
 refine cNO (cPO (cPO (cSuc ?_)))
 simp only [q0R.j2,f,wm,ti]
 exact cND (cNO (cPO (cPO (cCon _))))
theorem Lx.comes {s:ByteArray} (hs:s.size≤20000) {q:Int} {y:ByteArray} {m:Nat} (h:Lx s q y m):q0S (fun k=>q2y.f k s) (q,y,0,(m:Int),0):=by
 have ti:∀ t:Nat,((t:Nat):Int).toNat = t:=Int.toNat_natCast
 unfold q2y.f
 cases h with
 | name m h=>
  obtain ⟨a,b,c,d,e⟩:=h
  have a':Sm (bt s 0) = true:=a
  refine cPO ?_
  simp only [q2I,a',Option.bind_some]
  refine cPos trivial (cBin (q7Q hs (by omega) a e) ?_)
  simp only [ti]
  exact cNO (cPO (cPO (cCon _)))
 | num m h=>
  obtain ⟨a,b,c,d,e,f,g⟩:=h
  have a':Sm (bt s 0) = false:=a
  have e0:Dg (bt s 0) = true:=e 0 (by omega)
  have he:(s.extract 0 m).size = m:=by rw [q2Y d];omega
  have hbt:∀ j,j < m → bt (s.extract 0 m) ((j:Nat):Int) = bt s ((j:Nat):Int):=fun j hj=>by rw [q2U d (by omega),Nat.zero_add]
  obtain ⟨v,hv⟩:=q7q (s.extract 0 m) (by omega) (by omega) (fun j hj=>by rw [he] at hj;rw [hbt j hj];exact e j hj)
  have hb0:bt (s.extract 0 m) 0 = bt s ((0:Nat):Int):=hbt 0 (by omega)
  rw [he,hb0,if_neg g] at hv
  refine cPO ?_
  simp only [q2I,q2W,a',e0,Option.bind_some]
  refine cND (cPos trivial (cBin (q8t hs d e f) ?_))
  simp only [ti]
  exact cNO (cPO (cPO (cBin hv (cPos rfl (cCon _)))))
 | quot t h=>
  have hq:=q8c hs h
  obtain ⟨a,b,c,d,e,f⟩:=h
  have a':bt s 0 = 34:=a
  have hw:wrap64 (((s.extract 1 t).size:Int) + 2) = ((t + 1:Nat):Int):=by rw [q2Y (by omega),q8O (by omega)];congr 1;omega
  refine cPO ?_
  simp only [q2I,q2W,a',Option.bind_some]
  refine cND (cND (cPos trivial (cBin hq ?_)))
  simp only [hw]
  exact cCon _
 | sign h=>
  obtain ⟨z,a,b,c,q,e1,e2⟩:=h
  have a':Sm (bt s 0) = false:=a
  have b':Dg (bt s 0) = false:=b
  have e1':q1V.f (⟨#[123,125,40,41,91,93,47,59,58,126,64,61,94,44,46,124,43,42,60,62,45]⟩:ByteArray) (bt s 0) = some q:=e1
  refine cPO ?_
  simp only [q2I,q2W,a',b',e1',Option.bind_some]
  exact cND (cND (cNeg c (cPos e2 (cPD (cPO (cCon _))))))
theorem Lx.size {s:ByteArray} {q:Int} {y:ByteArray} {m:Nat} (h:Lx s q y m):1≤m∧m≤s.size∧m≤62:=by
 cases h with
 | name m h=>exact ⟨h.2.1,h.2.2.2.1,by have:=h.2.2.1;omega⟩
 | num m h=>exact ⟨h.2.1,h.2.2.2.1,by have:=h.2.2.1;omega⟩
 | quot t h=>exact ⟨by omega,by have:=h.2.2.1;omega,by have:=h.2.2.2.1;omega⟩
 | sign h=>exact ⟨Nat.le_refl _,h.1,by decide⟩
theorem Lx.head {s:ByteArray} {q:Int} {y:ByteArray} {m:Nat} (h:Lx s q y m) : ¬ Wh (bt s ((0:Nat):Int)):=by
 have key:∀ c:Int,Wh c → Sm c = false∧Dg c = false∧c≠34∧∀ q,q1V.f SGN c = some q → ¬ q≥0:=by
  intro c hc
  have e:∀ c ∈ ([10,32,9,13,35]:List Int),q1V.f SGN c = some (-1)∧Sm c = false∧Dg c = false∧c≠34:=by decide +kernel
  obtain ⟨e1,e2,e3,e4⟩:=e c (by rcases hc with rfl | rfl | rfl | rfl | rfl <;> decide)
  exact ⟨e2,e3,e4,fun q hq k=>by rw [← Option.some.inj (e1.symm.trans hq)] at k;exact absurd k (by decide)⟩
 intro hw
 obtain ⟨k1,k2,k3,k4⟩:=key _ hw
 cases h with
 | name m h=>rw [h.1] at k1;cases k1
 | num m h=>have:=h.2.2.2.2.1 0 h.2.1;rw [k2] at this;cases this
 | quot t h=>exact k3 h.1
 | sign h=>
  obtain ⟨_,_,_,_,q,e1,e2⟩:=h
  exact k4 q e1 e2
end Go.Proofs.YtmffocankommaaaGreatDoor.B
end
section
namespace Go.Proofs.YtmffocankommaaaGreatDoor.B
open Go.RowKit Go.Proofs.YtmffocankommaaaGreatDoorW.PrintWords Go.Proofs.YtmffocankommaaaGreatDoorW.PrintLast Go.Proofs.YtmffocankommaaaGreatDoorW.PrintMore Go.Proofs.YtmffocankommaaaGreatDoorY
set_option linter.unusedVariables false
theorem bt_left {a b:ByteArray} {j:Nat} (h:j < a.size):bt (a++b) ((j:Nat):Int) = bt a ((j:Nat):Int):=by
 have h2:j < (a++b).size:=by rw [ByteArray.size_append];omega
 have e1:=q2C (a++b) ((j:Nat):Int) (by rw [Int.toNat_natCast];exact h2)
 have e2:=q2C a ((j:Nat):Int) (by rw [Int.toNat_natCast];exact h)
 simp only [Int.toNat_natCast] at e1 e2
 rw [← e1,← e2,ByteArray.getElem_append_left h]
theorem q8E {a b:ByteArray} {j:Nat} (h:j < b.size):bt (a++b) ((a.size + j:Nat):Int) = bt b ((j:Nat):Int):=by
 have h2:a.size + j < (a++b).size:=by rw [ByteArray.size_append];omega
 have e1:=q2C (a++b) ((a.size + j:Nat):Int) (by rw [Int.toNat_natCast];exact h2)
 have e2:=q2C b ((j:Nat):Int) (by rw [Int.toNat_natCast];exact h)
 simp only [Int.toNat_natCast] at e1 e2
 rw [← e1,← e2,ByteArray.getElem_append_right (by omega)]
 simp
theorem bt_one (c:UInt8):bt (⟨#[c]⟩:ByteArray) ((0:Nat):Int) = (c.toNat:Int):=rfl
end Go.Proofs.YtmffocankommaaaGreatDoor.B
end
section
namespace Go.Proofs.YtmffocankommaaaGreatDoor.B
open Go.RowKit Go.Proofs.YtmffocankommaaaGreatDoorW.PrintWords Go.Proofs.YtmffocankommaaaGreatDoorW.PrintLast Go.Proofs.YtmffocankommaaaGreatDoorW.PrintMore Go.Proofs.YtmffocankommaaaGreatDoorY
set_option linter.unusedVariables false
theorem q7x (n:S28) (h:Small n) (d:Int):∃ e,q0S (fun k=>q0G.f k n.f0 n.f1 n.f2 n.f3 d) e:=by
 obtain ⟨e,h1,_⟩:=q3L n h d
 exact ⟨e,h1⟩
theorem q4K (x:List S28) (hl:x.length≤1048576) (d:Int) (ih:∀ y,y ∈ x → Small y) (m i:Nat) (hi:i + m = x.length):∃ e,q0S (fun k=>q0G.l0 k d x (x.length:Int) (i:Int)) e:=by
 obtain ⟨e,h1,_⟩:=q5t x hl 0 ⟨#[]⟩ 0 d (fun y hy=>q3L y (ih y hy) _) m i hi
 exact ⟨e,h1⟩
theorem q4T (s:ByteArray):∃ r,q0S (fun k=>q1z.f k s) r:=by
 obtain ⟨r,h,_⟩:=q4Z s
 exact ⟨r,h⟩
theorem q6I (s:ByteArray):∃ r,q0S (fun k=>q1q.f k s) r:=by
 obtain ⟨r,h,_⟩:=q4Y s
 exact ⟨r,h⟩
theorem q0S.same {α:Type} {f:Nat → Option α} {r r':α} (h:q0S f r) (h':q0S f r'):r = r':=by
 obtain ⟨K,h⟩:=h
 obtain ⟨K',h'⟩:=h'
 exact Option.some.inj ((h (max K K') (by omega)).symm.trans (h' (max K K') (by omega)))
def q5X (b:ByteArray):Prop:=q0S (fun k=>q1q.f k b) true
/-- A node without an error. -/
inductive Vl:S28 → Prop
 | mk (a:Int) (b:ByteArray) (c:Int) (x:List S28) (hS:Shp a b c x = true) (hn:Nm a = true → q5X b) (hc:0≤c∧c≤9) (hl:x.length≤1048576) (hk:∀ y,y ∈ x → Vl y):Vl ⟨a,b,c,x⟩
theorem q6y (x:List S28) (hl:x.length≤1048576) (d:Int) (hk:∀ y,y ∈ x → Small y):∀ (m i:Nat),i + m = x.length → q0S (fun k=>q0G.l0 k d x (x.length:Int) (i:Int)) 0 → ∀ j (h:j < x.length),i≤j → q0S (fun k=>q0G.f k x[j].f0 x[j].f1 x[j].f2 x[j].f3 (wrap64 (d + 1))) 0:=by
 intro m
 induction m with
 | zero=>intro i hi _ j h hij;omega
 | succ m IH=>
  intro i hi hz j h hij
  have hlt:i < x.length:=by omega
  obtain ⟨e,he⟩:=q7x x[i] (hk _ (List.getElem_mem hlt)) (wrap64 (d + 1))
  by_cases h0:e = 0
  ·subst h0
   rcases Nat.eq_or_lt_of_le hij with rfl | hij
   ·exact he
   ·obtain ⟨e',he'⟩:=q4K x hl d hk m (i + 1) (by omega)
    have hs:q0S (fun k=>q0G.l0 k d x (x.length:Int) (i:Int)) e':=by
     apply cSuc
     simp only [q0G.l0,rd25 hlt,q2e (show i≤1048576 by omega)]
     exact cPO (cPO (cPO (cBin he (cPos rfl he'))))
    obtain rfl:=hs.same hz
    exact IH (i + 1) (by omega) he' j h hij
  ·exfalso
   have hs:q0S (fun k=>q0G.l0 k d x (x.length:Int) (i:Int)) e:=by
    apply cSuc
    simp only [q0G.l0,rd25 hlt]
    exact cPO (cPO (cPO (cBin he (cNeg h0 (cCon _)))))
   exact h0 (hs.same hz)
theorem q5Z:∀ (n:S28),Small n → ∀ d:Int,q0S (fun k=>q0G.f k n.f0 n.f1 n.f2 n.f3 d) 0 → Vl n
 | ⟨a,b,c,x⟩,hs,d,h=>by
  cases hs with
  | mk _ _ _ _ hl hk=>
  obtain ⟨e,L1⟩:=q4K x hl d hk x.length 0 (by omega)
  have s1:=q4x a b c x hl
  obtain ⟨u,u1⟩:=q6I b
  have J:∀ z:Bool,q0S (fun k=>q0G.j0 k d z a b c x) (if z = true then 2 else if c < 0 then 6 else if c > 9 then 6 else e):=by
   intro z
   apply cSuc
   simp only [q0G.j0]
   refine cIte (fun hz=>cVal (by rw [if_pos hz])) (fun hz=>?_)
   rw [if_neg hz]
   refine cIte (fun h0=>cVal (by rw [if_pos h0])) (fun h0=>?_)
   rw [if_neg h0]
   refine cIte (fun h9=>cVal (by rw [if_pos h9])) (fun h9=>?_)
   rw [if_neg h9]
   exact L1
  by_cases h12:d > 12
  ·have:q0S (fun k=>q0G.f k a b c x d) 3:=cSuc (by simp only [q0G.f];exact cPos h12 (cCon _))
   exact absurd (this.same h) (by decide)
  by_cases hS:Shp a b c x = true
  case neg=>
   have:q0S (fun k=>q0G.f k a b c x d) 1:=cSuc (by simp only [q0G.f];exact cNeg h12 (cBin s1 (cNeg hS (cCon _))))
   exact absurd (this.same h) (by decide)
  have fin:∀ z:Bool,(Nm a = true → z = !u) → (if z = true then (2:Int) else if c < 0 then 6 else if c > 9 then 6 else e) = 0 → Vl ⟨a,b,c,x⟩:=by
   intro z hz he
   by_cases hzt:z = true
   ·rw [if_pos hzt] at he;exact absurd he (by decide)
   rw [if_neg hzt] at he
   by_cases h0:c < 0
   ·rw [if_pos h0] at he;exact absurd he (by decide)
   rw [if_neg h0] at he
   by_cases h9:c > 9
   ·rw [if_pos h9] at he;exact absurd he (by decide)
   rw [if_neg h9] at he
   subst he
   refine .mk a b c x hS (fun hn=>?_) ⟨by omega,by omega⟩ hl (fun y hy=>?_)
   ·have:u = true:=by
     have:=hz hn
     cases u with
     | true=>rfl
     | false=>exact absurd this (by simpa using hzt)
    rw [this] at u1
    exact u1
   ·obtain ⟨j,hj,rfl⟩:=List.getElem_of_mem hy
    exact q5Z x[j] (hk _ hy) _ (q6y x hl d hk x.length 0 (by omega) L1 j hj (Nat.zero_le _))
  by_cases hn:Nm a = true
  ·have:q0S (fun k=>q0G.f k a b c x d) _:=cSuc (by
    simp only [q0G.f,q4U,Option.bind_some]
    exact cNeg h12 (cBin s1 (cPos hS (cPos hn (cBin u1 (J (!u)))))))
   exact fin (!u) (fun _=>rfl) (this.same h)
  ·have:q0S (fun k=>q0G.f k a b c x d) _:=cSuc (by
    simp only [q0G.f,q4U,Option.bind_some]
    exact cNeg h12 (cBin s1 (cPos hS (cNeg hn (J false)))))
   exact fin false (fun k=>absurd k hn) (this.same h)
 termination_by n=>SizeOf.sizeOf n
 decreasing_by
  have:=List.sizeOf_lt_of_mem hy
  simp only [S28.mk.sizeOf_spec]
  omega
/-- The text of a number of one digit. -/
def dig (c:Int):ByteArray:=⟨#[(48 + c).toNat.toUInt8]⟩
set_option maxRecDepth 100000 in
theorem dig_tab:∀ c:Fin 10,q0Q.f 10 (dig (c.val:Int)) = some ((c.val:Int),true):=by decide +kernel
theorem q7Y {c:Int} (h:0≤c∧c≤9):Num (dig c) c:=by
 obtain ⟨n,rfl⟩:∃ n:Nat,c = (n:Int):=⟨c.toNat,by omega⟩
 exact q0S.mono (fun k=>q0Q.mono _ k) 10 (dig_tab ⟨n,by omega⟩)
theorem q4m {b:ByteArray} (h:q5X b):Nme b:=by
 obtain ⟨r,hr⟩:=q4T b
 have key:q0S (fun k=>q1q.f k b) (if r = true then (if b.toList = ([117]:List UInt8) then false else (b.toList != ([120]:List UInt8))) else false):=by
  unfold q1q.f
  refine cBin hr ?_
  refine cIte (fun h1=>?_) (fun h1=>cVal (by rw [if_neg h1]))
  rw [if_pos h1]
  exact cIte (fun h2=>cVal (by rw [if_pos h2])) (fun h2=>cVal (by rw [if_neg h2]))
 have e:=key.same h
 by_cases h1:r = true
 ·rw [if_pos h1] at e
  by_cases h2:b.toList = ([117]:List UInt8)
  ·rw [if_pos h2] at e;cases e
  ·rw [if_neg h2] at e
   exact ⟨h2,by simpa using e⟩
 ·rw [if_neg h1] at e;cases e
end Go.Proofs.YtmffocankommaaaGreatDoor.B
end
section
namespace Go.Proofs.YtmffocankommaaaGreatDoor.B
open Go.RowKit Go.Proofs.YtmffocankommaaaGreatDoorW.PrintWords Go.Proofs.YtmffocankommaaaGreatDoorW.PrintLast Go.Proofs.YtmffocankommaaaGreatDoorW.PrintMore Go.Proofs.YtmffocankommaaaGreatDoorY
set_option linter.unusedVariables false
/-- From c on b holds these tokens. -/
inductive Rd (b:ByteArray):Nat → List Tok → Prop
 | fin:Rd b b.size []
 | white (c:Nat) (ts:List Tok) (h:c < b.size) (hb:bt b ((c:Nat):Int) = 32) (r:Rd b (c + 1) ts):Rd b c ts
 | tok (c m:Nat) (q:Int) (y:ByteArray) (ts:List Tok) (h:Lx (b.extract c b.size) q y m) (hc:c≤b.size) (r:Rd b (c + m) ts):Rd b c ((q,y) :: ts)
/-- The cutter gives them. -/
theorem Rd.comes {b:ByteArray} (hb:b.size≤20000) {c:Nat} {ts:List Tok} (h:Rd b c ts):∀ (xs:List S61) (x:Nat),xs.length≤c → ∃ l',l'.map (fun t=>(t.f0,t.f1)) = ts∧q0S (fun k=>q0C.l0 k b xs (x:Int) ((c:Nat):Int)) (xs++l',0,0):=by
 induction h with
 | fin=>
  intro xs x hx
  refine ⟨[],rfl,cSuc ?_⟩
  simp only [q0C.l0,List.append_nil]
  exact cNO (cCon _)
 | white c ts h hb' r ih=>
  intro xs x hx
  obtain ⟨l',h1,h2⟩:=ih xs x (by omega)
  exact ⟨l',h1,t_white b hb h (.inl hb') h2⟩
 | tok c m q y ts h hc r ih=>
  intro xs x hx
  have hz:=h.size
  have hez:(b.extract c b.size).size = b.size - c:=q2Y (Nat.le_refl _)
  have g0:bt (b.extract c b.size) ((0:Nat):Int) = bt b ((c:Nat):Int):=by rw [q2U (Nat.le_refl _) (by omega),Nat.add_zero]
  have hw:=h.head
  rw [g0] at hw
  have hn1 : ¬ (bt b ((c:Nat):Int) = 10∨bt b ((c:Nat):Int) = 32∨bt b ((c:Nat):Int) = 9∨bt b ((c:Nat):Int) = 13):=by
   intro k
   rcases k with k | k | k | k
   ·exact hw (.inl k)
   ·exact hw (.inr (.inl k))
   ·exact hw (.inr (.inr (.inl k)))
   ·exact hw (.inr (.inr (.inr (.inl k))))
  have hn2:bt b ((c:Nat):Int)≠35:=fun k=>hw (.inr (.inr (.inr (.inr k))))
  have tn:((c:Nat):Int).toNat = c:=Int.toNat_natCast _
  have hwr:wrap64 (((c:Nat):Int) + (m:Int)) = ((c + m:Nat):Int):=by clear ih;unfold wrap64;omega
  have a1:(xs++[(⟨q,y,(x:Int)⟩:S61)]).length≤c + m:=by rw [List.length_append,List.length_singleton];omega
  obtain ⟨l',h1,h2⟩:=ih (xs++[⟨q,y,(x:Int)⟩]) x a1
  refine ⟨⟨q,y,(x:Int)⟩ :: l',by rw [List.map_cons,h1],t_other b (by omega) hn1 (t_next tn (Int.natCast_nonneg _) (by omega) hwr (by omega) hn2 (h.comes (by omega)) ?_)⟩
  rw [List.append_assoc] at h2
  exact h2
theorem Rd.tokens {b:ByteArray} (hb:b.size≤20000) {ts:List Tok} (h:Rd b 0 ts):∃ l:List S61,l.map (fun t=>(t.f0,t.f1)) = ts∧q0S (fun k=>q0C.f k b) (l,0,0):=by
 obtain ⟨l,h1,h2⟩:=h.comes hb [] 1 (Nat.le_refl _)
 refine ⟨l,h1,?_⟩
 unfold q0C.f
 exact cNO h2
/-- A word is cut as this token. -/
def Wk (u:ByteArray) (t:Tok):Prop:=Lx u t.1 t.2 u.size
/-- What may stand behind a word. -/
def Bhd (b:ByteArray) (c:Nat):Prop:=c < b.size → bt b ((c:Nat):Int) = 32∨bt b ((c:Nat):Int) = 10∨bt b ((c:Nat):Int) = 9∨bt b ((c:Nat):Int) = 41
/-- u stands in b at c. -/
def q3F (b u:ByteArray) (c:Nat):Prop:=c + u.size≤b.size∧∀ j:Nat,j < u.size → bt b ((c + j:Nat):Int) = bt u ((j:Nat):Int)
theorem Rd.word {b u:ByteArray} {c:Nat} {t:Tok} {ts:List Tok} (h:Wk u t) (hs:q3F b u c) (hp:Bhd b (c + u.size)) (r:Rd b (c + u.size) ts):Rd b c (t :: ts):=by
 obtain ⟨h1,h2⟩:=hs
 have hez:(b.extract c b.size).size = b.size - c:=q2Y (Nat.le_refl _)
 refine .tok c u.size t.1 t.2 ts (Lx.same h ⟨Nat.le_refl _,by omega,fun j hj=>?_⟩ (fun hlt=>?_)) (by omega) r
 ·rw [q2U (Nat.le_refl _) (by omega)]
  exact h2 j hj
 ·rw [q2U (Nat.le_refl _) (by omega)]
  exact hp (by omega)
theorem Rd.sgn {b:ByteArray} {c:Nat} {v:UInt8} {ts:List Tok} (h:c < b.size) (hb:bt b ((c:Nat):Int) = (v.toNat:Int)) (hv:LexS ⟨#[v]⟩) (r:Rd b (c + 1) ts):Rd b c (sg v :: ts):=by
 have hez:(b.extract c b.size).size = b.size - c:=q2Y (Nat.le_refl _)
 have g0:bt (b.extract c b.size) ((0:Nat):Int) = bt (⟨#[v]⟩:ByteArray) ((0:Nat):Int):=by rw [q2U (Nat.le_refl _) (by omega),Nat.add_zero,bt_one];exact hb
 have hx:(b.extract c b.size).extract 0 1 = ⟨#[v]⟩:=by
  apply q4H
  ·rw [q2Y (by omega)];rfl
  ·intro j hj
   rw [q2Y (by omega)] at hj
   obtain rfl:j = 0:=by omega
   rw [q2U (by omega) (by omega),Nat.add_zero]
   exact g0
 have key:Lx (b.extract c b.size) 4 ((b.extract c b.size).extract 0 1) 1:=by
  obtain ⟨z,e1,e2,e3,e4⟩:=hv
  exact .sign ⟨by omega,by rw [g0];exact e1,by rw [g0];exact e2,by rw [g0];exact e3,by rw [g0];exact e4⟩
 rw [hx] at key
 exact .tok c 1 4 ⟨#[v]⟩ ts key (by omega) r
end Go.Proofs.YtmffocankommaaaGreatDoor.B
end
section
namespace Go.Proofs.YtmffocankommaaaGreatDoor.B
open Go.RowKit Go.Proofs.YtmffocankommaaaGreatDoorW.PrintWords Go.Proofs.YtmffocankommaaaGreatDoorW.PrintLast Go.Proofs.YtmffocankommaaaGreatDoorW.PrintMore Go.Proofs.YtmffocankommaaaGreatDoorY
set_option linter.unusedVariables false
/-- The letters of words, with one more each. -/
def wid:List ByteArray → Nat
 | []=>0
 | u :: us=>u.size + 1 + wid us
theorem q3I (a b:List ByteArray):wid (a++b) = wid a + wid b:=by
 induction a with
 | nil=>simp [wid]
 | cons u us ih=>simp only [List.cons_append,wid,ih];omega
theorem q3U (a:List ByteArray):a.length≤wid a:=by
 induction a with
 | nil=>simp [wid]
 | cons u us ih=>simp only [List.length_cons,wid];omega
inductive Prs:List ByteArray → List Tok → Prop
 | nil:Prs [] []
 | cons (u:ByteArray) (t:Tok) (us:List ByteArray) (ts:List Tok) (h:Wk u t) (r:Prs us ts):Prs (u :: us) (t :: ts)
theorem Prs.app {a:List ByteArray} {s:List Tok} {b:List ByteArray} {t:List Tok} (h:Prs a s) (h':Prs b t):Prs (a++b) (s++t):=by
 induction h with
 | nil=>exact h'
 | cons u t us ts h r ih=>exact .cons _ _ _ _ h ih
theorem Prs.one {u:ByteArray} {t:Tok} (h:Wk u t):Prs [u] [t]:=.cons _ _ _ _ h .nil
def SG:List UInt8:=[45,58,126,64,91,93,40,41,47,94,123,125]
theorem sgn_tab:∀ v ∈ SG,Sm (bt (⟨#[v]⟩:ByteArray) ((0:Nat):Int)) = false∧Dg (bt (⟨#[v]⟩:ByteArray) ((0:Nat):Int)) = false∧bt (⟨#[v]⟩:ByteArray) ((0:Nat):Int)≠34∧(match q1V.f SGN (bt (⟨#[v]⟩:ByteArray) ((0:Nat):Int)) with | some q=>decide (q≥0) | none=>false) = true:=by decide +kernel
theorem q5d {v:UInt8} (h:v ∈ SG):LexS ⟨#[v]⟩:=by
 obtain ⟨h1,h2,h3,h4⟩:=sgn_tab v h
 refine ⟨Nat.one_pos,h1,h2,h3,?_⟩
 cases hq:q1V.f SGN (bt (⟨#[v]⟩:ByteArray) ((0:Nat):Int)) with
 | none=>rw [hq] at h4;cases h4
 | some q=>rw [hq] at h4;exact ⟨q,rfl,of_decide_eq_true h4⟩
theorem q6N {u:ByteArray} {m:Nat} (h:u.size = m):u.extract 0 m = u:=by
 subst h
 apply q4H
 ·rw [q2Y (Nat.le_refl _),Nat.sub_zero]
 ·intro j hj
  rw [q2Y (Nat.le_refl _),Nat.sub_zero] at hj
  rw [q2U (Nat.le_refl _) (by omega),Nat.zero_add]
theorem q3f {v:UInt8} (h:v ∈ SG):Wk ⟨#[v]⟩ (sg v):=by
 have:=Lx.sign (q5d h)
 rw [q6N (show (⟨#[v]⟩:ByteArray).size = 1 from rfl)] at this
 exact this
theorem q9p {c:Int} (h:0≤c∧c≤9):Wk (dig c) (2,dig c):=by
 obtain ⟨n,rfl⟩:∃ n:Nat,c = (n:Int):=⟨c.toNat,by omega⟩
 have tab:∀ n:Fin 10,Sm (bt (dig (n.val:Int)) ((0:Nat):Int)) = false∧Dg (bt (dig (n.val:Int)) ((0:Nat):Int)) = true:=by decide +kernel
 obtain ⟨a,b⟩:=tab ⟨n,by omega⟩
 have hz:(dig (n:Int)).size = 1:=rfl
 have hd:∀ j:Nat,j < 1 → Dg (bt (dig (n:Int)) ((j:Nat):Int)) = true:=fun j hj=>by
  obtain rfl:j = 0:=by omega
  exact b
 have:=Lx.num (s:=dig (n:Int)) 1 ⟨a,Nat.le_refl _,by decide,by omega,hd,fun k=>absurd k (by omega),fun k=>absurd k.1 (by decide)⟩
 rw [q6N hz] at this
 exact this
theorem q7N {b:ByteArray} (h:LexN b b.size):Wk b (1,b):=by
 have:=Lx.name b.size h
 rw [q6N rfl] at this
 exact this
theorem q6f {v:UInt8} (h:v = 117∨v = 120):Wk ⟨#[v]⟩ (1,⟨#[v]⟩):=by
 apply q7N
 refine ⟨?_,Nat.le_refl _,by show (1:Nat)≤20;decide,Nat.le_refl _,.stop 1 (Nat.le_refl _) (fun k=>absurd k (Nat.lt_irrefl _))⟩
 rcases h with rfl | rfl <;> decide
theorem q4I {b:ByteArray} (h:q5X b):Wk b (1,b)∧b.size≤20:=by
 have hN:q0S (fun k=>q1z.f k b) true:=by
  obtain ⟨r,hr⟩:=q4T b
  cases r with
  | true=>exact hr
  | false=>
   exfalso
   have key:q0S (fun k=>q1q.f k b) false:=by
    unfold q1q.f
    exact cBin hr (cND (cCon _))
   cases key.same h
 unfold q1z.f at hN
 have h0 : ¬ b.toList = ([]:List UInt8):=fun k=>by cases (cPos k (cCon false)).same hN
 have hz:0 < b.size:=Nat.pos_of_ne_zero (fun k=>h0 (by
  have:b.data.toList.length = 0:=k
  rw [ByteArray.toList_eq]
  exact List.eq_nil_of_length_eq_zero this))
 have h20:(b.size:Int)≤20:=by
  by_cases k:(b.size:Int)≤20
  ·exact k
  ·cases (cNeg h0 (cNeg k (cCon false))).same hN
 have key:∀ t:Int,q0S (fun k=>q0E.f k b) t → t = (b.size:Int):=fun t ht=>by
  have:=(cNeg h0 (cPos h20 (cBin ht (cCon (t == (b.size:Int)))))).same hN
  exact beq_iff_eq.1 this
 have hs:b.size≤20000:=by omega
 cases hb:Sm (bt b ((0:Nat):Int)) with
 | false=>
  have:=key 0 ((q5b b hs hz).2 hb)
  omega
 | true=>
  obtain ⟨t,ht⟩:=NRun.ex b (b.size - 1) 1 (by omega)
  have e:=key t (q7Q hs hz hb ht)
  obtain rfl:t = b.size:=by omega
  exact ⟨q7N ⟨hb,by omega,by omega,Nat.le_refl _,ht⟩,by omega⟩
end Go.Proofs.YtmffocankommaaaGreatDoor.B
end
section
namespace Go.Proofs.YtmffocankommaaaGreatDoor.B
open Go.RowKit Go.Proofs.YtmffocankommaaaGreatDoorW.PrintWords Go.Proofs.YtmffocankommaaaGreatDoorW.PrintLast Go.Proofs.YtmffocankommaaaGreatDoorW.PrintMore Go.Proofs.YtmffocankommaaaGreatDoorY
set_option linter.unusedVariables false
/-- What is written of a node. -/
structure Wr (n:S28) (m:Nat) (ws:List ByteArray) (ts:List Tok):Prop where
 w:q0S (fun k=>q1m.f k n.f0 n.f1 n.f2 n.f3) ws
 r:q0S (fun k=>q0h.f k n.f0 n.f1 n.f2 n.f3) ws
 p:Prs ws ts
 t:n.f0≠5 → Tk n ts
 b:TkB n ts
 z:wid ws + 2≤27 * m
inductive Wrs:List S28 → Nat → List (List ByteArray) → List (List Tok) → Prop
 | nil:Wrs [] 0 [] []
 | cons (n:S28) (ns:List S28) (m ms:Nat) (ws:List ByteArray) (wss:List (List ByteArray)) (ts:List Tok) (tss:List (List Tok)) (h:Wr n m ws ts) (r:Wrs ns ms wss tss):Wrs (n :: ns) (m + ms) (ws :: wss) (ts :: tss)
theorem Wrs.len {l:List S28} {m:Nat} {wss:List (List ByteArray)} {tss:List (List Tok)} (h:Wrs l m wss tss):wss.length = l.length:=by
 induction h with
 | nil=>rfl
 | cons n ns m ms ws wss ts tss h r ih=>rw [List.length_cons,List.length_cons,ih]
theorem Wrs.wr {l:List S28} {m:Nat} {wss:List (List ByteArray)} {tss:List (List Tok)} (h:Wrs l m wss tss):∀ i (h:i < l.length) (h':i < wss.length),q0S (fun k=>q1m.f k l[i].f0 l[i].f1 l[i].f2 l[i].f3) wss[i]∧q0S (fun k=>q0h.f k l[i].f0 l[i].f1 l[i].f2 l[i].f3) wss[i]:=by
 induction h with
 | nil=>intro i h;exact absurd h (by simp)
 | cons n ns m ms ws wss ts tss h r ih=>
  intro i hi hi'
  cases i with
  | zero=>exact ⟨h.w,h.r⟩
  | succ i=>exact ih i (by simpa using hi) (by simpa using hi')
theorem Wrs.wide {l:List S28} {m:Nat} {wss:List (List ByteArray)} {tss:List (List Tok)} (h:Wrs l m wss tss):wid wss.flatten + 2 * wss.length≤27 * m:=by
 induction h with
 | nil=>simp [wid]
 | cons n ns m ms ws wss ts tss h r ih=>
  have:=h.z
  rw [List.flatten_cons,q3I,List.length_cons]
  omega
theorem wrs_of {l:List S28} : ∀ {m:Nat} {ys:List ByteArray},(∀ y,y ∈ l → ∀ m1 y1,CntN y m1 y1 → m1≤200 → ∃ ws ts,Wr y m1 ws ts) → CntL l m ys → m≤200 → ∃ wss tss,Wrs l m wss tss:=by
 induction l with
 | nil=>
  intro m ys _ h _
  obtain ⟨rfl,rfl⟩:=h.nil_inv
  exact ⟨_,_,.nil⟩
 | cons x l IH=>
  intro m ys ih h hm
  obtain ⟨m1,m2,y1,y2,rfl,rfl,h1,h2⟩:=h.inv
  obtain ⟨ws,ts,hw⟩:=ih x (by simp) m1 y1 h1 (by omega)
  obtain ⟨wss,tss,hs⟩:=IH (fun y hy=>ih y (List.mem_cons_of_mem _ hy)) h2 (by omega)
  exact ⟨_,_,.cons _ _ _ _ _ _ _ _ hw hs⟩
section
variable {l:List S28} {wss:List (List ByteArray)} (hl:l.length≤1048576) (hw:wss.length = l.length)
include hl hw
theorem kids_N (hk:∀ i (h:i < l.length) (h':i < wss.length),q0S (fun k=>q1m.f k l[i].f0 l[i].f1 l[i].f2 l[i].f3) wss[i]) (a:Int) (b:ByteArray) (c:Int) (r:List ByteArray)
  (hr:q0S (fun k=>q0A.l0 k wss l (l.length:Int) ((l.length:Nat):Int) a b c l) r):∀ (d i:Nat),i + d = l.length → q0S (fun k=>q0A.l0 k (wss.take i) l (l.length:Int) ((i:Nat):Int) a b c l) r:=by
 intro d
 induction d with
 | zero=>
  intro i hi
  obtain rfl:i = l.length:=by omega
  rw [List.take_of_length_le (by omega)]
  exact hr
 | succ d IH=>
  intro i hi
  have h:i < l.length:=by omega
  have h':i < wss.length:=by omega
  apply cSuc
  simp only [q0A.l0,rd25 h,q2e (show i≤1048576 by omega)]
  refine cPO (cPO (cPO (cBin (hk i h h') (cPos (by rw [List.length_take];omega) ?_))))
  have:=IH (i + 1) (by omega)
  rw [List.take_succ_eq_append_getElem h'] at this
  exact this
theorem kids_P (hk:∀ i (h:i < l.length) (h':i < wss.length),q0S (fun k=>q1m.f k l[i].f0 l[i].f1 l[i].f2 l[i].f3) wss[i]) (a:Int) (b:ByteArray) (c:Int) (r:List ByteArray)
  (hr:q0S (fun k=>q1h.l0 k wss l (l.length:Int) ((l.length:Nat):Int) a b c l) r):∀ (d i:Nat),i + d = l.length → q0S (fun k=>q1h.l0 k (wss.take i) l (l.length:Int) ((i:Nat):Int) a b c l) r:=by
 intro d
 induction d with
 | zero=>
  intro i hi
  obtain rfl:i = l.length:=by omega
  rw [List.take_of_length_le (by omega)]
  exact hr
 | succ d IH=>
  intro i hi
  have h:i < l.length:=by omega
  have h':i < wss.length:=by omega
  apply cSuc
  simp only [q1h.l0,rd25 h,q2e (show i≤1048576 by omega)]
  refine cPO (cPO (cPO (cBin (hk i h h') (cPos (by rw [List.length_take];omega) ?_))))
  have:=IH (i + 1) (by omega)
  rw [List.take_succ_eq_append_getElem h'] at this
  exact this
end
theorem q4r {l:List S28} {wss:List (List ByteArray)} (hl:l.length≤1048576) (hw:wss.length = l.length) (hk:∀ i (h:i < l.length) (h':i < wss.length),q0S (fun k=>q1m.f k l[i].f0 l[i].f1 l[i].f2 l[i].f3) wss[i]) {a:Int} {b:ByteArray} {c:Int} {r:List ByteArray}
  (hn : ¬ (a = 7∧(q0b l 0).f0≠5∧(q0b l 0).f0≠7)) (hr:q0S (fun k=>q0A.l0 k wss l (l.length:Int) ((l.length:Nat):Int) a b c l) r):q0S (fun k=>q1m.f k a b c l) r:=by
 apply cSuc
 simp only [q1m.f]
 refine cNeg hn (cSuc ?_)
 simp only [q0A.f]
 exact kids_N hl hw hk a b c r hr l.length 0 (by omega)
theorem write_P {l:List S28} {wss:List (List ByteArray)} (hl:l.length≤1048576) (hw:wss.length = l.length) (hk:∀ i (h:i < l.length) (h':i < wss.length),q0S (fun k=>q1m.f k l[i].f0 l[i].f1 l[i].f2 l[i].f3) wss[i]) {a:Int} {b:ByteArray} {c:Int} {r:List ByteArray}
  (hn:a = 7∧(q0b l 0).f0≠5∧(q0b l 0).f0≠7) (hr:q0S (fun k=>q1h.l0 k wss l (l.length:Int) ((l.length:Nat):Int) a b c l) r):q0S (fun k=>q1m.f k a b c l) r:=by
 apply cSuc
 simp only [q1m.f]
 refine cPos hn (cSuc ?_)
 simp only [q1h.f]
 exact kids_P hl hw hk a b c r hr l.length 0 (by omega)
theorem q3x (xss:List (List ByteArray)) {i:Nat} (h:i < xss.length):(xss.drop i).flatten = xss[i]++(xss.drop (i + 1)).flatten:=by rw [List.drop_eq_getElem_cons h,List.flatten_cons]
/-- Concat puts lists behind each other. -/
theorem q4X (xss:List (List ByteArray)) (hx:xss.length≤1048576) (ht:xss.flatten.length≤1048576):q0S (fun k=>q0d.f k xss) xss.flatten:=by
 have rl:∀ {i:Nat} (h:i < xss.length),q1X xss (i:Int) = xss[i]:=fun {i} h=>rdl7 h
 have L1:∀ (d i:Nat) (out:List ByteArray),i + d = xss.length → out.length + (xss.drop i).flatten.length≤1048576 → q0S (fun k=>q0d.l1 k out xss (xss.length:Int) ((i:Nat):Int)) (out++(xss.drop i).flatten):=by
  intro d
  induction d with
  | zero=>
   intro i out hi _
   rw [List.drop_eq_nil_of_le (by omega),List.flatten_nil,List.append_nil]
   apply cSuc
   simp only [q0d.l1]
   exact cNO (cCon _)
  | succ d IH=>
   intro i out hi hz
   have h:i < xss.length:=by omega
   rw [q3x xss h,List.length_append] at hz
   apply cSuc
   simp only [q0d.l1,rl h,q2e (show i≤1048576 by omega)]
   refine cPO (cPO (cPO (cPO ?_)))
   rw [q3x xss h,← List.append_assoc]
   exact IH (i + 1) _ (by omega) (by rw [List.length_append];omega)
 have L0:∀ (d i q:Nat),i + d = xss.length → q + (xss.drop i).flatten.length≤1048576 → q0S (fun k=>q0d.l0 k xss (q:Int) xss (xss.length:Int) ((i:Nat):Int)) xss.flatten:=by
  intro d
  induction d with
  | zero=>
   intro i q hi hq
   have hg:q2a.nil (q:Int) = some []:=if_pos (by omega)
   apply cSuc
   simp only [q0d.l0,hg,Option.bind_some]
   refine cNO ?_
   have:=L1 xss.length 0 [] (by omega) (by simpa using ht)
   rwa [List.drop_zero,List.nil_append] at this
  | succ d IH=>
   intro i q hi hq
   have h:i < xss.length:=by omega
   rw [q3x xss h,List.length_append] at hq
   have hwr:wrap64 ((q:Int) + ((xss[i]).length:Int)) = ((q + (xss[i]).length:Nat):Int):=by unfold wrap64;omega
   apply cSuc
   simp only [q0d.l0,rl h,q2e (show i≤1048576 by omega),hwr]
   exact cPO (cPO (cPO (cNO (IH (i + 1) _ (by omega) (by omega)))))
 unfold q0d.f
 exact L0 xss.length 0 0 (by omega) (by simpa using ht)
/-- Alternatives behind the first, with the closing sign. -/
def altw:List (List ByteArray) → List ByteArray
 | []=>[⟨#[41]⟩]
 | ws :: wss=>⟨#[47]⟩ :: (ws++altw wss)
def altt:List (List Tok) → List Tok
 | []=>[sg 41]
 | ts :: tss=>sg 47 :: (ts++altt tss)
theorem q4f (xss:List (List ByteArray)) {i:Nat} (h:i < xss.length):altw (xss.drop i) = ⟨#[47]⟩ :: (xss[i]++altw (xss.drop (i + 1))):=by rw [List.drop_eq_getElem_cons h];rfl
theorem q8D (wss:List (List ByteArray)):wid (altw wss) = wid wss.flatten + 2 * wss.length + 2:=by
 induction wss with
 | nil=>rfl
 | cons ws wss ih=>
  simp only [altw,wid,List.flatten_cons,q3I,ih,List.length_cons]
  show 1 + 1 + (wid ws + (wid wss.flatten + 2 * wss.length + 2)) = _
  omega
theorem q8A (wss:List (List ByteArray)) (hx:wss.length≤1048576):∀ (d i:Nat) (out:List ByteArray),1≤i → i + d = wss.length → out.length + (altw (wss.drop i)).length≤1048576 → q0S (fun k=>q0A.l1 k out wss (wss.length:Int) ((i:Nat):Int)) (out++altw (wss.drop i)):=by
 intro d
 induction d with
 | zero=>
  intro i out h1 hi hz
  rw [List.drop_eq_nil_of_le (by omega)] at hz ⊢
  apply cSuc
  simp only [q0A.l1]
  exact cNO (cPO (cCon _))
 | succ d IH=>
  intro i out h1 hi hz
  have h:i < wss.length:=by omega
  rw [q4f wss h,List.length_cons,List.length_append] at hz
  apply cSuc
  simp only [q0A.l1,rdl7 h,q2e (show i≤1048576 by omega),Option.bind_some]
  refine cPO (cPO (cPO (cPO (cPO (cPos (by rw [List.length_append,List.length_singleton];omega) ?_)))))
  have:=IH (i + 1) (out++[⟨#[47]⟩]++wss[i]) (by omega) (by omega) (by rw [List.length_append,List.length_append,List.length_singleton];omega)
  rw [q4f wss h]
  simpa only [List.append_assoc,List.cons_append,List.nil_append] using this
theorem q7G {l:List S28} {wss:List (List ByteArray)} (hl:l.length≤1048576) (hw:wss.length = l.length) (hk:∀ i (h:i < l.length) (h':i < wss.length),q0S (fun k=>q0h.f k l[i].f0 l[i].f1 l[i].f2 l[i].f3) wss[i]) (a:Int) (b:ByteArray) (c:Int) :
  ∀ (d i:Nat) (out:List ByteArray),1≤i → i + d = l.length → out.length + (altw (wss.drop i)).length≤1048576 → q0S (fun k=>q0h.l1 k out ((i:Nat):Int) a b c l) (out++altw (wss.drop i)):=by
 intro d
 induction d with
 | zero=>
  intro i out h1 hi hz
  rw [List.drop_eq_nil_of_le (by omega)] at hz ⊢
  have hz:out.length + 1≤1048576:=hz
  apply cSuc
  simp only [q0h.l1,Option.bind_some]
  exact cNO (cPos (by rw [List.length_singleton];omega) (cCon _))
 | succ d IH=>
  intro i out h1 hi hz
  have h:i < l.length:=by omega
  have h':i < wss.length:=by omega
  rw [q4f wss h',List.length_cons,List.length_append] at hz
  apply cSuc
  simp only [q0h.l1,rd25 h,q2e (show i≤1048576 by omega),Option.bind_some]
  refine cPO (cNO (cPos (by rw [List.length_singleton];omega) (cPO (cBin (hk i h h') (cPos (by rw [List.length_append,List.length_singleton];omega) ?_)))))
  have:=IH (i + 1) (out++[⟨#[47]⟩]++wss[i]) (by omega) (by omega) (by rw [List.length_append,List.length_append,List.length_singleton];omega)
  rw [q4f wss h']
  simpa only [List.append_assoc,List.cons_append,List.nil_append] using this
theorem q8u {l:List S28} {wss:List (List ByteArray)} (hl:l.length≤1048576) (hw:wss.length = l.length) (hk:∀ i (h:i < l.length) (h':i < wss.length),q0S (fun k=>q0h.f k l[i].f0 l[i].f1 l[i].f2 l[i].f3) wss[i]) (a:Int) (b:ByteArray) (c:Int) :
  ∀ (d i:Nat) (out:List ByteArray),i + d = l.length → out.length + (wss.drop i).flatten.length≤1048576 → q0S (fun k=>q0h.l0 k out ((i:Nat):Int) a b c l) (out++(wss.drop i).flatten):=by
 intro d
 induction d with
 | zero=>
  intro i out hi hz
  rw [List.drop_eq_nil_of_le (by omega),List.flatten_nil,List.append_nil]
  apply cSuc
  simp only [q0h.l0]
  exact cNO (cCon _)
 | succ d IH=>
  intro i out hi hz
  have h:i < l.length:=by omega
  have h':i < wss.length:=by omega
  rw [q3x wss h',List.length_append] at hz
  apply cSuc
  simp only [q0h.l0,rd25 h,q2e (show i≤1048576 by omega)]
  refine cPO (cPO (cBin (hk i h h') (cPO ?_)))
  rw [q3x wss h',← List.append_assoc]
  exact IH (i + 1) _ (by omega) (by rw [List.length_append];omega)
set_option maxRecDepth 100000 in
theorem q9c:∀ c:Fin 10,q1u.f 10 (c.val:Int) = some (dig (c.val:Int)):=by decide +kernel
theorem q7t {c:Int} (h:0≤c∧c≤9):q0S (fun k=>q1u.f k c) (dig c):=by
 obtain ⟨n,rfl⟩:∃ n:Nat,c = (n:Int):=⟨c.toNat,by omega⟩
 exact q0S.mono (fun k=>q1u.mono _ k) 10 (q9c ⟨n,by omega⟩)
theorem q8T:∀ c:Fin 10,strOfNums [(wrap64 (48 + (c.val:Int))) % 256] = dig (c.val:Int):=by decide +kernel
theorem q8R {c:Int} (h:0≤c∧c≤9):strOfNums [(wrap64 (48 + c)) % 256] = dig c:=by
 obtain ⟨n,rfl⟩:∃ n:Nat,c = (n:Int):=⟨c.toNat,by omega⟩
 exact q8T ⟨n,by omega⟩
theorem q7S {b:ByteArray} (h:b.toList = []):b = em:=by
 rw [ByteArray.toList_eq] at h
 cases b with
 | mk d=>
  have:d = #[]:=Array.toList_eq_nil_iff.1 h
  rw [this];rfl
theorem tl0:(⟨#[]⟩:ByteArray).toList = []:=by rw [ByteArray.toList_eq]
theorem q6o {a:Int} {b:ByteArray} {c:Int} {x:List S28} (h:Shp a b c x = true):(1≤a∧a≤12)∧(Nm a = true∨b = em)∧(a = 7∨c = 0)∧ShpT a x = true:=by
 unfold Shp at h
 simp only [Bool.and_eq_true,Bool.or_eq_true,decide_eq_true_eq] at h
 obtain ⟨⟨⟨⟨h1,h2⟩,h3⟩,h4⟩,h5⟩:=h
 exact ⟨⟨h1,h2⟩,h3.imp id q7S,h4,h5⟩
theorem shpT0 {a:Int} {x:List S28} (h:ShpT a x = true) (h5:a≠5) (h6:a≠6) (h7:a≠7) (h8:a≠8) (h12:a≠12):x = []:=by
 unfold ShpT at h
 rw [if_neg h5,if_neg h6,if_neg h7,if_neg h8,if_neg h12] at h
 exact List.eq_nil_of_length_eq_zero (of_decide_eq_true h)
theorem shpT1 {a:Int} {x:List S28} (h:ShpT a x = true) (ha:a = 7∨a = 8∨a = 12):∃ y,x = [y]:=by
 have:x.length = 1:=by
  unfold ShpT at h
  rcases ha with rfl | rfl | rfl <;> simpa using h
 exact List.length_eq_one_iff.1 this
theorem shpT5 {x:List S28} (h:ShpT 5 x = true):x.length≠1∧∀ y,y ∈ x → y.f0≠5:=by
 unfold ShpT no5 at h
 rw [if_pos rfl,Bool.and_eq_true,List.all_eq_true] at h
 exact ⟨of_decide_eq_true h.1,fun y hy=>of_decide_eq_true (h.2 y hy)⟩
theorem shpT6 {x:List S28} (h:ShpT 6 x = true):∃ n n2 ns,x = n :: n2 :: ns:=by
 unfold ShpT at h
 rw [if_neg (by decide),if_pos rfl] at h
 have h:=of_decide_eq_true h
 match x,h with
 | n :: n2 :: ns,_=>exact ⟨n,n2,ns,rfl⟩
end Go.Proofs.YtmffocankommaaaGreatDoor.B
end
section
namespace Go.Proofs.YtmffocankommaaaGreatDoor.B
open Go.RowKit Go.Proofs.YtmffocankommaaaGreatDoorW.PrintWords Go.Proofs.YtmffocankommaaaGreatDoorW.PrintLast Go.Proofs.YtmffocankommaaaGreatDoorW.PrintMore Go.Proofs.YtmffocankommaaaGreatDoorY
set_option linter.unusedVariables false
/-- Words, each with a blank ahead of it. -/
def tls:List ByteArray → ByteArray
 | []=>em
 | u :: us=>((⟨#[32]⟩:ByteArray)++u)++tls us
/-- Words, joined by blanks. -/
def jn:List ByteArray → ByteArray
 | []=>em
 | u :: us=>u++tls us
theorem q7I (z:ByteArray):em++z = z:=ByteArray.empty_append
theorem app_em (z:ByteArray):z++em = z:=ByteArray.append_empty
theorem q8W (us:List ByteArray):(tls us).size = wid us:=by
 induction us with
 | nil=>rfl
 | cons u us ih=>
  simp only [tls,wid,ByteArray.size_append,ih]
  show 1 + u.size + wid us = _
  omega
theorem q5x (us:List ByteArray):(jn us).size≤wid us:=by
 cases us with
 | nil=>exact Nat.le_refl _
 | cons u us=>simp only [jn,wid,ByteArray.size_append,q8W];omega
theorem q3F.left {b x y:ByteArray} {c:Nat} (h:q3F b (x++y) c):q3F b x c:=by
 obtain ⟨h1,h2⟩:=h
 rw [ByteArray.size_append] at h1
 refine ⟨by omega,fun j hj=>?_⟩
 rw [h2 j (by rw [ByteArray.size_append];omega),bt_left hj]
theorem q3F.right {b x y:ByteArray} {c:Nat} (h:q3F b (x++y) c):q3F b y (c + x.size):=by
 obtain ⟨h1,h2⟩:=h
 rw [ByteArray.size_append] at h1
 refine ⟨by omega,fun j hj=>?_⟩
 rw [show c + x.size + j = c + (x.size + j) by omega,h2 (x.size + j) (by rw [ByteArray.size_append];omega),q8E hj]
theorem q7n {b:ByteArray} {us:List ByteArray} {c:Nat} (h:q3F b (tls us) c) (hp:Bhd b (c + (tls us).size)):Bhd b c:=by
 cases us with
 | nil=>exact hp
 | cons u us=>
  intro _
  have:=h.left.left.2 0 Nat.one_pos
  rw [Nat.add_zero] at this
  exact .inl this
theorem Rd.tail {b:ByteArray} {us:List ByteArray} {ts:List Tok} (h:Prs us ts):∀ (c:Nat) (rest:List Tok),q3F b (tls us) c → Bhd b (c + (tls us).size) → Rd b (c + (tls us).size) rest → Rd b c (ts++rest):=by
 induction h with
 | nil=>intro c rest _ _ r;exact r
 | cons u t us ts h r ih=>
  intro c rest hs hp hr
  have e:(tls (u :: us)).size = 1 + u.size + (tls us).size:=by
   simp only [tls,ByteArray.size_append];rfl
  rw [e] at hp hr
  have s1:=hs.left.left
  have s2:=hs.left.right
  have s3:=hs.right
  have e1:(⟨#[32]⟩:ByteArray).size = 1:=rfl
  rw [e1] at s2
  rw [ByteArray.size_append,e1] at s3
  have h1:=s1.1
  rw [e1] at h1
  have hb:=s1.2 0 Nat.one_pos
  rw [Nat.add_zero] at hb
  rw [show c + (1 + u.size + (tls us).size) = c + (1 + u.size) + (tls us).size by omega] at hp hr
  refine .white c _ (by omega) hb (Rd.word h s2 ?_ ?_)
  ·rw [show c + 1 + u.size = c + (1 + u.size) by omega]
   exact q7n s3 hp
  ·rw [show c + 1 + u.size = c + (1 + u.size) by omega]
   exact ih _ rest s3 hp hr
theorem Rd.join {b:ByteArray} {ws:List ByteArray} {ts:List Tok} (h:Prs ws ts) {c:Nat} {rest:List Tok} (hs:q3F b (jn ws) c) (hp:Bhd b (c + (jn ws).size)) (hr:Rd b (c + (jn ws).size) rest):Rd b c (ts++rest):=by
 cases h with
 | nil=>exact hr
 | cons u t us ts h r=>
  have s1:=hs.left
  have s2:=hs.right
  have e:(jn (u :: us)).size = u.size + (tls us).size:=by simp only [jn,ByteArray.size_append]
  rw [e,← Nat.add_assoc] at hp hr
  exact Rd.word h s1 (q7n s2 hp) (Rd.tail r _ rest s2 hp hr)
/-- The tokens of joined words. -/
theorem q6Q {ws:List ByteArray} {ts:List Tok} (h:Prs ws ts) (hz:wid ws≤19000):∃ l:List S61,l.map (fun t=>(t.f0,t.f1)) = ts∧q0S (fun k=>q0C.f k (jn ws)) (l,0,0):=by
 have hw:=q5x ws
 refine Rd.tokens (by omega) ?_
 have:=Rd.join (b:=jn ws) (c:=0) (rest:=[]) h ⟨by omega,fun j hj=>by rw [Nat.zero_add]⟩ (fun k=>by omega) (by rw [Nat.zero_add];exact .fin)
 rwa [List.append_nil] at this
theorem q5R {ws:List ByteArray} {ts:List Tok} (h:Prs ws ts) (hz:wid ws≤19000):∃ l:List S61,l.map (fun t=>(t.f0,t.f1)) = sg 40 :: sg 40 :: (ts++[sg 41,sg 41])∧q0S (fun k=>q0C.f k (((⟨#[40,40]⟩:ByteArray)++jn ws)++(⟨#[41,41]⟩:ByteArray))) (l,0,0):=by
 have hw:=q5x ws
 have e0:(⟨#[40,40]⟩:ByteArray).size = 2:=rfl
 have e1:(⟨#[41,41]⟩:ByteArray).size = 2:=rfl
 have ez:(((⟨#[40,40]⟩:ByteArray)++jn ws)++(⟨#[41,41]⟩:ByteArray)).size = 2 + (jn ws).size + 2:=by rw [ByteArray.size_append,ByteArray.size_append,e0,e1]
 have hS:q3F (((⟨#[40,40]⟩:ByteArray)++jn ws)++(⟨#[41,41]⟩:ByteArray)) (((⟨#[40,40]⟩:ByteArray)++jn ws)++(⟨#[41,41]⟩:ByteArray)) 0:=⟨by omega,fun j hj=>by rw [Nat.zero_add]⟩
 have p1:=hS.left.left
 have p2:=hS.left.right
 have p3:=hS.right
 rw [e0] at p2
 rw [ByteArray.size_append,e0,Nat.zero_add] at p3
 rw [Nat.zero_add] at p2
 have b0:=p1.2 0 (by rw [e0];omega)
 have b1:=p1.2 1 (by rw [e0];omega)
 have b2:=p3.2 0 (by rw [e1];omega)
 have b3:=p3.2 1 (by rw [e1];omega)
 rw [Nat.add_zero] at b2
 generalize hB:(((⟨#[40,40]⟩:ByteArray)++jn ws)++(⟨#[41,41]⟩:ByteArray)) = B at *
 refine Rd.tokens (by omega) ?_
 refine Rd.sgn (v:=40) (by omega) b0 (q5d (by decide)) (Rd.sgn (v:=40) (by omega) b1 (q5d (by decide)) ?_)
 refine Rd.join h p2 (fun _=>.inr (.inr (.inr b2))) ?_
 refine Rd.sgn (v:=41) (by omega) b2 (q5d (by decide)) (Rd.sgn (v:=41) (by omega) b3 (q5d (by decide)) ?_)
 rw [show 2 + (jn ws).size + 1 + 1 = B.size by omega]
 exact .fin
/-- The two joins. -/
theorem q6b (us:List ByteArray):(tls us).data.toList = Lib.joinTail [32] (us.map (·.data.toList)):=by
 induction us with
 | nil=>rfl
 | cons u us ih=>
  simp only [tls,ByteArray.data_append,Array.toList_append,ih,List.map_cons,Lib.joinTail,List.flatten_cons]
end Go.Proofs.YtmffocankommaaaGreatDoor.B
end
section
namespace Go.Proofs.YtmffocankommaaaGreatDoor.B
open Go.RowKit Go.Proofs.YtmffocankommaaaGreatDoorW.PrintWords Go.Proofs.YtmffocankommaaaGreatDoorW.PrintLast Go.Proofs.YtmffocankommaaaGreatDoorW.PrintMore Go.Proofs.YtmffocankommaaaGreatDoorY
set_option linter.unusedVariables false
theorem at_of {l:List S61} {ts:List Tok} (h:l.map (fun t=>(t.f0,t.f1)) = ts):At l 0 ts:=by
 subst h
 refine ⟨by simp,fun j hj h'=>?_⟩
 rw [List.getElem_map]
 simp only [Nat.zero_add]
 exact ⟨trivial,trivial⟩
theorem Prs.len {a:List ByteArray} {s:List Tok} (h:Prs a s):s.length = a.length:=by
 induction h with
 | nil=>rfl
 | cons u t us ts h r ih=>rw [List.length_cons,List.length_cons,ih]
/-- A sequence is no list of one, and has no fields. -/
def Sq (n:S28):Prop:=n.f0 = 5 → n = ⟨5,em,0,n.f3⟩∧n.f3.length≠1∧n.f3.length≤1048576
theorem q4L {l:List S61} (hl:l.length≤1000000) {n:S28} {i j:Nat} (hs:q4F l j) (h5:Sq n) (h:q7W l n i j):SeqR l n i j:=by
 by_cases h0:n.f0 = 5
 ·obtain ⟨e,e1,e2⟩:=h5 h0
  obtain ⟨hf,m,hm⟩:=hs
  apply cSuc
  simp only [q0a.f]
  apply cSuc
  simp only [q0a.l0]
  refine cBin h (cPos rfl (cSuc ?_))
  simp only [q0a.j1,q4A]
  refine cND (cSuc ?_)
  simp only [q0a.l1,q4w hf.1 (by have:=hf.1;omega) hf.2.1,Option.bind_some,q6c]
  refine cND (cPos h0 (cPos (by simp;omega) (cSuc ?_)))
  simp only [q0a.l0,List.nil_append]
  refine cBin hm (cNeg (show ¬ (false = true) by decide) ?_)
  have:=q4D l n.f3 j false m.f0 m.f1 m.f2 m.f3
  unfold one at this
  rw [if_neg e1] at this
  show q0S _ (q4u n j false)
  rw [e]
  exact this
 ·exact q8v hs (q7T hl h0 hs.1 h)
theorem q5m {n:S28} {l:List S61} {s:ByteArray} (ht:q0S (fun k=>q0C.f k s) (l,0,0)) (hS:SeqR l n 0 l.length) (hb:q0S (fun k=>q1F.f k n.f0 n.f1 n.f2 n.f3) 0):q0S (fun k=>q1a.f k s) (n.f0,n.f1,n.f2,n.f3,0):=by
 unfold q1a.f
 refine cBin ht (cPos rfl (cBin hS (cNeg (fun k=>by cases k) (cNeg ?_ (cBin hb (cPos rfl (cCon _)))))))
 simp only [q4u]
 omega
theorem q8p {n:S28} {ts:List Tok} (hB:TkB n ts) {l:List S61} (hl:l.length≤1000000) (hm:l.map (fun t=>(t.f0,t.f1)) = ts):SeqR l n 0 l.length:=by
 have hA:=at_of hm
 have hz:ts.length = l.length:=by rw [← hm,List.length_map]
 have:=q6l hl hB hA (by rw [Nat.zero_add,hz];exact q5V hl)
 rwa [Nat.zero_add,hz] at this
theorem q7w {n:S28} {ts:List Tok} (h5:Sq n) (hB:TkB n ts) {l:List S61} (hl:l.length≤1000000) (hm:l.map (fun t=>(t.f0,t.f1)) = sg 40 :: sg 40 :: (ts++[sg 41,sg 41])):SeqR l n 0 l.length:=by
 have hA:=at_of hm
 have hz:l.length = ts.length + 4:=by
  have:=congrArg List.length hm
  simp only [List.length_map,List.length_cons,List.length_append,List.length_nil] at this
  omega
 have h1:=hA.tail.tail
 have hc:=h1.right.sign
 have hd:=h1.right.tail.sign
 have s0:=q6l hl hB h1.left (q3h hl hc (.inr (.inr (.inl rfl))))
 have p0:=q5C hl (by omega) s0 hA.tail.sign hc
 have s1:=q4L hl (q3h hl hd (.inr (.inr (.inl rfl)))) h5 p0
 have p1:=q5C hl (by omega) s1 hA.sign hd
 rw [show 0 + 1 + 1 + ts.length + 1 + 1 = l.length by omega] at p1
 exact q4L hl (q5V hl) h5 p1
/-- ParseBody leads back, from both texts. -/
theorem q7v {n:S28} {ws:List ByteArray} {ts:List Tok} (hP:Prs ws ts) (hz:wid ws≤19000) (h5:Sq n) (hB:TkB n ts) (hb:q0S (fun k=>q1F.f k n.f0 n.f1 n.f2 n.f3) 0) :
  q0S (fun k=>q1a.f k (jn ws)) (n.f0,n.f1,n.f2,n.f3,0)∧q0S (fun k=>q1a.f k (((⟨#[40,40]⟩:ByteArray)++jn ws)++(⟨#[41,41]⟩:ByteArray))) (n.f0,n.f1,n.f2,n.f3,0):=by
 have hw:=q3U ws
 have hlen:=hP.len
 obtain ⟨l,m1,t1⟩:=q6Q hP hz
 obtain ⟨l',m2,t2⟩:=q5R hP hz
 have z1:l.length = ts.length:=by rw [← m1,List.length_map]
 have z2:l'.length = ts.length + 4:=by
  have:=congrArg List.length m2
  simp only [List.length_map,List.length_cons,List.length_append,List.length_nil] at this
  omega
 exact ⟨q5m t1 (q8p hB (by omega) m1) hb,q5m t2 (q7w h5 hB (by omega) m2) hb⟩
end Go.Proofs.YtmffocankommaaaGreatDoor.B
end
section
namespace Go.Proofs.YtmffocankommaaaGreatDoor.B
open Go.RowKit Go.Proofs.YtmffocankommaaaGreatDoorW.PrintWords Go.Proofs.YtmffocankommaaaGreatDoorW.PrintLast Go.Proofs.YtmffocankommaaaGreatDoorW.PrintMore Go.Proofs.YtmffocankommaaaGreatDoorY
set_option linter.unusedVariables false
theorem z1 (v:UInt8):(⟨#[v]⟩:ByteArray).size = 1:=rfl
theorem dz (c:Int):(dig c).size = 1:=rfl
theorem tl_no (v:UInt8) : ¬ (⟨#[v]⟩:ByteArray).toList = ([]:List UInt8):=by rw [tl1];simp
section
variable {a:Int} {b:ByteArray} {c:Int} {r:List ByteArray}
/-- A node without kids is written at once. -/
theorem q4s (hr:q0S (fun k=>q0A.l0 k [] [] (([]:List S28).length:Int) ((([]:List S28).length:Nat):Int) a b c []) r) (h7:a≠7):q0S (fun k=>q1m.f k a b c []) r:=
 q4r (wss:=[]) (by simp) rfl (fun i h=>absurd h (by simp)) (fun k=>h7 k.1) hr
end
theorem q3a {a:Int} {v:UInt8} (hs:q1e.f a = some ⟨#[v]⟩) (h7:a≠7) (h5:a≠5) (t:Tok) (ht:Tk ⟨a,em,0,[]⟩ [t]) (hw:Wk ⟨#[v]⟩ t)
  (hd:q0S (fun k=>q0A.l0 k [] [] (([]:List S28).length:Int) ((([]:List S28).length:Nat):Int) a em 0 []) [⟨#[v]⟩]):∃ ws ts,Wr ⟨a,em,0,[]⟩ 1 ws ts:=by
 refine ⟨[⟨#[v]⟩],[t],q4s hd h7,cSuc ?_,Prs.one hw,fun _=>ht,.part _ _ h5 ht,?_⟩
 ·simp only [q0h.f,hs,Option.bind_some]
  exact cNeg (tl_no v) (cCon _)
 ·simp only [wid,z1]
  omega
/-- Nodes without kids. -/
theorem wr_leaf {a:Int} {b:ByteArray} {c:Int} (hS:Shp a b c [] = true) (hn:Nm a = true → q5X b) (ha:a = 1∨a = 2∨a = 3∨a = 4∨a = 9∨a = 10∨a = 11):∃ ws ts,Wr ⟨a,b,c,[]⟩ 1 ws ts:=by
 obtain ⟨_,hb,hc,_⟩:=q6o hS
 have hc:c = 0:=hc.resolve_left (by omega)
 subst hc
 rcases ha with rfl | rfl | rfl | rfl | rfl | rfl | rfl
 ·obtain rfl:=hb.resolve_left (by decide)
  refine q3a (v:=117) rfl (by decide) (by decide) _ .light (q6f (.inl rfl)) (cSuc ?_)
  simp only [q0A.l0]
  exact cNeg (by simp) (cPD (cCon _))
 ·obtain rfl:=hb.resolve_left (by decide)
  refine q3a (v:=45) rfl (by decide) (by decide) _ .heavy (q3f (by decide)) (cSuc ?_)
  simp only [q0A.l0]
  exact cNeg (by simp) (cND (cPD (cCon _)))
 ·obtain rfl:=hb.resolve_left (by decide)
  refine q3a (v:=120) rfl (by decide) (by decide) _ .anceps (q6f (.inr rfl)) (cSuc ?_)
  simp only [q0A.l0]
  exact cNeg (by simp) (cND (cND (cPD (cCon _))))
 ·have hu:=hn (by decide)
  obtain ⟨hw,hz⟩:=q4I hu
  have ht:Tk ⟨4,b,0,[]⟩ [(1,b)]:=.foot b (q4m hu)
  refine ⟨[b],[(1,b)],q4s (cSuc ?_) (show (4:Int)≠7 by decide),cSuc ?_,Prs.one hw,fun _=>ht,.part _ _ (show (4:Int)≠5 by decide) ht,?_⟩
  ·simp only [q0A.l0]
   exact cNeg (by simp) (cND (cND (cND (cPD (cCon _)))))
  ·simp only [q0h.f,show q1e.f 4 = some ⟨#[]⟩ from rfl,Option.bind_some]
   exact cPos tl0 (cPD (cCon _))
  ·simp only [wid];omega
 ·obtain rfl:=hb.resolve_left (by decide)
  refine q3a (v:=58) rfl (by decide) (by decide) _ .fin (q3f (by decide)) (cSuc ?_)
  simp only [q0A.l0]
  exact cNeg (by simp) (cND (cND (cND (cND (cPD (cCon _))))))
 ·obtain rfl:=hb.resolve_left (by decide)
  refine q3a (v:=126) rfl (by decide) (by decide) _ .bridge (q3f (by decide)) (cSuc ?_)
  simp only [q0A.l0]
  exact cNeg (by simp) (cND (cND (cND (cND (cND (cPD (cCon _)))))))
 ·have hu:=hn (by decide)
  obtain ⟨hw,hz⟩:=q4I hu
  have ht:Tk ⟨11,b,0,[]⟩ [sg 64,(1,b)]:=.mark b (q4m hu)
  refine ⟨[⟨#[64]⟩,b],[sg 64,(1,b)],q4s (cSuc ?_) (show (11:Int)≠7 by decide),cSuc ?_,.cons _ _ _ _ (q3f (by decide)) (Prs.one hw),fun _=>ht,.part _ _ (show (11:Int)≠5 by decide) ht,?_⟩
  ·simp only [q0A.l0]
   exact cNeg (by simp) (cND (cND (cND (cND (cND (cND (cPD (cCon _))))))))
  ·simp only [q0h.f,show q1e.f 11 = some ⟨#[]⟩ from rfl,Option.bind_some]
   exact cPos tl0 (cND (cPD (cCon _)))
  ·simp only [wid,z1];omega
/-- Lists put together out of three. -/
theorem q6A (p q s:List ByteArray) (h:p.length + q.length + s.length≤1048576):q0S (fun k=>q0d.f k [p,q,s]) (p++(q++s)):=by
 have:=q4X [p,q,s] (by simp) (by simp only [List.flatten_cons,List.flatten_nil,List.length_append,List.length_nil];omega)
 simpa using this
section
variable {n:S28} {m:Nat} {ws:List ByteArray} {ts:List Tok} (h:Wr n m ws ts) (hm:m≤200)
include h
theorem Wr.one {i:Nat} (hi:i < [n].length) (hi':i < [ws].length):q0S (fun k=>q1m.f k ([n][i]).f0 ([n][i]).f1 ([n][i]).f2 ([n][i]).f3) ([ws][i]):=by
 obtain rfl:i = 0:=by simpa using hi
 exact h.w
include hm
theorem Wr.few:ws.length≤5400:=by
 have:=h.z
 have:=q3U ws
 omega
theorem wr_opt:∃ ws' ts',Wr ⟨8,em,0,[n]⟩ (m + 1) ws' ts':=by
 have hf:=h.few hm
 have ht:Tk ⟨8,em,0,[n]⟩ (sg 91 :: (ts++[sg 93])):=.opt n ts h.b
 refine ⟨⟨#[91]⟩ :: (ws++[⟨#[93]⟩]),_,q4r (wss:=[ws]) (by simp) rfl (fun i=>h.one) (fun k=>absurd (show (8:Int) = 7 from k.1) (by decide)) (cSuc ?_),cSuc ?_,.cons _ _ _ _ (q3f (by decide)) (h.p.app (Prs.one (q3f (by decide)))),fun _=>ht,.part _ _ (show (8:Int)≠5 by decide) ht,?_⟩
 ·simp only [q0A.l0,show q1X [ws] 0 = ws from rfl]
  refine cNeg (by simp) (cND (cND (cND (cND (cND (cND (cND (cPD (cPos (by simp) (cBin (q6A _ _ _ ?_) (cCon _)))))))))))
  simp only [List.length_cons,List.length_nil];omega
 ·simp only [q0h.f,show q1e.f 8 = some ⟨#[]⟩ from rfl,Option.bind_some,show q0b [n] 0 = n from rfl]
  refine cPos tl0 (cND (cND (cND (cND (cND (cPD (cPos (by simp) (cBin h.r (cPos ?_ (cPos ?_ (cCon _)))))))))))
  ·simp only [List.length_cons,List.length_nil];omega
  ·simp only [List.length_append,List.length_cons,List.length_nil];omega
 ·have:=h.z
  simp only [wid,q3I,z1];omega
theorem wr_tag {b:ByteArray} (hu:q5X b):∃ ws' ts',Wr ⟨12,b,0,[n]⟩ (m + 1) ws' ts':=by
 have hf:=h.few hm
 obtain ⟨hw,hz⟩:=q4I hu
 have ht:Tk ⟨12,b,0,[n]⟩ ((1,b) :: sg 123 :: (ts++[sg 125])):=.tag b (q4m hu) n ts h.b
 refine ⟨b :: ⟨#[123]⟩ :: (ws++[⟨#[125]⟩]),_,q4r (wss:=[ws]) (by simp) rfl (fun i=>h.one) (fun k=>absurd (show (12:Int) = 7 from k.1) (by decide)) (cSuc ?_),cSuc ?_,.cons _ _ _ _ hw (.cons _ _ _ _ (q3f (by decide)) (h.p.app (Prs.one (q3f (by decide))))),fun _=>ht,.part _ _ (show (12:Int)≠5 by decide) ht,?_⟩
 ·simp only [q0A.l0,show q1X [ws] 0 = ws from rfl]
  refine cNeg (by simp) (cND (cND (cND (cND (cND (cND (cND (cND (cPD (cPos (by simp) (cBin (q6A _ _ _ ?_) (cCon _))))))))))))
  simp only [List.length_cons,List.length_nil];omega
 ·simp only [q0h.f,show q1e.f 12 = some ⟨#[]⟩ from rfl,Option.bind_some,show q0b [n] 0 = n from rfl]
  refine cPos tl0 (cND (cND (cND (cND (cND (cND (cPD (cPos (by simp) (cBin h.r (cPos ?_ (cPos ?_ (cCon _))))))))))))
  ·simp only [List.length_cons,List.length_nil];omega
  ·simp only [List.length_append,List.length_cons,List.length_nil];omega
 ·have:=h.z
  simp only [wid,q3I,z1];omega
theorem wr_pow {c:Int} (hc:0≤c∧c≤9):∃ ws' ts',Wr ⟨7,em,c,[n]⟩ (m + 1) ws' ts':=by
 have hf:=h.few hm
 have hd:=q7t hc
 have hg:=q8R hc
 by_cases hk:n.f0 = 5∨n.f0 = 7
 ·have ht:Tk ⟨7,em,c,[n]⟩ (sg 40 :: (ts++[sg 41,sg 94,(2,dig c)])):=.powp n ts c (dig c) h.b (q7Y hc)
  refine ⟨⟨#[40]⟩ :: (ws++[⟨#[41]⟩,⟨#[94]⟩,dig c]),_,q4r (wss:=[ws]) (by simp) rfl (fun i=>h.one) (fun k=>hk.elim k.2.1 k.2.2) (cSuc ?_),cSuc ?_,.cons _ _ _ _ (q3f (by decide)) (h.p.app (.cons _ _ _ _ (q3f (by decide)) (.cons _ _ _ _ (q3f (by decide)) (Prs.one (q9p hc))))),fun _=>ht,.part _ _ (show (7:Int)≠5 by decide) ht,?_⟩
  ·simp only [q0A.l0,show q1X [ws] 0 = ws from rfl,show q0b [n] 0 = n from rfl,Option.bind_some]
   have key:q0S (fun k=>(q0d.f k [[⟨#[40]⟩],ws,[⟨#[41]⟩]]).bind fun t=>(q1u.f k c).bind fun u=>if t.length + [(⟨#[94]⟩:ByteArray),u].length < 8796093022208 then some (t++[⟨#[94]⟩,u]) else none) (⟨#[40]⟩ :: (ws++[⟨#[41]⟩,⟨#[94]⟩,dig c])):=by
    refine cBin (q6A _ _ _ ?_) (cBin hd (cPos ?_ (cVal (by simp))))
    ·simp only [List.length_cons,List.length_nil];omega
    ·simp only [List.length_append,List.length_cons,List.length_nil];omega
   refine cNeg (by simp) (cND (cND (cND (cND (cND (cND (cND (cND (cND (cPD (cPos (by simp) (cPos (by simp) (cIte (fun _=>key) (fun h5=>cPos (hk.resolve_left h5) key))))))))))))))
  ·simp only [q0h.f,show q1e.f 7 = some ⟨#[]⟩ from rfl,Option.bind_some,show q0b [n] 0 = n from rfl,hg]
   have key:q0S (fun k=>if [(⟨#[40]⟩:ByteArray)].length + ws.length < 8796093022208 then (if ([(⟨#[40]⟩:ByteArray)]++ws).length + [(⟨#[41]⟩:ByteArray)].length < 8796093022208 then (if ([(⟨#[40]⟩:ByteArray)]++ws++[(⟨#[41]⟩:ByteArray)]).length + [(⟨#[94]⟩:ByteArray),dig c].length < 8796093022208 then some ([(⟨#[40]⟩:ByteArray)]++ws++[(⟨#[41]⟩:ByteArray)]++[(⟨#[94]⟩:ByteArray),dig c]) else none) else none) else none) (⟨#[40]⟩ :: (ws++[⟨#[41]⟩,⟨#[94]⟩,dig c])):=by
    refine cPos ?_ (cPos ?_ (cPos ?_ (cVal (by simp))))
    ·simp only [List.length_cons,List.length_nil];omega
    ·simp only [List.length_append,List.length_cons,List.length_nil];omega
    ·simp only [List.length_append,List.length_cons,List.length_nil];omega
   exact cPos tl0 (cND (cND (cND (cND (cPD (cPos (by simp) (cBin h.r (cIte (fun _=>key) (fun h5=>cPos (hk.resolve_left h5) key)))))))))
  ·have:=h.z
   simp only [wid,q3I,z1,dz];omega
 ·have h5:n.f0≠5:=fun k=>hk (.inl k)
  have h7:n.f0≠7:=fun k=>hk (.inr k)
  have ht:Tk ⟨7,em,c,[n]⟩ (ts++[sg 94,(2,dig c)]):=.pow n ts c (dig c) h5 h7 (h.t h5) (q7Y hc)
  refine ⟨ws++[⟨#[94]⟩,dig c],_,write_P (wss:=[ws]) (by simp) rfl (fun i=>h.one) ⟨rfl,h5,h7⟩ (cSuc ?_),cSuc ?_,h.p.app (.cons _ _ _ _ (q3f (by decide)) (Prs.one (q9p hc))),fun _=>ht,.part _ _ (show (7:Int)≠5 by decide) ht,?_⟩
  ·simp only [q1h.l0,show q1X [ws] 0 = ws from rfl,show q0b [n] 0 = n from rfl,Option.bind_some]
   refine cNeg (by simp) (cND (cND (cND (cND (cND (cND (cND (cND (cND (cPD (cPos (by simp) (cPos (by simp) (cNeg h5 (cNeg h7 (cBin hd (cPos ?_ (cCon _)))))))))))))))))
   simp only [List.length_cons,List.length_nil];omega
  ·simp only [q0h.f,show q1e.f 7 = some ⟨#[]⟩ from rfl,Option.bind_some,show q0b [n] 0 = n from rfl,hg]
   refine cPos tl0 (cND (cND (cND (cND (cPD (cPos (by simp) (cBin h.r (cNeg h5 (cNeg h7 (cPos ?_ (cCon _)))))))))))
   simp only [List.length_cons,List.length_nil];omega
  ·have:=h.z
   simp only [wid,q3I,z1,dz];omega
end
theorem Wrs.tkS {l:List S28} {m:Nat} {wss:List (List ByteArray)} {tss:List (List Tok)} (h:Wrs l m wss tss):(∀ y,y ∈ l → y.f0≠5) → TkS l tss.flatten:=by
 induction h with
 | nil=>intro _;exact .nil
 | cons n ns m ms ws wss ts tss h r ih=>
  intro h5
  rw [List.flatten_cons]
  exact .cons _ _ _ _ (h5 n (by simp)) (h.t (h5 n (by simp))) (ih (fun y hy=>h5 y (List.mem_cons_of_mem _ hy)))
theorem Wrs.tkA {l:List S28} {m:Nat} {wss:List (List ByteArray)} {tss:List (List Tok)} (h:Wrs l m wss tss):TkA l (altt tss):=by
 induction h with
 | nil=>exact .nil
 | cons n ns m ms ws wss ts tss h r ih=>exact .cons _ _ _ _ h.b ih
theorem Wrs.prs {l:List S28} {m:Nat} {wss:List (List ByteArray)} {tss:List (List Tok)} (h:Wrs l m wss tss):Prs wss.flatten tss.flatten∧Prs (altw wss) (altt tss):=by
 induction h with
 | nil=>exact ⟨.nil,Prs.one (q3f (by decide))⟩
 | cons n ns m ms ws wss ts tss h r ih=>
  rw [List.flatten_cons,List.flatten_cons]
  exact ⟨h.p.app ih.1,.cons _ _ _ _ (q3f (by decide)) (h.p.app ih.2)⟩
theorem wr_seq {x:List S28} {m:Nat} {wss:List (List ByteArray)} {tss:List (List Tok)} (h:Wrs x m wss tss) (hm:m≤200) (hl:x.length≤1048576) (h1:x.length≠1) (h5:∀ y,y ∈ x → y.f0≠5):∃ ws ts,Wr ⟨5,em,0,x⟩ (m + 1) ws ts:=by
 have hw:=h.wide
 have hz:=q3U wss.flatten
 have hlen:=h.len
 refine ⟨wss.flatten,tss.flatten,q4r hl hlen (fun i a b=>(h.wr i a b).1) (fun k=>absurd (show (5:Int) = 7 from k.1) (by decide)) (cSuc ?_),cSuc ?_,h.prs.1,fun k=>absurd rfl k,.seq _ _ h1 (h.tkS h5),by omega⟩
 ·simp only [q0A.l0]
  exact cNO (cND (cND (cND (cND (cND (cND (cND (cND (cND (cND (cND (cBin (q4X wss (by omega) (by omega)) (cCon _)))))))))))))
 ·simp only [q0h.f,show q1e.f 5 = some ⟨#[]⟩ from rfl,Option.bind_some]
  refine cPos tl0 (cND (cND (cPD ?_)))
  have:=q8u hl hlen (fun i a b=>(h.wr i a b).2) 5 em 0 x.length 0 [] (by omega) (by rw [List.drop_zero,List.length_nil];omega)
  rwa [List.drop_zero,List.nil_append] at this
theorem wr_alt {n n2:S28} {x:List S28} {m:Nat} {wss:List (List ByteArray)} {tss:List (List Tok)} (h:Wrs (n :: n2 :: x) m wss tss) (hm:m≤200) (hl:(n :: n2 :: x).length≤1048576):∃ ws ts,Wr ⟨6,em,0,n :: n2 :: x⟩ (m + 1) ws ts:=by
 have hw:=h.wide
 have hlen:=h.len
 obtain ⟨ws,wss,ts,tss,rfl,rfl,m1,m2,hW,hR⟩:∃ ws wss' ts tss',wss = ws :: wss'∧tss = ts :: tss'∧∃ m1 m2,Wr n m1 ws ts∧Wrs (n2 :: x) m2 wss' tss':=by
  cases h with
  | cons _ _ m1 m2 ws wss ts tss h r=>exact ⟨_,_,_,_,rfl,rfl,_,_,h,r⟩
 have hwr:=h.wr
 have ht:Tk ⟨6,em,0,n :: n2 :: x⟩ (sg 40 :: (ts++altt tss)):=.alt n n2 x ts _ hW.b hR.tkA
 have haw:=q8D wss
 have haz:=q3U (altw wss)
 have hwz:=q3U ws
 rw [List.flatten_cons,q3I,List.length_cons] at hw
 have hd:(ws :: wss).drop 1 = wss:=rfl
 refine ⟨⟨#[40]⟩ :: (ws++altw wss),sg 40 :: (ts++altt tss),q4r hl hlen (fun i a b=>(hwr i a b).1) (fun k=>absurd (show (6:Int) = 7 from k.1) (by decide)) (cSuc ?_),cSuc ?_,.cons _ _ _ _ (q3f (by decide)) (hW.p.app hR.prs.2),fun _=>ht,.part _ _ (show (6:Int)≠5 by decide) ht,?_⟩
 ·simp only [q0A.l0]
  refine cNO (cND (cND (cND (cND (cND (cND (cND (cND (cND (cND (cPD (cSuc ?_))))))))))))
  have w1:wrap64 ((0:Int) + 1) = ((1:Nat):Int):=by unfold wrap64;omega
  simp only [q0A.l1,show q1X (ws :: wss) 0 = ws from rfl,w1]
  refine cPos (by rw [List.length_cons];omega) (cPO (cPos (by rw [List.length_cons];omega) (cNO (cPos ?_ ?_))))
  ·simp only [List.length_cons,List.length_nil];omega
  ·have:=q8A (ws :: wss) (by omega) wss.length 1 ([⟨#[40]⟩]++ws) (by omega) (by rw [List.length_cons];omega) (by rw [hd,List.length_append,List.length_singleton];omega)
   rw [hd] at this
   simpa only [List.append_assoc,List.cons_append,List.nil_append] using this
 ·simp only [q0h.f,show q1e.f 6 = some ⟨#[]⟩ from rfl,Option.bind_some]
  refine cPos tl0 (cND (cND (cND (cPD (cSuc ?_)))))
  have w1:wrap64 ((0:Int) + 1) = ((1:Nat):Int):=by unfold wrap64;omega
  simp only [q0h.l1,show q0b (n :: n2 :: x) 0 = n from rfl,w1,Option.bind_some]
  refine cPos (by rw [List.length_cons];omega) (cPos trivial (cPos (by simp) (cPO (cBin hW.r (cPos ?_ ?_)))))
  ·simp only [List.length_append,List.length_cons,List.length_nil];omega
  ·have:=q7G hl hlen (fun i a b=>(hwr i a b).2) 6 em 0 (n2 :: x).length 1 ([]++[⟨#[40]⟩]++ws) (by omega) (by simp only [List.length_cons];omega) (by rw [hd];simp only [List.length_append,List.length_cons,List.length_nil];omega)
   rw [hd] at this
   simpa only [List.append_assoc,List.cons_append,List.nil_append] using this
 ·simp only [wid,q3I,z1];omega
/-- Every node without an error is written. -/
theorem q9q:∀ (n:S28),Vl n → ∀ (m:Nat) (ys:List ByteArray),CntN n m ys → m≤200 → ∃ ws ts,Wr n m ws ts
 | ⟨a,b,c,x⟩,hv,m,ys,hc,hm=>by
  cases hv with
  | mk _ _ _ _ hS hn hcc hl hk=>
  obtain ⟨m',zs,rfl,rfl,hcl⟩:=hc.inv
  obtain ⟨wss,tss,hW⟩:=wrs_of (fun y hy m1 y1 h1 h2=>q9q y (hk y hy) m1 y1 h1 h2) hcl (by omega)
  obtain ⟨⟨a1,a12⟩,hb,hc0,hT⟩:=q6o hS
  by_cases h5:a = 5
  ·subst h5
   obtain rfl:=hb.resolve_left (by decide)
   obtain rfl:=hc0.resolve_left (by decide)
   obtain ⟨k1,k5⟩:=shpT5 hT
   exact wr_seq hW (by omega) hl k1 k5
  by_cases h6:a = 6
  ·subst h6
   obtain rfl:=hb.resolve_left (by decide)
   obtain rfl:=hc0.resolve_left (by decide)
   obtain ⟨n,n2,ns,rfl⟩:=shpT6 hT
   exact wr_alt hW (by omega) hl
  by_cases h1:a = 7∨a = 8∨a = 12
  ·obtain ⟨y,rfl⟩:=shpT1 hT h1
   obtain ⟨mw,ws,ts,hw,e⟩:∃ mw ws ts,Wr y mw ws ts∧mw = m':=by
    cases hW with
    | cons _ _ m1 m2 ws wss ts tss h r=>
     cases r
     exact ⟨_,_,_,h,rfl⟩
   subst e
   rcases h1 with rfl | rfl | rfl
   ·obtain rfl:=hb.resolve_left (by decide)
    exact wr_pow hw (by omega) hcc
   ·obtain rfl:=hb.resolve_left (by decide)
    obtain rfl:=hc0.resolve_left (by decide)
    exact wr_opt hw (by omega)
   ·obtain rfl:=hc0.resolve_left (by decide)
    exact wr_tag hw (by omega) (hn (by decide))
  ·obtain rfl:=shpT0 hT h5 h6 (fun k=>h1 (.inl k)) (fun k=>h1 (.inr (.inl k))) (fun k=>h1 (.inr (.inr k)))
   obtain ⟨rfl,rfl⟩:=hcl.nil_inv
   exact wr_leaf hS hn (by omega)
 termination_by n=>SizeOf.sizeOf n
 decreasing_by
  have:=List.sizeOf_lt_of_mem hy
  simp only [S28.mk.sizeOf_spec]
  omega
end Go.Proofs.YtmffocankommaaaGreatDoor.B
end
section
namespace Go.Proofs.YtmffocankommaaaGreatDoor.B
open Go.RowKit Go.Proofs.YtmffocankommaaaGreatDoorW.PrintWords Go.Proofs.YtmffocankommaaaGreatDoorW.PrintLast Go.Proofs.YtmffocankommaaaGreatDoorW.PrintMore Go.Proofs.YtmffocankommaaaGreatDoorY
open Go.Proofs.YtmffocankommaaaGreatDoor.Asc (St Asc q5L q3w q4a q5w q2F q2X irr tr tri)
set_option linter.unusedVariables false
section
variable (a:Int) (b:ByteArray) (c:Int) (x:List S28)
theorem q8N (L:List ByteArray) (hL:L.length≤1048576) (i:Int):∀ (d j:Nat) (W:List ByteArray),j + d = L.length → Asc (q0L W) → W.length + d≤10000000 →
  ∃ W',Asc (q0L W')∧(∀ s,s ∈ q0L W'↔s ∈ q0L W∨s ∈ q0L (L.drop j))∧W'.length≤W.length + d∧∀ r,q0S (fun k=>q0g.l0 k W' (wrap64 (i + 1)) a b c x) r → q0S (fun k=>q0g.l1 k W i L ((j:Nat):Int) a b c x) r:=by
 intro d
 induction d with
 | zero=>
  intro j W hj hA _
  refine ⟨W,hA,fun s=>?_,Nat.le_refl _,fun r hr=>cSuc ?_⟩
  ·rw [List.drop_eq_nil_of_le (by omega)];simp [q0L]
  ·simp only [q0g.l1]
   exact cNO hr
 | succ d IH=>
  intro j W hj hA hz
  have h:j < L.length:=by omega
  obtain ⟨V,hc,hA',hm',hl'⟩:=q7H W L[j] hA (by omega)
  obtain ⟨W',k1,k2,k3,k4⟩:=IH (j + 1) V (by omega) hA' (by omega)
  refine ⟨W',k1,fun s=>?_,by omega,fun r hr=>cSuc ?_⟩
  ·rw [k2 s,hm' s,List.drop_eq_getElem_cons h]
   simp only [q0L,List.map_cons,List.mem_cons,or_assoc]
  ·simp only [q0g.l1,q7P h,q2e (show j≤1048576 by omega)]
   exact cPO (cPO (cBin hc (k4 r hr)))
end
theorem q6j:∀ (M:Nat) (n:S28) (m:Nat) (ys:List ByteArray),m≤M → CntN n m ys → m≤1048576 → q0S (fun k=>q0g.f k n.f0 n.f1 n.f2 n.f3) (NM ys):=by
 intro M
 induction M with
 | zero=>intro n m ys hm h;have:=h.pos;omega
 | succ M ih=>
  intro n m ys hm h hM
  obtain ⟨a,b,c,l⟩:=n
  obtain ⟨m',zs,rfl,rfl,hl⟩:=h.inv
  have loop:∀ (d i m2:Nat) (zs2:List ByteArray),i + d = l.length → CntL (l.drop i) m2 zs2 → m2≤m' → ∀ W:List ByteArray,Asc (q0L W) → W.length + m2≤5000000 → ∃ r,q0S (fun k=>q0g.l0 k W ((i:Nat):Int) a b c l) r∧Asc (q0L r)∧∀ s,s ∈ q0L r↔s ∈ q0L W∨s ∈ q0L zs2:=by
   intro d
   induction d with
   | zero=>
    intro i m2 zs2 hi h2 _ W hA _
    rw [List.drop_eq_nil_of_le (by omega)] at h2
    obtain ⟨rfl,rfl⟩:=h2.nil_inv
    refine ⟨W,cSuc ?_,hA,fun s=>by simp [q0L]⟩
    simp only [q0g.l0]
    exact cNO (cCon _)
   | succ d IH=>
    intro i m2 zs2 hi h2 hle W hA hW
    have hlt:i < l.length:=by omega
    rw [q3X hlt] at h2
    obtain ⟨m1,m3,y1,y3,rfl,rfl,h1,h3⟩:=h2.inv
    have hy:=(q3V _).1 _ _ _ (Nat.le_refl _) h1
    have hny:=q5U y1
    obtain ⟨W',k1,k2,k3,k4⟩:=q8N a b c l (NM y1) (by omega) (i:Int) (NM y1).length 0 W (by omega) hA (by omega)
    have hll:=CntL.len _ _ _ hl
    rw [q2e (show i≤1048576 by omega)] at k4
    obtain ⟨r,r1,r2,r3⟩:=IH (i + 1) m3 y3 (by omega) h3 (by omega) W' k1 (by omega)
    refine ⟨r,cSuc ?_,r2,fun s=>?_⟩
    ·simp only [q0g.l0,rd25 hlt]
     exact cPO (cPO (cBin (ih _ m1 y1 (by omega) h1 (by omega)) (k4 r r1)))
    ·rw [r3 s,k2 s,List.drop_zero,(q8z y1).2 s,q3v,List.mem_append,or_assoc]
  have j1:∀ W:List ByteArray,Asc (q0L W) → W.length≤1 → ∃ r,q0S (fun k=>q0g.j1 k W a b c l) r∧Asc (q0L r)∧∀ s,s ∈ q0L r↔s ∈ q0L W∨s ∈ q0L zs:=by
   intro W hA hW
   obtain ⟨r,r1,r2,r3⟩:=loop l.length 0 m' zs (by omega) (by simpa using hl) (Nat.le_refl _) W hA (by omega)
   refine ⟨r,cSuc ?_,r2,r3⟩
   simp only [q0g.j1]
   exact r1
  by_cases hn:a = 4∨a = 11∨a = 12
  ·obtain ⟨r,r1,r2,r3⟩:=j1 [b] (by simp [Asc,q0L]) (by simp)
   rw [if_pos hn]
   have e:r = NM ([b]++zs):=NM_is r2 (fun s=>by rw [r3 s,q3v,List.mem_append])
   rw [← e]
   have J0:q0S (fun k=>q0g.j0 k [] true a b c l) r:=cSuc (by simp only [q0g.j0];exact cPos trivial r1)
   apply cSuc
   simp only [q0g.f]
   refine cIte (fun _=>J0) (fun h4=>cIte (fun _=>J0) (fun h11=>?_))
   rw [show (a == 12) = true from by rw [hn.resolve_left h4 |>.resolve_left h11];rfl]
   exact J0
  ·obtain ⟨r,r1,r2,r3⟩:=j1 [] (by simp [Asc,q0L]) (by simp)
   rw [if_neg hn]
   have e:r = NM ([]++zs):=NM_is r2 (fun s=>by rw [r3 s,q3v,List.mem_append])
   rw [← e]
   have J0:q0S (fun k=>q0g.j0 k [] false a b c l) r:=cSuc (by simp only [q0g.j0];exact cND r1)
   apply cSuc
   simp only [q0g.f]
   refine cNeg (fun k=>hn (.inl k)) (cNeg (fun k=>hn (.inr (.inl k))) ?_)
   rw [show (a == 12) = false from by simpa using fun k=>hn (.inr (.inr k))]
   exact J0
/-- Both joins. -/
theorem join_f (ws:List ByteArray) (h:wid ws≤100000):q2Q.f ws (⟨#[32]⟩:ByteArray) = some (jn ws):=by
 have e:Lib.join (ws.map (·.data.toList)) (⟨#[32]⟩:ByteArray).data.toList = (jn ws).data.toList:=by
  cases ws with
  | nil=>rfl
  | cons u us=>
   rw [List.map_cons,Lib.join_cons]
   simp only [jn,ByteArray.data_append,Array.toList_append,q6b]
 have h1:=q3U ws
 have h2:=q5x ws
 have h3:(jn ws).data.toList.length = (jn ws).size:=by rw [Array.length_toList];rfl
 unfold q2Q.f
 rw [e,if_pos ⟨by omega,by omega⟩]
theorem q6K (ws:List ByteArray) (h:wid ws≤100000):q0S (fun k=>q0U.f k ws) (jn ws):=by
 have hz:=q3U ws
 have one32:(⟨#[32]⟩:ByteArray).size = 1:=rfl
 have loop:∀ (d i:Nat) (out:ByteArray),1≤i → i + d = ws.length → out.size + wid (ws.drop i)≤100000 → q0S (fun k=>q0U.l0 k ws out ((i:Nat):Int)) (out++tls (ws.drop i)):=by
  intro d
  induction d with
  | zero=>
   intro i out h1 hi _
   rw [List.drop_eq_nil_of_le (by omega)]
   apply cSuc
   simp only [q0U.l0]
   exact cNO (cVal (app_em _).symm)
  | succ d IH=>
   intro i out h1 hi hs
   have hlt:i < ws.length:=by omega
   rw [List.drop_eq_getElem_cons hlt] at hs ⊢
   simp only [wid] at hs
   apply cSuc
   simp only [q0U.l0,q7P hlt,q2e (show i≤1048576 by omega)]
   refine cPO (cPO (cPO (cPO (cPos (by rw [ByteArray.size_append,one32];omega) ?_))))
   have:=IH (i + 1) ((out++(⟨#[32]⟩:ByteArray))++ws[i]) (by omega) (by omega) (by rw [ByteArray.size_append,ByteArray.size_append,one32];omega)
   simp only [tls]
   rw [ByteArray.append_assoc,ByteArray.append_assoc,ByteArray.append_assoc] at *
   exact this
 unfold q0U.f
 apply cSuc
 simp only [q0U.l0]
 cases ws with
 | nil=>exact cNeg (by simp) (cCon _)
 | cons u us=>
  have hu:rdOf ByteArray.empty (u :: us) (0:Int) = u:=rfl
  have w1:wrap64 ((0:Int) + 1) = ((1:Nat):Int):=by unfold wrap64;omega
  have e0:(⟨#[]⟩:ByteArray).size = 0:=rfl
  simp only [wid] at h
  rw [hu,w1]
  refine cPos (by rw [List.length_cons];omega) (cNO (cPO (cPos (by rw [e0];omega) ?_)))
  have:=loop us.length 1 (em++u) (by omega) (by rw [List.length_cons];omega) (by rw [q7I];show u.size + wid us≤_;omega)
  rw [q7I] at this
  show q0S (fun k=>q0U.l0 k (u :: us) (em++u) ((1:Nat):Int)) _
  rw [q7I]
  exact this
/-- A body has an error by both, or none and few nodes. -/
theorem body_is (n:S28) (hs:Small n) {m:Nat} {ys:List ByteArray} (hc:CntN n m ys) (hm:m≤1048576):(∃ e:Int,e≠0∧q0S (fun k=>q1F.f k n.f0 n.f1 n.f2 n.f3) e∧q0S (fun k=>q1I.f k n.f0 n.f1 n.f2 n.f3) e)∨
  (Vl n∧m≤200∧q0S (fun k=>q1F.f k n.f0 n.f1 n.f2 n.f3) 0∧q0S (fun k=>q1I.f k n.f0 n.f1 n.f2 n.f3) 0):=by
 obtain ⟨e,h1,h2⟩:=q3L n hs 1
 have s0:=q5n m n m ys (Nat.le_refl _) hc (by omega)
 obtain ⟨v,s1,s2⟩:=q5e n hs
 obtain rfl:=s1.same s0
 unfold q1F.f q1I.f
 by_cases he:e = 0
 ·subst he
  by_cases hv:m≤200
  ·exact .inr ⟨q5Z n hs 1 h1,hv,cBin h1 (cPos rfl (cBin s1 (cNO (cCon _)))),cBin h2 (cPos rfl (cBin s2 (cNO (cCon _))))⟩
  ·exact .inl ⟨3,by decide,cBin h1 (cPos rfl (cBin s1 (cPO (cCon _)))),cBin h2 (cPos rfl (cBin s2 (cPO (cCon _))))⟩
 ·exact .inl ⟨e,he,cBin h1 (cNeg he (cCon _)),cBin h2 (cNeg he (cCon _))⟩
theorem vl_sq {n:S28} (h:Vl n):Sq n:=by
 intro h0
 cases h with
 | mk a b c x hS hn hc hl hk=>
  obtain rfl:a = 5:=h0
  obtain ⟨_,hb,hc0,hT⟩:=q6o hS
  obtain rfl:=hb.resolve_left (by decide)
  obtain rfl:=hc0.resolve_left (by decide)
  exact ⟨rfl,(shpT5 hT).1,hl⟩
/-- What Body gives by both, and what ParseBody gives of it. -/
theorem text_is (n:S28) (hs:Small n) {m:Nat} {ys:List ByteArray} (hc:CntN n m ys) (hm:m≤1048576):∃ (s:ByteArray) (e:Int),q0S (fun k=>q2n.f k n.f0 n.f1 n.f2 n.f3) (s,e)∧q0S (fun k=>q1T.f k n.f0 n.f1 n.f2 n.f3) (s,e)∧s.size≤10000∧
  (e = 0 → q0S (fun k=>q1a.f k s) (n.f0,n.f1,n.f2,n.f3,0)∧q0S (fun k=>q1a.f k (((⟨#[40,40]⟩:ByteArray)++s)++(⟨#[41,41]⟩:ByteArray))) (n.f0,n.f1,n.f2,n.f3,0)):=by
 rcases body_is n hs hc hm with ⟨e,he,b1,b2⟩ | ⟨hv,h2,b1,b2⟩
 ·refine ⟨⟨#[]⟩,e,?_,?_,Nat.zero_le _,fun k=>absurd k he⟩
  ·unfold q2n.f
   exact cBin b1 (cNeg he (cCon _))
  ·unfold q1T.f
   exact cBin b2 (cNeg he (cCon _))
 ·obtain ⟨ws,ts,hW⟩:=q9q n hv m ys hc h2
  have hz:=hW.z
  have hj:=q5x ws
  refine ⟨jn ws,0,?_,?_,by omega,fun _=>q7v hW.p (by omega) (vl_sq hv) hW.b b1⟩
  ·unfold q2n.f
   refine cBin b1 (cPos rfl (cBin hW.w ?_))
   rw [join_f ws (by omega)]
   exact cCon _
  ·unfold q1T.f
   exact cBin b2 (cPos rfl (cBin hW.r (cBin (q6K ws (by omega)) (cCon _))))
end Go.Proofs.YtmffocankommaaaGreatDoor.B
end
section
namespace Go.Proofs.YtmffocankommaaaGreatDoor.B
open Go.RowKit Go.Proofs.YtmffocankommaaaGreatDoorW.PrintWords Go.Proofs.YtmffocankommaaaGreatDoorW.PrintLast Go.Proofs.YtmffocankommaaaGreatDoorW.PrintMore Go.Proofs.YtmffocankommaaaGreatDoorY
set_option linter.unusedVariables false
theorem q4O (a:Int) (b:ByteArray) (c:Int) (x:List S28) (m:Nat) (ys:List ByteArray) (hc:CntN ⟨a,b,c,x⟩ m ys) (hm:m≤1048576):q0S (fun k=>q0k.f k a b c x) true:=by
 have hs:=q8w m _ m ys (Nat.le_refl _) hc hm
 obtain ⟨t,ht⟩:=q5E _ hs 260
 obtain ⟨s,e,t1,t2,hz,hp⟩:=text_is _ hs hc hm
 have nd:=q5l _ hs
 have s1:=q5n m _ m ys (Nat.le_refl _) hc (by omega)
 have s2:q0S (fun k=>q0I.f k a b c x) (m:Int):=by
  obtain ⟨v,v1,v2⟩:=q5e _ hs
  obtain rfl:=v1.same s1
  exact v2
 have n1:=q6P _ m ys hc (by omega)
 have n2:=q6j m _ m ys (Nat.le_refl _) hc (by omega)
 have hny:=q5U ys
 have hys:=(q3V _).1 _ _ _ (Nat.le_refl _) hc
 have eq:=q6H (NM ys) (by omega)
 have sf:=q5o _ hs
 have j1:q0S (fun k=>q0k.j1 k s e s e (e != 0) a b c x) true:=by
  apply cSuc
  simp only [q0k.j1]
  by_cases he:e = 0
  ·subst he
   obtain ⟨p1,p2⟩:=hp rfl
   have z2:((⟨#[40,40]⟩:ByteArray)++s).size = 2 + s.size:=by rw [ByteArray.size_append];rfl
   exact cND (cBin p1 (cPO (cPos (by rw [z2];omega) (cBin p2 (cPos rfl (cBin sf (cPos rfl (cPos rfl (cBin sf (cCon _))))))))))
  ·exact cPos (by simpa using he) (cPos trivial (cPos trivial (cBin nd (cBin s1 (cBin s2 (cPos rfl (cBin nd (cBin n1 (cBin n2 (cBin eq (cCon _)))))))))))
 have j0:∀ z:Bool,q0S (fun k=>q0k.j0 k z a b c x) true:=by
  intro z
  apply cSuc
  simp only [q0k.j0]
  refine cIte (fun _=>cBin q3B (cCon _)) (fun _=>?_)
  exact cBin nd (cBin t1 (cBin t2 (cPos rfl (cPos rfl (cBin nd (cBin s1 (cBin s2 (cPos rfl (cBin nd (cBin n1 (cBin n2 (cBin eq (cPos rfl j1)))))))))))))
 unfold q0k.f
 exact cBin q3B (cPos rfl (cBin ht (j0 _)))
end Go.Proofs.YtmffocankommaaaGreatDoor.B
end
section
namespace Go.Proofs.YtmffocankommaaaGreatDoor.B
open Go.RowKit Go.Proofs.YtmffocankommaaaGreatDoorW.PrintWords Go.Proofs.YtmffocankommaaaGreatDoorW.PrintLast Go.Proofs.YtmffocankommaaaGreatDoorW.PrintMore Go.Proofs.YtmffocankommaaaGreatDoorY
set_option linter.unusedVariables false
/-- Lists and names that fit into a machine. -/
inductive Fit:S28 → Prop
 | mk (a:Int) (b:ByteArray) (c:Int) (l:List S28) (hb:b.size≤9223372036854775807) (hl:l.length≤9223372036854775807) (hk:∀ x,x ∈ l → Fit x):Fit ⟨a,b,c,l⟩
theorem wrapM {i:Nat} (h:i + 1≤9223372036854775807):wrap64 ((i:Int) + 1) = ((i + 1:Nat):Int):=by unfold wrap64;omega
theorem q8M (l:List S28) (hl:l.length≤9223372036854775807) (a:Int) (b:ByteArray) (c:Int)
  (ih:∀ x,x ∈ l → ∀ q:Int,0≤q → q≤1000000 → ∃ t,q0S (fun k=>q0M.f k x.f0 x.f1 x.f2 x.f3 q) t∧(-300000000000000000≤t∧t≤1000000)∧(t≥0 → ∃ (m:Nat) (ys:List ByteArray),CntN x m ys∧(m:Int) + t≤q)) :
  ∀ (d i:Nat),i + d = l.length → ∀ q:Int,-300000000000000000≤q → q≤1000000 → ∃ t,q0S (fun k=>q0M.l0 k q ((i:Nat):Int) a b c l) t∧(-300000000000000000≤t∧t≤1000000)∧(t≥0 → ∃ (m:Nat) (ys:List ByteArray),CntL (l.drop i) m ys∧(m:Int) + t≤q):=by
 intro d
 induction d with
 | zero=>
  intro i hi q h1 h2
  refine ⟨q,cSuc ?_,⟨h1,h2⟩,fun _=>⟨0,[],?_,by omega⟩⟩
  ·simp only [q0M.l0]
   exact cNO (cCon _)
  ·rw [List.drop_eq_nil_of_le (by omega)];exact .nil
 | succ d IH=>
  intro i hi q h1 h2
  have hlt:i < l.length:=by omega
  by_cases hq:q≥0
  ·obtain ⟨t,ht,hb,hc⟩:=ih _ (List.getElem_mem hlt) q hq h2
   obtain ⟨u,hu,hub,huc⟩:=IH (i + 1) (by omega) t hb.1 hb.2
   refine ⟨u,cSuc ?_,hub,fun hu0=>?_⟩
   ·simp only [q0M.l0,rd25 hlt,wrapM (show i + 1≤9223372036854775807 by omega)]
    exact cPO (cPos hq (cPO (cBin ht hu)))
   ·obtain ⟨m2,y2,c2,e2⟩:=huc hu0
    obtain ⟨m1,y1,c1,e1⟩:=hc (by omega)
    refine ⟨m1 + m2,y1++y2,?_,by omega⟩
    rw [q3X hlt]
    exact .cons _ _ _ _ _ _ c1 c2
  ·refine ⟨q,cSuc ?_,⟨h1,h2⟩,fun k=>absurd k hq⟩
   simp only [q0M.l0]
   exact cPO (cNeg hq (cCon _))
theorem q7h:∀ n:S28,Fit n → ∀ q:Int,0≤q → q≤1000000 → ∃ t,q0S (fun k=>q0M.f k n.f0 n.f1 n.f2 n.f3 q) t∧(-300000000000000000≤t∧t≤1000000)∧(t≥0 → ∃ (m:Nat) (ys:List ByteArray),CntN n m ys∧(m:Int) + t≤q)
 | ⟨a,b,c,l⟩,hf,q,h1,h2=>by
  cases hf with
  | mk _ _ _ _ hb hl hk=>
  have hw:wrap64 ((wrap64 (q - 1)) - (wrap64 ((b.size:Int) / 40))) = q - 1 - (b.size:Int) / 40:=by unfold wrap64;omega
  obtain ⟨t,ht,htb,hc⟩:=q8M l hl a b c (fun x hx=>q7h x (hk x hx)) l.length 0 (by omega) (q - 1 - (b.size:Int) / 40) (by omega) (by omega)
  refine ⟨t,cSuc ?_,htb,fun h0=>?_⟩
  ·simp only [q0M.f,hw]
   exact ht
  ·obtain ⟨m,ys,k1,k2⟩:=hc h0
   rw [List.drop_zero] at k1
   exact ⟨m + 1,_,.mk _ _ _ _ _ _ k1,by omega⟩
 termination_by n=>SizeOf.sizeOf n
 decreasing_by
  have:=List.sizeOf_lt_of_mem hx
  simp only [S28.mk.sizeOf_spec]
  omega
theorem q5F (a:Int) (b:ByteArray) (c:Int) (x:List S28) (hf:Fit ⟨a,b,c,x⟩):q0S (fun k=>q0k.f k a b c x) true:=by
 obtain ⟨t,ht,_,hc⟩:=q7h _ hf 260 (by decide) (by decide)
 by_cases h0:t≥0
 ·obtain ⟨m,ys,k1,k2⟩:=hc h0
  exact q4O a b c x m ys k1 (by omega)
 ·have few:q0S (fun k=>q1H.f k a b c x 260) false:=by
   unfold q1H.f
   exact cBin ht (cVal (decide_eq_false h0))
  unfold q0k.f
  refine cBin q3B (cPos rfl (cBin few (cSuc ?_)))
  simp only [q0k.j0]
  exact cPos rfl (cBin q3B (cCon _))
end Go.Proofs.YtmffocankommaaaGreatDoor.B
end
section
namespace Go.Proofs.YtmffocankommaaaGreatDoor.B
open Go.RowKit Go.Proofs.YtmffocankommaaaGreatDoorW.PrintWords Go.Proofs.YtmffocankommaaaGreatDoorW.PrintLast Go.Proofs.YtmffocankommaaaGreatDoorW.PrintMore Go.Proofs.YtmffocankommaaaGreatDoorY
set_option linter.unusedVariables false
theorem list_of {α:Type} (n:Nat) (Q:Nat → α → Prop) (h:∀ i,i < n → ∃ b,Q i b):∃ xs:List α,xs.length = n∧∀ i (hi:i < xs.length),Q i xs[i]:=by
 induction n with
 | zero=>exact ⟨[],rfl,fun i hi=>absurd hi (by simp)⟩
 | succ n ih=>
  obtain ⟨xs,hl,hx⟩:=ih (fun i hi=>h i (by omega))
  obtain ⟨b,hb⟩:=h n (by omega)
  refine ⟨xs++[b],by simp [hl],fun i hi=>?_⟩
  by_cases hin:i < xs.length
  ·rw [List.getElem_append_left hin]
   exact hx i hin
  ·have:i = n:=by simp at hi;omega
   subst this
   rw [List.getElem_append_right (by omega)]
   simp [hl,hb]
section
variable {H:Type} {enc:TypeId × Value → H} {w:World} {base:Nat} {sp:Nat → Bool} {held:Bool}
theorem q7z {t:TypeId} {fuel:Nat} {cs:List Value} {x:DataW H × List MemPlace} (ht:Tryz.prog.underlying t = some (.slice 28)) (hsz:Tryz.prog.cellsOf 28 = k28.sz)
  (ih:∀ n,n < fuel → ∀ cs' x',DataW.trod enc Tryz.prog w base sp held n 28 cs' = some x' → ∃ a:S28,k28.K w a cs'∧Fit a)
  (h:DataW.trod enc Tryz.prog w base sp held fuel t cs = some x) :
  ∃ (xs:List S28) (A:Option Addr) (c:Nat),cs = [.slice A xs.length c]∧xs.length≤c∧Kd.C k28 w A xs.length xs∧xs.length≤9223372036854775807∧∀ y,y ∈ xs → Fit y:=by
 rcases DataW.trod_slice ht h with ⟨rfl,rfl⟩ | ⟨a,len,cap,elems,rest,n,rfl,rfl,rfl,hb,hl,hm,hlen,hel,hsp,hns⟩
 ·exact ⟨[],none,0,rfl,Nat.le_refl _,⟨rfl,by simp,fun h=>absurd h (by simp)⟩,by simp,fun y hy=>absurd hy (by simp)⟩
 ·have each:∀ i (hi:i < len),∃ b cs',w.cells? base (a.add (i * Tryz.prog.cellsOf 28)) (Tryz.prog.cellsOf 28) = some cs'∧k28.K w b cs'∧Fit b:=by
   intro i hi
   have he:=hel i hi
   rw [List.getElem?_eq_getElem (by omega)] at he
   obtain ⟨cs',h1,h2⟩:=Option.bind_eq_some_iff.1 he
   obtain ⟨b,hK,hP⟩:=ih n (Nat.lt_succ_self n) cs' _ h2
   exact ⟨b,cs',h1,hK,hP⟩
  obtain ⟨xs,hxl,hx⟩:=list_of len (fun i b=>∃ cs',w.cells? base (a.add (i * Tryz.prog.cellsOf 28)) (Tryz.prog.cellsOf 28) = some cs'∧k28.K w b cs'∧Fit b) (fun i hi=>each i hi)
  unfold maxLen at hm
  refine ⟨xs,some a,cap,by rw [hxl],by omega,⟨rfl,by omega,fun _=>⟨a,rfl,fun j p hj=>?_⟩⟩,by omega,fun y hy=>?_⟩
  ·obtain ⟨hj1,rfl⟩:=List.getElem?_eq_some_iff.1 hj
   obtain ⟨cs',h1,h2,_⟩:=hx j (by omega)
   obtain ⟨_,hcl,hcell⟩:=World.cells?_some h1
   refine ⟨cs',by rw [hcl,hsz],h2,fun i u hu=>?_⟩
   have hi:=(List.getElem?_eq_some_iff.1 hu).1
   have:=hcell i (by omega)
   rw [hu] at this
   rw [← this,← hsz,Addr.add_add]
  ·obtain ⟨j,hj,rfl⟩:=List.getElem_of_mem hy
   obtain ⟨_,_,_,h3⟩:=hx j hj
   exact h3
set_option maxRecDepth 100000 in
/-- A node that reads. -/
theorem q6L:∀ (fuel:Nat) (cs:List Value) (x:DataW H × List MemPlace),DataW.trod enc Tryz.prog w base sp held fuel 28 cs = some x → ∃ n:S28,k28.K w n cs∧Fit n:=by
 intro fuel
 induction fuel using Nat.strongRecOn with
 | _ fuel ih=>
  intro cs x h
  obtain ⟨xs,n,rfl,rfl,hcl,hxl,hf⟩:=DataW.trod_struct Tryz.underlying28 h
  have hc:Tryz.prog.cellsOf 28 = 4:=by kernel_rfl
  rw [hc] at hcl
  match xs,hxl,cs,hcl with
  | [y0,y1,y2,y3],_,[v0,v1,v2,v3],_=>
  have c3:Tryz.prog.cellsOf 3 = 1:=by kernel_rfl
  have c9:Tryz.prog.cellsOf 9 = 1:=by kernel_rfl
  have c23:Tryz.prog.cellsOf 26 = 1:=by kernel_rfl
  have g0:DataW.trod enc Tryz.prog w base sp held n 3 [v0] = some y0:=by
   have g:=hf 0 _ rfl
   simp [c3] at g
   exact g
  have g1:DataW.trod enc Tryz.prog w base sp held n 9 [v1] = some y1:=by
   have g:=hf 1 _ rfl
   simp [c9] at g
   exact g
  have g2:DataW.trod enc Tryz.prog w base sp held n 3 [v2] = some y2:=by
   have g:=hf 2 _ rfl
   simp [c3] at g
   exact g
  have g3:DataW.trod enc Tryz.prog w base sp held n 26 [v3] = some y3:=by
   have g:=hf 3 _ rfl
   simp [c23] at g
   exact g
  obtain ⟨i0,e0,hx0,_⟩:=DataW.trod_int Tryz.underlying3 g0
  obtain ⟨s1,e1,hx1,hz1⟩:=DataW.trod_string Tryz.underlying9 g1
  obtain ⟨i2,e2,hx2,_⟩:=DataW.trod_int Tryz.underlying3 g2
  obtain ⟨l,A,c,e3,hl,hC,hll,hfit⟩:=q7z Tryz.underlying26 (by kernel_rfl) (fun m hm=>ih m (by omega)) g3
  obtain rfl:v0 = .int .i64 i0:=by simpa using e0
  obtain rfl:v1 = .string s1:=by simpa using e1
  obtain rfl:v2 = .int .i64 i2:=by simpa using e2
  obtain rfl:v3 = .slice A l.length c:=by simpa using e3
  unfold maxLen at hz1
  exact ⟨⟨i0,s1,i2,l⟩,q8e w ⟨i0,s1,i2,l⟩ hl hC,.mk _ _ _ _ (by omega) hll hfit⟩
/-- Its cells, one by one. -/
theorem q6R (fuel:Nat) (cs:List Value) (x:DataW H × List MemPlace) (h:DataW.trod enc Tryz.prog w base sp held fuel 28 cs = some x) :
  ∃ (a0:Int) (a1:ByteArray) (a2:Int) (A:Option Addr) (c:Nat) (l:List S28),cs = [.int .i64 a0,.string a1,.int .i64 a2,.slice A l.length c]∧Kd.C k28 w A l.length l∧l.length≤c∧Fit ⟨a0,a1,a2,l⟩:=by
 obtain ⟨⟨n0,n1,n2,n3⟩,hK,h1⟩:=q6L fuel cs x h
 obtain ⟨A,c,e,hl,hC⟩:=q3Y hK
 exact ⟨n0,n1,n2,A,c,n3,e,hC,hl,h1⟩
end
end Go.Proofs.YtmffocankommaaaGreatDoor.B
end
section
namespace Go.Proofs.YtmffocankommaaaGreatDoor.WitB
open Go.ChangeShapes Go.WideShapes Go.ChangeAt Go.RowKit
/-- The values of a table's datum. -/
def vals (d:DataW Unit):Array Value:=
 match d with
 | .agg l=>(l.map fun
  | .lit (.int .u8 n)=>Value.int .u8 n
  | .lit (.int .u64 n)=>Value.int .u64 n
  | _=>.bool false).toArray
 | _=>#[]
def held (v:Array Value):Obj → Obj
 | .cells _ t frozen=>.cells v t frozen
 | o=>o
noncomputable def laidWorld (os:Os):World:=
 {World.holding Tryz.prog os ⟨#[],#[],[]⟩ with heap:=(((World.holding Tryz.prog os ⟨#[],#[],[]⟩).heap.modify 1 (held (vals Rows.laid_internal_strconv_uint64pow10))).modify 2 (held (vals Rows.laid_math_bits_deBruijn32tab))).modify 3 (held (vals Rows.laid_math_bits_deBruijn64tab))}
def zero:Value:=.agg #[.int .i64 0,.string ⟨#[]⟩,.int .i64 0,.slice none 0 0]
theorem laid_met (os:Os):laidMet Tryz.prog Rows.metreBodyRow.laid ((laidWorld os).forCall (fun _ _=>0) ⟨#[],#[zero],[]⟩).memory:=
 laidMet_of_run' 8 (by kernel_rfl) (by kernel_rfl)
theorem reads (os:Os) {H:Type} (enc:TypeId × Value → H):∃ ds places,DataW.whole enc Tryz.prog ((laidWorld os).forCall (fun _ _=>0) ⟨#[],#[zero],[]⟩).memory Tryz.f4.params.toList Rows.metreBodySpec.vars false #[zero].toList 8 = some (ds,[],places):=by
 have h:(match DataW.whole enc Tryz.prog ((laidWorld os).forCall (fun _ _=>0) ⟨#[],#[zero],[]⟩).memory Tryz.f4.params.toList Rows.metreBodySpec.vars false #[zero].toList 8 with
  | some (ds,[],_)=>true
  | _=>false) = true:=by kernel_rfl
 split at h
 ·rename_i ds p he
  exact ⟨ds,p,he⟩
 ·cases h
end Go.Proofs.YtmffocankommaaaGreatDoor.WitB
end
