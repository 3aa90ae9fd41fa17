/- The plain law: what the walks' functions compute answers as the statement says; the opening of the arguments; the witness's world. No program in sight but its types. Conditions: the lists within the arguments are no longer than the row's bulk. -/
import Derived.Test.YtmffocankommaaaDoorDx31
import Derived.Test.YtmffocankommaaaDoorRows
import Derived.Deep.Slices
import Derived.ChangeArms
import Derived.WalkKit
import Derived.ProofKit
import Derived.OpenShut
import Derived.Deep.DeepHandedRow
import Derived.Lib.LaidTab
namespace Go.Proofs.YtmffocankommaaaDoor.F
open Go.RowKit Go.Proofs.YtmffocankommaaaDoorW.PrintWords Go.Proofs.YtmffocankommaaaDoorW.PrintLast Go.Proofs.YtmffocankommaaaDoorW.PrintMore Go.Proofs.YtmffocankommaaaDoorY Go.Proofs.YtmffocankommaaaDoorS
set_option linter.unusedVariables false
section
/-- From some number of rounds on, f comes to r. -/
def q1B {α:Type} (f:Nat → Option α) (r:α):Prop:=∃ K,∀ k,K≤k → f k = some r
theorem cBin {α β:Type} {f:Nat → Option α} {g:Nat → α → Option β} {x:α} {r:β} (h:q1B f x) (hg:q1B (fun k=>g k x) r):q1B (fun k=>(f k).bind (g k)) r:=by
 obtain ⟨K,h⟩:=h
 obtain ⟨L,hg⟩:=hg
 exact ⟨max K L,fun k hk=>by
  show (f k).bind (g k) = some r
  rw [h k (by omega)]
  exact hg k (by omega)⟩
theorem cCon {α:Type} (r:α):q1B (fun _=>some r) r:=⟨0,fun _ _=>rfl⟩
theorem cSuc {α:Type} {f:Nat → Option α} {r:α} (h:q1B (fun k=>f (k + 1)) r):q1B f r:=by
 obtain ⟨K,h⟩:=h
 exact ⟨K + 1,fun k hk=>by
  obtain ⟨j,rfl⟩:∃ j,k = j + 1:=⟨k - 1,by omega⟩
  exact h j (by omega)⟩
theorem cPos {α:Type} {c:Prop} [Decidable c] {f g:Nat → Option α} {r:α} (hc:c) (h:q1B f r):q1B (fun k=>if c then f k else g k) r:=by simpa only [if_pos hc] using h
theorem cNeg {α:Type} {c:Prop} [Decidable c] {f g:Nat → Option α} {r:α} (hc : ¬ c) (h:q1B g r):q1B (fun k=>if c then f k else g k) r:=by simpa only [if_neg hc] using h
theorem cND {α:Type} {c:Prop} [Decidable c] {f g:Nat → Option α} {r:α} (h:q1B g r) (hc : ¬ c:=by decide):q1B (fun k=>if c then f k else g k) r:=cNeg hc h
theorem cNO {α:Type} {c:Prop} [Decidable c] {f g:Nat → Option α} {r:α} (h:q1B g r) (hc : ¬ c:=by omega):q1B (fun k=>if c then f k else g k) r:=cNeg hc h
theorem cPD {α:Type} {c:Prop} [Decidable c] {f g:Nat → Option α} {r:α} (h:q1B f r) (hc:c:=by decide):q1B (fun k=>if c then f k else g k) r:=cPos hc h
theorem cPO {α:Type} {c:Prop} [Decidable c] {f g:Nat → Option α} {r:α} (h:q1B f r) (hc:c:=by omega):q1B (fun k=>if c then f k else g k) r:=cPos hc h
/-- Lists within a node are no longer than 2^20. -/
inductive Small:S25 → Prop
 | mk (a:Int) (b:q0a) (c:Int) (l:List S25) (hl:l.length≤1048576) (hk:∀ x,x ∈ l → Small x):Small ⟨a,b,c,l⟩
theorem q2t {i:Nat} (h:i≤1048576):wrap64 ((i:Int) + 1) = ((i + 1:Nat):Int):=by unfold wrap64;omega
theorem rd25 {xs:List S25} {i:Nat} (h:i < xs.length):q0p xs (i:Int) = xs[i]:=by
 show xs.getD i z25 = xs[i]
 rw [List.getD_eq_getElem?_getD,List.getElem?_eq_getElem h]
 rfl
theorem q9S (xs:List S25) (hl:xs.length≤1048576) (a:Int) (b:q0a) (c:Int) (ih:∀ x,x ∈ xs → q1B (fun k=>q1i.f k x.f0 x.f1 x.f2 x.f3) (x.f0,x.f1,x.f2,x.f3)) :
  ∀ m i,i + m = xs.length → q1B (fun k=>q1i.l0 k xs (xs.length:Int) (i:Int) a b c (xs.take i)) (a,b,c,xs):=by
 intro m
 induction m with
 | zero=>
  intro i hi
  obtain rfl:i = xs.length:=by omega
  apply cSuc
  simp only [q1i.l0]
  refine cNO ?_
  rw [List.take_length]
  exact cCon _
 | succ m IH=>
  intro i hi
  have hlt:i < xs.length:=by omega
  apply cSuc
  simp only [q1i.l0]
  refine cPO (cPO (cPO ?_))
  rw [rd25 hlt]
  refine cBin (ih _ (List.getElem_mem hlt)) ?_
  refine cPos (by rw [List.length_take];omega) ?_
  have h:=IH (i + 1) (by omega)
  rw [q2t (by omega)]
  rw [List.take_succ_eq_append_getElem hlt] at h
  generalize xs[i] = y at h ⊢
  cases y
  exact h
theorem q5Y:∀ n:S25,Small n → q1B (fun k=>q1i.f k n.f0 n.f1 n.f2 n.f3) (n.f0,n.f1,n.f2,n.f3)
 | ⟨a,b,c,l⟩,hs=>by
  cases hs with
  | mk _ _ _ _ hl hk=>
  apply cSuc
  simp only [q1i.f]
  exact q9S l hl a b c (fun x hx=>q5Y x (hk x hx)) l.length 0 (by omega)
 termination_by n=>SizeOf.sizeOf n
 decreasing_by
  have:=List.sizeOf_lt_of_mem hx
  simp only [S25.mk.sizeOf_spec]
  omega
theorem rd86 {xs:List S86} {i:Nat} (h:i < xs.length):q0z xs (i:Int) = xs[i]:=by
 show xs.getD i z86 = xs[i]
 rw [List.getD_eq_getElem?_getD,List.getElem?_eq_getElem h]
 rfl
theorem rd88 {xs:List S88} {i:Nat} (h:i < xs.length):q1W xs (i:Int) = xs[i]:=by
 show xs.getD i z88 = xs[i]
 rw [List.getD_eq_getElem?_getD,List.getElem?_eq_getElem h]
 rfl
theorem rdl7 {xs:List (List q0a)} {i:Nat} (h:i < xs.length):q2A xs (i:Int) = xs[i]:=by
 show xs.getD i [] = xs[i]
 rw [List.getD_eq_getElem?_getD,List.getElem?_eq_getElem h]
 rfl
theorem q9p (xs:List (List q0a)) (hl:xs.length≤1048576) (hk:∀ x,x ∈ xs → x.length≤1048576) (a:q0a) (b:List S86) (c:List S88) (d:Int) (e:q0a) (f:Int) (g:List S25) :
  ∀ m i,i + m = xs.length → q1B (fun k=>q0D.l1 k xs (xs.length:Int) (i:Int) a b c (xs.take i) d e f g) (a,b,c,xs,d,e,f,g):=by
 intro m
 induction m with
 | zero=>
  intro i hi
  obtain rfl:i = xs.length:=by omega
  apply cSuc
  simp only [q0D.l1]
  refine cNO ?_
  rw [List.take_length]
  exact cCon _
 | succ m IH=>
  intro i hi
  have hlt:i < xs.length:=by omega
  apply cSuc
  simp only [q0D.l1]
  refine cPO (cPO (cPO ?_))
  rw [rdl7 hlt]
  refine cBin (x:=xs[i]) ⟨0,fun _ _=>by unfold q3h.f;rw [if_pos (hk _ (List.getElem_mem hlt))]⟩ ?_
  refine cPos (by rw [List.length_take];omega) ?_
  have h:=IH (i + 1) (by omega)
  rw [q2t (by omega)]
  rw [List.take_succ_eq_append_getElem hlt] at h
  exact h
theorem q9J (xs:List S86) (hl:xs.length≤1048576) (hk:∀ x,x ∈ xs → Small x.f1) (ls:List (List q0a)) (hl3:ls.length≤1048576) (hk3:∀ x,x ∈ ls → x.length≤1048576) (n0:q0a) (n1:List S86) (n2:List S88) (n4:Int) (n5:q0a) (n6:Int) (n7:List S25) (a:q0a) (c:List S88) (d:Int) (e:q0a) (f:Int) (g:List S25) :
  ∀ m i,i + m = xs.length → q1B (fun k=>q0D.l0 k xs (xs.length:Int) (i:Int) n0 n1 n2 ls n4 n5 n6 n7 a (xs.take i) c d e f g) (a,xs,c,ls,d,e,f,g):=by
 intro m
 induction m with
 | zero=>
  intro i hi
  obtain rfl:i = xs.length:=by omega
  apply cSuc
  simp only [q0D.l0]
  refine cNO ?_
  rw [List.take_length]
  exact q9p ls hl3 hk3 a xs c d e f g ls.length 0 (by omega)
 | succ m IH=>
  intro i hi
  have hlt:i < xs.length:=by omega
  apply cSuc
  simp only [q0D.l0]
  refine cPO (cPO (cPO ?_))
  rw [rd86 hlt]
  refine cBin (q5Y _ (hk _ (List.getElem_mem hlt))) ?_
  refine cPos (by rw [List.length_take];omega) ?_
  have h:=IH (i + 1) (by omega)
  rw [q2t (by omega)]
  rw [List.take_succ_eq_append_getElem hlt] at h
  generalize xs[i] = y at h ⊢
  obtain ⟨y0,y1⟩:=y
  cases y1
  exact h
theorem q7N (a0:q0a) (l1:List S86) (l2:List S88) (l3:List (List q0a)) (a4:Int) (a5:q0a) (a6:Int) (l7:List S25) (h1:l1.length≤1048576) (h1k:∀ x,x ∈ l1 → Small x.f1) (h2:l2.length≤1048576) (h3:l3.length≤1048576) (h3k:∀ x,x ∈ l3 → x.length≤1048576) (h7:Small ⟨a4,a5,a6,l7⟩) :
  q1B (fun k=>q0D.f k a0 l1 l2 l3 a4 a5 a6 l7) (a0,l1,l2,l3,a4,a5,a6,l7):=by
 unfold q0D.f
 refine cBin (x:=l2) ⟨0,fun _ _=>by unfold q4w.f;rw [if_pos h2]⟩ ?_
 refine cBin (q5Y ⟨a4,a5,a6,l7⟩ h7) ?_
 exact q9J l1 h1 h1k l3 h3 h3k a0 l1 l2 a4 a5 a6 l7 a0 l2 a4 a5 a6 l7 l1.length 0 (by omega)
end
section
mutual
inductive CntN:S25 → Nat → List q0a → Prop
 | mk (a:Int) (b:q0a) (c:Int) (l:List S25) (m:Nat) (ys:List q0a) (h:CntL l m ys):CntN ⟨a,b,c,l⟩ (m + 1) ((if a = 4∨a = 11∨a = 12 then [b] else [])++ys)
inductive CntL:List S25 → Nat → List q0a → Prop
 | nil:CntL [] 0 []
 | cons (x:S25) (l:List S25) (m n:Nat) (ys zs:List q0a) (h1:CntN x m ys) (h2:CntL l n zs):CntL (x :: l) (m + n) (ys++zs)
end
theorem CntN.inv {a:Int} {b:q0a} {c:Int} {l:List S25} {m:Nat} {zs:List q0a} (h:CntN ⟨a,b,c,l⟩ m zs):∃ m' ys,m = m' + 1∧zs = (if a = 4∨a = 11∨a = 12 then [b] else [])++ys∧CntL l m' ys:=by
 cases h with
 | mk _ _ _ _ m ys h=>exact ⟨m,ys,rfl,rfl,h⟩
theorem CntN.pos {n:S25} {m:Nat} {zs:List q0a} (h:CntN n m zs):0 < m:=by
 cases h;omega
theorem CntL.inv {x:S25} {l:List S25} {m:Nat} {zs:List q0a} (h:CntL (x :: l) m zs):∃ m1 m2 y1 y2,m = m1 + m2∧zs = y1++y2∧CntN x m1 y1∧CntL l m2 y2:=by
 cases h with
 | cons _ _ m1 m2 y1 y2 h1 h2=>exact ⟨m1,m2,y1,y2,rfl,rfl,h1,h2⟩
theorem CntL.nil_inv {m:Nat} {zs:List q0a} (h:CntL [] m zs):m = 0∧zs = []:=by
 cases h;exact ⟨rfl,rfl⟩
theorem CntL.len:∀ (l:List S25) (m:Nat) (zs:List q0a),CntL l m zs → l.length≤m
 | [],m,zs,h=>by simp
 | x :: l,m,zs,h=>by
  obtain ⟨m1,m2,y1,y2,rfl,rfl,h1,h2⟩:=h.inv
  have:=CntL.len l m2 y2 h2
  have:=h1.pos
  simp only [List.length_cons]
  omega
theorem CntL.mem:∀ (l:List S25) (m:Nat) (zs:List q0a),CntL l m zs → ∀ x,x ∈ l → ∃ m' ys,CntN x m' ys∧m'≤m
 | [],m,zs,h,x,hx=>by cases hx
 | y :: l,m,zs,h,x,hx=>by
  obtain ⟨m1,m2,y1,y2,rfl,rfl,h1,h2⟩:=h.inv
  rcases List.mem_cons.1 hx with e | e
  ·subst e;exact ⟨m1,y1,h1,by omega⟩
  ·obtain ⟨m',ys,h',hl⟩:=CntL.mem l m2 y2 h2 x e
   exact ⟨m',ys,h',by omega⟩
theorem q5H:∀ (M:Nat) (n:S25) (m:Nat) (ys:List q0a),m≤M → CntN n m ys → m≤1048576 → Small n:=by
 intro M
 induction M with
 | zero=>intro n m ys hm h _;have:=h.pos;omega
 | succ M ih=>
  intro n m ys hm h hM
  obtain ⟨a,b,c,l⟩:=n
  obtain ⟨m',zs,rfl,rfl,hl⟩:=h.inv
  refine .mk _ _ _ _ (by have:=CntL.len _ _ _ hl;omega) (fun x hx=>?_)
  obtain ⟨m1,y1,h1,h2⟩:=CntL.mem _ _ _ hl x hx
  exact ih x m1 y1 (by omega) h1 (by omega)
theorem wrapI {i:Int} (h : -1000000000000≤i∧i≤1000000000000):wrap64 i = i:=by unfold wrap64;omega
theorem wrapN {i:Nat} (h:i≤1000000000):wrap64 ((i:Int) + 1) = ((i + 1:Nat):Int):=by unfold wrap64;omega
theorem q7C {l:List S25} {i:Nat} (h:i < l.length):l.drop i = l[i] :: l.drop (i + 1):=List.drop_eq_getElem_cons h
theorem q9i:∀ (M:Nat) (n:S25) (m:Nat) (ys:List q0a),m≤M → CntN n m ys → m≤10000000 → q1B (fun k=>q2a.f k n.f0 n.f1 n.f2 n.f3) (m:Int):=by
 intro M
 induction M with
 | zero=>intro n m ys hm h;have:=h.pos;omega
 | succ M ih=>
  intro n m ys hm h hM
  obtain ⟨a,b,c,l⟩:=n
  obtain ⟨m',zs,rfl,rfl,hl⟩:=h.inv
  have loop:∀ (d:Nat) (i:Nat) (m2:Nat) (zs2:List q0a),i + d = l.length → CntL (l.drop i) m2 zs2 → m2≤m' → ∀ q:Nat,q + m2≤20000000 → q1B (fun k=>q2a.l0 k (q:Int) l (l.length:Int) (i:Int)) ((q + m2:Nat):Int):=by
   intro d
   induction d with
   | zero=>
    intro i m2 zs2 hi h2 _ q _
    rw [List.drop_eq_nil_of_le (by omega)] at h2
    obtain ⟨rfl,rfl⟩:=h2.nil_inv
    apply cSuc
    simp only [q2a.l0]
    exact cNO (cCon _)
   | succ d IH=>
    intro i m2 zs2 hi h2 hle q hq
    have hlt:i < l.length:=by omega
    rw [q7C hlt] at h2
    obtain ⟨m1,m3,y1,y3,rfl,rfl,h1,h3⟩:=h2.inv
    apply cSuc
    simp only [q2a.l0]
    refine cPO (cPO (cPO ?_))
    rw [rd25 hlt]
    refine cBin (ih _ m1 y1 (by omega) h1 (by omega)) ?_
    rw [wrapN (by have:=CntL.len _ _ _ hl;omega),wrapI (by omega)]
    have:=IH (i + 1) m3 y3 (by omega) h3 (by omega) (q + m1) (by omega)
    rw [show q + m1 + m3 = q + (m1 + m3) by omega] at this
    exact this
  apply cSuc
  simp only [q2a.f]
  have:=loop l.length 0 m' zs (by omega) (by simpa using hl) (q0e _) 1 (by omega)
  rw [show 1 + m' = m' + 1 by omega] at this
  exact this
set_option maxRecDepth 100000 in
theorem q9B:q2I.f 100 = some true:=by decide +kernel
theorem q6u:q1B (fun k=>q2I.f k) true:=
 ⟨100,fun k hk=>by
  obtain ⟨j,rfl⟩:∃ j,k = 100 + j:=⟨k - 100,by omega⟩
  induction j with
  | zero=>exact q9B
  | succ j ih=>exact q2I.mono _ _ (ih (by omega))⟩
theorem q7j {l:List q0a} {i:Nat} (h:i < l.length):rdOf ByteArray.empty l (i:Int) = l[i]:=by
 unfold rdOf
 rw [Int.toNat_natCast,List.getD_eq_getElem?_getD,List.getElem?_eq_getElem h]
 rfl
inductive Fit:S25 → Prop
 | mk (a:Int) (b:q0a) (c:Int) (l:List S25) (hb:b.size≤9223372036854775807) (hl:l.length≤9223372036854775807) (hk:∀ x,x ∈ l → Fit x):Fit ⟨a,b,c,l⟩
theorem wrapM {i:Nat} (h:i + 1≤9223372036854775807):wrap64 ((i:Int) + 1) = ((i + 1:Nat):Int):=by unfold wrap64;omega
theorem v0D (l:List S25) (hl:l.length≤9223372036854775807) (a:Int) (b:q0a) (c:Int)
  (ih:∀ x,x ∈ l → ∀ q:Int,0≤q → q≤1000000 → ∃ t,q1B (fun k=>q1u.f k x.f0 x.f1 x.f2 x.f3 q) t∧(-300000000000000000≤t∧t≤1000000)∧(t≥0 → ∃ (m:Nat) (ys:List q0a),CntN x m ys∧(m:Int) + t≤q)) :
  ∀ (d i:Nat),i + d = l.length → ∀ q:Int,-300000000000000000≤q → q≤1000000 → ∃ t,q1B (fun k=>q1u.l0 k q ((i:Nat):Int) a b c l) t∧(-300000000000000000≤t∧t≤1000000)∧(t≥0 → ∃ (m:Nat) (ys:List q0a),CntL (l.drop i) m ys∧(m:Int) + t≤q):=by
 intro d
 induction d with
 | zero=>
  intro i hi q h1 h2
  refine ⟨q,cSuc ?_,⟨h1,h2⟩,fun _=>⟨0,[],?_,by omega⟩⟩
  ·simp only [q1u.l0]
   exact cNO (cCon _)
  ·rw [List.drop_eq_nil_of_le (by omega)];exact .nil
 | succ d IH=>
  intro i hi q h1 h2
  have hlt:i < l.length:=by omega
  by_cases hq:q≥0
  ·obtain ⟨t,ht,hb,hc⟩:=ih _ (List.getElem_mem hlt) q hq h2
   obtain ⟨u,hu,hub,huc⟩:=IH (i + 1) (by omega) t hb.1 hb.2
   refine ⟨u,cSuc ?_,hub,fun hu0=>?_⟩
   ·simp only [q1u.l0,rd25 hlt,wrapM (show i + 1≤9223372036854775807 by omega)]
    exact cPO (cPos hq (cPO (cBin ht hu)))
   ·obtain ⟨m2,y2,c2,e2⟩:=huc hu0
    obtain ⟨m1,y1,c1,e1⟩:=hc (by omega)
    refine ⟨m1 + m2,y1++y2,?_,by omega⟩
    rw [q7C hlt]
    exact .cons _ _ _ _ _ _ c1 c2
  ·refine ⟨q,cSuc ?_,⟨h1,h2⟩,fun k=>absurd k hq⟩
   simp only [q1u.l0]
   exact cPO (cNeg hq (cCon _))
theorem q7s:∀ n:S25,Fit n → ∀ q:Int,0≤q → q≤1000000 → ∃ t,q1B (fun k=>q1u.f k n.f0 n.f1 n.f2 n.f3 q) t∧(-300000000000000000≤t∧t≤1000000)∧(t≥0 → ∃ (m:Nat) (ys:List q0a),CntN n m ys∧(m:Int) + t≤q)
 | ⟨a,b,c,l⟩,hf,q,h1,h2=>by
  cases hf with
  | mk _ _ _ _ hb hl hk=>
  have hw:wrap64 ((wrap64 (q - 1)) - (wrap64 ((b.size:Int) / 40))) = q - 1 - (b.size:Int) / 40:=by unfold wrap64;omega
  obtain ⟨t,ht,htb,hc⟩:=v0D l hl a b c (fun x hx=>q7s x (hk x hx)) l.length 0 (by omega) (q - 1 - (b.size:Int) / 40) (by omega) (by omega)
  refine ⟨t,cSuc ?_,htb,fun h0=>?_⟩
  ·simp only [q1u.f,hw]
   exact ht
  ·obtain ⟨m,ys,k1,k2⟩:=hc h0
   rw [List.drop_zero] at k1
   exact ⟨m + 1,_,.mk _ _ _ _ _ _ k1,by omega⟩
 termination_by n=>SizeOf.sizeOf n
 decreasing_by
  have:=List.sizeOf_lt_of_mem hx
  simp only [S25.mk.sizeOf_spec]
  omega
end
section
theorem rd36 {xs:List S36} {i:Nat} (h:i < xs.length):q4W xs (i:Int) = xs[i]:=by
 show xs.getD i z36 = xs[i]
 rw [List.getD_eq_getElem?_getD,List.getElem?_eq_getElem h]
 rfl
theorem q5d {i:Nat} (h:i≤1000000):wrap64 ((i:Int) + 1) = ((i + 1:Nat):Int):=by unfold wrap64;omega
/-- Token i is this sign. -/
def Hit (l:List S36) (i:Nat) (s:q0a):Prop:=∃ h:i < l.length,l[i].f0 = 4∧l[i].f1.toList = s.toList
instance (l:List S36) (i:Nat) (s:q0a):Decidable (Hit l i s):=by unfold Hit;exact inferInstance
section
variable (l:List S36) (i:Nat) (s:q0a)
theorem v0d:q1c.f l (l.length:Int) false = some (0,⟨#[]⟩,0,(l.length:Int),false):=by simp [q1c.f]
theorem q3Y (h:i < l.length):q1c.f l (i:Int) false = some (l[i].f0,l[i].f1,l[i].f2,(i:Int),false):=by
 unfold q1c.f
 rw [if_neg (by decide),if_neg (by omega),if_pos (by omega),if_pos (by omega),rd36 h]
theorem q6G (hi:i≤l.length) (hs:i≤1000000):q0A.f l (i:Int) false s = some (if Hit l i s then (true,((i + 1:Nat):Int),false) else (false,(i:Int),false)):=by
 unfold q0A.f q1T.f
 by_cases h:i < l.length
 ·rw [q3Y l i h]
  simp only [Option.bind_some]
  by_cases h4:l[i].f0 = 4
  ·rw [if_pos h4]
   simp only [Option.bind_some]
   by_cases ht:l[i].f1.toList = s.toList
   ·rw [if_pos (show Hit l i s from ⟨h,h4,ht⟩),if_pos (by rw [ht];exact beq_self_eq_true _),q5d hs]
   ·rw [if_neg (show ¬ Hit l i s from fun k=>ht k.2.2),if_neg (by simpa using ht)]
  ·rw [if_neg h4,if_neg (show ¬ Hit l i s from fun k=>h4 k.2.1)]
   simp
 ·obtain rfl:i = l.length:=by omega
  rw [v0d,if_neg (show ¬ Hit l l.length s from fun k=>by obtain ⟨k,_⟩:=k;omega)]
  simp
theorem q9z (hi:i≤l.length) (hs:i≤1000000):q1t.f l (i:Int) false s = some (if Hit l i s then (((i + 1:Nat):Int),false) else ((i:Int),true)):=by
 unfold q1t.f
 rw [q6G l i s hi hs]
 by_cases h:Hit l i s
 ·rw [if_pos h,if_pos h];simp
 ·rw [if_neg h,if_neg h];simp
theorem q5R (q:Int) (h:i < l.length) (hk:l[i].f0 = q) (hs:i≤1000000):q2u.f l (i:Int) false q = some (l[i].f1,((i + 1:Nat):Int),false):=by
 unfold q2u.f
 rw [q3Y l i h]
 simp only [Option.bind_some]
 rw [if_pos hk,q5d hs]
end
/-- From some number of rounds on, f comes to r. -/
theorem cIte {α:Type} {c:Prop} [Decidable c] {f g:Nat → Option α} {r:α} (hf:c → q1B f r) (hg : ¬ c → q1B g r):q1B (fun k=>if c then f k else g k) r:=by
 by_cases h:c
 ·exact cPos h (hf h)
 ·exact cNeg h (hg h)
theorem cVal {α:Type} {x r:α} (h:x = r):q1B (fun _=>some x) r:=h ▸ cCon _
theorem q1B.mono {α:Type} {f:Nat → Option α} {r:α} (h:∀ k,LeO (f k) (f (k + 1))) (k:Nat) (hk:f k = some r):q1B f r:=by
 refine ⟨k,fun j hj=>?_⟩
 obtain ⟨d,rfl⟩:∃ d,j = k + d:=⟨j - k,by omega⟩
 clear hj
 induction d with
 | zero=>exact hk
 | succ d ih=>exact h _ _ ih
def q5T (n:S25) (i:Nat) (b:Bool):Int × q0a × Int × (List S25) × Int × Bool:=(n.f0,n.f1,n.f2,n.f3,(i:Int),b)
def q6R (n:S25) (ok:Bool) (i:Nat) (b:Bool):Int × q0a × Int × (List S25) × Bool × Int × Bool:=(n.f0,n.f1,n.f2,n.f3,ok,(i:Int),b)
def one (x:List S25):S25:=if x.length = 1 then q0p x 0 else ⟨5,⟨#[]⟩,0,x⟩
theorem q7B (l:List S36) (x:List S25) (i:Nat) (b:Bool) (q0:Int) (q1:q0a) (q2:Int) (q3:List S25):q1B (fun k=>q0i.j1 k x true l (i:Int) b q0 q1 q2 q3) (q5T (one x) i b):=by
 apply cSuc
 simp only [q0i.j1]
 refine cPos trivial ?_
 unfold one
 by_cases h:x.length = 1
 ·rw [if_pos h]
  exact cPO (cPO (cCon _))
 ·rw [if_neg h]
  exact cNO (cCon _)
theorem tl1 (c:UInt8):(⟨#[c]⟩:q0a).toList = [c]:=by rw [ByteArray.toList_eq]
theorem Small.size:∀ {n:S25},Small n → n.f3.length≤1048576
 | _,.mk _ _ _ _ hl _=>hl
theorem Small.kids:∀ {n:S25},Small n → ∀ x,x ∈ n.f3 → Small x
 | _,.mk _ _ _ _ _ hk=>hk
def Cnt (n:S25) (i i':Nat):Prop:=n.f0 = 5 → n.f3.length + i≤i'∧∀ y,y ∈ n.f3 → y.f0≠5
def Good (n:S25) (i i':Nat):Prop:=Small n∧Cnt n i i'
theorem Good.of {a:Int} {b:q0a} {c:Int} {l:List S25} {i i':Nat} (h:Small ⟨a,b,c,l⟩) (ha:a≠5):Good ⟨a,b,c,l⟩ i i':=⟨h,fun k=>absurd k ha⟩
theorem Good.wide {n:S25} {i i' j j':Nat} (h:Good n i i') (hj:j≤i) (hk:i'≤j'):Good n j j':=⟨h.1,fun k=>⟨by have:=(h.2 k).1;omega,(h.2 k).2⟩⟩
theorem Cnt.wide {n:S25} {i i' j j':Nat} (h:Cnt n i i') (hj:j≤i) (hk:i'≤j'):Cnt n j j':=fun k=>⟨by have:=(h k).1;omega,(h k).2⟩
section
variable {l:List S36} {i:Nat} {s:q0a}
theorem q6B (hi:i≤l.length) (hs:i≤1000000) (h : ¬ Hit l i s):q0A.f l (i:Int) false s = some (false,(i:Int),false):=by rw [q6G l i s hi hs,if_neg h]
theorem q7g (hi:i≤l.length) (hs:i≤1000000) (h:Hit l i s):q0A.f l (i:Int) false s = some (true,((i + 1:Nat):Int),false):=by rw [q6G l i s hi hs,if_pos h]
theorem q4M (hi:i≤l.length) (hs:i≤1000000) (h:Hit l i s):q1t.f l (i:Int) false s = some (((i + 1:Nat):Int),false):=by rw [q9z l i s hi hs,if_pos h]
end
theorem q7I (n:S25):(⟨n.f0,n.f1,n.f2,n.f3⟩:S25) = n:=by cases n;rfl
section
variable {l:List S36} {c c1 c2:Int} {t:S36} {k:Nat} (hn:q1c.f l c false = some (t.f0,t.f1,t.f2,c,false)) (hw:wrap64 (c + 1) = c1) (hr:q4W l c = t) (h0:0≤c) (hl:c < (l.length:Int))
include hn in
theorem m_none (h1:t.f0≠1) (ha:∀ u:UInt8,u ∈ ([45,58,126,64,91,40]:List UInt8) → q0A.f l c false ⟨#[u]⟩ = some (false,c,false)):q1a.f (k + 1) l c false = some (0,⟨#[]⟩,0,[],false,c,false):=by
 simp only [q1a.f,hn,Option.bind_some,if_neg h1,ha 45 (by decide),ha 58 (by decide),ha 126 (by decide),ha 64 (by decide),ha 91 (by decide),ha 40 (by decide),Bool.false_eq_true,if_false]
include hn in
theorem q9q (h1:t.f0≠1) {v:UInt8} {q:Int} (hv:v = 45∧q = 2∨v = 58∧q = 9∨v = 126∧q = 10) (ha:∀ u:UInt8,q0A.f l c false ⟨#[u]⟩ = some (if u = v then (true,c1,false) else (false,c,false))):q1a.f (k + 1) l c false = some (q,⟨#[]⟩,0,[],true,c1,false):=by
 rcases hv with ⟨rfl,rfl⟩ | ⟨rfl,rfl⟩ | ⟨rfl,rfl⟩ <;> simp [q1a.f,hn,h1,ha]
include hn in
theorem m_at (h1:t.f0≠1) (ha:∀ u:UInt8,q0A.f l c false ⟨#[u]⟩ = some (if u = 64 then (true,c1,false) else (false,c,false))):q1a.f (k + 1) l c false = (q2C.f l c1 false).bind fun aT=>some (11,aT.1,0,[],true,aT.2.1,aT.2.2):=by
 simp [q1a.f,hn,h1,ha]
include hn in
theorem m_box (h1:t.f0≠1) (ha:∀ u:UInt8,q0A.f l c false ⟨#[u]⟩ = some (if u = 91 then (true,c1,false) else (false,c,false))):q1a.f (k + 1) l c false = (q0i.f k l c1 false).bind fun aW=>(q1t.f l aW.2.2.2.2.1 aW.2.2.2.2.2 ⟨#[93]⟩).bind fun aX=>some (8,⟨#[]⟩,0,[⟨aW.1,aW.2.1,aW.2.2.1,aW.2.2.2.1⟩],true,aX.1,aX.2):=by
 simp [q1a.f,hn,h1,ha]
include hn in
theorem m_alt (h1:t.f0≠1) (ha:∀ u:UInt8,q0A.f l c false ⟨#[u]⟩ = some (if u = 40 then (true,c1,false) else (false,c,false))):q1a.f (k + 1) l c false = (q0i.f k l c1 false).bind fun aZ=>q1a.l0 k [⟨aZ.1,aZ.2.1,aZ.2.2.1,aZ.2.2.2.1⟩] l aZ.2.2.2.2.1 aZ.2.2.2.2.2:=by
 simp [q1a.f,hn,h1,ha]
include hn hw in
theorem m_one (h1:t.f0 = 1) (hu:t.f1.toList = ([117]:List UInt8)):q1a.f (k + 1) l c false = some (1,⟨#[]⟩,0,[],true,c1,false):=by
 simp [q1a.f,hn,h1,hu,hw]
include hn hw in
theorem m_any (h1:t.f0 = 1) (hu:t.f1.toList = ([120]:List UInt8)):q1a.f (k + 1) l c false = some (3,⟨#[]⟩,0,[],true,c1,false):=by
 simp [q1a.f,hn,h1,hu,hw]
include hn hw in
theorem m_name (h1:t.f0 = 1) (hu:t.f1.toList≠([117]:List UInt8)) (hx:t.f1.toList≠([120]:List UInt8)) (ha:q0A.f l c1 false ⟨#[123]⟩ = some (false,c1,false)):q1a.f (k + 1) l c false = some (4,t.f1,0,[],true,c1,false):=by
 simp [q1a.f,hn,h1,hu,hx,hw,ha]
include hn hw in
theorem m_bound (h1:t.f0 = 1) (hu:t.f1.toList≠([117]:List UInt8)) (hx:t.f1.toList≠([120]:List UInt8)) (ha:q0A.f l c1 false ⟨#[123]⟩ = some (true,c2,false)):q1a.f (k + 1) l c false = (q0i.f k l c2 false).bind fun aH=>(q1t.f l aH.2.2.2.2.1 aH.2.2.2.2.2 ⟨#[125]⟩).bind fun aI=>some (12,t.f1,0,[⟨aH.1,aH.2.1,aH.2.2.1,aH.2.2.2.1⟩],true,aI.1,aI.2):=by
 simp [q1a.f,hn,h1,hu,hx,hw,ha]
end
/-- q1B to a part, or fails. -/
def T7 (j i len:Nat) (f:Nat → Option (Int × q0a × Int × (List S25) × Bool × Int × Bool)):Prop:=
 (∃ n i1,q1B f (q6R n true i1 true))∨(∃ n i',Good n j i'∧i < i'∧i'≤len∧q1B f (q6R n true i' false))
def T6 (j i len:Nat) (f:Nat → Option (Int × q0a × Int × (List S25) × Int × Bool)):Prop:=
 (∃ n i1,q1B f (q5T n i1 true))∨(∃ n i',Good n j i'∧i≤i'∧i'≤len∧q1B f (q5T n i' false))
theorem T7.map {j i i0 len:Nat} {f f'} (h:T7 j i0 len f) (hi:i≤i0) (hf:∀ r,q1B f r → q1B f' r):T7 j i len f':=by
 rcases h with ⟨n,i1,a⟩ | ⟨n,i',h,hl,hl',a⟩
 ·exact .inl ⟨n,i1,hf _ a⟩
 ·exact .inr ⟨n,i',h,by omega,hl',hf _ a⟩
theorem T6.map {j i i0 len:Nat} {f f'} (h:T6 j i0 len f) (hi:i≤i0) (hf:∀ r,q1B f r → q1B f' r):T6 j i len f':=by
 rcases h with ⟨n,i1,a⟩ | ⟨n,i',h,hl,hl',a⟩
 ·exact .inl ⟨n,i1,hf _ a⟩
 ·exact .inr ⟨n,i',h,by omega,hl',hf _ a⟩
theorem T7.succ {j i len:Nat} {f} (h:T7 j i len (fun k=>f (k + 1))):T7 j i len f:=h.map (q0e _) (fun _=>cSuc)
theorem T6.succ {j i len:Nat} {f} (h:T6 j i len (fun k=>f (k + 1))):T6 j i len f:=h.map (q0e _) (fun _=>cSuc)
theorem T6.then {j i0 j' i len:Nat} {f:Nat → Option (Int × q0a × Int × (List S25) × Int × Bool)} {F:Nat → Int × q0a × Int × (List S25) × Int × Bool → Option (Int × q0a × Int × (List S25) × Bool × Int × Bool)} (h:T6 j i0 len f)
  (hF:∀ n i1,∃ n' i',q1B (fun k=>F k (q5T n i1 true)) (q6R n' true i' true)) (hok:∀ n i',Good n j i' → i0≤i' → i'≤len → T7 j' i len (fun k=>F k (q5T n i' false))):T7 j' i len (fun k=>(f k).bind (F k)):=by
 rcases h with ⟨n,i1,a⟩ | ⟨n,i',h,hl,hl',a⟩
 ·obtain ⟨n',i',hF⟩:=hF n i1
  exact .inl ⟨n',i',cBin a hF⟩
 ·exact (hok n i' h hl hl').map (q0e _) (fun _=>cBin a)
end
section
theorem wrap2 {i:Nat} (h:i≤1000000):wrap64 ((i:Int) + 2) = ((i + 2:Nat):Int):=by unfold wrap64;omega
theorem q4q {s:q0a} {i j m:Nat} (hj:j≤s.size) (h:m < j - i):bt (s.extract i j) ((m:Nat):Int) = bt s ((i + m:Nat):Int):=by
 have h1:((m:Nat):Int).toNat = m:=Int.toNat_natCast _
 have h2:((i + m:Nat):Int).toNat = i + m:=Int.toNat_natCast _
 unfold bt
 rw [dif_pos (show ((m:Nat):Int).toNat < (s.extract i j).size by rw [h1,ByteArray.size_extract];omega),dif_pos (show ((i + m:Nat):Int).toNat < s.size by rw [h2];omega)]
 simp only [h1,h2,ByteArray.getElem_extract]
theorem q4F {s:q0a} {i j:Nat} (hj:j≤s.size):(s.extract i j).size = j - i:=by rw [ByteArray.size_extract];omega
def Dg (c:Int):Bool:=decide (48≤c) && decide (c≤57)
def Sm (c:Int):Bool:=decide (97≤c) && decide (c≤122)
theorem q4x (c:Int):q3v.f c = some (Dg c):=by
 unfold q3v.f Dg
 by_cases h:c≥48
 ·rw [if_pos h,decide_eq_true (show (48:Int)≤c from h)];simp
 ·rw [if_neg h,decide_eq_false (show ¬ (48:Int)≤c from h)];simp
theorem q4a (c:Int):q3i.f c = some (Sm c):=by
 unfold q3i.f Sm
 by_cases h:c≥97
 ·rw [if_pos h,decide_eq_true (show (97:Int)≤c from h)];simp
 ·rw [if_neg h,decide_eq_false (show ¬ (97:Int)≤c from h)];simp
theorem q8D (c:Int):q3n.f c = some (Dg c):=q4x c
theorem q7p (c:Int):q2K.f c = some (Sm c):=q4a c
theorem q8h (s:q0a) (hs:s.size≤20000):∀ (d i:Nat),i + d = s.size → ∃ t:Nat,i≤t∧t≤s.size∧(∀ m,i≤m → m < t → Dg (bt s ((m:Nat):Int)) = true)∧(t < s.size → Dg (bt s (t:Int)) = false)∧q1B (fun k=>q2j.l0 k s (i:Int)) (t:Int):=by
 intro d
 induction d with
 | zero=>
  intro i hi
  refine ⟨i,q0e _,by omega,fun m h1 h2=>by omega,fun h=>by omega,cSuc ?_⟩
  simp only [q2j.l0]
  exact cNO (cCon _)
 | succ d IH=>
  intro i hi
  cases hb:Dg (bt s (i:Int)) with
  | true=>
   obtain ⟨t,h1,h2,h3,h4,h5⟩:=IH (i + 1) (by omega)
   refine ⟨t,by omega,h2,fun m m1 m2=>?_,h4,cSuc ?_⟩
   ·by_cases e:m = i
    ·rw [e];exact hb
    ·exact h3 m (by omega) m2
   ·simp only [q2j.l0,q4x,hb,Option.bind_some,if_true,q5d (show i≤1000000 by omega)]
    exact cPO (cPO h5)
  | false=>
   refine ⟨i,q0e _,by omega,fun m h1 h2=>by omega,fun _=>hb,cSuc ?_⟩
   simp only [q2j.l0,q4x,hb,Option.bind_some,Bool.false_eq_true,if_false]
   exact cPO (cPO (cCon _))
theorem q6C (s:q0a) (hs:s.size≤20000):∃ t:Nat,t≤s.size∧(∀ m,m < t → Dg (bt s ((m:Nat):Int)) = true)∧(t < s.size → Dg (bt s (t:Int)) = false)∧q1B (fun k=>q2j.f k s) (t:Int)∧True:=by
 obtain ⟨t,h1,h2,h3,h4,h5⟩:=q8h s hs s.size 0 (by omega)
 exact ⟨t,h2,fun m hm=>h3 m (q2S _) hm,h4,h5,trivial⟩
theorem q8Y (a:q0a) (h1:0 < a.size) (h6:a.size≤6) (hd:∀ m,m < a.size → Dg (bt a ((m:Nat):Int)) = true):∃ v,q1B (fun k=>q1G.f k a) (if 1 < a.size∧bt a 0 = 48 then (0,false) else (v,true)):=by
 have h0 : ¬ a.toList = ([]:List UInt8):=by
  rw [ByteArray.toList_eq]
  intro h
  have:=congrArg List.length h
  rw [q4R] at this
  have:a.size = 0:=this
  omega
 obtain ⟨t,ht,hm,hn,hc,_⟩:=q6C a (by omega)
 have et:t = a.size:=by
  rcases Nat.lt_or_ge t a.size with h | h
  ·have:=hn h;rw [hd t h] at this;cases this
  ·omega
 subst et
 have loop:∀ (d i:Nat) (x:Int),i + d = a.size → ∃ r,q1B (fun k=>q1G.l0 k x (q5n a) (a.size:Int) (i:Int)) (r,true):=by
  intro d
  induction d with
  | zero=>
   intro i x hi
   exact ⟨x,cSuc (by simp only [q1G.l0];exact cNO (cCon _))⟩
  | succ d IH=>
   intro i x hi
   obtain ⟨r,hr⟩:=IH (i + 1) (wrap64 ((wrap64 (10 * x)) + (((rd (q5n a) (i:Int)) - 48) % 256))) (by omega)
   refine ⟨r,cSuc ?_⟩
   simp only [q1G.l0,q4c,q5d (show i≤1000000 by omega)]
   exact cPO (cPO (cPO hr))
 obtain ⟨r,hr⟩:=loop a.size 0 0 (by omega)
 have jf:q1B (fun k=>q1G.j0 k a false) (r,true):=by
  apply cSuc
  simp only [q1G.j0,Option.bind_some]
  refine cND (cPO ?_)
  rw [q4c]
  exact hr
 have jt:q1B (fun k=>q1G.j0 k a true) (0,false):=cSuc (by simp only [q1G.j0];exact cPos trivial (cCon _))
 refine ⟨r,?_⟩
 unfold q1G.f
 by_cases hs:a.size > 1
 ·by_cases hb:bt a 0 = 48
  ·rw [if_pos ⟨hs,hb⟩]
   refine cNeg h0 (cNO (cBin hc (cPos rfl (cPO (cPO ?_)))))
   rw [show (bt a 0 == 48) = true from by simpa using hb];exact jt
  ·rw [if_neg (fun k=>hb k.2)]
   refine cNeg h0 (cNO (cBin hc (cPos rfl (cPO (cPO ?_)))))
   rw [show (bt a 0 == 48) = false from by simpa using hb];exact jf
 ·rw [if_neg (fun k=>hs k.1)]
  exact cNeg h0 (cNO (cBin hc (cPos rfl (cNO jf))))
theorem q7h (s:q0a) (hs:s.size≤20000):∀ (k i:Nat),i≤s.size → (q1b.l0 k s (i:Int) = q1k.l0 k s (i:Int))∧(i < s.size → ∀ b,q1b.j2 k s (i:Int) b = q1k.j2 k s (i:Int) (bt s (i:Int)) b)
 | 0,i,hi=>⟨rfl,fun _ _=>rfl⟩
 | k + 1,i,hi=>by
  have w1:=q5d (show i≤1000000 by omega)
  have w2:=wrap2 (show i≤1000000 by omega)
  refine ⟨?_,fun h b=>?_⟩
  ·simp only [q1b.l0,q1k.l0,q4x,q4a,q8D,q7p,Option.bind_some]
   by_cases h:i < s.size
   ·simp only [(q7h s hs k i hi).2 h]
   ·rw [if_neg (by omega),if_neg (by omega)]
  ·simp only [q1b.j2,q1k.j2,q4x,q4a,q8D,q7p,Option.bind_some,w1,w2]
   rw [(q7h s hs k (i + 1) h).1,if_pos (show (0:Int)≤(i:Int) by omega),if_pos (show (i:Int) < (s.size:Int) by omega)]
   by_cases h1:i + 1 < s.size
   ·rw [(q7h s hs k (i + 2) h1).1,if_neg (show ¬ ((i + 1:Nat):Int) = (s.size:Int) by omega)]
    simp only [if_pos (show (0:Int)≤((i + 1:Nat):Int) by omega),if_pos (show ((i + 1:Nat):Int) < (s.size:Int) by omega)]
   ·rw [if_pos (show ((i + 1:Nat):Int) = (s.size:Int) by omega)]
    simp only [if_neg (show ¬ ((i + 1:Nat):Int) < (s.size:Int) by omega)]
theorem v0b (s:q0a) (hs:s.size≤20000):∀ (d i:Nat),i + d = s.size → ∃ t:Nat,i≤t∧t≤s.size∧q1B (fun k=>q1k.l0 k s (i:Int)) (t:Int):=by
 intro d
 induction d using Nat.strongRecOn with
 | _ d IH=>
  intro i hi
  have w1:=q5d (show i≤1000000 by omega)
  have w2:=wrap2 (show i≤1000000 by omega)
  by_cases h:i < s.size
  ·have hj:∀ b,∃ t:Nat,i≤t∧t≤s.size∧q1B (fun k=>q1k.j2 k s (i:Int) (bt s (i:Int)) b) (t:Int):=by
    intro b
    obtain ⟨t1,a1,b1,c1⟩:=IH (d - 1) (by omega) (i + 1) (by omega)
    cases b with
    | true=>exact ⟨t1,by omega,b1,cSuc (by simp only [q1k.j2,w1];exact cPos trivial c1)⟩
    | false=>
     by_cases h45:bt s (i:Int) = 45
     ·by_cases h1:i + 1 < s.size
      ·obtain ⟨t2,a2,b2,c2⟩:=IH (d - 2) (by omega) (i + 2) (by omega)
       by_cases hx:Sm (bt s ((i + 1:Nat):Int)) = true
       ·exact ⟨t2,by omega,b2,cSuc (by simp only [q1k.j2,w1,w2,q4a,Option.bind_some];exact cND (cPos h45 (cPO (cPO (cPos hx c2)))))⟩
       ·by_cases hy:Dg (bt s ((i + 1:Nat):Int)) = true
        ·exact ⟨t2,by omega,b2,cSuc (by simp only [q1k.j2,w1,w2,q4a,q4x,Option.bind_some];exact cND (cPos h45 (cPO (cPO (cNeg hx (cPos hy c2))))))⟩
        ·exact ⟨i,q0e _,by omega,cSuc (by simp only [q1k.j2,w1,w2,q4a,q4x,Option.bind_some];exact cND (cPos h45 (cPO (cPO (cNeg hx (cNeg hy (cCon _)))))))⟩
      ·exact ⟨i,q0e _,by omega,cSuc (by simp only [q1k.j2,w1];exact cND (cPos h45 (cNO (cCon _))))⟩
     ·exact ⟨i,q0e _,by omega,cSuc (by simp only [q1k.j2];exact cND (cNeg h45 (cCon _)))⟩
   by_cases hx:Sm (bt s (i:Int)) = true
   ·obtain ⟨t,a1,b1,c1⟩:=hj true
    exact ⟨t,a1,b1,cSuc (by simp only [q1k.l0,q4a,Option.bind_some];exact cPO (cPO (cPos hx c1)))⟩
   ·obtain ⟨t,a1,b1,c1⟩:=hj (Dg (bt s (i:Int)))
    exact ⟨t,a1,b1,cSuc (by simp only [q1k.l0,q4a,q4x,Option.bind_some];exact cPO (cPO (cNeg hx c1)))⟩
  ·exact ⟨i,q0e _,by omega,cSuc (by simp only [q1k.l0];exact cNO (cCon _))⟩
theorem name_rf (s:q0a) (hs:s.size≤20000) (h0:0 < s.size) (k:Nat):q1b.f k s = q1k.f k s:=by
 unfold q1b.f q1k.f
 have e:∀ b,q1b.j0 k s b = q1k.j0 k s b:=by
  intro b
  cases k with
  | zero=>rfl
  | succ k=>
   simp only [q1b.j0,q1k.j0]
   have:=(q7h s hs k 1 h0).1
   rw [show ((1:Nat):Int) = 1 from rfl] at this
   rw [this]
 simp only [e,q4a,q7p]
theorem q6r (s:q0a) (hs:s.size≤20000) (h0:0 < s.size):(Sm (bt s 0) = true → ∃ t:Nat,1≤t∧t≤s.size∧q1B (fun k=>q1k.f k s) (t:Int))∧(Sm (bt s 0) = false → q1B (fun k=>q1k.f k s) 0):=by
 have hn : ¬ s.toList = ([]:List UInt8):=by
  rw [ByteArray.toList_eq]
  intro h
  have:=congrArg List.length h
  rw [q4R] at this
  have:s.size = 0:=this
  omega
 unfold q1k.f
 refine ⟨fun hb=>?_,fun hb=>?_⟩
 ·obtain ⟨t,a1,b1,c1⟩:=v0b s hs (s.size - 1) 1 (by omega)
  refine ⟨t,a1,b1,?_⟩
  simp only [q4a,hb,Option.bind_some]
  exact cNeg hn (cPO (cSuc (by simp only [q1k.j0];exact cND c1)))
 ·simp only [q4a,hb,Option.bind_some]
  exact cNeg hn (cPO (cSuc (by simp only [q1k.j0];exact cPD (cCon _))))
end
section
/-- Nodes of these kinds have names. -/
def Nm (a:Int):Bool:=decide (a = 4∨a = 11∨a = 12)
def no5 (x:List S25):Bool:=x.all fun y=>decide (y.f0≠5)
def ShpT (a:Int) (x:List S25):Bool:=if a = 5 then decide (x.length≠1) && no5 x else if a = 6 then decide (2≤x.length) else if a = 7 then decide (x.length = 1) else if a = 8 then decide (x.length = 1) else if a = 12 then decide (x.length = 1) else decide (x.length = 0)
/-- The kind, the fields and the kids of a node fit together. -/
def Shp (a:Int) (b:q0a) (c:Int) (x:List S25):Bool:=decide (1≤a) && decide (a≤12) && (Nm a || decide (b.toList = [])) && (decide (a = 7) || decide (c = 0)) && ShpT a x
theorem q6A (a:Int):q3P.f a = some (Nm a):=by
 unfold q3P.f Nm
 by_cases h4:a = 4 <;> by_cases h11:a = 11 <;> by_cases h12:a = 12 <;> simp_all
theorem q6n {x:List S25} {i:Nat} (h:i < x.length):no5 (x.drop i) = (decide (x[i].f0≠5) && no5 (x.drop (i + 1))):=by
 unfold no5
 rw [List.drop_eq_getElem_cons h,List.all_cons]
theorem v0L (x:List S25) (hl:x.length≤1048576):∀ (d i:Nat),i + d = x.length → ∃ q:Int,q1B (fun k=>q2x.l0 k x (x.length:Int) (i:Int)) q∧decide (q≥0) = !(no5 (x.drop i)):=by
 intro d
 induction d with
 | zero=>
  intro i hi
  refine ⟨-1,cSuc ?_,?_⟩
  ·simp only [q2x.l0]
   exact cNO (cCon _)
  ·rw [List.drop_eq_nil_of_le (by omega)];rfl
 | succ d IH=>
  intro i hi
  have h:i < x.length:=by omega
  obtain ⟨q,hq,e⟩:=IH (i + 1) (by omega)
  by_cases h5:x[i].f0 = 5
  ·refine ⟨i,cSuc ?_,?_⟩
   ·simp only [q2x.l0,q3X.f,rd25 h,Option.bind_some,h5]
    exact cPO (cPO (cPO (cPD (cCon _))))
   ·rw [q6n h,decide_eq_true (show ((i:Nat):Int)≥0 by omega),decide_eq_false (not_not_intro h5)];rfl
  ·refine ⟨q,cSuc ?_,?_⟩
   ·simp only [q2x.l0,q3X.f,rd25 h,Option.bind_some,q2t (show i≤1048576 by omega)]
    exact cPO (cPO (cPO (cNeg (by simpa using h5) hq)))
   ·rw [q6n h,e,decide_eq_true h5,Bool.true_and]
theorem q6l (a:Int) (b:q0a) (c:Int) (x:List S25) (hl:x.length≤1048576):q1B (fun k=>q1D.f k a b c x) (Shp a b c x):=by
 have J2:q1B (fun k=>q1D.j2 k a b c x) (ShpT a x):=by
  obtain ⟨q,hq,e⟩:=v0L x hl x.length 0 (by omega)
  rw [List.drop_zero] at e
  apply cSuc
  unfold ShpT
  simp only [q1D.j2]
  refine cIte (fun h=>?_) (fun h=>?_)
  ·rw [if_pos h]
   refine cIte (fun h=>cVal ?_) (fun h=>?_)
   ·rw [decide_eq_false (by omega),Bool.false_and]
   ·rw [decide_eq_true (by omega),Bool.true_and]
    unfold q3L.f q2x.f
    refine cBin (cBin hq (cCon _)) (cVal ?_)
    rw [e,Bool.not_not]
  rw [if_neg h]
  have e1:((x.length:Int) == 1) = decide (x.length = 1):=by
   by_cases k:x.length = 1 <;> simp [k];omega
  have e0:((x.length:Int) == 0) = decide (x.length = 0):=by
   by_cases k:x.length = 0 <;> simp [k]
  rw [e1,e0]
  refine cIte (fun h=>cVal ?_) (fun h=>?_)
  ·rw [if_pos h];congr 1;exact propext ⟨fun k=>by omega,fun k=>by omega⟩
  rw [if_neg h]
  refine cIte (fun h=>cVal (by rw [if_pos h])) (fun h=>?_)
  rw [if_neg h]
  refine cIte (fun h=>cVal (by rw [if_pos h])) (fun h=>?_)
  rw [if_neg h]
  refine cIte (fun h=>cVal (by rw [if_pos h])) (fun h=>?_)
  rw [if_neg h]
  exact cCon _
 have J1:∀ z,q1B (fun k=>q1D.j1 k z a b c x) (!z && (decide (a = 7) || decide (c = 0)) && ShpT a x):=by
  intro z
  apply cSuc
  simp only [q1D.j1]
  cases z with
  | true=>exact cPos rfl (cCon _)
  | false=>
   refine cND (cIte (fun h=>?_) (fun h=>cIte (fun h'=>?_) (fun h'=>cVal ?_)))
   ·rw [decide_eq_true h];simpa using J2
   ·rw [decide_eq_false h,decide_eq_true h'];simpa using J2
   ·rw [decide_eq_false h,decide_eq_false h'];rfl
 have J0:∀ z,q1B (fun k=>q1D.j0 k z a b c x) (!z && ((Nm a || decide (b.toList = [])) && ((decide (a = 7) || decide (c = 0)) && ShpT a x))):=by
  intro z
  apply cSuc
  simp only [q1D.j0,q6A,Option.bind_some]
  cases z with
  | true=>exact cPos rfl (cCon _)
  | false=>
   refine cND (cIte (fun h=>?_) (fun h=>?_))
   ·rw [h];exact J1 false
   ·rw [Bool.eq_false_iff.2 h]
    by_cases hb:b.toList = []
    ·have:=J1 false
     rw [show (b.toList != ([]:List UInt8)) = false from by simpa using hb,decide_eq_true hb]
     exact this
    ·have:=J1 true
     rw [show (b.toList != ([]:List UInt8)) = true from by simpa using hb,decide_eq_false hb]
     exact this
 unfold q1D.f Shp
 refine cIte (fun h=>?_) (fun h=>?_)
 ·rw [decide_eq_false (show ¬ 1≤a by omega)];exact J0 true
 ·rw [decide_eq_true (show 1≤a by omega)]
  have:=J0 (decide (a > 12))
  rw [show (!(decide (a > 12))) = decide (a≤12) from by rw [← decide_not];congr 1;exact propext ⟨fun k=>by omega,fun k=>by omega⟩] at this
  simpa only [Bool.true_and,Bool.and_assoc] using this
theorem q8j (a:Int) (b:q0a) (c:Int) (x:List S25) (hl:x.length≤1048576):∀ (d i:Nat),i + d = x.length → q1B (fun k=>q0Q.l0 k (i:Int) a b c x) (decide (x.length≠1) && no5 (x.drop i)):=by
 intro d
 induction d with
 | zero=>
  intro i hi
  apply cSuc
  simp only [q0Q.l0]
  refine cNO (cVal ?_)
  rw [List.drop_eq_nil_of_le (by omega)]
  by_cases k:x.length = 1 <;> simp [k,no5];omega
 | succ d IH=>
  intro i hi
  have h:i < x.length:=by omega
  apply cSuc
  simp only [q0Q.l0,rd25 h,q2t (show i≤1048576 by omega)]
  refine cPO (cPO (cIte (fun h5=>cVal ?_) (fun h5=>?_)))
  ·rw [q6n h,decide_eq_false (not_not_intro h5),Bool.false_and,Bool.and_false]
  ·have:=IH (i + 1) (by omega)
   rw [q6n h,decide_eq_true h5,Bool.true_and]
   exact this
theorem q7Q (a:Int) (b:q0a) (c:Int) (x:List S25) (hl:x.length≤1048576):q1B (fun k=>q0Q.f k a b c x) (Shp a b c x):=by
 have J1:∀ z,q1B (fun k=>q0Q.j1 k z a b c x) (!z && ShpT a x):=by
  intro z
  apply cSuc
  simp only [q0Q.j1]
  cases z with
  | true=>exact cPos rfl (cCon _)
  | false=>
   unfold ShpT
   rw [Bool.not_false,Bool.true_and]
   have e1:((x.length:Int) == 1) = decide (x.length = 1):=by
    by_cases k:x.length = 1 <;> simp [k];omega
   have e0:((x.length:Int) == 0) = decide (x.length = 0):=by
    by_cases k:x.length = 0 <;> simp [k]
   rw [e1,e0]
   refine cND (cIte (fun h=>?_) (fun h=>?_))
   ·rw [if_pos h]
    have:=q8j a b c x hl x.length 0 (by omega)
    rw [List.drop_zero] at this
    exact this
   rw [if_neg h]
   refine cIte (fun h=>cVal ?_) (fun h=>?_)
   ·rw [if_pos h];congr 1;exact propext ⟨fun k=>by omega,fun k=>by omega⟩
   rw [if_neg h]
   refine cIte (fun h=>cVal (by rw [if_pos h])) (fun h=>?_)
   rw [if_neg h]
   refine cIte (fun h=>cVal (by rw [if_pos h])) (fun h=>?_)
   rw [if_neg h]
   refine cIte (fun h=>cVal (by rw [if_pos h])) (fun h=>?_)
   rw [if_neg h]
   exact cCon _
 have hc:(c != 0) = !decide (c = 0):=by by_cases k:c = 0 <;> simp [k]
 have J0:∀ z,q1B (fun k=>q0Q.j0 k z a b c x) (decide (1≤a) && decide (a≤12) && (z || decide (b.toList = [])) && (decide (a = 7) || decide (c = 0)) && ShpT a x):=by
  intro z
  apply cSuc
  simp only [q0Q.j0]
  refine cIte (fun h=>?_) (fun h=>cIte (fun h'=>?_) (fun h'=>?_))
  ·rw [decide_eq_false (show ¬ 1≤a by omega)];exact J1 true
  ·rw [decide_eq_false (show ¬ a≤12 by omega),Bool.and_false];exact J1 true
  rw [decide_eq_true (show 1≤a by omega),decide_eq_true (show a≤12 by omega)]
  have A:q1B (fun k=>if a = 7 then q0Q.j1 k false a b c x else q0Q.j1 k (c != 0) a b c x) ((decide (a = 7) || decide (c = 0)) && ShpT a x):=by
   refine cIte (fun h=>?_) (fun h=>?_)
   ·rw [decide_eq_true h];exact J1 false
   ·rw [decide_eq_false h,Bool.false_or]
    have:=J1 (c != 0)
    rw [hc,Bool.not_not,← hc] at this
    exact this
  refine cIte (fun h=>?_) (fun h=>?_)
  ·rw [h];exact A
  rw [Bool.eq_false_iff.2 h]
  refine cIte (fun h=>?_) (fun h=>?_)
  ·rw [decide_eq_true h];exact A
  ·rw [decide_eq_false h];exact J1 true
 unfold q0Q.f Shp Nm
 refine cIte (fun h=>?_) (fun h=>cIte (fun h'=>?_) (fun h'=>?_))
 ·rw [decide_eq_true (show a = 4∨a = 11∨a = 12 from .inl h)];exact J0 true
 ·rw [decide_eq_true (show a = 4∨a = 11∨a = 12 from .inr (.inl h'))];exact J0 true
 ·have:=J0 (a == 12)
  rw [show decide (a = 4∨a = 11∨a = 12) = (a == 12) from by by_cases k:a = 12 <;> simp [h,h',k]]
  exact this
theorem q5E (s:q0a):∃ r,q1B (fun k=>q2G.f k s) r∧q1B (fun k=>q2r.f k s) r:=by
 unfold q2G.f q2r.f
 by_cases h0:s.toList = []
 ·exact ⟨_,cPos h0 (cCon _),cPos h0 (cCon _)⟩
 by_cases h20:(s.size:Int)≤20
 ·have hp:0 < s.size:=by
   rcases Nat.eq_zero_or_pos s.size with h | h
   ·exact absurd (by rw [ByteArray.toList_eq];exact List.length_eq_zero_iff.1 (by simpa using h)) h0
   ·exact h
  have hr:=name_rf s (by omega) hp
  have hc:∃ t:Int,q1B (fun k=>q1k.f k s) t:=by
   cases hb:Sm (bt s 0) with
   | true=>obtain ⟨t,_,_,h⟩:=(q6r s (by omega) hp).1 hb;exact ⟨_,h⟩
   | false=>exact ⟨_,(q6r s (by omega) hp).2 hb⟩
  obtain ⟨t,hc⟩:=hc
  refine ⟨_,cNeg h0 (cPos h20 (cBin hc (cCon _))),cNeg h0 (cPos h20 (cBin ?_ (cCon _)))⟩
  simpa only [hr] using hc
 ·exact ⟨_,cNeg h0 (cNeg h20 (cCon _)),cNeg h0 (cNeg h20 (cCon _))⟩
theorem q5h (s:q0a):∃ r,q1B (fun k=>q2g.f k s) r∧q1B (fun k=>q1S.f k s) r:=by
 obtain ⟨r,h1,h2⟩:=q5E s
 unfold q2g.f q1S.f
 have:∃ q:Bool,q1B (fun k=>if r = true then (if s.toList = ([117]:List UInt8) then (some false) else (some (s.toList != ([120]:List UInt8)))) else (some false)) q:=by
  split
  ·split <;> exact ⟨_,cCon _⟩
  ·exact ⟨_,cCon _⟩
 obtain ⟨q,hq⟩:=this
 exact ⟨q,cBin h1 hq,cBin h2 hq⟩
theorem q7e (x:List S25) (hl:x.length≤1048576) (a:Int) (b:q0a) (c:Int) (d:Int) (ih:∀ y,y ∈ x → ∃ e,q1B (fun k=>q1p.f k y.f0 y.f1 y.f2 y.f3 (wrap64 (d + 1))) e∧q1B (fun k=>q0H.f k y.f0 y.f1 y.f2 y.f3 (wrap64 (d + 1))) e) :
  ∀ (m i:Nat),i + m = x.length → ∃ e,q1B (fun k=>q1p.l0 k d x (x.length:Int) (i:Int)) e∧q1B (fun k=>q0H.l0 k d (i:Int) a b c x) e:=by
 intro m
 induction m with
 | zero=>
  intro i hi
  refine ⟨0,cSuc ?_,cSuc ?_⟩
  ·simp only [q1p.l0];exact cNO (cCon _)
  ·simp only [q0H.l0];exact cNO (cCon _)
 | succ m IH=>
  intro i hi
  have h:i < x.length:=by omega
  obtain ⟨e,h1,h2⟩:=ih _ (List.getElem_mem h)
  obtain ⟨e',h1',h2'⟩:=IH (i + 1) (by omega)
  by_cases he:e = 0
  ·refine ⟨e',cSuc ?_,cSuc ?_⟩
   ·simp only [q1p.l0,rd25 h,q2t (show i≤1048576 by omega)]
    exact cPO (cPO (cPO (cBin h1 (cPos he h1'))))
   ·simp only [q0H.l0,rd25 h,q2t (show i≤1048576 by omega)]
    exact cPO (cPO (cBin h2 (cPos he h2')))
  ·refine ⟨e,cSuc ?_,cSuc ?_⟩
   ·simp only [q1p.l0,rd25 h]
    exact cPO (cPO (cPO (cBin h1 (cNeg he (cCon _)))))
   ·simp only [q0H.l0,rd25 h]
    exact cPO (cPO (cBin h2 (cNeg he (cCon _))))
theorem q5s:∀ (n:S25),Small n → ∀ d:Int,∃ e,q1B (fun k=>q1p.f k n.f0 n.f1 n.f2 n.f3 d) e∧q1B (fun k=>q0H.f k n.f0 n.f1 n.f2 n.f3 d) e
 | ⟨a,b,c,x⟩,hs,d=>by
  cases hs with
  | mk _ _ _ _ hl hk=>
  obtain ⟨e,L1,L2⟩:=q7e x hl a b c d (fun y hy=>q5s y (hk y hy) _) x.length 0 (by omega)
  have J:∀ z:Bool,∃ q,q1B (fun k=>q1p.j0 k d z a b c x) q∧q1B (fun k=>q0H.j0 k d z a b c x) q:=by
   intro z
   by_cases hz:z = true
   ·refine ⟨2,cSuc ?_,cSuc ?_⟩
    ·simp only [q1p.j0];exact cPos hz (cCon _)
    ·simp only [q0H.j0];exact cPos hz (cCon _)
   by_cases h0:c < 0
   ·refine ⟨6,cSuc ?_,cSuc ?_⟩
    ·simp only [q1p.j0];exact cNeg hz (cPos h0 (cCon _))
    ·simp only [q0H.j0];refine cNeg hz (cPos h0 (cSuc ?_));simp only [q0H.j1];exact cPos trivial (cCon _)
   by_cases h9:c > 9
   ·refine ⟨6,cSuc ?_,cSuc ?_⟩
    ·simp only [q1p.j0];exact cNeg hz (cNeg h0 (cPos h9 (cCon _)))
    ·simp only [q0H.j0];refine cNeg hz (cNeg h0 (cSuc ?_));simp only [q0H.j1];exact cPos (q0s h9) (cCon _)
   ·refine ⟨e,cSuc ?_,cSuc ?_⟩
    ·simp only [q1p.j0];exact cNeg hz (cNeg h0 (cNeg h9 L1))
    ·simp only [q0H.j0];refine cNeg hz (cNeg h0 (cSuc ?_));simp only [q0H.j1];exact cNeg (by simpa using h9) L2
  have s1:=q6l a b c x hl
  have s2:=q7Q a b c x hl
  obtain ⟨u,u1,u2⟩:=q5h b
  by_cases h12:d > 12
  ·refine ⟨3,cSuc ?_,cSuc ?_⟩
   ·simp only [q1p.f];exact cPos h12 (cCon _)
   ·simp only [q0H.f];exact cPos h12 (cCon _)
  by_cases hS:Shp a b c x = true
  ·by_cases hn:Nm a = true
   ·obtain ⟨q,q1,q2⟩:=J (!u)
    refine ⟨q,cSuc ?_,cSuc ?_⟩
    ·simp only [q1p.f,q6A,Option.bind_some]
     exact cNeg h12 (cBin s1 (cPos hS (cPos hn (cBin u1 q1))))
    ·simp only [q0H.f]
     have hn':a = 4∨a = 11∨a = 12:=q0b hn
     have B:=cBin (g:=fun k t953=>q0H.j0 k d (!t953) a b c x) u2 q2
     exact cNeg h12 (cBin s2 (cPos hS (cIte (fun _=>B) (fun h4=>cIte (fun _=>B) (fun h11=>cIte (fun _=>B) (fun h12=>absurd hn' (by omega)))))))
   ·obtain ⟨q,q1,q2⟩:=J false
    refine ⟨q,cSuc ?_,cSuc ?_⟩
    ·simp only [q1p.f,q6A,Option.bind_some]
     exact cNeg h12 (cBin s1 (cPos hS (cNeg hn q1)))
    ·simp only [q0H.f]
     have hn' : ¬ (a = 4∨a = 11∨a = 12):=fun k=>hn (q0s k)
     exact cNeg h12 (cBin s2 (cPos hS (cNO (cNO (cNO q2)))))
  ·refine ⟨1,cSuc ?_,cSuc ?_⟩
   ·simp only [q1p.f];exact cNeg h12 (cBin s1 (cNeg hS (cCon _)))
   ·simp only [q0H.f];exact cNeg h12 (cBin s2 (cNeg hS (cCon _)))
 termination_by n=>SizeOf.sizeOf n
 decreasing_by
  have:=List.sizeOf_lt_of_mem hy
  simp only [S25.mk.sizeOf_spec]
  omega
theorem q9c (x:List S25) (hl:x.length≤1048576) (a:Int) (b:q0a) (c:Int) (ih:∀ y,y ∈ x → ∃ e,q1B (fun k=>q2a.f k y.f0 y.f1 y.f2 y.f3) e∧q1B (fun k=>q1s.f k y.f0 y.f1 y.f2 y.f3) e) :
  ∀ (m i:Nat),i + m = x.length → ∀ v:Int,∃ e,q1B (fun k=>q2a.l0 k v x (x.length:Int) (i:Int)) e∧q1B (fun k=>q1s.l0 k v (i:Int) a b c x) e:=by
 intro m
 induction m with
 | zero=>
  intro i hi v
  refine ⟨v,cSuc ?_,cSuc ?_⟩
  ·simp only [q2a.l0];exact cNO (cCon _)
  ·simp only [q1s.l0];exact cNO (cCon _)
 | succ m IH=>
  intro i hi v
  have h:i < x.length:=by omega
  obtain ⟨e,h1,h2⟩:=ih _ (List.getElem_mem h)
  obtain ⟨e',h1',h2'⟩:=IH (i + 1) (by omega) (wrap64 (v + e))
  refine ⟨e',cSuc ?_,cSuc ?_⟩
  ·simp only [q2a.l0,rd25 h,q2t (show i≤1048576 by omega)]
   exact cPO (cPO (cPO (cBin h1 h1')))
  ·simp only [q1s.l0,rd25 h,q2t (show i≤1048576 by omega)]
   exact cPO (cPO (cBin h2 h2'))
theorem q5M:∀ (n:S25),Small n → ∃ e,q1B (fun k=>q2a.f k n.f0 n.f1 n.f2 n.f3) e∧q1B (fun k=>q1s.f k n.f0 n.f1 n.f2 n.f3) e
 | ⟨a,b,c,x⟩,hs=>by
  cases hs with
  | mk _ _ _ _ hl hk=>
  obtain ⟨e,L1,L2⟩:=q9c x hl a b c (fun y hy=>q5M y (hk y hy)) x.length 0 (by omega) 1
  refine ⟨e,cSuc ?_,cSuc ?_⟩
  ·simp only [q2a.f];exact L1
  ·simp only [q1s.f];exact L2
 termination_by n=>SizeOf.sizeOf n
 decreasing_by
  have:=List.sizeOf_lt_of_mem hy
  simp only [S25.mk.sizeOf_spec]
  omega
theorem q9X (x:List S25) (hl:x.length≤1048576) (a:Int) (b:q0a) (c:Int) (ih:∀ y,y ∈ x → q1B (fun k=>q0C.f k y.f0 y.f1 y.f2 y.f3 y.f0 y.f1 y.f2 y.f3) true) :
  ∀ (m i:Nat),i + m = x.length → q1B (fun k=>q0C.l0 k (i:Int) a b c x a b c x) true:=by
 intro m
 induction m with
 | zero=>
  intro i hi
  apply cSuc
  simp only [q0C.l0]
  exact cNO (cCon _)
 | succ m IH=>
  intro i hi
  have h:i < x.length:=by omega
  apply cSuc
  simp only [q0C.l0,rd25 h,q2t (show i≤1048576 by omega)]
  exact cPO (cPO (cPO (cBin (ih _ (List.getElem_mem h)) (cPos rfl (IH (i + 1) (by omega))))))
theorem q6d:∀ (n:S25),Small n → q1B (fun k=>q0C.f k n.f0 n.f1 n.f2 n.f3 n.f0 n.f1 n.f2 n.f3) true
 | ⟨a,b,c,x⟩,hs=>by
  cases hs with
  | mk _ _ _ _ hl hk=>
  apply cSuc
  simp only [q0C.f]
  refine cPos trivial (cPos trivial (cPos trivial (cSuc ?_)))
  simp only [q0C.j0]
  exact cNeg (by simp) (q9X x hl a b c (fun y hy=>q6d y (hk y hy)) x.length 0 (by omega))
 termination_by n=>SizeOf.sizeOf n
 decreasing_by
  have:=List.sizeOf_lt_of_mem hy
  simp only [S25.mk.sizeOf_spec]
  omega
end
section
/-- A token without its line. -/
abbrev Tok:=Int × q0a
def sg (c:UInt8):Tok:=(4,⟨#[c]⟩)
def em:q0a:=⟨#[]⟩
/-- A name that can be a foot's, a mark's, a tag's. -/
def Nme (b:q0a):Prop:=b.toList≠([117]:List UInt8)∧b.toList≠([120]:List UInt8)
/-- A number's text and its value. -/
def Num (y:q0a) (c:Int):Prop:=q1B (fun k=>q1G.f k y) (c,true)
mutual
/-- The tokens of a part. -/
inductive Tk:S25 → List Tok → Prop
 | light:Tk ⟨1,em,0,[]⟩ [(1,⟨#[117]⟩)]
 | heavy:Tk ⟨2,em,0,[]⟩ [sg 45]
 | anceps:Tk ⟨3,em,0,[]⟩ [(1,⟨#[120]⟩)]
 | fin:Tk ⟨9,em,0,[]⟩ [sg 58]
 | bridge:Tk ⟨10,em,0,[]⟩ [sg 126]
 | foot (b:q0a) (hb:Nme b):Tk ⟨4,b,0,[]⟩ [(1,b)]
 | mark (b:q0a) (hb:Nme b):Tk ⟨11,b,0,[]⟩ [sg 64,(1,b)]
 | opt (n:S25) (ts:List Tok) (h:TkB n ts):Tk ⟨8,em,0,[n]⟩ (sg 91 :: (ts++[sg 93]))
 | tag (b:q0a) (hb:Nme b) (n:S25) (ts:List Tok) (h:TkB n ts):Tk ⟨12,b,0,[n]⟩ ((1,b) :: sg 123 :: (ts++[sg 125]))
 | alt (n n2:S25) (ns:List S25) (ts us:List Tok) (h:TkB n ts) (h2:TkA (n2 :: ns) us):Tk ⟨6,em,0,n :: n2 :: ns⟩ (sg 40 :: (ts++us))
 | pow (n:S25) (ts:List Tok) (c:Int) (y:q0a) (h5:n.f0≠5) (h7:n.f0≠7) (h:Tk n ts) (hy:Num y c):Tk ⟨7,em,c,[n]⟩ (ts++[sg 94,(2,y)])
 | powp (n:S25) (ts:List Tok) (c:Int) (y:q0a) (h:TkB n ts) (hy:Num y c):Tk ⟨7,em,c,[n]⟩ (sg 40 :: (ts++[sg 41,sg 94,(2,y)]))
/-- The tokens of a body. -/
inductive TkB:S25 → List Tok → Prop
 | part (n:S25) (ts:List Tok) (h5:n.f0≠5) (h:Tk n ts):TkB n ts
 | seq (ns:List S25) (ts:List Tok) (h1:ns.length≠1) (h:TkS ns ts):TkB ⟨5,em,0,ns⟩ ts
/-- Parts in a row. -/
inductive TkS:List S25 → List Tok → Prop
 | nil:TkS [] []
 | cons (n:S25) (ns:List S25) (ts us:List Tok) (h5:n.f0≠5) (h:Tk n ts) (r:TkS ns us):TkS (n :: ns) (ts++us)
/-- Further alternatives, up to the closing sign. -/
inductive TkA:List S25 → List Tok → Prop
 | nil:TkA [] [sg 41]
 | cons (n:S25) (ns:List S25) (ts us:List Tok) (h:TkB n ts) (r:TkA ns us):TkA (n :: ns) (sg 47 :: (ts++us))
end
/-- From i on l holds these tokens. -/
def At (l:List S36) (i:Nat) (ts:List Tok):Prop:=i + ts.length≤l.length∧∀ j (h:j < ts.length) (h':i + j < l.length),l[i + j].f0 = ts[j].1∧l[i + j].f1 = ts[j].2
theorem At.left {l:List S36} {i:Nat} {ts us:List Tok} (h:At l i (ts++us)):At l i ts:=by
 have hl:=h.1
 rw [List.length_append] at hl
 refine ⟨by omega,fun j hj h'=>?_⟩
 have:=h.2 j (by rw [List.length_append];omega) h'
 rw [List.getElem_append_left hj] at this
 exact this
theorem At.right {l:List S36} {i:Nat} {ts us:List Tok} (h:At l i (ts++us)):At l (i + ts.length) us:=by
 have hl:=h.1
 rw [List.length_append] at hl
 refine ⟨by omega,fun j hj h'=>?_⟩
 have:=h.2 (ts.length + j) (by rw [List.length_append];omega) (by omega)
 rw [List.getElem_append_right (by omega)] at this
 simp only [Nat.add_sub_cancel_left] at this
 simp only [show i + ts.length + j = i + (ts.length + j) by omega]
 exact this
theorem At.head {l:List S36} {i:Nat} {t:Tok} {ts:List Tok} (h:At l i (t :: ts)):∃ hi:i < l.length,l[i].f0 = t.1∧l[i].f1 = t.2:=by
 have hl:=h.1
 rw [List.length_cons] at hl
 exact ⟨by omega,h.2 0 (by simp) (by omega)⟩
theorem At.tail {l:List S36} {i:Nat} {t:Tok} {ts:List Tok} (h:At l i (t :: ts)):At l (i + 1) ts:=At.right (ts:=[t]) (us:=ts) h
theorem At.sign {l:List S36} {i:Nat} {c:UInt8} {ts:List Tok} (h:At l i (sg c :: ts)):Hit l i ⟨#[c]⟩:=by
 obtain ⟨hi,h1,h2⟩:=h.head
 exact ⟨hi,h1,by rw [h2];rfl⟩
theorem At.nosign {l:List S36} {i:Nat} {t:Tok} {ts:List Tok} (h:At l i (t :: ts)) {s:q0a} (hs:t.1 = 4 → t.2.toList≠s.toList) : ¬ Hit l i s:=by
 obtain ⟨hi,h1,h2⟩:=h.head
 rintro ⟨_,k1,k2⟩
 exact hs (h1 ▸ k1) (by rw [← h2];exact k2)
/-- What may follow a part: neither a power nor an opening brace. -/
def Fol (l:List S36) (i:Nat):Prop:=i≤l.length∧¬ Hit l i ⟨#[94]⟩∧¬ Hit l i ⟨#[123]⟩
/-- No part begins here. -/
def q7S (l:List S36) (i:Nat):Prop:=Fol l i∧∃ n,q1B (fun k=>q1a.f k l (i:Int) false) (q6R n false i false)
theorem v0v {c d:UInt8} (h:c≠d):(sg c).1 = 4 → (sg c).2.toList≠(⟨#[d]⟩:q0a).toList:=fun _ k=>h (by
 have:([c]:List UInt8) = [d]:=by rw [← tl1 c,← tl1 d];exact k
 simpa using this)
/-- A part begins with a name, or with a sign that is neither a power nor a brace. -/
def Beg (t:Tok):Prop:=t.1 = 1∨∃ c:UInt8,t = sg c∧c≠94∧c≠123
theorem Tk.first:∀ {n:S25} {ts:List Tok},Tk n ts → ∃ t us,ts = t :: us∧Beg t
 | _,_,.light=>⟨_,_,rfl,.inl rfl⟩
 | _,_,.heavy=>⟨_,_,rfl,.inr ⟨45,rfl,by decide,by decide⟩⟩
 | _,_,.anceps=>⟨_,_,rfl,.inl rfl⟩
 | _,_,.fin=>⟨_,_,rfl,.inr ⟨58,rfl,by decide,by decide⟩⟩
 | _,_,.bridge=>⟨_,_,rfl,.inr ⟨126,rfl,by decide,by decide⟩⟩
 | _,_,.foot b hb=>⟨_,_,rfl,.inl rfl⟩
 | _,_,.mark b hb=>⟨_,_,rfl,.inr ⟨64,rfl,by decide,by decide⟩⟩
 | _,_,.opt n ts h=>⟨_,_,rfl,.inr ⟨91,rfl,by decide,by decide⟩⟩
 | _,_,.tag b hb n ts h=>⟨_,_,rfl,.inl rfl⟩
 | _,_,.alt n n2 ns ts us h h2=>⟨_,_,rfl,.inr ⟨40,rfl,by decide,by decide⟩⟩
 | _,_,.pow n ts c y h5 h7 h hy=>by
  obtain ⟨t,us,rfl,k⟩:=Tk.first h
  exact ⟨t,us++[sg 94,(2,y)],rfl,k⟩
 | _,_,.powp n ts c y h hy=>⟨_,_,rfl,.inr ⟨40,rfl,by decide,by decide⟩⟩
theorem Beg.fol {l:List S36} {i:Nat} {t:Tok} {us:List Tok} (h:At l i (t :: us)) (hb:Beg t):Fol l i:=by
 refine ⟨by have:=h.1;omega,h.nosign (fun e=>?_),h.nosign (fun e=>?_)⟩
 ·rcases hb with h1 | ⟨c,rfl,h1,h2⟩
  ·rw [h1] at e;exact absurd e (by decide)
  ·exact v0v h1 e
 ·rcases hb with h1 | ⟨c,rfl,h1,h2⟩
  ·rw [h1] at e;exact absurd e (by decide)
  ·exact v0v h2 e
/-- Closing signs begin no part, and follow one. -/
theorem q4K {l:List S36} (hl:l.length≤1000000) {i:Nat} {c:UInt8} (h:Hit l i ⟨#[c]⟩) (hc:c = 93∨c = 125∨c = 41∨c = 47∨c = 59):q7S l i:=by
 obtain ⟨hi,h4,ht⟩:=h
 have hno:∀ u:UInt8,u≠c → ¬ Hit l i ⟨#[u]⟩:=fun u hu k=>hu (by
  have:=k.2.2
  rw [ht,tl1,tl1] at this
  simpa using this.symm)
 have hne:∀ u:UInt8,u ∈ ([45,58,126,64,91,40,94,123]:List UInt8) → u≠c:=by
  intro u hu e
  subst e
  rcases hc with rfl | rfl | rfl | rfl | rfl <;> exact absurd hu (by decide)
 refine ⟨⟨by omega,hno 94 (hne 94 (by decide)),hno 123 (hne 123 (by decide))⟩,⟨0,em,0,[]⟩,cSuc ?_⟩
 have h1:l[i].f0≠1:=by rw [h4];decide
 simp only [m_none (q3Y l i hi) h1 (fun u hu=>q6B (by omega) (by omega) (hno u (hne u (by
  simp only [List.mem_cons,List.not_mem_nil,or_false] at hu ⊢
  rcases hu with h | h | h | h | h | h <;> simp [h]))))]
 exact cCon _
end
section
/-- The parser reads a part, powers apart. -/
def v0A (l:List S36) (n:S25) (i j:Nat):Prop:=q1B (fun k=>q1a.f k l (i:Int) false) (q6R n true j false)
def SeqR (l:List S36) (n:S25) (i j:Nat):Prop:=q1B (fun k=>q0i.f k l (i:Int) false) (q5T n j false)
/-- It goes on behind a part that is put behind others. -/
def OnR (l:List S36) (n:S25) (i j:Nat):Prop:=∀ (x:List S25) r,x.length≤1000000 → q1B (fun k=>q0i.l0 k (x++[n]) l (j:Int) false) r → q1B (fun k=>q0i.l0 k x l (i:Int) false) r
section
variable {l:List S36} (hl:l.length≤1000000)
include hl
theorem on_part {n:S25} {i j:Nat} (h5:n.f0≠5) (hf:Fol l j) (h:v0A l n i j):OnR l n i j:=by
 intro x r hx hr
 apply cSuc
 simp only [q0i.l0]
 refine cBin h (cPos rfl (cSuc ?_))
 simp only [q0i.j1,q6R]
 refine cND (cSuc ?_)
 simp only [q0i.l1,q6B hf.1 (by have:=hf.1;omega) hf.2.1,Option.bind_some,q7I]
 exact cND (cNeg h5 (cPO hr))
theorem v0Z {n:S25} {i j:Nat} {c:Int} {y:q0a} (hy:Num y c) (hA:At l j [sg 94,(2,y)]) (hf:Fol l (j + 2)) (h:v0A l n i j):OnR l ⟨7,em,c,[n]⟩ i (j + 2):=by
 intro x r hx hr
 have hj:=hA.1
 rw [show ([sg 94,(2,y)]:List Tok).length = 2 from rfl] at hj
 obtain ⟨h1,k1,k2⟩:=hA.tail.head
 apply cSuc
 simp only [q0i.l0]
 refine cBin h (cPos rfl (cSuc ?_))
 simp only [q0i.j1,q6R]
 refine cND (cSuc ?_)
 simp only [q0i.l1,q7g (show j≤l.length by omega) (by omega) hA.sign,Option.bind_some,q7I]
 refine cPos trivial (cBin (x:=(c,((j + 2:Nat):Int),false)) ?_ (cSuc ?_))
 ·unfold q2n.f
  simp only [q5R l (j + 1) 2 h1 k1 (by omega),Option.bind_some,k2]
  exact cBin hy (cCon _)
 ·simp only [q0i.l1,q6B hf.1 (by have:=hf.1;omega) hf.2.1,Option.bind_some]
  exact cND (cND (cPO hr))
omit hl in
theorem seq_one {n:S25} {i j:Nat} (hs:q7S l j) (h:OnR l n i j):SeqR l n i j:=by
 obtain ⟨hf,m,hm⟩:=hs
 apply cSuc
 simp only [q0i.f]
 refine h [] _ (q2S _) (cSuc ?_)
 simp only [q0i.l0]
 refine cBin hm (cNeg (show ¬ (false = true) by decide) ?_)
 exact q7B l [n] j false _ _ _ _
theorem q5i {i:Nat} {v:UInt8} (h:i < l.length) (h4:l[i].f0 = 4) (ht:l[i].f1.toList = [v]):∀ u:UInt8,q0A.f l (i:Int) false ⟨#[u]⟩ = some (if u = v then (true,((i + 1:Nat):Int),false) else (false,(i:Int),false)):=by
 intro u
 by_cases huv:u = v
 ·rw [if_pos huv,q7g (by omega) (by omega) ⟨h,h4,by rw [ht,tl1,huv]⟩]
 ·rw [if_neg huv,q6B (by omega) (by omega) (fun k=>huv (by have:=k.2.2;rw [ht,tl1] at this;simpa using this.symm))]
theorem q6O {i:Nat} (h:i < l.length) (h1:l[i].f0 = 1) (hb:Nme l[i].f1):q2C.f l (i:Int) false = some (l[i].f1,((i + 1:Nat):Int),false):=by
 have ht:=q5R l i 1 h h1 (by omega)
 unfold q2C.f q1T.f
 rw [q3Y l i h]
 simp only [Option.bind_some]
 have hu:(l[i].f1.toList == (⟨#[117]⟩:q0a).toList) = false:=by rw [tl1];simpa using hb.1
 have hx:(l[i].f1.toList == (⟨#[120]⟩:q0a).toList) = false:=by rw [tl1];simpa using hb.2
 rw [if_pos h1,hu]
 simp only [Option.bind_some]
 rw [if_neg (by decide),q3Y l i h]
 simp only [Option.bind_some]
 rw [if_pos h1,hx]
 simp only [Option.bind_some]
 rw [if_neg (by decide),ht]
 rfl
theorem v0c {n:S25} {i j:Nat} (hi:i≤l.length) (hs:SeqR l n (i + 1) j) (ho:Hit l i ⟨#[40]⟩) (hc:Hit l j ⟨#[41]⟩):v0A l n i (j + 1):=by
 obtain ⟨h,h4,ht⟩:=ho
 rw [tl1] at ht
 have hj:j < l.length:=by obtain ⟨k,_⟩:=hc;exact k
 have hns : ¬ Hit l j ⟨#[47]⟩:=fun k=>by
  have a:=hc.2.2
  have b:=k.2.2
  rw [a,tl1,tl1] at b
  exact absurd b (by decide)
 apply cSuc
 simp only [m_alt (q3Y l i h) (show l[i].f0≠1 by rw [h4];decide) (q5i hl h h4 ht)]
 refine cBin hs ?_
 simp only [q5T,q7I]
 apply cSuc
 simp only [q1a.l0,q6B (show j≤l.length by omega) (by omega) hns,q4M (show j≤l.length by omega) (by omega) hc,Option.bind_some]
 exact cND (cPos rfl (cPos (by simp) (cCon _)))
end
def Kp (l:List S36) (n:S25) (ts:List Tok):Prop:=∀ i,At l i ts → ¬ Hit l (i + ts.length) ⟨#[123]⟩ → n.f0≠7 → v0A l n i (i + ts.length)
def Op1 (l:List S36) (n:S25) (ts:List Tok):Prop:=∀ i,At l i ts → Fol l (i + ts.length) → OnR l n i (i + ts.length)
def Bp (l:List S36) (n:S25) (ts:List Tok):Prop:=∀ i,At l i ts → q7S l (i + ts.length) → SeqR l n i (i + ts.length)
def Sp (l:List S36) (ns:List S25) (ts:List Tok):Prop:=∀ i,At l i ts → Fol l (i + ts.length) → ∀ (x:List S25) r,x.length + ts.length≤1000000 → q1B (fun k=>q0i.l0 k (x++ns) l ((i + ts.length:Nat):Int) false) r → q1B (fun k=>q0i.l0 k x l (i:Int) false) r
def Ap (l:List S36) (ns:List S25) (ts:List Tok):Prop:=∀ i,At l i ts → ∀ x:List S25,0 < x.length → 1 < x.length + ns.length → x.length + ts.length≤1000000 → q1B (fun k=>q1a.l0 k x l (i:Int) false) (q6R ⟨6,em,0,x++ns⟩ true (i + ts.length) false)
section
variable {l:List S36} (hl:l.length≤1000000)
include hl
theorem q6Y {ns:List S25} {ts:List Tok} (h:TkA ns ts) {i:Nat} (hA:At l i ts):q7S l i:=by
 cases h with
 | nil=>exact q4K hl hA.sign (.inr (.inr (.inl rfl)))
 | cons n ns ts us h r=>exact q4K hl hA.sign (.inr (.inr (.inr (.inl rfl))))
theorem v0u:∀ (N:Nat),(∀ n ts,ts.length≤N → Tk n ts → Kp l n ts∧(n.f0≠5 → Op1 l n ts))∧(∀ n ts,ts.length≤N → TkB n ts → Bp l n ts)∧(∀ ns ts,ts.length≤N → TkS ns ts → Sp l ns ts)∧(∀ ns ts,ts.length≤N → TkA ns ts → Ap l ns ts):=by
 intro N
 induction N with
 | zero=>
  refine ⟨fun n ts hN h=>?_,fun n ts hN h=>?_,fun ns ts hN h=>?_,fun ns ts hN h=>?_⟩
  ·obtain ⟨t,us,rfl,_⟩:=h.first
   exact absurd hN (by simp)
  ·cases h with
   | part n ts h5 h=>
    obtain ⟨t,us,rfl,_⟩:=h.first
    exact absurd hN (by simp)
   | seq ns ts h1 h=>
    cases h with
    | nil=>
     intro i hA hs
     obtain ⟨hf,m,hm⟩:=hs
     apply cSuc
     simp only [q0i.f]
     apply cSuc
     simp only [q0i.l0]
     exact cBin hm (cNeg (show ¬ (false = true) by decide) (q7B l [] i false _ _ _ _))
    | cons n ns ts us h5 h r=>
     obtain ⟨t,us',rfl,_⟩:=h.first
     exact absurd hN (by simp)
  ·cases h with
   | nil=>intro i hA hf x r hx hr;rw [List.append_nil] at hr;exact hr
   | cons n ns ts us h5 h r=>
    obtain ⟨t,us',rfl,_⟩:=h.first
    exact absurd hN (by simp)
  ·cases h with
   | nil=>exact absurd hN (by simp)
   | cons n ns ts us h r=>exact absurd hN (by simp)
 | succ N IH=>
  obtain ⟨IT,IB,IS,IA⟩:=IH
  have KT:∀ n ts,ts.length≤N + 1 → Tk n ts → Kp l n ts:=by
   intro n ts hN h i hA hF h7
   cases h with
   | light=>
    obtain ⟨h,h1,ht⟩:=hA.head
    exact cSuc (by simp only [m_one (q3Y l i h) (q5d (by omega)) h1 (by rw [ht,tl1])];exact cCon _)
   | anceps=>
    obtain ⟨h,h1,ht⟩:=hA.head
    exact cSuc (by simp only [m_any (q3Y l i h) (q5d (by omega)) h1 (by rw [ht,tl1])];exact cCon _)
   | heavy=>
    obtain ⟨h,h4,ht⟩:=hA.head
    exact cSuc (by simp only [q9q (q3Y l i h) (show l[i].f0≠1 by rw [h4];decide) (.inl ⟨rfl,rfl⟩) (q5i hl h h4 (by rw [ht];exact tl1 _))];exact cCon _)
   | fin=>
    obtain ⟨h,h4,ht⟩:=hA.head
    exact cSuc (by simp only [q9q (q3Y l i h) (show l[i].f0≠1 by rw [h4];decide) (.inr (.inl ⟨rfl,rfl⟩)) (q5i hl h h4 (by rw [ht];exact tl1 _))];exact cCon _)
   | bridge=>
    obtain ⟨h,h4,ht⟩:=hA.head
    exact cSuc (by simp only [q9q (q3Y l i h) (show l[i].f0≠1 by rw [h4];decide) (.inr (.inr ⟨rfl,rfl⟩)) (q5i hl h h4 (by rw [ht];exact tl1 _))];exact cCon _)
   | foot b hb=>
    obtain ⟨h,h1,ht⟩:=hA.head
    have ht:l[i].f1 = b:=ht
    rw [← ht] at hb ⊢
    exact cSuc (by simp only [m_name (q3Y l i h) (q5d (by omega)) h1 hb.1 hb.2 (q6B h (by omega) hF)];exact cCon _)
   | mark b hb=>
    obtain ⟨h,h4,ht⟩:=hA.head
    obtain ⟨h',h1,hb'⟩:=hA.tail.head
    have hb':l[i + 1].f1 = b:=hb'
    have hn:=q6O hl h' h1 (by rw [hb'];exact hb)
    exact cSuc (by simp only [m_at (q3Y l i h) (show l[i].f0≠1 by rw [h4];decide) (q5i hl h h4 (by rw [ht];exact tl1 _)),hn,Option.bind_some,hb'];exact cCon _)
   | opt n ts h=>
    obtain ⟨hi,h4,ht⟩:=hA.head
    have hT:=hA.tail
    rw [List.length_cons,List.length_append] at hN
    have hc:=(hT.right).sign
    have hs:=IB n ts (by omega) h (i + 1) hT.left (q4K hl hc (.inl rfl))
    have hj:i + 1 + ts.length < l.length:=by obtain ⟨k,_⟩:=hc;exact k
    apply cSuc
    simp only [m_box (q3Y l i hi) (show l[i].f0≠1 by rw [h4];decide) (q5i hl hi h4 (by rw [ht];exact tl1 _))]
    refine cBin hs ?_
    simp only [q5T,q7I,q4M (show i + 1 + ts.length≤l.length by omega) (by omega) hc,Option.bind_some]
    exact cVal (by simp only [q6R,List.length_cons,List.length_append,List.length_nil];congr 6;omega)
   | tag b hb n ts h=>
    obtain ⟨hi,h1,ht⟩:=hA.head
    have ht:l[i].f1 = b:=ht
    have hT:=hA.tail.tail
    rw [List.length_cons,List.length_cons,List.length_append] at hN
    have hc:=(hT.right).sign
    have ho:=hA.tail.sign
    have hi2:i + 1 < l.length:=by obtain ⟨k,_⟩:=ho;exact k
    have hs:=IB n ts (by omega) h (i + 1 + 1) hT.left (q4K hl hc (.inr (.inl rfl)))
    have hj:i + 1 + 1 + ts.length < l.length:=by obtain ⟨k,_⟩:=hc;exact k
    apply cSuc
    simp only [m_bound (q3Y l i hi) (q5d (by omega)) h1 (by rw [ht];exact hb.1) (by rw [ht];exact hb.2) (q7g (by omega) (by omega) ho)]
    refine cBin hs ?_
    simp only [q5T,q7I,q4M (show i + 1 + 1 + ts.length≤l.length by omega) (by omega) hc,Option.bind_some,ht]
    exact cVal (by simp only [q6R,List.length_cons,List.length_append,List.length_nil];congr 6;omega)
   | alt n n2 ns ts us h h2=>
    obtain ⟨hi,h4,ht⟩:=hA.head
    have hT:=hA.tail
    rw [List.length_cons,List.length_append] at hN
    have hlen:=hA.1
    rw [List.length_cons,List.length_append] at hlen
    have hs:=IB n ts (by omega) h (i + 1) hT.left (q6Y hl h2 hT.right)
    have ha:=IA (n2 :: ns) us (by omega) h2 (i + 1 + ts.length) hT.right [n] (by simp) (by simp) (by simp;omega)
    apply cSuc
    simp only [m_alt (q3Y l i hi) (show l[i].f0≠1 by rw [h4];decide) (q5i hl hi h4 (by rw [ht];exact tl1 _))]
    refine cBin hs ?_
    simp only [q5T,q7I]
    rw [show i + (sg 40 :: (ts++us)).length = i + 1 + ts.length + us.length by simp only [List.length_cons,List.length_append];omega]
    exact ha
   | pow n ts c y h5 h7' h hy=>exact absurd rfl h7
   | powp n ts c y h hy=>exact absurd rfl h7
  have OT:∀ n ts,ts.length≤N + 1 → Tk n ts → n.f0≠5 → Op1 l n ts:=by
   intro n ts hN h h5 i hA hF
   by_cases h7:n.f0 = 7
   ·cases h with
    | pow n ts c y h5' h7' h hy=>
     rw [List.length_append] at hN
     have hk:=KT n ts (by omega) h i hA.left (by
      have:=(hA.right).nosign (s:=⟨#[123]⟩) (v0v (by decide))
      exact this) h7'
     have hlen:i + (ts++[sg 94,(2,y)]).length = i + ts.length + 2:=by rw [List.length_append];show i + (ts.length + 2) = _;omega
     rw [hlen] at hF ⊢
     exact v0Z hl hy hA.right hF hk
    | powp n ts c y h hy=>
     rw [List.length_cons,List.length_append] at hN
     have hT:=hA.tail
     have hR:=hT.right
     have hs:=IB n ts (by omega) h (i + 1) hT.left (q4K hl hR.sign (.inr (.inr (.inl rfl))))
     have hk:=v0c hl (by have:=hA.1;omega) hs hA.sign hR.sign
     have hlen:i + (sg 40 :: (ts++[sg 41,sg 94,(2,y)])).length = i + 1 + ts.length + 1 + 2:=by rw [List.length_cons,List.length_append];show i + (ts.length + 3 + 1) = _;omega
     rw [hlen] at hF ⊢
     exact v0Z hl hy hR.tail hF hk
    | light=>exact absurd h7 (by decide)
    | heavy=>exact absurd h7 (by decide)
    | anceps=>exact absurd h7 (by decide)
    | fin=>exact absurd h7 (by decide)
    | bridge=>exact absurd h7 (by decide)
    | foot b hb=>exact absurd (show (4:Int) = 7 from h7) (by decide)
    | mark b hb=>exact absurd (show (11:Int) = 7 from h7) (by decide)
    | opt n ts h=>exact absurd (show (8:Int) = 7 from h7) (by decide)
    | tag b hb n ts h=>exact absurd (show (12:Int) = 7 from h7) (by decide)
    | alt n n2 ns ts us h h2=>exact absurd (show (6:Int) = 7 from h7) (by decide)
   ·exact on_part hl h5 hF (KT n ts hN h i hA hF.2.2 h7)
  have ST:∀ ns ts,ts.length≤N + 1 → TkS ns ts → Sp l ns ts:=by
   intro ns ts hN h i hA hF x r hx hr
   cases h with
   | nil=>rw [List.append_nil] at hr;exact hr
   | cons n ns ts us h5 h rr=>
    obtain ⟨t,ts',rfl,hb⟩:=h.first
    have hlen:(t :: ts'++us).length = (t :: ts').length + us.length:=List.length_append
    have h1:1≤(t :: ts').length:=by simp
    rw [hlen] at hN hF hx hr
    have hf:Fol l (i + (t :: ts').length):=by
     cases rr with
     | nil=>exact hF
     | cons n' ns' ts2 us2 h5' h' r'=>
      obtain ⟨t2,ts2',rfl,hb2⟩:=h'.first
      exact hb2.fol (us:=ts2'++us2) hA.right
    refine OT n (t :: ts') (by omega) h h5 i hA.left hf x r (by omega) ?_
    have hS:=IS ns us (by omega) rr (i + (t :: ts').length) hA.right (by rw [Nat.add_assoc];exact hF) (x++[n]) r (by rw [List.length_append,List.length_singleton];omega)
    rw [Nat.add_assoc,List.append_assoc] at hS
    exact hS hr
  refine ⟨fun n ts hN h=>⟨KT n ts hN h,OT n ts hN h⟩,fun n ts hN h=>?_,ST,fun ns ts hN h=>?_⟩
  ·intro i hA hs
   cases h with
   | part n ts h5 h=>exact seq_one hs (OT n ts hN h h5 i hA hs.1)
   | seq ns ts h1 h=>
    obtain ⟨hf,m,hm⟩:=hs
    apply cSuc
    simp only [q0i.f]
    refine ST ns ts hN h i hA hf [] _ (by have:=hA.1;simp;omega) (cSuc ?_)
    simp only [q0i.l0]
    refine cBin hm (cNeg (show ¬ (false = true) by decide) ?_)
    have:=q7B l ns (i + ts.length) false m.f0 m.f1 m.f2 m.f3
    unfold one at this
    rw [if_neg h1] at this
    exact this
  ·intro i hA x hx h2 hz
   cases h with
   | nil=>
    have hc:=hA.sign
    have hj:i < l.length:=by obtain ⟨k,_⟩:=hc;exact k
    have hns : ¬ Hit l i ⟨#[47]⟩:=hA.nosign (v0v (by decide))
    apply cSuc
    simp only [q1a.l0,q6B (show i≤l.length by omega) (by omega) hns,q4M (show i≤l.length by omega) (by omega) hc,Option.bind_some,List.append_nil]
    exact cND (cNeg (by simp at h2;omega) (cCon _))
   | cons n ns ts us h rr=>
    have hT:=hA.tail
    rw [List.length_cons,List.length_append] at hN hz
    have hlen:=hA.1
    rw [List.length_cons,List.length_append] at hlen
    have hs:=IB n ts (by omega) h (i + 1) hT.left (q6Y hl rr hT.right)
    have ha:=IA ns us (by omega) rr (i + 1 + ts.length) hT.right (x++[n]) (by simp) (by rw [List.length_append,List.length_singleton];simp at h2;omega) (by rw [List.length_append,List.length_singleton];omega)
    apply cSuc
    simp only [q1a.l0,q7g (show i≤l.length by omega) (by omega) hA.sign,Option.bind_some]
    refine cPos trivial (cBin hs ?_)
    simp only [q5T,q7I]
    rw [show i + (sg 47 :: (ts++us)).length = i + 1 + ts.length + us.length by simp only [List.length_cons,List.length_append];omega,show x++n :: ns = x++[n]++ns by simp]
    exact cPO ha
/-- The words of a body are read as this body. -/
theorem q7H {n:S25} {ts:List Tok} (h:TkB n ts) {i:Nat} (hA:At l i ts) (hs:q7S l (i + ts.length)):SeqR l n i (i + ts.length):=(v0u hl ts.length).2.1 n ts (q0e _) h i hA hs
end
end
section
def Wh (c:Int):Prop:=c = 10∨c = 32∨c = 9∨c = 13∨c = 35
section
variable (a:q0a) (ha:a.size≤20000)
include ha
omit ha in
theorem t_other {i:Nat} {xs:List S36} {x:Int} {r} (h:i < a.size) (hc : ¬ (bt a ((i:Nat):Int) = 10∨bt a ((i:Nat):Int) = 32∨bt a ((i:Nat):Int) = 9∨bt a ((i:Nat):Int) = 13)) (hr:q1B (fun k=>q1q.j1 k a xs x (i:Int) (bt a ((i:Nat):Int)) false) r):q1B (fun k=>q1q.l0 k a xs x (i:Int)) r:=by
 apply cSuc
 simp only [q1q.l0]
 refine cPO (cPO (cNeg (fun k=>hc (.inl k)) (cNeg (fun k=>hc (.inr (.inl k))) (cNeg (fun k=>hc (.inr (.inr (.inl k)))) ?_))))
 rw [show (bt a ((i:Nat):Int) == 13) = false from by simpa using fun k=>hc (.inr (.inr (.inr k)))]
 exact hr
theorem t_white {i:Nat} {xs:List S36} {x:Int} {r} (h:i < a.size) (hc:bt a ((i:Nat):Int) = 32∨bt a ((i:Nat):Int) = 9∨bt a ((i:Nat):Int) = 13) (hr:q1B (fun k=>q1q.l0 k a xs x ((i + 1:Nat):Int)) r):q1B (fun k=>q1q.l0 k a xs x (i:Int)) r:=by
 have hj:∀ c,q1B (fun k=>q1q.j1 k a xs x (i:Int) c true) r:=fun c=>cSuc (by simp only [q1q.j1,q5d (show i≤1000000 by omega)];exact cPos trivial hr)
 apply cSuc
 simp only [q1q.l0]
 refine cPO (cPO ?_)
 rcases hc with hc | hc | hc <;> rw [hc]
 ·exact cND (cPos rfl (hj 32))
 ·exact cND (cND (cPos rfl (hj 9)))
 ·exact cND (cND (cND (hj 13)))
end
theorem t_next {a:q0a} {xs:List S36} {x c m c2 q:Int} {j:Nat} {y:q0a} {r} (hj:c.toNat = j) (h0:0≤c) (h1:c≤(a.size:Int)) (hw:wrap64 (c + m) = c2) (hl:xs.length < 4398046511104) (h35:bt a c≠35) (hn:q1B (fun k=>q3S.f k (a.extract j a.size)) (q,y,0,m,0)) (h:q1B (fun k=>q1q.l0 k a (xs++[⟨q,y,x⟩]) x c2) r):q1B (fun k=>q1q.j1 k a xs x c (bt a c) false) r:=by
 subst hj hw
 apply cSuc
 simp only [q1q.j1]
 exact cND (cNeg h35 (cPos h0 (cPos h1 (cBin hn (cPos rfl (cPos hl h))))))
end
section
theorem byte_eq {s s':q0a} {i j:Nat} (hi:i < s.size) (hj:j < s'.size) (h:bt s ((i:Nat):Int) = bt s' ((j:Nat):Int)):s[i] = s'[j]:=by
 have h1:=q4m s ((i:Nat):Int) (by rw [Int.toNat_natCast];exact hi)
 have h2:=q4m s' ((j:Nat):Int) (by rw [Int.toNat_natCast];exact hj)
 simp only [Int.toNat_natCast] at h1 h2
 have:s[i].toNat = s'[j].toNat:=by omega
 exact UInt8.toNat_inj.1 this
theorem q6z {s s':q0a} (hz:s.size = s'.size) (h:∀ j:Nat,j < s.size → bt s ((j:Nat):Int) = bt s' ((j:Nat):Int)):s = s':=by
 have:s.data = s'.data:=by
  apply Array.ext
  ·exact hz
  ·intro i h1 h2
   exact byte_eq (s:=s) (s':=s') h1 h2 (h i h1)
 cases s
 cases s'
 exact congrArg _ this
theorem q9o {s s':q0a} {i j:Nat} (h1:j≤s.size) (h2:j≤s'.size) (h:∀ m,i≤m → m < j → bt s' ((m:Nat):Int) = bt s ((m:Nat):Int)):s'.extract i j = s.extract i j:=by
 apply q6z
 ·rw [q4F h1,q4F h2]
 ·intro m hm
  rw [q4F h2] at hm
  rw [q4q h2 hm,q4q h1 hm]
  exact h (i + m) (by omega) (by omega)
def Al1 (c:Int):Bool:=Sm c || Dg c
/-- From i on a name runs to t. -/
inductive NRun (s:q0a):Nat → Nat → Prop
 | stop (i:Nat) (hi:i≤s.size) (h:i < s.size → Al1 (bt s ((i:Nat):Int)) = false∧¬ (bt s ((i:Nat):Int) = 45∧i + 1 < s.size∧Al1 (bt s ((i + 1:Nat):Int)) = true)):NRun s i i
 | one (i t:Nat) (hi:i < s.size) (h:Al1 (bt s ((i:Nat):Int)) = true) (r:NRun s (i + 1) t):NRun s i t
 | two (i t:Nat) (hi:i + 1 < s.size) (h:bt s ((i:Nat):Int) = 45) (h':Al1 (bt s ((i + 1:Nat):Int)) = true) (r:NRun s (i + 2) t):NRun s i t
theorem NRun.le {s:q0a} {i t:Nat} (h:NRun s i t):i≤t∧t≤s.size:=by
 induction h with
 | stop i hi h=>exact ⟨q0e _,hi⟩
 | one i t hi h r ih=>omega
 | two i t hi h h' r ih=>omega
theorem NRun.ex (s:q0a):∀ (d i:Nat),i + d = s.size → ∃ t,NRun s i t:=by
 intro d
 induction d using Nat.strongRecOn with
 | _ d IH=>
  intro i hi
  by_cases h:i < s.size
  ·cases ha:Al1 (bt s ((i:Nat):Int)) with
   | true=>
    obtain ⟨t,ht⟩:=IH (d - 1) (by omega) (i + 1) (by omega)
    exact ⟨t,.one i t h ha ht⟩
   | false=>
    by_cases h2:bt s ((i:Nat):Int) = 45∧i + 1 < s.size∧Al1 (bt s ((i + 1:Nat):Int)) = true
    ·obtain ⟨t,ht⟩:=IH (d - 2) (by omega) (i + 2) (by omega)
     exact ⟨t,.two i t h2.2.1 h2.1 h2.2.2 ht⟩
    ·exact ⟨i,.stop i (by omega) (fun _=>⟨ha,h2⟩)⟩
  ·exact ⟨i,.stop i (by omega) (fun k=>absurd k h)⟩
theorem q6p {c:Int} {b:Bool} (h:Al1 c = b):(b = true → Sm c = true∨(¬ Sm c = true∧Dg c = true))∧(b = false → ¬ Sm c = true∧Dg c = false):=by
 unfold Al1 at h
 cases h1:Sm c <;> cases h2:Dg c <;> simp_all
theorem NRun.comes {s:q0a} (hs:s.size≤20000) {i t:Nat} (h:NRun s i t):q1B (fun k=>q1k.l0 k s ((i:Nat):Int)) (t:Int):=by
 induction h with
 | stop i hi h=>
  have w1:=q5d (show i≤1000000 by omega)
  by_cases hlt:i < s.size
  ·obtain ⟨ha,h2⟩:=h hlt
   obtain ⟨a1,a2⟩:=(q6p ha).2 rfl
   have J:q1B (fun k=>q1k.j2 k s ((i:Nat):Int) (bt s ((i:Nat):Int)) (Dg (bt s ((i:Nat):Int)))) (i:Int):=by
    rw [a2]
    apply cSuc
    simp only [q1k.j2,w1]
    refine cND (cIte (fun h45=>cIte (fun h3=>cPO ?_) (fun _=>cCon _)) (fun _=>cCon _))
    simp only [q4a,q4x,Option.bind_some]
    have hb:Al1 (bt s ((i + 1:Nat):Int)) = false:=by
     cases hb:Al1 (bt s ((i + 1:Nat):Int)) with
     | false=>rfl
     | true=>exact absurd ⟨h45,by omega,hb⟩ h2
    obtain ⟨b1,b2⟩:=(q6p hb).2 rfl
    exact cNeg b1 (cNeg (by rw [b2];decide) (cCon _))
   apply cSuc
   simp only [q1k.l0,q4a,q4x,Option.bind_some]
   exact cPO (cPO (cNeg a1 J))
  ·apply cSuc
   simp only [q1k.l0]
   exact cNO (cCon _)
 | one i t hi h r ih=>
  have w1:=q5d (show i≤1000000 by omega)
  have J:q1B (fun k=>q1k.j2 k s ((i:Nat):Int) (bt s ((i:Nat):Int)) true) (t:Int):=cSuc (by simp only [q1k.j2,w1];exact cPos trivial ih)
  apply cSuc
  simp only [q1k.l0,q4a,q4x,Option.bind_some]
  refine cPO (cPO ?_)
  rcases (q6p h).1 rfl with a | ⟨a,b⟩
  ·exact cPos a J
  ·rw [b];exact cNeg a J
 | two i t hi h h' r ih=>
  have w1:=q5d (show i≤1000000 by omega)
  have w2:=wrap2 (show i≤1000000 by omega)
  have e1 : ¬ Sm (bt s ((i:Nat):Int)) = true:=by rw [h];decide
  have e2:Dg (bt s ((i:Nat):Int)) = false:=by rw [h];decide
  have J:q1B (fun k=>q1k.j2 k s ((i:Nat):Int) (bt s ((i:Nat):Int)) false) (t:Int):=by
   apply cSuc
   simp only [q1k.j2,w1,w2,q4a,q4x,Option.bind_some]
   refine cND (cPos h (cPO (cPO ?_)))
   rcases (q6p h').1 rfl with a | ⟨a,b⟩
   ·exact cPos a ih
   ·exact cNeg a (cPos b ih)
  apply cSuc
  simp only [q1k.l0,q4a,q4x,Option.bind_some]
  refine cPO (cPO (cNeg e1 ?_))
  rw [e2]
  exact J
/-- s' begins like s, up to m. -/
def Agr (s s':q0a) (m:Nat):Prop:=m≤s.size∧m≤s'.size∧∀ j:Nat,j < m → bt s' ((j:Nat):Int) = bt s ((j:Nat):Int)
/-- At m it ends, or white space follows. -/
def Stp (s:q0a) (m:Nat):Prop:=m < s.size → bt s ((m:Nat):Int) = 32∨bt s ((m:Nat):Int) = 10∨bt s ((m:Nat):Int) = 9∨bt s ((m:Nat):Int) = 41
theorem NRun.same {s s':q0a} {i t:Nat} (h:NRun s i t) (ha:Agr s s' t) (hp:Stp s' t):NRun s' i t:=by
 induction h with
 | stop i hi h=>
  refine .stop i ha.2.1 (fun hlt=>?_)
  rcases hp hlt with e | e | e | e <;> rw [e] <;> exact ⟨by decide,fun k=>absurd k.1 (by decide)⟩
 | one i t hi h r ih=>
  have hl:=r.le
  exact .one i t (by have:=ha.2.1;omega) (by rw [ha.2.2 i (by omega)];exact h) (ih ha hp)
 | two i t hi h h' r ih=>
  have hl:=r.le
  exact .two i t (by have:=ha.2.1;omega) (by rw [ha.2.2 i (by omega)];exact h) (by rw [ha.2.2 (i + 1) (by omega)];exact h') (ih ha hp)
def LexN (s:q0a) (m:Nat):Prop:=Sm (bt s ((0:Nat):Int)) = true∧1≤m∧m≤20∧m≤s.size∧NRun s 1 m
def LexD (s:q0a) (m:Nat):Prop:=Sm (bt s ((0:Nat):Int)) = false∧1≤m∧m≤6∧m≤s.size∧(∀ j:Nat,j < m → Dg (bt s ((j:Nat):Int)) = true)∧(m < s.size → Dg (bt s ((m:Nat):Int)) = false)∧¬ (1 < m∧bt s ((0:Nat):Int) = 48)
def SGN:q0a:=⟨#[123,125,40,41,91,93,47,59,58,126,64,61,94,44,46,124,43,42,60,62,45]⟩
def LexS (s:q0a):Prop:=0 < s.size∧Sm (bt s ((0:Nat):Int)) = false∧Dg (bt s ((0:Nat):Int)) = false∧bt s ((0:Nat):Int)≠34∧∃ q,q3p.f SGN (bt s ((0:Nat):Int)) = some q∧q≥0
/-- s begins with this token, of m letters. -/
inductive Lx (s:q0a):Int → q0a → Nat → Prop
 | name (m:Nat) (h:LexN s m):Lx s 1 (s.extract 0 m) m
 | num (m:Nat) (h:LexD s m):Lx s 2 (s.extract 0 m) m
 | sign (h:LexS s):Lx s 4 (s.extract 0 1) 1
theorem Lx.same {s s':q0a} {q:Int} {y:q0a} {m:Nat} (h:Lx s q y m) (ha:Agr s s' m) (hp:Stp s' m):Lx s' q y m:=by
 obtain ⟨h1,h2,h3⟩:=ha
 cases h with
 | name m h=>
  obtain ⟨a,b,c,d,e⟩:=h
  rw [← q9o h1 h2 (fun j _ hj=>h3 j hj)]
  exact .name m ⟨by rw [h3 0 (by omega)];exact a,b,c,h2,e.same ⟨h1,h2,h3⟩ hp⟩
 | num m h=>
  obtain ⟨a,b,c,d,e,f,g⟩:=h
  rw [← q9o h1 h2 (fun j _ hj=>h3 j hj)]
  refine .num m ⟨by rw [h3 0 (by omega)];exact a,b,c,h2,fun j hj=>by rw [h3 j hj];exact e j hj,fun hlt=>?_,by rw [h3 0 (by omega)];exact g⟩
  rcases hp hlt with k | k | k | k <;> rw [k] <;> decide
 | sign h=>
  obtain ⟨a,b,c,d,e⟩:=h
  rw [← q9o h1 h2 (fun j _ hj=>h3 j hj)]
  exact .sign ⟨by omega,by rw [h3 0 (by omega)];exact b,by rw [h3 0 (by omega)];exact c,by rw [h3 0 (by omega)];exact d,by rw [h3 0 (by omega)];exact e⟩
end
section
theorem nonnil {s:q0a} (h0:0 < s.size) : ¬ s.toList = ([]:List UInt8):=by
 rw [ByteArray.toList_eq]
 intro h
 have:=congrArg List.length h
 rw [q4R] at this
 have:s.size = 0:=this
 omega
theorem q9C {s:q0a} (hs:s.size≤20000) (h0:0 < s.size) {m:Nat} (hb:Sm (bt s ((0:Nat):Int)) = true) (h:NRun s 1 m):q1B (fun k=>q1k.f k s) (m:Int):=by
 have hb:Sm (bt s 0) = true:=hb
 unfold q1k.f
 simp only [q4a,hb,Option.bind_some]
 exact cNeg (nonnil h0) (cPO (cSuc (by simp only [q1k.j0];exact cND (h.comes hs))))
theorem q9E {s:q0a} (hs:s.size≤20000) {m:Nat} (hm:m≤s.size) (h1:∀ j:Nat,j < m → Dg (bt s ((j:Nat):Int)) = true) (h2:m < s.size → Dg (bt s ((m:Nat):Int)) = false):q1B (fun k=>q2j.f k s) (m:Int):=by
 obtain ⟨t,t2,hd,hn,d1,d2⟩:=q6C s hs
 obtain rfl:t = m:=by
  rcases Nat.lt_trichotomy t m with h | h | h
  ·have a:=hn (by omega)
   rw [h1 t h] at a
   cases a
  ·exact h
  ·have a:=hd m h
   rw [h2 (by omega)] at a
   cases a
 exact d1
theorem Lx.comes {s:q0a} (hs:s.size≤20000) {q:Int} {y:q0a} {m:Nat} (h:Lx s q y m):q1B (fun k=>q3S.f k s) (q,y,0,(m:Int),0):=by
 have ti:∀ t:Nat,((t:Nat):Int).toNat = t:=Int.toNat_natCast
 unfold q3S.f
 cases h with
 | name m h=>
  obtain ⟨a,b,c,d,e⟩:=h
  have a':Sm (bt s 0) = true:=a
  refine cPO ?_
  simp only [q4a,a',Option.bind_some]
  refine cPos trivial (cBin (q9C hs (by omega) a e) ?_)
  simp only [ti]
  exact cNO (cPO (cPO (cCon _)))
 | num m h=>
  obtain ⟨a,b,c,d,e,f,g⟩:=h
  have a':Sm (bt s 0) = false:=a
  have e0:Dg (bt s 0) = true:=e 0 (by omega)
  have he:(s.extract 0 m).size = m:=by rw [q4F d];omega
  have hbt:∀ j,j < m → bt (s.extract 0 m) ((j:Nat):Int) = bt s ((j:Nat):Int):=fun j hj=>by rw [q4q d (by omega),Nat.zero_add]
  obtain ⟨v,hv⟩:=q8Y (s.extract 0 m) (by omega) (by omega) (fun j hj=>by rw [he] at hj;rw [hbt j hj];exact e j hj)
  have hb0:bt (s.extract 0 m) 0 = bt s ((0:Nat):Int):=hbt 0 (by omega)
  rw [he,hb0,if_neg g] at hv
  refine cPO ?_
  simp only [q4a,q4x,a',e0,Option.bind_some]
  refine cND (cPos trivial (cBin (q9E hs d e f) ?_))
  simp only [ti]
  exact cNO (cPO (cPO (cBin hv (cPos rfl (cCon _)))))
 | sign h=>
  obtain ⟨z,a,b,c,q,e1,e2⟩:=h
  have a':Sm (bt s 0) = false:=a
  have b':Dg (bt s 0) = false:=b
  have e1':q3p.f (⟨#[123,125,40,41,91,93,47,59,58,126,64,61,94,44,46,124,43,42,60,62,45]⟩:q0a) (bt s 0) = some q:=e1
  refine cPO ?_
  simp only [q4a,q4x,a',b',e1',Option.bind_some]
  exact cND (cND (cNeg c (cPos e2 (cPD (cPO (cCon _))))))
theorem Lx.size {s:q0a} {q:Int} {y:q0a} {m:Nat} (h:Lx s q y m):1≤m∧m≤s.size∧m≤62:=by
 cases h with
 | name m h=>exact ⟨h.2.1,h.2.2.2.1,by have:=h.2.2.1;omega⟩
 | num m h=>exact ⟨h.2.1,h.2.2.2.1,by have:=h.2.2.1;omega⟩
 | sign h=>exact ⟨q0e _,h.1,by decide⟩
theorem Lx.head {s:q0a} {q:Int} {y:q0a} {m:Nat} (h:Lx s q y m) : ¬ Wh (bt s ((0:Nat):Int)):=by
 have key:∀ c:Int,Wh c → Sm c = false∧Dg c = false∧c≠34∧∀ q,q3p.f SGN c = some q → ¬ q≥0:=by
  intro c hc
  have e:∀ c ∈ ([10,32,9,13,35]:List Int),q3p.f SGN c = some (-1)∧Sm c = false∧Dg c = false∧c≠34:=by decide +kernel
  obtain ⟨e1,e2,e3,e4⟩:=e c (by rcases hc with rfl | rfl | rfl | rfl | rfl <;> decide)
  exact ⟨e2,e3,e4,fun q hq k=>by rw [← Option.some.inj (e1.symm.trans hq)] at k;exact absurd k (by decide)⟩
 intro hw
 obtain ⟨k1,k2,k3,k4⟩:=key _ hw
 cases h with
 | name m h=>rw [h.1] at k1;cases k1
 | num m h=>have:=h.2.2.2.2.1 0 h.2.1;rw [k2] at this;cases this
 | sign h=>
  obtain ⟨_,_,_,_,q,e1,e2⟩:=h
  exact k4 q e1 e2
end
section
theorem bt_left {a b:q0a} {j:Nat} (h:j < a.size):bt (a++b) ((j:Nat):Int) = bt a ((j:Nat):Int):=by
 have h2:j < (a++b).size:=by rw [ByteArray.size_append];omega
 have e1:=q4m (a++b) ((j:Nat):Int) (by rw [Int.toNat_natCast];exact h2)
 have e2:=q4m a ((j:Nat):Int) (by rw [Int.toNat_natCast];exact h)
 simp only [Int.toNat_natCast] at e1 e2
 rw [← e1,← e2,ByteArray.getElem_append_left h]
theorem v0C {a b:q0a} {j:Nat} (h:j < b.size):bt (a++b) ((a.size + j:Nat):Int) = bt b ((j:Nat):Int):=by
 have h2:a.size + j < (a++b).size:=by rw [ByteArray.size_append];omega
 have e1:=q4m (a++b) ((a.size + j:Nat):Int) (by rw [Int.toNat_natCast];exact h2)
 have e2:=q4m b ((j:Nat):Int) (by rw [Int.toNat_natCast];exact h)
 simp only [Int.toNat_natCast] at e1 e2
 rw [← e1,← e2,ByteArray.getElem_append_right (by omega)]
 simp
theorem bt_one (c:UInt8):bt (⟨#[c]⟩:q0a) ((0:Nat):Int) = (c.toNat:Int):=rfl
end
section
theorem q9d (n:S25) (h:Small n) (d:Int):∃ e,q1B (fun k=>q1p.f k n.f0 n.f1 n.f2 n.f3 d) e:=by
 obtain ⟨e,h1,_⟩:=q5s n h d
 exact ⟨e,h1⟩
theorem q6t (x:List S25) (hl:x.length≤1048576) (d:Int) (ih:∀ y,y ∈ x → Small y) (m i:Nat) (hi:i + m = x.length):∃ e,q1B (fun k=>q1p.l0 k d x (x.length:Int) (i:Int)) e:=by
 obtain ⟨e,h1,_⟩:=q7e x hl 0 ⟨#[]⟩ 0 d (fun y hy=>q5s y (ih y hy) _) m i hi
 exact ⟨e,h1⟩
theorem q6v (s:q0a):∃ r,q1B (fun k=>q2G.f k s) r:=by
 obtain ⟨r,h,_⟩:=q5E s
 exact ⟨r,h⟩
theorem q8C (s:q0a):∃ r,q1B (fun k=>q2g.f k s) r:=by
 obtain ⟨r,h,_⟩:=q5h s
 exact ⟨r,h⟩
theorem q1B.same {α:Type} {f:Nat → Option α} {r r':α} (h:q1B f r) (h':q1B f r'):r = r':=by
 obtain ⟨K,h⟩:=h
 obtain ⟨K',h'⟩:=h'
 exact q0c ((h (max K K') (by omega)).symm.trans (h' (max K K') (by omega)))
def q4s (b:q0a):Prop:=q1B (fun k=>q2g.f k b) true
/-- A node without an error. -/
inductive Vl:S25 → Prop
 | mk (a:Int) (b:q0a) (c:Int) (x:List S25) (hS:Shp a b c x = true) (hn:Nm a = true → q4s b) (hc:0≤c∧c≤9) (hl:x.length≤1048576) (hk:∀ y,y ∈ x → Vl y):Vl ⟨a,b,c,x⟩
theorem q8B (x:List S25) (hl:x.length≤1048576) (d:Int) (hk:∀ y,y ∈ x → Small y):∀ (m i:Nat),i + m = x.length → q1B (fun k=>q1p.l0 k d x (x.length:Int) (i:Int)) 0 → ∀ j (h:j < x.length),i≤j → q1B (fun k=>q1p.f k x[j].f0 x[j].f1 x[j].f2 x[j].f3 (wrap64 (d + 1))) 0:=by
 intro m
 induction m with
 | zero=>intro i hi _ j h hij;omega
 | succ m IH=>
  intro i hi hz j h hij
  have hlt:i < x.length:=by omega
  obtain ⟨e,he⟩:=q9d x[i] (hk _ (List.getElem_mem hlt)) (wrap64 (d + 1))
  by_cases h0:e = 0
  ·subst h0
   rcases q3s hij with rfl | hij
   ·exact he
   ·obtain ⟨e',he'⟩:=q6t x hl d hk m (i + 1) (by omega)
    have hs:q1B (fun k=>q1p.l0 k d x (x.length:Int) (i:Int)) e':=by
     apply cSuc
     simp only [q1p.l0,rd25 hlt,q2t (show i≤1048576 by omega)]
     exact cPO (cPO (cPO (cBin he (cPos rfl he'))))
    obtain rfl:=hs.same hz
    exact IH (i + 1) (by omega) he' j h hij
  ·exfalso
   have hs:q1B (fun k=>q1p.l0 k d x (x.length:Int) (i:Int)) e:=by
    apply cSuc
    simp only [q1p.l0,rd25 hlt]
    exact cPO (cPO (cPO (cBin he (cNeg h0 (cCon _)))))
   exact h0 (hs.same hz)
theorem q7J:∀ (n:S25),Small n → ∀ d:Int,q1B (fun k=>q1p.f k n.f0 n.f1 n.f2 n.f3 d) 0 → Vl n
 | ⟨a,b,c,x⟩,hs,d,h=>by
  cases hs with
  | mk _ _ _ _ hl hk=>
  obtain ⟨e,L1⟩:=q6t x hl d hk x.length 0 (by omega)
  have s1:=q6l a b c x hl
  obtain ⟨u,u1⟩:=q8C b
  have J:∀ z:Bool,q1B (fun k=>q1p.j0 k d z a b c x) (if z = true then 2 else if c < 0 then 6 else if c > 9 then 6 else e):=by
   intro z
   apply cSuc
   simp only [q1p.j0]
   refine cIte (fun hz=>cVal (by rw [if_pos hz])) (fun hz=>?_)
   rw [if_neg hz]
   refine cIte (fun h0=>cVal (by rw [if_pos h0])) (fun h0=>?_)
   rw [if_neg h0]
   refine cIte (fun h9=>cVal (by rw [if_pos h9])) (fun h9=>?_)
   rw [if_neg h9]
   exact L1
  by_cases h12:d > 12
  ·have:q1B (fun k=>q1p.f k a b c x d) 3:=cSuc (by simp only [q1p.f];exact cPos h12 (cCon _))
   exact absurd (this.same h) (by decide)
  by_cases hS:Shp a b c x = true
  case neg=>
   have:q1B (fun k=>q1p.f k a b c x d) 1:=cSuc (by simp only [q1p.f];exact cNeg h12 (cBin s1 (cNeg hS (cCon _))))
   exact absurd (this.same h) (by decide)
  have fin:∀ z:Bool,(Nm a = true → z = !u) → (if z = true then (2:Int) else if c < 0 then 6 else if c > 9 then 6 else e) = 0 → Vl ⟨a,b,c,x⟩:=by
   intro z hz he
   by_cases hzt:z = true
   ·rw [if_pos hzt] at he;exact absurd he (by decide)
   rw [if_neg hzt] at he
   by_cases h0:c < 0
   ·rw [if_pos h0] at he;exact absurd he (by decide)
   rw [if_neg h0] at he
   by_cases h9:c > 9
   ·rw [if_pos h9] at he;exact absurd he (by decide)
   rw [if_neg h9] at he
   subst he
   refine .mk a b c x hS (fun hn=>?_) ⟨by omega,by omega⟩ hl (fun y hy=>?_)
   ·have:u = true:=by
     have:=hz hn
     cases u with
     | true=>rfl
     | false=>exact absurd this (by simpa using hzt)
    rw [this] at u1
    exact u1
   ·obtain ⟨j,hj,rfl⟩:=List.getElem_of_mem hy
    exact q7J x[j] (hk _ hy) _ (q8B x hl d hk x.length 0 (by omega) L1 j hj (q2S _))
  by_cases hn:Nm a = true
  ·have:q1B (fun k=>q1p.f k a b c x d) _:=cSuc (by
    simp only [q1p.f,q6A,Option.bind_some]
    exact cNeg h12 (cBin s1 (cPos hS (cPos hn (cBin u1 (J (!u)))))))
   exact fin (!u) (fun _=>rfl) (this.same h)
  ·have:q1B (fun k=>q1p.f k a b c x d) _:=cSuc (by
    simp only [q1p.f,q6A,Option.bind_some]
    exact cNeg h12 (cBin s1 (cPos hS (cNeg hn (J false)))))
   exact fin false (fun k=>absurd k hn) (this.same h)
 termination_by n=>SizeOf.sizeOf n
 decreasing_by
  have:=List.sizeOf_lt_of_mem hy
  simp only [S25.mk.sizeOf_spec]
  omega
/-- The text of a number of one digit. -/
def dig (c:Int):q0a:=⟨#[(48 + c).toNat.toUInt8]⟩
set_option maxRecDepth 100000 in
theorem dig_tab:∀ c:Fin 10,q1G.f 10 (dig (c.val:Int)) = some ((c.val:Int),true):=by decide +kernel
theorem q7w {c:Int} (h:0≤c∧c≤9):Num (dig c) c:=by
 obtain ⟨n,rfl⟩:∃ n:Nat,c = (n:Int):=⟨c.toNat,by omega⟩
 exact q1B.mono (fun k=>q1G.mono _ k) 10 (dig_tab ⟨n,by omega⟩)
theorem q4I {b:q0a} (h:q4s b):Nme b:=by
 obtain ⟨r,hr⟩:=q6v b
 have key:q1B (fun k=>q2g.f k b) (if r = true then (if b.toList = ([117]:List UInt8) then false else (b.toList != ([120]:List UInt8))) else false):=by
  unfold q2g.f
  refine cBin hr ?_
  refine cIte (fun h1=>?_) (fun h1=>cVal (by rw [if_neg h1]))
  rw [if_pos h1]
  exact cIte (fun h2=>cVal (by rw [if_pos h2])) (fun h2=>cVal (by rw [if_neg h2]))
 have e:=key.same h
 by_cases h1:r = true
 ·rw [if_pos h1] at e
  by_cases h2:b.toList = ([117]:List UInt8)
  ·rw [if_pos h2] at e;cases e
  ·rw [if_neg h2] at e
   exact ⟨h2,by simpa using e⟩
 ·rw [if_neg h1] at e;cases e
end
section
/-- From c on b holds these tokens. -/
inductive Rd (b:q0a):Nat → List Tok → Prop
 | fin:Rd b b.size []
 | nl (c:Nat) (ts:List Tok) (h:c < b.size) (hb:bt b ((c:Nat):Int) = 10) (r:Rd b (c + 1) ts):Rd b c ts
 | white (c:Nat) (ts:List Tok) (h:c < b.size) (hb:bt b ((c:Nat):Int) = 32) (r:Rd b (c + 1) ts):Rd b c ts
 | tok (c m:Nat) (q:Int) (y:q0a) (ts:List Tok) (h:Lx (b.extract c b.size) q y m) (hc:c≤b.size) (r:Rd b (c + m) ts):Rd b c ((q,y) :: ts)
/-- The cutter gives them. -/
theorem Rd.comes {b:q0a} (hb:b.size≤20000) {c:Nat} {ts:List Tok} (h:Rd b c ts):∀ (xs:List S36) (x:Nat),xs.length≤c → x≤c + 1 → ∃ l',l'.map (fun t=>(t.f0,t.f1)) = ts∧q1B (fun k=>q1q.l0 k b xs (x:Int) ((c:Nat):Int)) (xs++l',0,0):=by
 induction h with
 | fin=>
  intro xs x hx hx1
  refine ⟨[],rfl,cSuc ?_⟩
  simp only [q1q.l0,List.append_nil]
  exact cNO (cCon _)
 | nl c ts h hb' r ih=>
  intro xs x hx hx1
  obtain ⟨l',h1,h2⟩:=ih xs (x + 1) (by omega) (by omega)
  refine ⟨l',h1,cSuc ?_⟩
  simp only [q1q.l0,q5d (show c≤1000000 by omega),q5d (show x≤1000000 by omega)]
  exact cPO (cPO (cPos hb' h2))
 | white c ts h hb' r ih=>
  intro xs x hx hx1
  obtain ⟨l',h1,h2⟩:=ih xs x (by omega) (by omega)
  exact ⟨l',h1,t_white b hb h (.inl hb') h2⟩
 | tok c m q y ts h hc r ih=>
  intro xs x hx hx1
  have hz:=h.size
  have hez:(b.extract c b.size).size = b.size - c:=q4F (q0e _)
  have g0:bt (b.extract c b.size) ((0:Nat):Int) = bt b ((c:Nat):Int):=by rw [q4q (Nat.le_refl _) (by omega),Nat.add_zero]
  have hw:=h.head
  rw [g0] at hw
  have hn1 : ¬ (bt b ((c:Nat):Int) = 10∨bt b ((c:Nat):Int) = 32∨bt b ((c:Nat):Int) = 9∨bt b ((c:Nat):Int) = 13):=by
   intro k
   rcases k with k | k | k | k
   ·exact hw (.inl k)
   ·exact hw (.inr (.inl k))
   ·exact hw (.inr (.inr (.inl k)))
   ·exact hw (.inr (.inr (.inr (.inl k))))
  have hn2:bt b ((c:Nat):Int)≠35:=fun k=>hw (.inr (.inr (.inr (.inr k))))
  have tn:((c:Nat):Int).toNat = c:=Int.toNat_natCast _
  have z1:1≤m:=hz.1
  have z2:c + m≤b.size:=by have z3:=hz.2;rw [hez] at z3;clear ih hez hz;omega
  clear hz
  have a1:(xs++[(⟨q,y,(x:Int)⟩:S36)]).length≤c + m:=by rw [List.length_append,List.length_singleton];clear ih hez g0 hw;omega
  have hwr:wrap64 (((c:Nat):Int) + (m:Int)) = ((c + m:Nat):Int):=by clear ih hez a1;unfold wrap64;omega
  have b1:c < b.size:=by clear ih hwr a1;omega
  have b2:((c:Nat):Int)≤(b.size:Int):=by clear ih hwr a1;omega
  have b3:xs.length < 4398046511104:=by clear ih hwr a1 hez;omega
  have b4:(b.extract c b.size).size≤20000:=by rw [hez];clear ih hwr a1;omega
  have b5:x≤c + m + 1:=by clear ih hwr a1;omega
  obtain ⟨l',h1,h2⟩:=ih (xs++[⟨q,y,(x:Int)⟩]) x a1 b5
  rw [List.append_assoc] at h2
  exact ⟨⟨q,y,(x:Int)⟩ :: l',by rw [List.map_cons,h1],t_other b b1 hn1 (t_next tn (Int.natCast_nonneg _) b2 hwr b3 hn2 (h.comes b4) h2)⟩
theorem Rd.tokens {b:q0a} (hb:b.size≤20000) {ts:List Tok} (h:Rd b 0 ts):∃ l:List S36,l.map (fun t=>(t.f0,t.f1)) = ts∧q1B (fun k=>q1q.f k b) (l,0,0):=by
 obtain ⟨l,h1,h2⟩:=h.comes hb [] 1 (q0e _) (q0e _)
 refine ⟨l,h1,?_⟩
 unfold q1q.f
 exact cNO h2
/-- A word is cut as this token. -/
def Wk (u:q0a) (t:Tok):Prop:=Lx u t.1 t.2 u.size
/-- What may stand behind a word. -/
def Bhd (b:q0a) (c:Nat):Prop:=c < b.size → bt b ((c:Nat):Int) = 32∨bt b ((c:Nat):Int) = 10∨bt b ((c:Nat):Int) = 9∨bt b ((c:Nat):Int) = 41
/-- u stands in b at c. -/
def q4X (b u:q0a) (c:Nat):Prop:=c + u.size≤b.size∧∀ j:Nat,j < u.size → bt b ((c + j:Nat):Int) = bt u ((j:Nat):Int)
theorem Rd.word {b u:q0a} {c:Nat} {t:Tok} {ts:List Tok} (h:Wk u t) (hs:q4X b u c) (hp:Bhd b (c + u.size)) (r:Rd b (c + u.size) ts):Rd b c (t :: ts):=by
 obtain ⟨h1,h2⟩:=hs
 have hez:(b.extract c b.size).size = b.size - c:=q4F (q0e _)
 refine .tok c u.size t.1 t.2 ts (Lx.same h ⟨q0e _,by omega,fun j hj=>?_⟩ (fun hlt=>?_)) (by omega) r
 ·rw [q4q (Nat.le_refl _) (by omega)]
  exact h2 j hj
 ·rw [q4q (Nat.le_refl _) (by omega)]
  exact hp (by omega)
theorem Rd.sgn {b:q0a} {c:Nat} {v:UInt8} {ts:List Tok} (h:c < b.size) (hb:bt b ((c:Nat):Int) = (v.toNat:Int)) (hv:LexS ⟨#[v]⟩) (r:Rd b (c + 1) ts):Rd b c (sg v :: ts):=by
 have hez:(b.extract c b.size).size = b.size - c:=q4F (q0e _)
 have g0:bt (b.extract c b.size) ((0:Nat):Int) = bt (⟨#[v]⟩:q0a) ((0:Nat):Int):=by rw [q4q (Nat.le_refl _) (by omega),Nat.add_zero,bt_one];exact hb
 have hx:(b.extract c b.size).extract 0 1 = ⟨#[v]⟩:=by
  apply q6z
  ·rw [q4F (by omega)];rfl
  ·intro j hj
   rw [q4F (by omega)] at hj
   obtain rfl:j = 0:=by omega
   rw [q4q (by omega) (by omega),Nat.add_zero]
   exact g0
 have key:Lx (b.extract c b.size) 4 ((b.extract c b.size).extract 0 1) 1:=by
  obtain ⟨z,e1,e2,e3,e4⟩:=hv
  exact .sign ⟨by omega,by rw [g0];exact e1,by rw [g0];exact e2,by rw [g0];exact e3,by rw [g0];exact e4⟩
 rw [hx] at key
 exact .tok c 1 4 ⟨#[v]⟩ ts key (by omega) r
end
section
/-- The letters of words, with one more each. -/
def wid:List q0a → Nat
 | []=>0
 | u :: us=>u.size + 1 + wid us
theorem q4J (a b:List q0a):wid (a++b) = wid a + wid b:=by
 induction a with
 | nil=>simp [wid]
 | cons u us ih=>simp only [List.cons_append,wid,ih];omega
theorem q5k (a:List q0a):a.length≤wid a:=by
 induction a with
 | nil=>simp [wid]
 | cons u us ih=>simp only [List.length_cons,wid];omega
inductive Prs:List q0a → List Tok → Prop
 | nil:Prs [] []
 | cons (u:q0a) (t:Tok) (us:List q0a) (ts:List Tok) (h:Wk u t) (r:Prs us ts):Prs (u :: us) (t :: ts)
theorem Prs.app {a:List q0a} {s:List Tok} {b:List q0a} {t:List Tok} (h:Prs a s) (h':Prs b t):Prs (a++b) (s++t):=by
 induction h with
 | nil=>exact h'
 | cons u t us ts h r ih=>exact .cons _ _ _ _ h ih
theorem Prs.one {u:q0a} {t:Tok} (h:Wk u t):Prs [u] [t]:=.cons _ _ _ _ h .nil
def SG:List UInt8:=[45,58,126,64,91,93,40,41,47,94,123,125,61,59]
theorem sgn_tab:∀ v ∈ SG,Sm (bt (⟨#[v]⟩:q0a) ((0:Nat):Int)) = false∧Dg (bt (⟨#[v]⟩:q0a) ((0:Nat):Int)) = false∧bt (⟨#[v]⟩:q0a) ((0:Nat):Int)≠34∧(match q3p.f SGN (bt (⟨#[v]⟩:q0a) ((0:Nat):Int)) with | some q=>decide (q≥0) | none=>false) = true:=by decide +kernel
theorem q7t {v:UInt8} (h:v ∈ SG):LexS ⟨#[v]⟩:=by
 obtain ⟨h1,h2,h3,h4⟩:=sgn_tab v h
 refine ⟨Nat.one_pos,h1,h2,h3,?_⟩
 cases hq:q3p.f SGN (bt (⟨#[v]⟩:q0a) ((0:Nat):Int)) with
 | none=>rw [hq] at h4;cases h4
 | some q=>rw [hq] at h4;exact ⟨q,rfl,q0b h4⟩
theorem q8g {u:q0a} {m:Nat} (h:u.size = m):u.extract 0 m = u:=by
 subst h
 apply q6z
 ·rw [q4F (Nat.le_refl _),Nat.sub_zero]
 ·intro j hj
  rw [q4F (Nat.le_refl _),Nat.sub_zero] at hj
  rw [q4q (Nat.le_refl _) (by omega),Nat.zero_add]
theorem q4n {v:UInt8} (h:v ∈ SG):Wk ⟨#[v]⟩ (sg v):=by
 have:=Lx.sign (q7t h)
 rw [q8g (show (⟨#[v]⟩:q0a).size = 1 from rfl)] at this
 exact this
theorem q8S {c:Int} (h:0≤c∧c≤9):Wk (dig c) (2,dig c):=by
 obtain ⟨n,rfl⟩:∃ n:Nat,c = (n:Int):=⟨c.toNat,by omega⟩
 have tab:∀ n:Fin 10,Sm (bt (dig (n.val:Int)) ((0:Nat):Int)) = false∧Dg (bt (dig (n.val:Int)) ((0:Nat):Int)) = true:=by decide +kernel
 obtain ⟨a,b⟩:=tab ⟨n,by omega⟩
 have hz:(dig (n:Int)).size = 1:=rfl
 have hd:∀ j:Nat,j < 1 → Dg (bt (dig (n:Int)) ((j:Nat):Int)) = true:=fun j hj=>by
  obtain rfl:j = 0:=by omega
  exact b
 have:=Lx.num (s:=dig (n:Int)) 1 ⟨a,q0e _,by decide,by omega,hd,fun k=>absurd k (by omega),fun k=>absurd k.1 (by decide)⟩
 rw [q8g hz] at this
 exact this
theorem q9I {b:q0a} (h:LexN b b.size):Wk b (1,b):=by
 have:=Lx.name b.size h
 rw [q8g rfl] at this
 exact this
theorem q7L {v:UInt8} (h:v = 117∨v = 120):Wk ⟨#[v]⟩ (1,⟨#[v]⟩):=by
 apply q9I
 refine ⟨?_,q0e _,by show (1:Nat)≤20;decide,q0e _,.stop 1 (q0e _) (fun k=>absurd k (Nat.lt_irrefl _))⟩
 rcases h with rfl | rfl <;> decide
theorem q6Q {b:q0a} (hN:q1B (fun k=>q2G.f k b) true):Wk b (1,b)∧b.size≤20:=by
 unfold q2G.f at hN
 have h0 : ¬ b.toList = ([]:List UInt8):=fun k=>by cases (cPos k (cCon false)).same hN
 have hz:0 < b.size:=Nat.pos_of_ne_zero (fun k=>h0 (by
  have:b.data.toList.length = 0:=k
  rw [ByteArray.toList_eq]
  exact List.eq_nil_of_length_eq_zero this))
 have h20:(b.size:Int)≤20:=by
  by_cases k:(b.size:Int)≤20
  ·exact k
  ·cases (cNeg h0 (cNeg k (cCon false))).same hN
 have key:∀ t:Int,q1B (fun k=>q1k.f k b) t → t = (b.size:Int):=fun t ht=>by
  have:=(cNeg h0 (cPos h20 (cBin ht (cCon (t == (b.size:Int)))))).same hN
  exact beq_iff_eq.1 this
 have hs:b.size≤20000:=by omega
 cases hb:Sm (bt b ((0:Nat):Int)) with
 | false=>
  have:=key 0 ((q6r b hs hz).2 hb)
  omega
 | true=>
  obtain ⟨t,ht⟩:=NRun.ex b (b.size - 1) 1 (by omega)
  have e:=key t (q9C hs hz hb ht)
  obtain rfl:t = b.size:=by omega
  exact ⟨q9I ⟨hb,by omega,by omega,q0e _,ht⟩,by omega⟩
theorem q4u {b:q0a} (h:q4s b):Wk b (1,b)∧b.size≤20:=by
 obtain ⟨r,hr⟩:=q6v b
 cases r with
 | true=>exact q6Q hr
 | false=>
  have key:q1B (fun k=>q2g.f k b) false:=by
   unfold q2g.f
   exact cBin hr (cND (cCon _))
  cases key.same h
end
section
/-- What is written of a node. -/
structure Wr (n:S25) (m:Nat) (ws:List q0a) (ts:List Tok):Prop where
 w:q1B (fun k=>q2d.f k n.f0 n.f1 n.f2 n.f3) ws
 r:q1B (fun k=>q0y.f k n.f0 n.f1 n.f2 n.f3) ws
 p:Prs ws ts
 t:n.f0≠5 → Tk n ts
 b:TkB n ts
 z:wid ws + 2≤27 * m
inductive Wrs:List S25 → Nat → List (List q0a) → List (List Tok) → Prop
 | nil:Wrs [] 0 [] []
 | cons (n:S25) (ns:List S25) (m ms:Nat) (ws:List q0a) (wss:List (List q0a)) (ts:List Tok) (tss:List (List Tok)) (h:Wr n m ws ts) (r:Wrs ns ms wss tss):Wrs (n :: ns) (m + ms) (ws :: wss) (ts :: tss)
theorem Wrs.len {l:List S25} {m:Nat} {wss:List (List q0a)} {tss:List (List Tok)} (h:Wrs l m wss tss):wss.length = l.length:=by
 induction h with
 | nil=>rfl
 | cons n ns m ms ws wss ts tss h r ih=>rw [List.length_cons,List.length_cons,ih]
theorem Wrs.wr {l:List S25} {m:Nat} {wss:List (List q0a)} {tss:List (List Tok)} (h:Wrs l m wss tss):∀ i (h:i < l.length) (h':i < wss.length),q1B (fun k=>q2d.f k l[i].f0 l[i].f1 l[i].f2 l[i].f3) wss[i]∧q1B (fun k=>q0y.f k l[i].f0 l[i].f1 l[i].f2 l[i].f3) wss[i]:=by
 induction h with
 | nil=>intro i h;exact absurd h (by simp)
 | cons n ns m ms ws wss ts tss h r ih=>
  intro i hi hi'
  cases i with
  | zero=>exact ⟨h.w,h.r⟩
  | succ i=>exact ih i (by simpa using hi) (by simpa using hi')
theorem Wrs.wide {l:List S25} {m:Nat} {wss:List (List q0a)} {tss:List (List Tok)} (h:Wrs l m wss tss):wid wss.flatten + 2 * wss.length≤27 * m:=by
 induction h with
 | nil=>simp [wid]
 | cons n ns m ms ws wss ts tss h r ih=>
  have:=h.z
  rw [List.flatten_cons,q4J,List.length_cons]
  omega
theorem wrs_of {l:List S25} : ∀ {m:Nat} {ys:List q0a},(∀ y,y ∈ l → ∀ m1 y1,CntN y m1 y1 → m1≤260 → ∃ ws ts,Wr y m1 ws ts) → CntL l m ys → m≤260 → ∃ wss tss,Wrs l m wss tss:=by
 induction l with
 | nil=>
  intro m ys _ h _
  obtain ⟨rfl,rfl⟩:=h.nil_inv
  exact ⟨_,_,.nil⟩
 | cons x l IH=>
  intro m ys ih h hm
  obtain ⟨m1,m2,y1,y2,rfl,rfl,h1,h2⟩:=h.inv
  obtain ⟨ws,ts,hw⟩:=ih x (by simp) m1 y1 h1 (by omega)
  obtain ⟨wss,tss,hs⟩:=IH (fun y hy=>ih y (List.mem_cons_of_mem _ hy)) h2 (by omega)
  exact ⟨_,_,.cons _ _ _ _ _ _ _ _ hw hs⟩
section
variable {l:List S25} {wss:List (List q0a)} (hl:l.length≤1048576) (hw:wss.length = l.length)
include hl hw
theorem kids_N (hk:∀ i (h:i < l.length) (h':i < wss.length),q1B (fun k=>q2d.f k l[i].f0 l[i].f1 l[i].f2 l[i].f3) wss[i]) (a:Int) (b:q0a) (c:Int) (r:List q0a)
  (hr:q1B (fun k=>q1h.l0 k wss l (l.length:Int) ((l.length:Nat):Int) a b c l) r):∀ (d i:Nat),i + d = l.length → q1B (fun k=>q1h.l0 k (wss.take i) l (l.length:Int) ((i:Nat):Int) a b c l) r:=by
 intro d
 induction d with
 | zero=>
  intro i hi
  obtain rfl:i = l.length:=by omega
  rw [List.take_of_length_le (by omega)]
  exact hr
 | succ d IH=>
  intro i hi
  have h:i < l.length:=by omega
  have h':i < wss.length:=by omega
  apply cSuc
  simp only [q1h.l0,rd25 h,q2t (show i≤1048576 by omega)]
  refine cPO (cPO (cPO (cBin (hk i h h') (cPos (by rw [List.length_take];omega) ?_))))
  have:=IH (i + 1) (by omega)
  rw [List.take_succ_eq_append_getElem h'] at this
  exact this
theorem kids_P (hk:∀ i (h:i < l.length) (h':i < wss.length),q1B (fun k=>q2d.f k l[i].f0 l[i].f1 l[i].f2 l[i].f3) wss[i]) (a:Int) (b:q0a) (c:Int) (r:List q0a)
  (hr:q1B (fun k=>q2m.l0 k wss l (l.length:Int) ((l.length:Nat):Int) a b c l) r):∀ (d i:Nat),i + d = l.length → q1B (fun k=>q2m.l0 k (wss.take i) l (l.length:Int) ((i:Nat):Int) a b c l) r:=by
 intro d
 induction d with
 | zero=>
  intro i hi
  obtain rfl:i = l.length:=by omega
  rw [List.take_of_length_le (by omega)]
  exact hr
 | succ d IH=>
  intro i hi
  have h:i < l.length:=by omega
  have h':i < wss.length:=by omega
  apply cSuc
  simp only [q2m.l0,rd25 h,q2t (show i≤1048576 by omega)]
  refine cPO (cPO (cPO (cBin (hk i h h') (cPos (by rw [List.length_take];omega) ?_))))
  have:=IH (i + 1) (by omega)
  rw [List.take_succ_eq_append_getElem h'] at this
  exact this
end
theorem q6e {l:List S25} {wss:List (List q0a)} (hl:l.length≤1048576) (hw:wss.length = l.length) (hk:∀ i (h:i < l.length) (h':i < wss.length),q1B (fun k=>q2d.f k l[i].f0 l[i].f1 l[i].f2 l[i].f3) wss[i]) {a:Int} {b:q0a} {c:Int} {r:List q0a}
  (hn : ¬ (a = 7∧(q0p l 0).f0≠5∧(q0p l 0).f0≠7)) (hr:q1B (fun k=>q1h.l0 k wss l (l.length:Int) ((l.length:Nat):Int) a b c l) r):q1B (fun k=>q2d.f k a b c l) r:=by
 apply cSuc
 simp only [q2d.f]
 refine cNeg hn (cSuc ?_)
 simp only [q1h.f]
 exact kids_N hl hw hk a b c r hr l.length 0 (by omega)
theorem write_P {l:List S25} {wss:List (List q0a)} (hl:l.length≤1048576) (hw:wss.length = l.length) (hk:∀ i (h:i < l.length) (h':i < wss.length),q1B (fun k=>q2d.f k l[i].f0 l[i].f1 l[i].f2 l[i].f3) wss[i]) {a:Int} {b:q0a} {c:Int} {r:List q0a}
  (hn:a = 7∧(q0p l 0).f0≠5∧(q0p l 0).f0≠7) (hr:q1B (fun k=>q2m.l0 k wss l (l.length:Int) ((l.length:Nat):Int) a b c l) r):q1B (fun k=>q2d.f k a b c l) r:=by
 apply cSuc
 simp only [q2d.f]
 refine cPos hn (cSuc ?_)
 simp only [q2m.f]
 exact kids_P hl hw hk a b c r hr l.length 0 (by omega)
theorem q5b (xss:List (List q0a)) {i:Nat} (h:i < xss.length):(xss.drop i).flatten = xss[i]++(xss.drop (i + 1)).flatten:=by rw [List.drop_eq_getElem_cons h,List.flatten_cons]
/-- Concat puts lists behind each other. -/
theorem q6I (xss:List (List q0a)) (hx:xss.length≤1048576) (ht:xss.flatten.length≤1048576):q1B (fun k=>q0t.f k xss) xss.flatten:=by
 have rl:∀ {i:Nat} (h:i < xss.length),q2A xss (i:Int) = xss[i]:=fun {i} h=>rdl7 h
 have L1:∀ (d i:Nat) (out:List q0a),i + d = xss.length → out.length + (xss.drop i).flatten.length≤1048576 → q1B (fun k=>q0t.l1 k out xss (xss.length:Int) ((i:Nat):Int)) (out++(xss.drop i).flatten):=by
  intro d
  induction d with
  | zero=>
   intro i out hi _
   rw [List.drop_eq_nil_of_le (by omega),List.flatten_nil,List.append_nil]
   apply cSuc
   simp only [q0t.l1]
   exact cNO (cCon _)
  | succ d IH=>
   intro i out hi hz
   have h:i < xss.length:=by omega
   rw [q5b xss h,List.length_append] at hz
   apply cSuc
   simp only [q0t.l1,rl h,q2t (show i≤1048576 by omega)]
   refine cPO (cPO (cPO (cPO ?_)))
   rw [q5b xss h,← List.append_assoc]
   exact IH (i + 1) _ (by omega) (by rw [List.length_append];omega)
 have L0:∀ (d i q:Nat),i + d = xss.length → q + (xss.drop i).flatten.length≤1048576 → q1B (fun k=>q0t.l0 k xss (q:Int) xss (xss.length:Int) ((i:Nat):Int)) xss.flatten:=by
  intro d
  induction d with
  | zero=>
   intro i q hi hq
   have hg:q3o.nil (q:Int) = some []:=if_pos (by omega)
   apply cSuc
   simp only [q0t.l0,hg,Option.bind_some]
   refine cNO ?_
   have:=L1 xss.length 0 [] (by omega) (by simpa using ht)
   rwa [List.drop_zero,List.nil_append] at this
  | succ d IH=>
   intro i q hi hq
   have h:i < xss.length:=by omega
   rw [q5b xss h,List.length_append] at hq
   have hwr:wrap64 ((q:Int) + ((xss[i]).length:Int)) = ((q + (xss[i]).length:Nat):Int):=by unfold wrap64;omega
   apply cSuc
   simp only [q0t.l0,rl h,q2t (show i≤1048576 by omega),hwr]
   exact cPO (cPO (cPO (cNO (IH (i + 1) _ (by omega) (by omega)))))
 unfold q0t.f
 exact L0 xss.length 0 0 (by omega) (by simpa using ht)
/-- Alternatives behind the first, with the closing sign. -/
def altw:List (List q0a) → List q0a
 | []=>[⟨#[41]⟩]
 | ws :: wss=>⟨#[47]⟩ :: (ws++altw wss)
def altt:List (List Tok) → List Tok
 | []=>[sg 41]
 | ts :: tss=>sg 47 :: (ts++altt tss)
theorem q5N (xss:List (List q0a)) {i:Nat} (h:i < xss.length):altw (xss.drop i) = ⟨#[47]⟩ :: (xss[i]++altw (xss.drop (i + 1))):=by rw [List.drop_eq_getElem_cons h];rfl
theorem v0m (wss:List (List q0a)):wid (altw wss) = wid wss.flatten + 2 * wss.length + 2:=by
 induction wss with
 | nil=>rfl
 | cons ws wss ih=>
  simp only [altw,wid,List.flatten_cons,q4J,ih,List.length_cons]
  show 1 + 1 + (wid ws + (wid wss.flatten + 2 * wss.length + 2)) = _
  omega
theorem v0M (wss:List (List q0a)) (hx:wss.length≤1048576):∀ (d i:Nat) (out:List q0a),1≤i → i + d = wss.length → out.length + (altw (wss.drop i)).length≤1048576 → q1B (fun k=>q1h.l1 k out wss (wss.length:Int) ((i:Nat):Int)) (out++altw (wss.drop i)):=by
 intro d
 induction d with
 | zero=>
  intro i out h1 hi hz
  rw [List.drop_eq_nil_of_le (by omega)] at hz ⊢
  apply cSuc
  simp only [q1h.l1]
  exact cNO (cPO (cCon _))
 | succ d IH=>
  intro i out h1 hi hz
  have h:i < wss.length:=by omega
  rw [q5N wss h,List.length_cons,List.length_append] at hz
  apply cSuc
  simp only [q1h.l1,rdl7 h,q2t (show i≤1048576 by omega),Option.bind_some]
  refine cPO (cPO (cPO (cPO (cPO (cPos (by rw [List.length_append,List.length_singleton];omega) ?_)))))
  have:=IH (i + 1) (out++[⟨#[47]⟩]++wss[i]) (by omega) (by omega) (by rw [List.length_append,List.length_append,List.length_singleton];omega)
  rw [q5N wss h]
  simpa only [List.append_assoc,List.cons_append,List.nil_append] using this
theorem v0a {l:List S25} {wss:List (List q0a)} (hl:l.length≤1048576) (hw:wss.length = l.length) (hk:∀ i (h:i < l.length) (h':i < wss.length),q1B (fun k=>q0y.f k l[i].f0 l[i].f1 l[i].f2 l[i].f3) wss[i]) (a:Int) (b:q0a) (c:Int) :
  ∀ (d i:Nat) (out:List q0a),1≤i → i + d = l.length → out.length + (altw (wss.drop i)).length≤1048576 → q1B (fun k=>q0y.l1 k out ((i:Nat):Int) a b c l) (out++altw (wss.drop i)):=by
 intro d
 induction d with
 | zero=>
  intro i out h1 hi hz
  rw [List.drop_eq_nil_of_le (by omega)] at hz ⊢
  have hz:out.length + 1≤1048576:=hz
  apply cSuc
  simp only [q0y.l1,Option.bind_some]
  exact cNO (cPos (by rw [List.length_singleton];omega) (cCon _))
 | succ d IH=>
  intro i out h1 hi hz
  have h:i < l.length:=by omega
  have h':i < wss.length:=by omega
  rw [q5N wss h',List.length_cons,List.length_append] at hz
  apply cSuc
  simp only [q0y.l1,rd25 h,q2t (show i≤1048576 by omega),Option.bind_some]
  refine cPO (cNO (cPos (by rw [List.length_singleton];omega) (cPO (cBin (hk i h h') (cPos (by rw [List.length_append,List.length_singleton];omega) ?_)))))
  have:=IH (i + 1) (out++[⟨#[47]⟩]++wss[i]) (by omega) (by omega) (by rw [List.length_append,List.length_append,List.length_singleton];omega)
  rw [q5N wss h']
  simpa only [List.append_assoc,List.cons_append,List.nil_append] using this
theorem q9x {l:List S25} {wss:List (List q0a)} (hl:l.length≤1048576) (hw:wss.length = l.length) (hk:∀ i (h:i < l.length) (h':i < wss.length),q1B (fun k=>q0y.f k l[i].f0 l[i].f1 l[i].f2 l[i].f3) wss[i]) (a:Int) (b:q0a) (c:Int) :
  ∀ (d i:Nat) (out:List q0a),i + d = l.length → out.length + (wss.drop i).flatten.length≤1048576 → q1B (fun k=>q0y.l0 k out ((i:Nat):Int) a b c l) (out++(wss.drop i).flatten):=by
 intro d
 induction d with
 | zero=>
  intro i out hi hz
  rw [List.drop_eq_nil_of_le (by omega),List.flatten_nil,List.append_nil]
  apply cSuc
  simp only [q0y.l0]
  exact cNO (cCon _)
 | succ d IH=>
  intro i out hi hz
  have h:i < l.length:=by omega
  have h':i < wss.length:=by omega
  rw [q5b wss h',List.length_append] at hz
  apply cSuc
  simp only [q0y.l0,rd25 h,q2t (show i≤1048576 by omega)]
  refine cPO (cPO (cBin (hk i h h') (cPO ?_)))
  rw [q5b wss h',← List.append_assoc]
  exact IH (i + 1) _ (by omega) (by rw [List.length_append];omega)
set_option maxRecDepth 100000 in
theorem v0w:∀ c:Fin 10,q2k.f 10 (c.val:Int) = some (dig (c.val:Int)):=by decide +kernel
theorem q5U {c:Int} (h:0≤c∧c≤9):q1B (fun k=>q2k.f k c) (dig c):=by
 obtain ⟨n,rfl⟩:∃ n:Nat,c = (n:Int):=⟨c.toNat,by omega⟩
 exact q1B.mono (fun k=>q2k.mono _ k) 10 (v0w ⟨n,by omega⟩)
theorem v0r:∀ c:Fin 10,strOfNums [(wrap64 (48 + (c.val:Int))) % 256] = dig (c.val:Int):=by decide +kernel
theorem q7q {c:Int} (h:0≤c∧c≤9):strOfNums [(wrap64 (48 + c)) % 256] = dig c:=by
 obtain ⟨n,rfl⟩:∃ n:Nat,c = (n:Int):=⟨c.toNat,by omega⟩
 exact v0r ⟨n,by omega⟩
theorem q9M {b:q0a} (h:b.toList = []):b = em:=by
 rw [ByteArray.toList_eq] at h
 cases b with
 | mk d=>
  have:d = #[]:=Array.toList_eq_nil_iff.1 h
  rw [this];rfl
theorem tl0:(⟨#[]⟩:q0a).toList = []:=by rw [ByteArray.toList_eq]
theorem q9W {a:Int} {b:q0a} {c:Int} {x:List S25} (h:Shp a b c x = true):(1≤a∧a≤12)∧(Nm a = true∨b = em)∧(a = 7∨c = 0)∧ShpT a x = true:=by
 unfold Shp at h
 simp only [Bool.and_eq_true,Bool.or_eq_true,decide_eq_true_eq] at h
 obtain ⟨⟨⟨⟨h1,h2⟩,h3⟩,h4⟩,h5⟩:=h
 exact ⟨⟨h1,h2⟩,h3.imp id q9M,h4,h5⟩
theorem shpT0 {a:Int} {x:List S25} (h:ShpT a x = true) (h5:a≠5) (h6:a≠6) (h7:a≠7) (h8:a≠8) (h12:a≠12):x = []:=by
 unfold ShpT at h
 rw [if_neg h5,if_neg h6,if_neg h7,if_neg h8,if_neg h12] at h
 exact List.eq_nil_of_length_eq_zero (q0b h)
theorem shpT1 {a:Int} {x:List S25} (h:ShpT a x = true) (ha:a = 7∨a = 8∨a = 12):∃ y,x = [y]:=by
 have:x.length = 1:=by
  unfold ShpT at h
  rcases ha with rfl | rfl | rfl <;> simpa using h
 exact List.length_eq_one_iff.1 this
theorem shpT5 {x:List S25} (h:ShpT 5 x = true):x.length≠1∧∀ y,y ∈ x → y.f0≠5:=by
 unfold ShpT no5 at h
 rw [if_pos rfl,Bool.and_eq_true,List.all_eq_true] at h
 exact ⟨q0b h.1,fun y hy=>q0b (h.2 y hy)⟩
theorem shpT6 {x:List S25} (h:ShpT 6 x = true):∃ n n2 ns,x = n :: n2 :: ns:=by
 unfold ShpT at h
 rw [if_neg (by decide),if_pos rfl] at h
 have h:=q0b h
 match x,h with
 | n :: n2 :: ns,_=>exact ⟨n,n2,ns,rfl⟩
end
section
/-- Words, each with a blank ahead of it. -/
def tls:List q0a → q0a
 | []=>em
 | u :: us=>((⟨#[32]⟩:q0a)++u)++tls us
/-- Words, joined by blanks. -/
def jn:List q0a → q0a
 | []=>em
 | u :: us=>u++tls us
theorem q8I (z:q0a):em++z = z:=ByteArray.empty_append
theorem app_em (z:q0a):z++em = z:=ByteArray.append_empty
theorem v0x (us:List q0a):(tls us).size = wid us:=by
 induction us with
 | nil=>rfl
 | cons u us ih=>
  simp only [tls,wid,ByteArray.size_append,ih]
  show 1 + u.size + wid us = _
  omega
theorem q5q (us:List q0a):(jn us).size≤wid us:=by
 cases us with
 | nil=>exact q0e _
 | cons u us=>simp only [jn,wid,ByteArray.size_append,v0x];omega
theorem q4X.left {b x y:q0a} {c:Nat} (h:q4X b (x++y) c):q4X b x c:=by
 obtain ⟨h1,h2⟩:=h
 rw [ByteArray.size_append] at h1
 refine ⟨by omega,fun j hj=>?_⟩
 rw [h2 j (by rw [ByteArray.size_append];omega),bt_left hj]
theorem q4X.right {b x y:q0a} {c:Nat} (h:q4X b (x++y) c):q4X b y (c + x.size):=by
 obtain ⟨h1,h2⟩:=h
 rw [ByteArray.size_append] at h1
 refine ⟨by omega,fun j hj=>?_⟩
 rw [show c + x.size + j = c + (x.size + j) by omega,h2 (x.size + j) (by rw [ByteArray.size_append];omega),v0C hj]
theorem q8M {b:q0a} {us:List q0a} {c:Nat} (h:q4X b (tls us) c) (hp:Bhd b (c + (tls us).size)):Bhd b c:=by
 cases us with
 | nil=>exact hp
 | cons u us=>
  intro _
  have:=h.left.left.2 0 Nat.one_pos
  rw [Nat.add_zero] at this
  exact .inl this
theorem Rd.tail {b:q0a} {us:List q0a} {ts:List Tok} (h:Prs us ts):∀ (c:Nat) (rest:List Tok),q4X b (tls us) c → Bhd b (c + (tls us).size) → Rd b (c + (tls us).size) rest → Rd b c (ts++rest):=by
 induction h with
 | nil=>intro c rest _ _ r;exact r
 | cons u t us ts h r ih=>
  intro c rest hs hp hr
  have e:(tls (u :: us)).size = 1 + u.size + (tls us).size:=by
   simp only [tls,ByteArray.size_append];rfl
  rw [e] at hp hr
  have s1:=hs.left.left
  have s2:=hs.left.right
  have s3:=hs.right
  have e1:(⟨#[32]⟩:q0a).size = 1:=rfl
  rw [e1] at s2
  rw [ByteArray.size_append,e1] at s3
  have h1:=s1.1
  rw [e1] at h1
  have hb:=s1.2 0 Nat.one_pos
  rw [Nat.add_zero] at hb
  rw [show c + (1 + u.size + (tls us).size) = c + (1 + u.size) + (tls us).size by omega] at hp hr
  refine .white c _ (by omega) hb (Rd.word h s2 ?_ ?_)
  ·rw [show c + 1 + u.size = c + (1 + u.size) by omega]
   exact q8M s3 hp
  ·rw [show c + 1 + u.size = c + (1 + u.size) by omega]
   exact ih _ rest s3 hp hr
theorem Rd.join {b:q0a} {ws:List q0a} {ts:List Tok} (h:Prs ws ts) {c:Nat} {rest:List Tok} (hs:q4X b (jn ws) c) (hp:Bhd b (c + (jn ws).size)) (hr:Rd b (c + (jn ws).size) rest):Rd b c (ts++rest):=by
 cases h with
 | nil=>exact hr
 | cons u t us ts h r=>
  have s1:=hs.left
  have s2:=hs.right
  have e:(jn (u :: us)).size = u.size + (tls us).size:=by simp only [jn,ByteArray.size_append]
  rw [e,← Nat.add_assoc] at hp hr
  exact Rd.word h s1 (q8M s2 hp) (Rd.tail r _ rest s2 hp hr)
/-- The two joins. -/
theorem q7M (us:List q0a):(tls us).data.toList = Lib.joinTail [32] (us.map (·.data.toList)):=by
 induction us with
 | nil=>rfl
 | cons u us ih=>
  simp only [tls,ByteArray.data_append,Array.toList_append,ih,List.map_cons,Lib.joinTail,List.flatten_cons]
end
section
theorem z1 (v:UInt8):(⟨#[v]⟩:q0a).size = 1:=rfl
theorem dz (c:Int):(dig c).size = 1:=rfl
theorem tl_no (v:UInt8) : ¬ (⟨#[v]⟩:q0a).toList = ([]:List UInt8):=by rw [tl1];simp
section
variable {a:Int} {b:q0a} {c:Int} {r:List q0a}
/-- A node without kids is written at once. -/
theorem q6a (hr:q1B (fun k=>q1h.l0 k [] [] (([]:List S25).length:Int) ((([]:List S25).length:Nat):Int) a b c []) r) (h7:a≠7):q1B (fun k=>q2d.f k a b c []) r:=
 q6e (wss:=[]) (by simp) rfl (fun i h=>absurd h (by simp)) (fun k=>h7 k.1) hr
end
theorem q4E {a:Int} {v:UInt8} (hs:q2b.f a = some ⟨#[v]⟩) (h7:a≠7) (h5:a≠5) (t:Tok) (ht:Tk ⟨a,em,0,[]⟩ [t]) (hw:Wk ⟨#[v]⟩ t)
  (hd:q1B (fun k=>q1h.l0 k [] [] (([]:List S25).length:Int) ((([]:List S25).length:Nat):Int) a em 0 []) [⟨#[v]⟩]):∃ ws ts,Wr ⟨a,em,0,[]⟩ 1 ws ts:=by
 refine ⟨[⟨#[v]⟩],[t],q6a hd h7,cSuc ?_,Prs.one hw,fun _=>ht,.part _ _ h5 ht,?_⟩
 ·simp only [q0y.f,hs,Option.bind_some]
  exact cNeg (tl_no v) (cCon _)
 ·simp only [wid,z1]
  omega
/-- Nodes without kids. -/
theorem wr_leaf {a:Int} {b:q0a} {c:Int} (hS:Shp a b c [] = true) (hn:Nm a = true → q4s b) (ha:a = 1∨a = 2∨a = 3∨a = 4∨a = 9∨a = 10∨a = 11):∃ ws ts,Wr ⟨a,b,c,[]⟩ 1 ws ts:=by
 obtain ⟨_,hb,hc,_⟩:=q9W hS
 have hc:c = 0:=hc.resolve_left (by omega)
 subst hc
 rcases ha with rfl | rfl | rfl | rfl | rfl | rfl | rfl
 ·obtain rfl:=hb.resolve_left (by decide)
  refine q4E (v:=117) rfl (by decide) (by decide) _ .light (q7L (.inl rfl)) (cSuc ?_)
  simp only [q1h.l0]
  exact cNeg (by simp) (cPD (cCon _))
 ·obtain rfl:=hb.resolve_left (by decide)
  refine q4E (v:=45) rfl (by decide) (by decide) _ .heavy (q4n (by decide)) (cSuc ?_)
  simp only [q1h.l0]
  exact cNeg (by simp) (cND (cPD (cCon _)))
 ·obtain rfl:=hb.resolve_left (by decide)
  refine q4E (v:=120) rfl (by decide) (by decide) _ .anceps (q7L (.inr rfl)) (cSuc ?_)
  simp only [q1h.l0]
  exact cNeg (by simp) (cND (cND (cPD (cCon _))))
 ·have hu:=hn (by decide)
  obtain ⟨hw,hz⟩:=q4u hu
  have ht:Tk ⟨4,b,0,[]⟩ [(1,b)]:=.foot b (q4I hu)
  refine ⟨[b],[(1,b)],q6a (cSuc ?_) (show (4:Int)≠7 by decide),cSuc ?_,Prs.one hw,fun _=>ht,.part _ _ (show (4:Int)≠5 by decide) ht,?_⟩
  ·simp only [q1h.l0]
   exact cNeg (by simp) (cND (cND (cND (cPD (cCon _)))))
  ·simp only [q0y.f,show q2b.f 4 = some ⟨#[]⟩ from rfl,Option.bind_some]
   exact cPos tl0 (cPD (cCon _))
  ·simp only [wid];omega
 ·obtain rfl:=hb.resolve_left (by decide)
  refine q4E (v:=58) rfl (by decide) (by decide) _ .fin (q4n (by decide)) (cSuc ?_)
  simp only [q1h.l0]
  exact cNeg (by simp) (cND (cND (cND (cND (cPD (cCon _))))))
 ·obtain rfl:=hb.resolve_left (by decide)
  refine q4E (v:=126) rfl (by decide) (by decide) _ .bridge (q4n (by decide)) (cSuc ?_)
  simp only [q1h.l0]
  exact cNeg (by simp) (cND (cND (cND (cND (cND (cPD (cCon _)))))))
 ·have hu:=hn (by decide)
  obtain ⟨hw,hz⟩:=q4u hu
  have ht:Tk ⟨11,b,0,[]⟩ [sg 64,(1,b)]:=.mark b (q4I hu)
  refine ⟨[⟨#[64]⟩,b],[sg 64,(1,b)],q6a (cSuc ?_) (show (11:Int)≠7 by decide),cSuc ?_,.cons _ _ _ _ (q4n (by decide)) (Prs.one hw),fun _=>ht,.part _ _ (show (11:Int)≠5 by decide) ht,?_⟩
  ·simp only [q1h.l0]
   exact cNeg (by simp) (cND (cND (cND (cND (cND (cND (cPD (cCon _))))))))
  ·simp only [q0y.f,show q2b.f 11 = some ⟨#[]⟩ from rfl,Option.bind_some]
   exact cPos tl0 (cND (cPD (cCon _)))
  ·simp only [wid,z1];omega
/-- Lists put together out of three. -/
theorem q8t (p q s:List q0a) (h:p.length + q.length + s.length≤1048576):q1B (fun k=>q0t.f k [p,q,s]) (p++(q++s)):=by
 have:=q6I [p,q,s] (by simp) (by simp only [List.flatten_cons,List.flatten_nil,List.length_append,List.length_nil];omega)
 simpa using this
section
variable {n:S25} {m:Nat} {ws:List q0a} {ts:List Tok} (h:Wr n m ws ts) (hm:m≤260)
include h
theorem Wr.one {i:Nat} (hi:i < [n].length) (hi':i < [ws].length):q1B (fun k=>q2d.f k ([n][i]).f0 ([n][i]).f1 ([n][i]).f2 ([n][i]).f3) ([ws][i]):=by
 obtain rfl:i = 0:=by simpa using hi
 exact h.w
include hm
theorem Wr.few:ws.length≤7020:=by
 have:=h.z
 have:=q5k ws
 omega
theorem wr_opt:∃ ws' ts',Wr ⟨8,em,0,[n]⟩ (m + 1) ws' ts':=by
 have hf:=h.few hm
 have ht:Tk ⟨8,em,0,[n]⟩ (sg 91 :: (ts++[sg 93])):=.opt n ts h.b
 refine ⟨⟨#[91]⟩ :: (ws++[⟨#[93]⟩]),_,q6e (wss:=[ws]) (by simp) rfl (fun i=>h.one) (fun k=>absurd (show (8:Int) = 7 from k.1) (by decide)) (cSuc ?_),cSuc ?_,.cons _ _ _ _ (q4n (by decide)) (h.p.app (Prs.one (q4n (by decide)))),fun _=>ht,.part _ _ (show (8:Int)≠5 by decide) ht,?_⟩
 ·simp only [q1h.l0,show q2A [ws] 0 = ws from rfl]
  refine cNeg (by simp) (cND (cND (cND (cND (cND (cND (cND (cPD (cPos (by simp) (cBin (q8t _ _ _ ?_) (cCon _)))))))))))
  simp only [List.length_cons,List.length_nil];omega
 ·simp only [q0y.f,show q2b.f 8 = some ⟨#[]⟩ from rfl,Option.bind_some,show q0p [n] 0 = n from rfl]
  refine cPos tl0 (cND (cND (cND (cND (cND (cPD (cPos (by simp) (cBin h.r (cPos ?_ (cPos ?_ (cCon _)))))))))))
  ·simp only [List.length_cons,List.length_nil];omega
  ·simp only [List.length_append,List.length_cons,List.length_nil];omega
 ·have:=h.z
  simp only [wid,q4J,z1];omega
theorem wr_tag {b:q0a} (hu:q4s b):∃ ws' ts',Wr ⟨12,b,0,[n]⟩ (m + 1) ws' ts':=by
 have hf:=h.few hm
 obtain ⟨hw,hz⟩:=q4u hu
 have ht:Tk ⟨12,b,0,[n]⟩ ((1,b) :: sg 123 :: (ts++[sg 125])):=.tag b (q4I hu) n ts h.b
 refine ⟨b :: ⟨#[123]⟩ :: (ws++[⟨#[125]⟩]),_,q6e (wss:=[ws]) (by simp) rfl (fun i=>h.one) (fun k=>absurd (show (12:Int) = 7 from k.1) (by decide)) (cSuc ?_),cSuc ?_,.cons _ _ _ _ hw (.cons _ _ _ _ (q4n (by decide)) (h.p.app (Prs.one (q4n (by decide))))),fun _=>ht,.part _ _ (show (12:Int)≠5 by decide) ht,?_⟩
 ·simp only [q1h.l0,show q2A [ws] 0 = ws from rfl]
  refine cNeg (by simp) (cND (cND (cND (cND (cND (cND (cND (cND (cPD (cPos (by simp) (cBin (q8t _ _ _ ?_) (cCon _))))))))))))
  simp only [List.length_cons,List.length_nil];omega
 ·simp only [q0y.f,show q2b.f 12 = some ⟨#[]⟩ from rfl,Option.bind_some,show q0p [n] 0 = n from rfl]
  refine cPos tl0 (cND (cND (cND (cND (cND (cND (cPD (cPos (by simp) (cBin h.r (cPos ?_ (cPos ?_ (cCon _))))))))))))
  ·simp only [List.length_cons,List.length_nil];omega
  ·simp only [List.length_append,List.length_cons,List.length_nil];omega
 ·have:=h.z
  simp only [wid,q4J,z1];omega
theorem wr_pow {c:Int} (hc:0≤c∧c≤9):∃ ws' ts',Wr ⟨7,em,c,[n]⟩ (m + 1) ws' ts':=by
 have hf:=h.few hm
 have hd:=q5U hc
 have hg:=q7q hc
 by_cases hk:n.f0 = 5∨n.f0 = 7
 ·have ht:Tk ⟨7,em,c,[n]⟩ (sg 40 :: (ts++[sg 41,sg 94,(2,dig c)])):=.powp n ts c (dig c) h.b (q7w hc)
  refine ⟨⟨#[40]⟩ :: (ws++[⟨#[41]⟩,⟨#[94]⟩,dig c]),_,q6e (wss:=[ws]) (by simp) rfl (fun i=>h.one) (fun k=>hk.elim k.2.1 k.2.2) (cSuc ?_),cSuc ?_,.cons _ _ _ _ (q4n (by decide)) (h.p.app (.cons _ _ _ _ (q4n (by decide)) (.cons _ _ _ _ (q4n (by decide)) (Prs.one (q8S hc))))),fun _=>ht,.part _ _ (show (7:Int)≠5 by decide) ht,?_⟩
  ·simp only [q1h.l0,show q2A [ws] 0 = ws from rfl,show q0p [n] 0 = n from rfl,Option.bind_some]
   have key:q1B (fun k=>(q0t.f k [[⟨#[40]⟩],ws,[⟨#[41]⟩]]).bind fun t=>(q2k.f k c).bind fun u=>if t.length + [(⟨#[94]⟩:q0a),u].length < 8796093022208 then some (t++[⟨#[94]⟩,u]) else none) (⟨#[40]⟩ :: (ws++[⟨#[41]⟩,⟨#[94]⟩,dig c])):=by
    refine cBin (q8t _ _ _ ?_) (cBin hd (cPos ?_ (cVal (by simp))))
    ·simp only [List.length_cons,List.length_nil];omega
    ·simp only [List.length_append,List.length_cons,List.length_nil];omega
   refine cNeg (by simp) (cND (cND (cND (cND (cND (cND (cND (cND (cND (cPD (cPos (by simp) (cPos (by simp) (cIte (fun _=>key) (fun h5=>cPos (hk.resolve_left h5) key))))))))))))))
  ·simp only [q0y.f,show q2b.f 7 = some ⟨#[]⟩ from rfl,Option.bind_some,show q0p [n] 0 = n from rfl,hg]
   have key:q1B (fun k=>if [(⟨#[40]⟩:q0a)].length + ws.length < 8796093022208 then (if ([(⟨#[40]⟩:q0a)]++ws).length + [(⟨#[41]⟩:q0a)].length < 8796093022208 then (if ([(⟨#[40]⟩:q0a)]++ws++[(⟨#[41]⟩:q0a)]).length + [(⟨#[94]⟩:q0a),dig c].length < 8796093022208 then some ([(⟨#[40]⟩:q0a)]++ws++[(⟨#[41]⟩:q0a)]++[(⟨#[94]⟩:q0a),dig c]) else none) else none) else none) (⟨#[40]⟩ :: (ws++[⟨#[41]⟩,⟨#[94]⟩,dig c])):=by
    refine cPos ?_ (cPos ?_ (cPos ?_ (cVal (by simp))))
    ·simp only [List.length_cons,List.length_nil];omega
    ·simp only [List.length_append,List.length_cons,List.length_nil];omega
    ·simp only [List.length_append,List.length_cons,List.length_nil];omega
   exact cPos tl0 (cND (cND (cND (cND (cPD (cPos (by simp) (cBin h.r (cIte (fun _=>key) (fun h5=>cPos (hk.resolve_left h5) key)))))))))
  ·have:=h.z
   simp only [wid,q4J,z1,dz];omega
 ·have h5:n.f0≠5:=fun k=>hk (.inl k)
  have h7:n.f0≠7:=fun k=>hk (.inr k)
  have ht:Tk ⟨7,em,c,[n]⟩ (ts++[sg 94,(2,dig c)]):=.pow n ts c (dig c) h5 h7 (h.t h5) (q7w hc)
  refine ⟨ws++[⟨#[94]⟩,dig c],_,write_P (wss:=[ws]) (by simp) rfl (fun i=>h.one) ⟨rfl,h5,h7⟩ (cSuc ?_),cSuc ?_,h.p.app (.cons _ _ _ _ (q4n (by decide)) (Prs.one (q8S hc))),fun _=>ht,.part _ _ (show (7:Int)≠5 by decide) ht,?_⟩
  ·simp only [q2m.l0,show q2A [ws] 0 = ws from rfl,show q0p [n] 0 = n from rfl,Option.bind_some]
   refine cNeg (by simp) (cND (cND (cND (cND (cND (cND (cND (cND (cND (cPD (cPos (by simp) (cPos (by simp) (cNeg h5 (cNeg h7 (cBin hd (cPos ?_ (cCon _)))))))))))))))))
   simp only [List.length_cons,List.length_nil];omega
  ·simp only [q0y.f,show q2b.f 7 = some ⟨#[]⟩ from rfl,Option.bind_some,show q0p [n] 0 = n from rfl,hg]
   refine cPos tl0 (cND (cND (cND (cND (cPD (cPos (by simp) (cBin h.r (cNeg h5 (cNeg h7 (cPos ?_ (cCon _)))))))))))
   simp only [List.length_cons,List.length_nil];omega
  ·have:=h.z
   simp only [wid,q4J,z1,dz];omega
end
theorem Wrs.tkS {l:List S25} {m:Nat} {wss:List (List q0a)} {tss:List (List Tok)} (h:Wrs l m wss tss):(∀ y,y ∈ l → y.f0≠5) → TkS l tss.flatten:=by
 induction h with
 | nil=>intro _;exact .nil
 | cons n ns m ms ws wss ts tss h r ih=>
  intro h5
  rw [List.flatten_cons]
  exact .cons _ _ _ _ (h5 n (by simp)) (h.t (h5 n (by simp))) (ih (fun y hy=>h5 y (List.mem_cons_of_mem _ hy)))
theorem Wrs.tkA {l:List S25} {m:Nat} {wss:List (List q0a)} {tss:List (List Tok)} (h:Wrs l m wss tss):TkA l (altt tss):=by
 induction h with
 | nil=>exact .nil
 | cons n ns m ms ws wss ts tss h r ih=>exact .cons _ _ _ _ h.b ih
theorem Wrs.prs {l:List S25} {m:Nat} {wss:List (List q0a)} {tss:List (List Tok)} (h:Wrs l m wss tss):Prs wss.flatten tss.flatten∧Prs (altw wss) (altt tss):=by
 induction h with
 | nil=>exact ⟨.nil,Prs.one (q4n (by decide))⟩
 | cons n ns m ms ws wss ts tss h r ih=>
  rw [List.flatten_cons,List.flatten_cons]
  exact ⟨h.p.app ih.1,.cons _ _ _ _ (q4n (by decide)) (h.p.app ih.2)⟩
theorem wr_seq {x:List S25} {m:Nat} {wss:List (List q0a)} {tss:List (List Tok)} (h:Wrs x m wss tss) (hm:m≤260) (hl:x.length≤1048576) (h1:x.length≠1) (h5:∀ y,y ∈ x → y.f0≠5):∃ ws ts,Wr ⟨5,em,0,x⟩ (m + 1) ws ts:=by
 have hw:=h.wide
 have hz:=q5k wss.flatten
 have hlen:=h.len
 refine ⟨wss.flatten,tss.flatten,q6e hl hlen (fun i a b=>(h.wr i a b).1) (fun k=>absurd (show (5:Int) = 7 from k.1) (by decide)) (cSuc ?_),cSuc ?_,h.prs.1,fun k=>absurd rfl k,.seq _ _ h1 (h.tkS h5),by omega⟩
 ·simp only [q1h.l0]
  exact cNO (cND (cND (cND (cND (cND (cND (cND (cND (cND (cND (cND (cBin (q6I wss (by omega) (by omega)) (cCon _)))))))))))))
 ·simp only [q0y.f,show q2b.f 5 = some ⟨#[]⟩ from rfl,Option.bind_some]
  refine cPos tl0 (cND (cND (cPD ?_)))
  have:=q9x hl hlen (fun i a b=>(h.wr i a b).2) 5 em 0 x.length 0 [] (by omega) (by rw [List.drop_zero,List.length_nil];omega)
  rwa [List.drop_zero,List.nil_append] at this
theorem wr_alt {n n2:S25} {x:List S25} {m:Nat} {wss:List (List q0a)} {tss:List (List Tok)} (h:Wrs (n :: n2 :: x) m wss tss) (hm:m≤260) (hl:(n :: n2 :: x).length≤1048576):∃ ws ts,Wr ⟨6,em,0,n :: n2 :: x⟩ (m + 1) ws ts:=by
 have hw:=h.wide
 have hlen:=h.len
 obtain ⟨ws,wss,ts,tss,rfl,rfl,m1,m2,hW,hR⟩:∃ ws wss' ts tss',wss = ws :: wss'∧tss = ts :: tss'∧∃ m1 m2,Wr n m1 ws ts∧Wrs (n2 :: x) m2 wss' tss':=by
  cases h with
  | cons _ _ m1 m2 ws wss ts tss h r=>exact ⟨_,_,_,_,rfl,rfl,_,_,h,r⟩
 have hwr:=h.wr
 have ht:Tk ⟨6,em,0,n :: n2 :: x⟩ (sg 40 :: (ts++altt tss)):=.alt n n2 x ts _ hW.b hR.tkA
 have haw:=v0m wss
 have haz:=q5k (altw wss)
 have hwz:=q5k ws
 rw [List.flatten_cons,q4J,List.length_cons] at hw
 have hd:(ws :: wss).drop 1 = wss:=rfl
 refine ⟨⟨#[40]⟩ :: (ws++altw wss),sg 40 :: (ts++altt tss),q6e hl hlen (fun i a b=>(hwr i a b).1) (fun k=>absurd (show (6:Int) = 7 from k.1) (by decide)) (cSuc ?_),cSuc ?_,.cons _ _ _ _ (q4n (by decide)) (hW.p.app hR.prs.2),fun _=>ht,.part _ _ (show (6:Int)≠5 by decide) ht,?_⟩
 ·simp only [q1h.l0]
  refine cNO (cND (cND (cND (cND (cND (cND (cND (cND (cND (cND (cPD (cSuc ?_))))))))))))
  have w1:wrap64 ((0:Int) + 1) = ((1:Nat):Int):=by unfold wrap64;omega
  simp only [q1h.l1,show q2A (ws :: wss) 0 = ws from rfl,w1]
  refine cPos (by rw [List.length_cons];omega) (cPO (cPos (by rw [List.length_cons];omega) (cNO (cPos ?_ ?_))))
  ·simp only [List.length_cons,List.length_nil];omega
  ·have:=v0M (ws :: wss) (by omega) wss.length 1 ([⟨#[40]⟩]++ws) (by omega) (by rw [List.length_cons];omega) (by rw [hd,List.length_append,List.length_singleton];omega)
   rw [hd] at this
   simpa only [List.append_assoc,List.cons_append,List.nil_append] using this
 ·simp only [q0y.f,show q2b.f 6 = some ⟨#[]⟩ from rfl,Option.bind_some]
  refine cPos tl0 (cND (cND (cND (cPD (cSuc ?_)))))
  have w1:wrap64 ((0:Int) + 1) = ((1:Nat):Int):=by unfold wrap64;omega
  simp only [q0y.l1,show q0p (n :: n2 :: x) 0 = n from rfl,w1,Option.bind_some]
  refine cPos (by rw [List.length_cons];omega) (cPos trivial (cPos (by simp) (cPO (cBin hW.r (cPos ?_ ?_)))))
  ·simp only [List.length_append,List.length_cons,List.length_nil];omega
  ·have:=v0a hl hlen (fun i a b=>(hwr i a b).2) 6 em 0 (n2 :: x).length 1 ([]++[⟨#[40]⟩]++ws) (by omega) (by simp only [List.length_cons];omega) (by rw [hd];simp only [List.length_append,List.length_cons,List.length_nil];omega)
   rw [hd] at this
   simpa only [List.append_assoc,List.cons_append,List.nil_append] using this
 ·simp only [wid,q4J,z1];omega
/-- Every node without an error is written. -/
theorem q9w:∀ (n:S25),Vl n → ∀ (m:Nat) (ys:List q0a),CntN n m ys → m≤260 → ∃ ws ts,Wr n m ws ts
 | ⟨a,b,c,x⟩,hv,m,ys,hc,hm=>by
  cases hv with
  | mk _ _ _ _ hS hn hcc hl hk=>
  obtain ⟨m',zs,rfl,rfl,hcl⟩:=hc.inv
  obtain ⟨wss,tss,hW⟩:=wrs_of (fun y hy m1 y1 h1 h2=>q9w y (hk y hy) m1 y1 h1 h2) hcl (by omega)
  obtain ⟨⟨a1,a12⟩,hb,hc0,hT⟩:=q9W hS
  by_cases h5:a = 5
  ·subst h5
   obtain rfl:=hb.resolve_left (by decide)
   obtain rfl:=hc0.resolve_left (by decide)
   obtain ⟨k1,k5⟩:=shpT5 hT
   exact wr_seq hW (by omega) hl k1 k5
  by_cases h6:a = 6
  ·subst h6
   obtain rfl:=hb.resolve_left (by decide)
   obtain rfl:=hc0.resolve_left (by decide)
   obtain ⟨n,n2,ns,rfl⟩:=shpT6 hT
   exact wr_alt hW (by omega) hl
  by_cases h1:a = 7∨a = 8∨a = 12
  ·obtain ⟨y,rfl⟩:=shpT1 hT h1
   obtain ⟨mw,ws,ts,hw,e⟩:∃ mw ws ts,Wr y mw ws ts∧mw = m':=by
    cases hW with
    | cons _ _ m1 m2 ws wss ts tss h r=>
     cases r
     exact ⟨_,_,_,h,rfl⟩
   subst e
   rcases h1 with rfl | rfl | rfl
   ·obtain rfl:=hb.resolve_left (by decide)
    exact wr_pow hw (by omega) hcc
   ·obtain rfl:=hb.resolve_left (by decide)
    obtain rfl:=hc0.resolve_left (by decide)
    exact wr_opt hw (by omega)
   ·obtain rfl:=hc0.resolve_left (by decide)
    exact wr_tag hw (by omega) (hn (by decide))
  ·obtain rfl:=shpT0 hT h5 h6 (fun k=>h1 (.inl k)) (fun k=>h1 (.inr (.inl k))) (fun k=>h1 (.inr (.inr k)))
   obtain ⟨rfl,rfl⟩:=hcl.nil_inv
   exact wr_leaf hS hn (by omega)
 termination_by n=>SizeOf.sizeOf n
 decreasing_by
  have:=List.sizeOf_lt_of_mem hy
  simp only [S25.mk.sizeOf_spec]
  omega
end
section
theorem at_of {l:List S36} {ts:List Tok} (h:l.map (fun t=>(t.f0,t.f1)) = ts):At l 0 ts:=by
 subst h
 refine ⟨by simp,fun j hj h'=>?_⟩
 rw [List.getElem_map]
 simp only [Nat.zero_add]
 exact ⟨trivial,trivial⟩
theorem Prs.len {a:List q0a} {s:List Tok} (h:Prs a s):s.length = a.length:=by
 induction h with
 | nil=>rfl
 | cons u t us ts h r ih=>rw [List.length_cons,List.length_cons,ih]
end
section
theorem join_f (ws:List q0a) (h:wid ws≤100000):q3Q.f ws (⟨#[32]⟩:q0a) = some (jn ws):=by
 have e:Lib.join (ws.map (·.data.toList)) (⟨#[32]⟩:q0a).data.toList = (jn ws).data.toList:=by
  cases ws with
  | nil=>rfl
  | cons u us=>
   rw [List.map_cons,Lib.join_cons]
   simp only [jn,ByteArray.data_append,Array.toList_append,q7M]
 have h1:=q5k ws
 have h2:=q5q ws
 have h3:(jn ws).data.toList.length = (jn ws).size:=by rw [Array.length_toList];rfl
 unfold q3Q.f
 rw [e,if_pos ⟨by omega,by omega⟩]
theorem q8n (ws:List q0a) (h:wid ws≤100000):q1B (fun k=>q1O.f k ws) (jn ws):=by
 have hz:=q5k ws
 have one32:(⟨#[32]⟩:q0a).size = 1:=rfl
 have loop:∀ (d i:Nat) (out:q0a),1≤i → i + d = ws.length → out.size + wid (ws.drop i)≤100000 → q1B (fun k=>q1O.l0 k ws out ((i:Nat):Int)) (out++tls (ws.drop i)):=by
  intro d
  induction d with
  | zero=>
   intro i out h1 hi _
   rw [List.drop_eq_nil_of_le (by omega)]
   apply cSuc
   simp only [q1O.l0]
   exact cNO (cVal (app_em _).symm)
  | succ d IH=>
   intro i out h1 hi hs
   have hlt:i < ws.length:=by omega
   rw [List.drop_eq_getElem_cons hlt] at hs ⊢
   simp only [wid] at hs
   apply cSuc
   simp only [q1O.l0,q7j hlt,q2t (show i≤1048576 by omega)]
   refine cPO (cPO (cPO (cPO (cPos (by rw [ByteArray.size_append,one32];omega) ?_))))
   have:=IH (i + 1) ((out++(⟨#[32]⟩:q0a))++ws[i]) (by omega) (by omega) (by rw [ByteArray.size_append,ByteArray.size_append,one32];omega)
   simp only [tls]
   rw [ByteArray.append_assoc,ByteArray.append_assoc,ByteArray.append_assoc] at *
   exact this
 unfold q1O.f
 apply cSuc
 simp only [q1O.l0]
 cases ws with
 | nil=>exact cNeg (by simp) (cCon _)
 | cons u us=>
  have hu:rdOf ByteArray.empty (u :: us) (0:Int) = u:=rfl
  have w1:wrap64 ((0:Int) + 1) = ((1:Nat):Int):=by unfold wrap64;omega
  have e0:(⟨#[]⟩:q0a).size = 0:=rfl
  simp only [wid] at h
  rw [hu,w1]
  refine cPos (by rw [List.length_cons];omega) (cNO (cPO (cPos (by rw [e0];omega) ?_)))
  have:=loop us.length 1 (em++u) (by omega) (by rw [List.length_cons];omega) (by rw [q8I];show u.size + wid us≤_;omega)
  rw [q8I] at this
  show q1B (fun k=>q1O.l0 k (u :: us) (em++u) ((1:Nat):Int)) _
  rw [q8I]
  exact this
theorem q9n (n:S25) (hs:Small n) {m:Nat} {ys:List q0a} (hc:CntN n m ys) (hm:m≤1048576):(∃ e:Int,e≠0∧q1B (fun k=>q2U.f k n.f0 n.f1 n.f2 n.f3) e∧q1B (fun k=>q2z.f k n.f0 n.f1 n.f2 n.f3) e)∨
  (Vl n∧m≤200∧q1B (fun k=>q2U.f k n.f0 n.f1 n.f2 n.f3) 0∧q1B (fun k=>q2z.f k n.f0 n.f1 n.f2 n.f3) 0):=by
 obtain ⟨e,h1,h2⟩:=q5s n hs 1
 have s0:=q9i m n m ys (q0e _) hc (by omega)
 obtain ⟨v,s1,s2⟩:=q5M n hs
 obtain rfl:=s1.same s0
 unfold q2U.f q2z.f
 by_cases he:e = 0
 ·subst he
  by_cases hv:m≤200
  ·exact .inr ⟨q7J n hs 1 h1,hv,cBin h1 (cPos rfl (cBin s1 (cNO (cCon _)))),cBin h2 (cPos rfl (cBin s2 (cNO (cCon _))))⟩
  ·exact .inl ⟨3,by decide,cBin h1 (cPos rfl (cBin s1 (cPO (cCon _)))),cBin h2 (cPos rfl (cBin s2 (cPO (cCon _))))⟩
 ·exact .inl ⟨e,he,cBin h1 (cNeg he (cCon _)),cBin h2 (cNeg he (cCon _))⟩
end
section
/-- How many nodes feet hold. -/
inductive CntF:List S86 → Nat → Prop
 | nil:CntF [] 0
 | cons (f:S86) (fs:List S86) (m n:Nat) (ys:List q0a) (h:CntN f.f1 m ys) (r:CntF fs n):CntF (f :: fs) (m + n)
theorem CntF.get {fs:List S86} {n:Nat} (h:CntF fs n):∀ i (hi:i < fs.length),∃ m ys,CntN fs[i].f1 m ys∧m≤n:=by
 induction h with
 | nil=>intro i hi;exact absurd hi (by simp)
 | cons f fs m n ys h r ih=>
  intro i hi
  cases i with
  | zero=>exact ⟨m,ys,h,by omega⟩
  | succ i=>
   obtain ⟨m',ys',h1,h2⟩:=ih i (by simpa using hi)
   exact ⟨m',ys',h1,by omega⟩
/-- A foot without an error. -/
def FtOk (f:S86):Prop:=q4s f.f0∧Vl f.f1
def CtOk (c:S88):Prop:=q4s c.f0∧0≤c.f1∧c.f1≤c.f2∧c.f2≤6
def SmOk (l:List q0a):Prop:=l≠[]∧l.length≤6∧∀ x,x ∈ l → q4s x
theorem q4z {b:q0a} (h : ¬ q4s b):q1B (fun k=>q2g.f k b) false∧q1B (fun k=>q1S.f k b) false:=by
 obtain ⟨r,h1,h2⟩:=q5h b
 cases r with
 | true=>exact absurd h1 h
 | false=>exact ⟨h1,h2⟩
theorem q5B {b:q0a} (h:q4s b):q1B (fun k=>q1S.f k b) true:=by
 obtain ⟨r,h1,h2⟩:=q5h b
 obtain rfl:=h1.same h
 exact h2
theorem q8c (l:List q0a) (hl:l.length≤1048576):∀ (d i:Nat),i + d = l.length → ∃ q:Int,q1B (fun k=>q0T.l0 k l (l.length:Int) ((i:Nat):Int)) q∧(q≥0∨(q = -1∧∀ j (h:j < l.length),i≤j → q4s l[j]))∧(q≥0 → ∃ j,∃ h:j < l.length,¬ q4s l[j]):=by
 intro d
 induction d with
 | zero=>
  intro i hi
  refine ⟨-1,cSuc ?_,.inr ⟨rfl,fun j h hij=>by omega⟩,fun k=>absurd k (by decide)⟩
  simp only [q0T.l0]
  exact cNO (cCon _)
 | succ d IH=>
  intro i hi
  have h:i < l.length:=by omega
  by_cases hu:q4s l[i]
  ·obtain ⟨q,hq,hc,hx⟩:=IH (i + 1) (by omega)
   refine ⟨q,cSuc ?_,hc.imp id (fun k=>⟨k.1,fun j hj hij=>?_⟩),hx⟩
   ·simp only [q0T.l0,q3D.f,q7j h,q2t (show i≤1048576 by omega)]
    exact cPO (cPO (cPO (cBin (cBin hu (cCon _)) (cND hq))))
   ·rcases q3s hij with rfl | k'
    ·exact hu
    ·exact k.2 j hj k'
  ·refine ⟨(i:Int),cSuc ?_,.inl (by omega),fun _=>⟨i,h,hu⟩⟩
   simp only [q0T.l0,q3D.f,q7j h]
   exact cPO (cPO (cPO (cBin (cBin (q4z hu).1 (cCon _)) (cPos rfl (cCon _)))))
section
variable (a0:q0a) (l1:List S86) (l2:List S88) (l3:List (List q0a)) (a4:Int) (a5:q0a) (a6:Int) (l7:List S25)
/-- What a metre without an error is. -/
structure VM:Prop where
 nm:q1B (fun k=>q2G.f k a0) true
 ft:∀ x,x ∈ l1 → FtOk x
 ct:∀ x,x ∈ l2 → CtOk x
 sm:∀ x,x ∈ l3 → SmOk x
 ln:Vl ⟨a4,a5,a6,l7⟩
variable {l1 l2 l3 a4 a5 a6 l7} {n m:Nat} {ys:List q0a} (hF:CntF l1 n) (hL:CntN ⟨a4,a5,a6,l7⟩ m ys) (hz:n + m≤260) (z1:l1.length≤25) (z2:l2.length≤6) (z3:l3.length≤6) (z4:∀ x,x ∈ l3 → x.length≤10)
include hL hz z3 z4
theorem v0p (q:Int):∀ (d i:Nat),i + d = l3.length → ∃ e,q1B (fun k=>q1d.l2 k q l3 (l3.length:Int) ((i:Nat):Int) a0 l1 l2 l3 a4 a5 a6 l7) e∧q1B (fun k=>q0q.l2 k q ((i:Nat):Int) a0 l1 l2 l3 a4 a5 a6 l7) e∧(e = 0 → (∀ j (h:j < l3.length),i≤j → SmOk l3[j])∧Vl ⟨a4,a5,a6,l7⟩):=by
 have hsm:=q5H m _ m ys (q0e _) hL (by omega)
 intro d
 induction d with
 | zero=>
  intro i hi
  rcases q9n _ hsm hL (by omega) with ⟨e,he,b1,b2⟩ | ⟨hv,h2,b1,b2⟩
  ·refine ⟨e,cSuc ?_,cSuc ?_,fun k=>absurd k he⟩
   ·simp only [q1d.l2];exact cNO (cBin b1 (cNeg he (cCon _)))
   ·simp only [q0q.l2];exact cNO (cBin b2 (cNeg he (cCon _)))
  ·obtain ⟨v,s1,s2⟩:=q5M _ hsm
   by_cases hv2:wrap64 (q + v) > 200
   ·refine ⟨3,cSuc ?_,cSuc ?_,fun k=>absurd k (by decide)⟩
    ·simp only [q1d.l2];exact cNO (cBin b1 (cPos rfl (cBin s1 (cPos hv2 (cCon _)))))
    ·simp only [q0q.l2];exact cNO (cBin b2 (cPos rfl (cBin s2 (cPos hv2 (cCon _)))))
   ·refine ⟨0,cSuc ?_,cSuc ?_,fun _=>⟨fun j h hij=>by omega,hv⟩⟩
    ·simp only [q1d.l2];exact cNO (cBin b1 (cPos rfl (cBin s1 (cNeg hv2 (cCon _)))))
    ·simp only [q0q.l2];exact cNO (cBin b2 (cPos rfl (cBin s2 (cNeg hv2 (cCon _)))))
 | succ d IH=>
  intro i hi
  have h:i < l3.length:=by omega
  have h10:=z4 _ (List.getElem_mem h)
  by_cases h0:l3[i].length = 0
  ·refine ⟨7,cSuc ?_,cSuc ?_,fun k=>absurd k (by decide)⟩
   ·simp only [q1d.l2,rdl7 h];exact cPO (cPO (cPO (cPO (cCon _))))
   ·simp only [q0q.l2,rdl7 h];exact cPO (cPO (cPO (cCon _)))
  by_cases h6:l3[i].length > 6
  ·refine ⟨3,cSuc ?_,cSuc ?_,fun k=>absurd k (by decide)⟩
   ·simp only [q1d.l2,rdl7 h];exact cPO (cPO (cPO (cNO (cPO (cCon _)))))
   ·simp only [q0q.l2,rdl7 h];exact cPO (cPO (cNO (cPO (cCon _))))
  obtain ⟨c,hc,hcc,hcx⟩:=q8c l3[i] (by omega) l3[i].length 0 (by omega)
  have hcf:q1B (fun k=>q1y.f k l3[i] ()) (decide (c≥0)):=by
   unfold q1y.f q0T.f
   exact cBin hc (cCon _)
  obtain ⟨e,e1,e2,e3⟩:=IH (i + 1) (by omega)
  have inner:∀ (d2 j:Nat),j + d2 = l3[i].length → (∀ p (hp:p < l3[i].length),p < j → q4s l3[i][p]) → q1B (fun k=>q0q.l3 k q ((i:Nat):Int) ((j:Nat):Int) a0 l1 l2 l3 a4 a5 a6 l7) (if c≥0 then 2 else e):=by
   intro d2
   induction d2 with
   | zero=>
    intro j hj hall
    have hneg : ¬ c≥0:=fun k=>by
     obtain ⟨p,hp,hpu⟩:=hcx k
     exact hpu (hall p hp (by omega))
    rw [if_neg hneg]
    apply cSuc
    simp only [q0q.l3,rdl7 h,q2t (show i≤1048576 by omega)]
    exact cPO (cPO (cNO e2))
   | succ d2 IH2=>
    intro j hj hall
    have hj2:j < l3[i].length:=by omega
    apply cSuc
    simp only [q0q.l3,rdl7 h,q7j hj2,q2t (show j≤1048576 by omega)]
    refine cPO (cPO (cPO (cPO ?_)))
    by_cases hu:q4s l3[i][j]
    ·refine cBin (q5B hu) (cPos rfl (IH2 (j + 1) (by omega) (fun p hp hpj=>?_)))
     rcases Nat.lt_or_ge p j with k | k
     ·exact hall p hp k
     ·obtain rfl:p = j:=by omega
      exact hu
    ·have hpos:c≥0:=by
      rcases hcc with k | ⟨_,k⟩
      ·exact k
      ·exact absurd (k j hj2 (q2S _)) hu
     rw [if_pos hpos]
     exact cBin (q4z hu).2 (cND (cCon _))
  have r3:=inner l3[i].length 0 (by omega) (fun p hp k=>absurd k (Nat.not_lt_zero _))
  refine ⟨if c≥0 then 2 else e,cSuc ?_,cSuc ?_,fun k=>?_⟩
  ·simp only [q1d.l2,rdl7 h,q2t (show i≤1048576 by omega)]
   refine cPO (cPO (cPO (cNO (cNO (cBin hcf ?_)))))
   by_cases hc0:c≥0
   ·rw [if_pos hc0];exact cPos (q0s hc0) (cCon _)
   ·rw [if_neg hc0];exact cNeg (by rw [decide_eq_false hc0];decide) e1
  ·simp only [q0q.l2,rdl7 h]
   exact cPO (cPO (cNO (cNO r3)))
  ·by_cases hc0:c≥0
   ·rw [if_pos hc0] at k;exact absurd k (by decide)
   ·rw [if_neg hc0] at k
    obtain ⟨k1,k2⟩:=e3 k
    refine ⟨fun j hj hij=>?_,k2⟩
    rcases q3s hij with rfl | hij'
    ·rcases hcc with k' | ⟨_,k'⟩
     ·exact absurd k' hc0
     ·refine ⟨fun e0=>h0 (by rw [e0];rfl),by omega,fun x hx=>?_⟩
      obtain ⟨p,hp,rfl⟩:=List.getElem_of_mem hx
      exact k' p hp (q2S _)
    ·exact k1 j hj hij'
include z2
theorem v0g (q:Int):∀ (d i:Nat),i + d = l2.length → ∃ e,q1B (fun k=>q1d.l1 k q l2 (l2.length:Int) ((i:Nat):Int) a0 l1 l2 l3 a4 a5 a6 l7) e∧q1B (fun k=>q0q.l1 k q ((i:Nat):Int) a0 l1 l2 l3 a4 a5 a6 l7) e∧(e = 0 → (∀ j (h:j < l2.length),i≤j → CtOk l2[j])∧(∀ j (h:j < l3.length),SmOk l3[j])∧Vl ⟨a4,a5,a6,l7⟩):=by
 intro d
 induction d with
 | zero=>
  intro i hi
  obtain ⟨e,e1,e2,e3⟩:=v0p a0 (l1:=l1) (l2:=l2) hL hz z3 z4 q l3.length 0 (by omega)
  refine ⟨e,cSuc ?_,cSuc ?_,fun k=>⟨fun j h hij=>by omega,fun j h=>(e3 k).1 j h (q2S _),(e3 k).2⟩⟩
  ·simp only [q1d.l1];exact cNO e1
  ·simp only [q0q.l1];exact cNO e2
 | succ d IH=>
  intro i hi
  have h:i < l2.length:=by omega
  by_cases hu:q4s l2[i].f0
  case neg=>
   refine ⟨2,cSuc ?_,cSuc ?_,fun k=>absurd k (by decide)⟩
   ·simp only [q1d.l1,rd88 h];exact cPO (cPO (cPO (cBin (q4z hu).1 (cND (cCon _)))))
   ·simp only [q0q.l1,rd88 h];exact cPO (cPO (cBin (q4z hu).2 (cND (cCon _))))
  have ht:=q5B hu
  by_cases hr:l2[i].f1 < 0∨l2[i].f2 < l2[i].f1∨6 < l2[i].f2
  ·refine ⟨6,cSuc ?_,cSuc ?_,fun k=>absurd k (by decide)⟩
   ·simp only [q1d.l1,rd88 h]
    exact cPO (cPO (cPO (cBin hu (cPos rfl (cIte (fun _=>cCon _) (fun k1=>cIte (fun _=>cCon _) (fun k2=>cPO (cCon _))))))))
   ·simp only [q0q.l1,rd88 h]
    exact cPO (cPO (cBin ht (cPos rfl (cIte (fun _=>cCon _) (fun k1=>cIte (fun _=>cCon _) (fun k2=>cPO (cCon _)))))))
  ·obtain ⟨e,e1,e2,e3⟩:=IH (i + 1) (by omega)
   refine ⟨e,cSuc ?_,cSuc ?_,fun k=>?_⟩
   ·simp only [q1d.l1,rd88 h,q2t (show i≤1048576 by omega)]
    exact cPO (cPO (cPO (cBin hu (cPos rfl (cNO (cNO (cNO e1)))))))
   ·simp only [q0q.l1,rd88 h,q2t (show i≤1048576 by omega)]
    exact cPO (cPO (cBin ht (cPos rfl (cNO (cNO (cNO e2))))))
   ·obtain ⟨k1,k2⟩:=e3 k
    refine ⟨fun j hj hij=>?_,k2⟩
    rcases q3s hij with rfl | hij'
    ·exact ⟨hu,by omega,by omega,by omega⟩
    ·exact k1 j hj hij'
include z1 hF
theorem v0i:∀ (d i:Nat) (q:Int),i + d = l1.length → ∃ e,q1B (fun k=>q1d.l0 k q l1 (l1.length:Int) ((i:Nat):Int) a0 l1 l2 l3 a4 a5 a6 l7) e∧q1B (fun k=>q0q.l0 k q ((i:Nat):Int) a0 l1 l2 l3 a4 a5 a6 l7) e∧(e = 0 → (∀ j (h:j < l1.length),i≤j → FtOk l1[j])∧(∀ j (h:j < l2.length),CtOk l2[j])∧(∀ j (h:j < l3.length),SmOk l3[j])∧Vl ⟨a4,a5,a6,l7⟩):=by
 intro d
 induction d with
 | zero=>
  intro i q hi
  obtain ⟨e,e1,e2,e3⟩:=v0g a0 (l1:=l1) hL hz z2 z3 z4 q l2.length 0 (by omega)
  refine ⟨e,cSuc ?_,cSuc ?_,fun k=>⟨fun j h hij=>by omega,fun j h=>(e3 k).1 j h (q2S _),(e3 k).2⟩⟩
  ·simp only [q1d.l0];exact cNO e1
  ·simp only [q0q.l0];exact cNO e2
 | succ d IH=>
  intro i q hi
  have h:i < l1.length:=by omega
  obtain ⟨mi,yi,hci,hmi⟩:=hF.get i h
  have hsm:=q5H mi _ mi yi (q0e _) hci (by omega)
  by_cases hu:q4s l1[i].f0
  case neg=>
   refine ⟨2,cSuc ?_,cSuc ?_,fun k=>absurd k (by decide)⟩
   ·simp only [q1d.l0,rd86 h];exact cPO (cPO (cPO (cBin (q4z hu).1 (cND (cCon _)))))
   ·simp only [q0q.l0,rd86 h];exact cPO (cPO (cBin (q4z hu).2 (cND (cCon _))))
  have ht:=q5B hu
  rcases q9n _ hsm hci (by omega) with ⟨e,he,b1,b2⟩ | ⟨hv,h2,b1,b2⟩
  ·refine ⟨e,cSuc ?_,cSuc ?_,fun k=>absurd k he⟩
   ·simp only [q1d.l0,rd86 h];exact cPO (cPO (cPO (cBin hu (cPos rfl (cBin b1 (cNeg he (cCon _)))))))
   ·simp only [q0q.l0,rd86 h];exact cPO (cPO (cBin ht (cPos rfl (cBin b2 (cNeg he (cCon _))))))
  ·obtain ⟨v,s1,s2⟩:=q5M _ hsm
   obtain ⟨e,e1,e2,e3⟩:=IH (i + 1) (wrap64 (q + v)) (by omega)
   refine ⟨e,cSuc ?_,cSuc ?_,fun k=>?_⟩
   ·simp only [q1d.l0,rd86 h,q2t (show i≤1048576 by omega)]
    exact cPO (cPO (cPO (cBin hu (cPos rfl (cBin b1 (cPos rfl (cBin s1 e1)))))))
   ·simp only [q0q.l0,rd86 h,q2t (show i≤1048576 by omega)]
    exact cPO (cPO (cBin ht (cPos rfl (cBin b2 (cPos rfl (cBin s2 e2))))))
   ·obtain ⟨k1,k2⟩:=e3 k
    refine ⟨fun j hj hij=>?_,k2⟩
    rcases q3s hij with rfl | hij'
    ·exact ⟨hu,hv⟩
    ·exact k1 j hj hij'
/-- Both come to the same error; without one the metre is right. -/
theorem q9g:∃ e,q1B (fun k=>q1d.f k a0 l1 l2 l3 a4 a5 a6 l7) e∧q1B (fun k=>q0q.f k a0 l1 l2 l3 a4 a5 a6 l7) e∧(e = 0 → VM a0 l1 l2 l3 a4 a5 a6 l7):=by
 obtain ⟨r,n1,n2⟩:=q5E a0
 obtain ⟨e,e1,e2,e3⟩:=v0i a0 hF hL hz z1 z2 z3 z4 l1.length 0 0 (by omega)
 cases r with
 | false=>
  refine ⟨2,?_,?_,fun k=>absurd k (by decide)⟩
  ·unfold q1d.f;exact cBin n1 (cND (cCon _))
  ·unfold q0q.f;exact cBin n2 (cND (cCon _))
 | true=>
  have jt:q1B (fun k=>q1d.j0 k true a0 l1 l2 l3 a4 a5 a6 l7) 3:=cSuc (by simp only [q1d.j0];exact cPos trivial (cCon _))
  have rt:q1B (fun k=>q0q.j0 k true a0 l1 l2 l3 a4 a5 a6 l7) 3:=cSuc (by simp only [q0q.j0];exact cPos trivial (cCon _))
  by_cases hb:l1.length > 20∨l2.length > 3∨l3.length > 3
  ·refine ⟨3,?_,?_,fun k=>absurd k (by decide)⟩
   ·unfold q1d.f
    refine cBin n1 (cPos rfl (cIte (fun _=>jt) (fun k1=>cIte (fun _=>jt) (fun k2=>?_))))
    rw [decide_eq_true (show (l3.length:Int) > 3 by omega)];exact jt
   ·unfold q0q.f
    refine cBin n2 (cPos rfl (cIte (fun _=>rt) (fun k1=>cIte (fun _=>rt) (fun k2=>?_))))
    rw [decide_eq_true (show (l3.length:Int) > 3 by omega)];exact rt
  ·refine ⟨e,?_,?_,fun k=>?_⟩
   ·unfold q1d.f
    refine cBin n1 (cPos rfl (cNO (cNO ?_)))
    rw [decide_eq_false (show ¬ (l3.length:Int) > 3 by omega)]
    apply cSuc
    simp only [q1d.j0]
    exact cND e1
   ·unfold q0q.f
    refine cBin n2 (cPos rfl (cNO (cNO ?_)))
    rw [decide_eq_false (show ¬ (l3.length:Int) > 3 by omega)]
    apply cSuc
    simp only [q0q.j0]
    exact cND e2
   ·obtain ⟨k1,k2,k3,k4⟩:=e3 k
    refine ⟨n1,fun x hx=>?_,fun x hx=>?_,fun x hx=>?_,k4⟩
    ·obtain ⟨j,hj,rfl⟩:=List.getElem_of_mem hx;exact k1 j hj (q2S _)
    ·obtain ⟨j,hj,rfl⟩:=List.getElem_of_mem hx;exact k2 j hj
    ·obtain ⟨j,hj,rfl⟩:=List.getElem_of_mem hx;exact k3 j hj
end
end
section
def q5l:q0a:=⟨#[102,111,111,116]⟩
def q5J:q0a:=⟨#[99,111,117,110,116]⟩
def q7v:q0a:=⟨#[115,111,109,101]⟩
def q4t:q0a:=⟨#[108,105,110,101]⟩
/-- The lines of items. -/
def itms:List (List q0a) → q0a
 | []=>em
 | ws :: wss=>itm (jn ws)++itms wss
def wd:List (List q0a) → Nat
 | []=>0
 | ws :: wss=>wid ws + 5 + wd wss
theorem wd_app (a b:List (List q0a)):wd (a++b) = wd a + wd b:=by
 induction a with
 | nil=>simp [wd]
 | cons u us ih=>simp only [List.cons_append,wd,ih];omega
theorem q9A (wss:List (List q0a)):(itms wss).size≤wd wss:=by
 induction wss with
 | nil=>exact q0e _
 | cons ws wss ih=>
  have:=q5q ws
  simp only [itms,wd,ByteArray.size_append,q4v]
  omega
theorem q5t {o:q0a} {ws:List q0a} {K:Nat → q0a → Option (q0a × Int)} {r} (hw:wid ws≤100000) (ho:o.size≤1000000) (h:q1B (fun k=>K k (o++itm (jn ws))) r):q1B (fun k=>put1 o ws (K k)) r:=by
 have:=q5q ws
 simp only [put1,join_f ws hw,Option.bind_some]
 exact cPO h
theorem q5v {ws:List q0a} (hw:wid ws≤100000):q1B (fun k=>q2E.f k ws) (itm (jn ws)):=by
 have:=q5q ws
 have e2:(⟨#[32,32]⟩:q0a).size = 2:=rfl
 unfold q2E.f
 exact cBin (q8n ws hw) (cPO (cPos (by rw [ByteArray.size_append,e2];omega) (cCon _)))
theorem q5O (o:q0a) (ws:List q0a) (wss:List (List q0a)) (z:q0a):(o++itm (jn ws))++(itms wss++z) = o++(itms (ws :: wss)++z):=by
 simp only [itms,ByteArray.append_assoc]
def wEnd:q0a:=⟨#[125,10]⟩
def smw (l:List q0a):List q0a:=[q7v]++l
def ctw (c:S88):List q0a:=[q5J,c.f0,dig c.f1,dig c.f2]
/-- The words of feet. -/
inductive FW:List S86 → Nat → List (List q0a) → List (List Tok) → Prop
 | nil:FW [] 0 [] []
 | cons (f:S86) (fs:List S86) (m n:Nat) (ws:List q0a) (ts:List Tok) (wss:List (List q0a)) (tss:List (List Tok)) (hu:q4s f.f0) (h:Wr f.f1 m ws ts) (r:FW fs n wss tss) :
   FW (f :: fs) (m + n) (([q5l,f.f0,⟨#[61]⟩]++ws) :: wss) (((1,q5l) :: (1,f.f0) :: sg 61 :: ts) :: tss)
theorem FW.wide {fs:List S86} {n:Nat} {wss:List (List q0a)} {tss:List (List Tok)} (h:FW fs n wss tss):wd wss≤27 * n + 40 * fs.length:=by
 induction h with
 | nil=>exact q2S _
 | cons f fs m n ws ts wss tss hu h r ih=>
  have z1:=(q4u hu).2
  have z2:=h.z
  have e1:q5l.size = 4:=rfl
  have e2:(⟨#[61]⟩:q0a).size = 1:=rfl
  simp only [wd,q4J,wid,List.length_cons,e1,e2]
  omega
theorem fw_of:∀ {fs:List S86} {n:Nat},CntF fs n → n≤260 → (∀ x,x ∈ fs → FtOk x) → ∃ wss tss,FW fs n wss tss:=by
 intro fs n h
 induction h with
 | nil=>exact fun _ _=>⟨_,_,.nil⟩
 | cons f fs m n ys h r ih=>
  intro hn hk
  obtain ⟨h1,h2⟩:=hk f (by simp)
  obtain ⟨ws,ts,hw⟩:=q9w _ h2 m ys h (by omega)
  obtain ⟨wss,tss,hs⟩:=ih (by omega) (fun x hx=>hk x (List.mem_cons_of_mem _ hx))
  exact ⟨_,_,.cons _ _ _ _ _ _ _ _ h1 hw hs⟩
theorem q8E {l:List q0a} (h:SmOk l):wid (smw l)≤5 + 21 * l.length:=by
 obtain ⟨_,_,hu⟩:=h
 have e:q7v.size = 4:=rfl
 have key:∀ l:List q0a,(∀ x,x ∈ l → q4s x) → wid l≤21 * l.length:=by
  intro l
  induction l with
  | nil=>intro _;exact q0e _
  | cons u us ih=>
   intro h
   have z1:=(q4u (h u (by simp))).2
   have:=ih (fun x hx=>h x (List.mem_cons_of_mem _ hx))
   simp only [wid,List.length_cons]
   omega
 have:=key l hu
 simp only [smw,q4J,wid,e]
 omega
theorem q8J {c:S88} (h:CtOk c):wid (ctw c)≤31:=by
 have z1:=(q4u h.1).2
 have e:q5J.size = 5:=rfl
 simp only [ctw,wid,dz,e]
 omega
theorem v1h {α:Type} (f:α → List q0a) (q:Nat) (l:List α) (h:∀ x,x ∈ l → wid (f x)≤q):wd (l.map f)≤(q + 5) * l.length:=by
 induction l with
 | nil=>exact q2S _
 | cons x l ih=>
  have h1:=h x (by simp)
  have h2:=ih (fun y hy=>h y (List.mem_cons_of_mem _ hy))
  simp only [List.map_cons,wd,List.length_cons,Nat.mul_succ]
  omega
section
variable (a0:q0a) {l1:List S86} {l2:List S88} {l3:List (List q0a)} {a4:Int} {a5:q0a} {a6:Int} {l7:List S25} (h3:∀ x,x ∈ l3 → SmOk x) (z3:l3.length≤6)
include h3 z3
theorem fmt_l2:∀ (d i:Nat) (o:q0a),i + d = l3.length → o.size + wd ((l3.drop i).map smw)≤100000 →
  q1B (fun k=>q1f.l2 k o ((i:Nat):Int) l1 l2 l3 a4 a5 a6 l7) (o++(itms ((l3.drop i).map smw)++wEnd),0)∧q1B (fun k=>q0J.l2 k o ((i:Nat):Int) a0 l1 l2 l3 a4 a5 a6 l7) (o++(itms ((l3.drop i).map smw)++wEnd),0):=by
 intro d
 induction d with
 | zero=>
  intro i o hi hs
  rw [List.drop_eq_nil_of_le (by omega)]
  have e:o++(itms (([]:List (List q0a)).map smw)++wEnd) = o++(⟨#[125,10]⟩:q0a):=by
   rw [List.map_nil,show itms [] = em from rfl,q8I];rfl
  rw [e]
  refine ⟨cSuc ?_,cSuc ?_⟩
  ·simp only [q1f.l2];exact cNO (cPO (cCon _))
  ·simp only [q0J.l2];exact cNO (cPO (cCon _))
 | succ d IH=>
  intro i o hi hs
  have h:i < l3.length:=by omega
  have hk:=h3 _ (List.getElem_mem h)
  have hl:=hk.2.1
  have hw:=q8E hk
  rw [List.drop_eq_getElem_cons h,List.map_cons] at hs ⊢
  simp only [wd] at hs
  have hj:=q5q (smw l3[i])
  obtain ⟨i1,i2⟩:=IH (i + 1) (o++itm (jn (smw l3[i]))) (by omega) (by rw [ByteArray.size_append,q4v];omega)
  rw [q5O] at i1 i2
  refine ⟨cSuc ?_,cSuc ?_⟩
  ·simp only [q1f.l2,rdl7 h,q2t (show i≤1048576 by omega)]
   exact cPO (cPO (cPO (q5t (ws:=smw l3[i]) (by omega) (by omega) i1)))
  ·simp only [q0J.l2,rdl7 h,q2t (show i≤1048576 by omega),Option.bind_some]
   exact cPO (cPO (cPos (by rw [List.length_singleton];omega) (cBin (q5v (ws:=smw l3[i]) (by omega)) (cPos (by rw [q4v];omega) i2))))
variable (h2:∀ x,x ∈ l2 → CtOk x) (z2:l2.length≤6) {m:Nat} {lws:List q0a} {lts:List Tok} (hL:Wr ⟨a4,a5,a6,l7⟩ m lws lts) (hm:m≤260)
include h2 z2 hL hm
theorem fmt_l1:∀ (d i:Nat) (o:q0a),i + d = l2.length → o.size + wd ((l2.drop i).map ctw++(([q4t,⟨#[61]⟩]++lws) :: l3.map smw))≤100000 →
  q1B (fun k=>q1f.l1 k o ((i:Nat):Int) l1 l2 l3 a4 a5 a6 l7) (o++(itms ((l2.drop i).map ctw++(([q4t,⟨#[61]⟩]++lws) :: l3.map smw))++wEnd),0)∧q1B (fun k=>q0J.l1 k o ((i:Nat):Int) a0 l1 l2 l3 a4 a5 a6 l7) (o++(itms ((l2.drop i).map ctw++(([q4t,⟨#[61]⟩]++lws) :: l3.map smw))++wEnd),0):=by
 intro d
 induction d with
 | zero=>
  intro i o hi hs
  rw [List.drop_eq_nil_of_le (show l2.length≤i by omega),List.map_nil,List.nil_append] at hs ⊢
  have hz:=hL.z
  have e1:q4t.size = 4:=rfl
  have e2:(⟨#[61]⟩:q0a).size = 1:=rfl
  have hw:wid ([q4t,⟨#[61]⟩]++lws) = 7 + wid lws:=by simp only [q4J,wid,e1,e2]
  have hn:=q5k lws
  have hj:=q5q ([q4t,⟨#[61]⟩]++lws)
  simp only [wd] at hs
  obtain ⟨i1,i2⟩:=fmt_l2 a0 (l1:=l1) (l2:=l2) (a4:=a4) (a5:=a5) (a6:=a6) (l7:=l7) h3 z3 l3.length 0 (o++itm (jn ([q4t,⟨#[61]⟩]++lws))) (by omega) (by rw [List.drop_zero,ByteArray.size_append,q4v];omega)
  rw [List.drop_zero,q5O] at i1 i2
  refine ⟨cSuc ?_,cSuc ?_⟩
  ·simp only [q1f.l1]
   exact cNO (cBin hL.w (cPO (q5t (ws:=[q4t,⟨#[61]⟩]++lws) (by omega) (by omega) i1)))
  ·simp only [q0J.l1,Option.bind_some]
   exact cNO (cBin hL.r (cPos (by show 2 + lws.length < _;omega) (cBin (q5v (ws:=[q4t,⟨#[61]⟩]++lws) (by omega)) (cPos (by rw [q4v];omega) i2))))
 | succ d IH=>
  intro i o hi hs
  have h:i < l2.length:=by omega
  have hk:=h2 _ (List.getElem_mem h)
  obtain ⟨k1,k2,k3,k4⟩:=id hk
  have hw:=q8J hk
  rw [List.drop_eq_getElem_cons h,List.map_cons,List.cons_append] at hs ⊢
  simp only [wd] at hs
  have hj:=q5q (ctw l2[i])
  obtain ⟨i1,i2⟩:=IH (i + 1) (o++itm (jn (ctw l2[i]))) (by omega) (by rw [ByteArray.size_append,q4v];omega)
  rw [q5O] at i1 i2
  refine ⟨cSuc ?_,cSuc ?_⟩
  ·simp only [q1f.l1,rd88 h,q2t (show i≤1048576 by omega)]
   exact cPO (cPO (cBin (q5U ⟨k2,by omega⟩) (cBin (q5U ⟨by omega,by omega⟩) (q5t (ws:=ctw l2[i]) (by omega) (by omega) i1))))
  ·simp only [q0J.l1,rd88 h,q2t (show i≤1048576 by omega),q7q (show 0≤l2[i].f1∧l2[i].f1≤9 from ⟨k2,by omega⟩),q7q (show 0≤l2[i].f2∧l2[i].f2≤9 from ⟨by omega,by omega⟩)]
   exact cPO (cPO (cBin (q5v (ws:=ctw l2[i]) (by omega)) (cPos (by rw [q4v];omega) i2)))
theorem fmt_l0:∀ (d i n:Nat) (fw:List (List q0a)) (ft:List (List Tok)) (o:q0a),i + d = l1.length → FW (l1.drop i) n fw ft → n≤260 → l1.length≤25 → o.size + wd (fw++(l2.map ctw++(([q4t,⟨#[61]⟩]++lws) :: l3.map smw)))≤100000 →
  q1B (fun k=>q1f.l0 k o ((i:Nat):Int) l1 l2 l3 a4 a5 a6 l7) (o++(itms (fw++(l2.map ctw++(([q4t,⟨#[61]⟩]++lws) :: l3.map smw)))++wEnd),0)∧q1B (fun k=>q0J.l0 k o ((i:Nat):Int) a0 l1 l2 l3 a4 a5 a6 l7) (o++(itms (fw++(l2.map ctw++(([q4t,⟨#[61]⟩]++lws) :: l3.map smw)))++wEnd),0):=by
 intro d
 induction d with
 | zero=>
  intro i n fw ft o hi hF hn z1 hs
  rw [List.drop_eq_nil_of_le (by omega)] at hF
  cases hF
  rw [List.nil_append] at hs ⊢
  obtain ⟨i1,i2⟩:=fmt_l1 a0 (l1:=l1) h3 z3 h2 z2 hL hm l2.length 0 o (by omega) (by rw [List.drop_zero];exact hs)
  rw [List.drop_zero] at i1 i2
  refine ⟨cSuc ?_,cSuc ?_⟩
  ·simp only [q1f.l0];exact cNO i1
  ·simp only [q0J.l0];exact cNO i2
 | succ d IH=>
  intro i n fw ft o hi hF hn z1 hs
  have h:i < l1.length:=by omega
  rw [List.drop_eq_getElem_cons h] at hF
  cases hF with
  | cons _ _ m' n' ws ts wss tss hu hW r=>
  have hz:=hW.z
  have hn2:=q5k ws
  have zz:=(q4u hu).2
  have e1:q5l.size = 4:=rfl
  have e2:(⟨#[61]⟩:q0a).size = 1:=rfl
  have hw:wid ([q5l,l1[i].f0,⟨#[61]⟩]++ws) = 8 + l1[i].f0.size + wid ws:=by simp only [q4J,wid,e1,e2];omega
  have hj:=q5q ([q5l,l1[i].f0,⟨#[61]⟩]++ws)
  rw [List.cons_append] at hs ⊢
  simp only [wd] at hs
  obtain ⟨i1,i2⟩:=IH (i + 1) n' wss tss (o++itm (jn ([q5l,l1[i].f0,⟨#[61]⟩]++ws))) (by omega) r (by omega) z1 (by rw [ByteArray.size_append,q4v];omega)
  rw [q5O] at i1 i2
  refine ⟨cSuc ?_,cSuc ?_⟩
  ·simp only [q1f.l0,rd86 h,q2t (show i≤1048576 by omega)]
   exact cPO (cPO (cBin hW.w (cPO (q5t (ws:=[q5l,l1[i].f0,⟨#[61]⟩]++ws) (by omega) (by omega) i1))))
  ·simp only [q0J.l0,rd86 h,q2t (show i≤1048576 by omega),Option.bind_some]
   exact cPO (cPO (cBin hW.r (cPos (by show 3 + ws.length < _;omega) (cBin (q5v (ws:=[q5l,l1[i].f0,⟨#[61]⟩]++ws) (by omega)) (cPos (by rw [q4v];omega) i2)))))
end
end
section
inductive Prss:List (List q0a) → List (List Tok) → Prop
 | nil:Prss [] []
 | cons (ws:List q0a) (ts:List Tok) (wss:List (List q0a)) (tss:List (List Tok)) (h:Prs ws ts) (r:Prss wss tss):Prss (ws :: wss) (ts :: tss)
theorem Prss.app {a:List (List q0a)} {s:List (List Tok)} {b:List (List q0a)} {t:List (List Tok)} (h:Prss a s) (h':Prss b t):Prss (a++b) (s++t):=by
 induction h with
 | nil=>exact h'
 | cons u t us ts h r ih=>exact .cons _ _ _ _ h ih
/-- The tokens of items. -/
def tks:List (List Tok) → List Tok
 | []=>[]
 | ts :: tss=>ts++sg 59 :: tks tss
theorem q9K (a b:List (List Tok)):tks (a++b) = tks a++tks b:=by
 induction a with
 | nil=>rfl
 | cons u us ih=>simp only [List.cons_append,tks,ih,List.append_assoc]
theorem Rd.items {b:q0a} {wss:List (List q0a)} {tss:List (List Tok)} (h:Prss wss tss):∀ (c:Nat) (rest:List Tok),q4X b (itms wss) c → Rd b (c + (itms wss).size) rest → Rd b c (tks tss++rest):=by
 induction h with
 | nil=>intro c rest _ r;exact r
 | cons ws ts wss tss h r ih=>
  intro c rest hs hr
  have e2:(⟨#[32,32]⟩:q0a).size = 2:=rfl
  have e3:(⟨#[32,59,10]⟩:q0a).size = 3:=rfl
  have s:q4X b (((⟨#[32,32]⟩:q0a)++jn ws)++(⟨#[32,59,10]⟩:q0a)) c:=hs.left
  have sr:=hs.right
  have ez:(itms (ws :: wss)).size = (jn ws).size + 5 + (itms wss).size:=by simp only [itms,ByteArray.size_append,q4v]
  have p1:=s.left.left
  have p2:=s.left.right
  have p3:=s.right
  rw [q4v] at sr
  rw [ez] at hr
  rw [e2] at p2
  rw [ByteArray.size_append,e2] at p3
  have z1:=p3.1
  rw [e3] at z1
  have b0:=p1.2 0 (by rw [e2];omega)
  have b1:=p1.2 1 (by rw [e2];omega)
  have b2:=p3.2 0 (by rw [e3];omega)
  have b3:=p3.2 1 (by rw [e3];omega)
  have b4:=p3.2 2 (by rw [e3];omega)
  rw [Nat.add_zero] at b0 b2
  rw [show c + (2 + (jn ws).size) = c + 2 + (jn ws).size by omega] at b2 b3 b4
  rw [show c + ((jn ws).size + 5 + (itms wss).size) = c + ((jn ws).size + 5) + (itms wss).size by omega] at hr
  have q:=ih _ rest sr hr
  rw [show c + ((jn ws).size + 5) = c + 2 + (jn ws).size + 1 + 1 + 1 by omega] at q
  rw [show tks (ts :: tss)++rest = ts++(sg 59 :: (tks tss++rest)) by simp only [tks,List.append_assoc,List.cons_append]]
  refine .white c _ (by omega) b0 (.white (c + 1) _ (by omega) b1 (Rd.join h p2 (fun _=>.inl b2) ?_))
  exact .white _ _ (by omega) b2 (Rd.sgn (v:=59) (by omega) b3 (q7t (by decide)) (.nl _ _ (by omega) b4 q))
def q6k:q0a:=⟨#[109,101,116,114,101]⟩
theorem kw_tab:∀ w ∈ [q6k,q5l,q5J,q7v,q4t],q2G.f 12 w = some true:=by decide +kernel
theorem q9P {w:q0a} (h:w ∈ [q6k,q5l,q5J,q7v,q4t]):Wk w (1,w):=(q6Q (q1B.mono (fun k=>q2G.mono _ k) 12 (kw_tab w h))).1
/-- The text. -/
def txt (a0:q0a) (wss:List (List q0a)):q0a:=(((⟨#[109,101,116,114,101,32]⟩:q0a)++a0)++(⟨#[32,123,10]⟩:q0a))++(itms wss++wEnd)
def ttk (a0:q0a) (tss:List (List Tok)):List Tok:=(1,q6k) :: (1,a0) :: sg 123 :: (tks tss++[sg 125])
theorem q8Z {a0:q0a} {wss:List (List q0a)} {tss:List (List Tok)} (h:Prss wss tss) (h0:Wk a0 (1,a0)) (hz:a0.size + wd wss≤19000):∃ l:List S36,l.map (fun t=>(t.f0,t.f1)) = ttk a0 tss∧q1B (fun k=>q1q.f k (txt a0 wss)) (l,0,0):=by
 have hi:=q9A wss
 have e6:(⟨#[109,101,116,114,101,32]⟩:q0a).size = 6:=rfl
 have e3:(⟨#[32,123,10]⟩:q0a).size = 3:=rfl
 have e2:wEnd.size = 2:=rfl
 have e5:q6k.size = 5:=rfl
 have e1:(⟨#[32]⟩:q0a).size = 1:=rfl
 have ez:(txt a0 wss).size = 6 + a0.size + 3 + ((itms wss).size + 2):=by simp only [txt,ByteArray.size_append,e6,e3,e2]
 have hS:q4X (txt a0 wss) ((((⟨#[109,101,116,114,101,32]⟩:q0a)++a0)++(⟨#[32,123,10]⟩:q0a))++(itms wss++wEnd)) 0:=⟨by rw [Nat.zero_add];exact q0e _,fun j hj=>by rw [Nat.zero_add];rfl⟩
 have p0:q4X (txt a0 wss) (q6k++(⟨#[32]⟩:q0a)) 0:=hS.left.left.left
 have p1:=p0.left
 have p2:=p0.right
 have p3:=hS.left.left.right
 have p4:=hS.left.right
 have p5:=hS.right.left
 have p6:=hS.right.right
 rw [e5] at p2
 rw [e6] at p3
 rw [ByteArray.size_append,e6] at p4
 rw [ByteArray.size_append,ByteArray.size_append,e6,e3] at p5 p6
 have b0:=p2.2 0 (by rw [e1];omega)
 have b1:=p4.2 0 (by rw [e3];omega)
 have b2:=p4.2 1 (by rw [e3];omega)
 have b3:=p4.2 2 (by rw [e3];omega)
 have b4:=p6.2 0 (by rw [e2];omega)
 have b5:=p6.2 1 (by rw [e2];omega)
 rw [Nat.add_zero] at b0 b1 b4
 generalize txt a0 wss = B at *
 refine Rd.tokens (by omega) ?_
 have f:Rd B (0 + (6 + a0.size + 3) + (itms wss).size) [sg 125]:=by
  refine Rd.sgn (v:=125) (by omega) b4 (q7t (by decide)) (.nl _ _ (by omega) b5 ?_)
  rw [show 0 + (6 + a0.size + 3) + (itms wss).size + 1 + 1 = B.size by omega]
  exact .fin
 have g:=Rd.items h _ _ p5 f
 rw [show 0 + (6 + a0.size + 3) = 0 + (6 + a0.size) + 1 + 1 + 1 by omega] at g
 refine Rd.word (u:=q6k) (q9P (by simp)) p1 (fun _=>.inl b0) (.white _ _ (by rw [e5];omega) b0 ?_)
 refine Rd.word (u:=a0) h0 p3 (fun _=>.inl ?_) ?_
 ·rw [show 0 + q6k.size + 1 + a0.size = 0 + (6 + a0.size) by omega];exact b1
 ·rw [show 0 + q6k.size + 1 + a0.size = 0 + (6 + a0.size) by omega]
  exact .white _ _ (by omega) b1 (Rd.sgn (v:=123) (by omega) b2 (q7t (by decide)) (.nl _ _ (by omega) b3 g))
/-- The words of the items are their tokens. -/
theorem FW.prs {fs:List S86} {n:Nat} {wss:List (List q0a)} {tss:List (List Tok)} (h:FW fs n wss tss):Prss wss tss:=by
 induction h with
 | nil=>exact .nil
 | cons f fs m n ws ts wss tss hu h r ih=>exact .cons _ _ _ _ (.cons _ _ _ _ (q9P (by simp)) (.cons _ _ _ _ (q4u hu).1 (.cons _ _ _ _ (q4n (by decide)) h.p))) ih
def ctt (c:S88):List Tok:=[(1,q5J),(1,c.f0),(2,dig c.f1),(2,dig c.f2)]
def smt (l:List q0a):List Tok:=(1,q7v) :: l.map (fun u=>((1:Int),u))
theorem ct_prs {l:List S88} (h:∀ x,x ∈ l → CtOk x):Prss (l.map ctw) (l.map ctt):=by
 induction l with
 | nil=>exact .nil
 | cons c l ih=>
  obtain ⟨h1,h2,h3,h4⟩:=h c (by simp)
  exact .cons _ _ _ _ (.cons _ _ _ _ (q9P (by simp)) (.cons _ _ _ _ (q4u h1).1 (.cons _ _ _ _ (q8S ⟨h2,by omega⟩) (.cons _ _ _ _ (q8S ⟨by omega,by omega⟩) .nil)))) (ih (fun x hx=>h x (List.mem_cons_of_mem _ hx)))
theorem q9v {l:List q0a} (h:∀ x,x ∈ l → q4s x):Prs l (l.map (fun u=>((1:Int),u))):=by
 induction l with
 | nil=>exact .nil
 | cons c l ih=>exact .cons _ _ _ _ (q4u (h c (by simp))).1 (ih (fun x hx=>h x (List.mem_cons_of_mem _ hx)))
theorem sm_prs {l:List (List q0a)} (h:∀ x,x ∈ l → SmOk x):Prss (l.map smw) (l.map smt):=by
 induction l with
 | nil=>exact .nil
 | cons c l ih=>exact .cons _ _ _ _ (.cons _ _ _ _ (q9P (by simp)) (q9v (h c (by simp)).2.2)) (ih (fun x hx=>h x (List.mem_cons_of_mem _ hx)))
end
section
abbrev KW:List q0a:=[(⟨#[102,111,111,116]⟩:q0a),(⟨#[99,111,117,110,116]⟩:q0a),(⟨#[115,111,109,101]⟩:q0a),(⟨#[108,105,110,101]⟩:q0a)]
theorem kw_has:∀ w ∈ [q5l,q5J,q7v,q4t],q1C.f 10 KW w = some true:=by decide +kernel
theorem v0s {w:q0a} (h:w ∈ [q5l,q5J,q7v,q4t]):q1B (fun k=>q1C.f k KW w) true:=q1B.mono (fun k=>q1C.mono _ _ k) 10 (kw_has w h)
theorem tFoot:q5l.toList = [102,111,111,116]:=by rw [ByteArray.toList_eq];rfl
theorem v0O:q5J.toList = [99,111,117,110,116]:=by rw [ByteArray.toList_eq];rfl
theorem v0F:q7v.toList = [115,111,109,101]:=by rw [ByteArray.toList_eq];rfl
theorem v0e:q4t.toList = [108,105,110,101]:=by rw [ByteArray.toList_eq];rfl
theorem q9y {l:List S36} {i:Nat} (h:i < l.length) {q:Int} (hq:l[i].f0≠q) (s:q0a):q1T.f l (i:Int) false q s = some (false,(i:Int),false):=by
 simp [q1T.f,q3Y l i h,hq]
theorem q8F {l:List S36} {i:Nat} {s:q0a} (h:Hit l i s):q1T.f l (i:Int) false 4 s = some (true,(i:Int),false):=by
 obtain ⟨h1,h2,h3⟩:=h
 simp [q1T.f,q3Y l i h1,h2,h3]
abbrev IR:Type:=q0a × (List S86) × (List S88) × (List (List q0a)) × Int × q0a × Int × (List S25) × Int × Bool
section
variable {l:List S36} (hl:l.length≤1000000) {nm:q0a} {x1:List S86} {x2:List S88} {x3:List (List q0a)} {y4:Int} {y5:q0a} {y6:Int} {y7:List S25} {r:IR}
omit hl in
theorem q8H {i:Nat} (h:i < l.length) (h1:l[i].f0 = 1) {w:q0a} (hw:l[i].f1 = w) (hk:w ∈ [q5l,q5J,q7v,q4t]) (z:Bool) (hz:z = true → w.toList≠([108,105,110,101]:List UInt8))
  (hr:q1B (fun k=>q0l.j2 k z false l (i:Int) false nm x1 x2 x3 y4 y5 y6 y7 1 w l[i].f2) r):q1B (fun k=>q0l.l0 k z l (i:Int) false nm x1 x2 x3 y4 y5 y6 y7) r:=by
 have hc:=v0s hk
 have J:q1B (fun k=>q0l.j1 k z true l (i:Int) false nm x1 x2 x3 y4 y5 y6 y7) r:=by
  apply cSuc
  simp only [q0l.j1,q3Y l i h,Option.bind_some,h1,hw]
  refine cPos trivial (cPos trivial ?_)
  refine cIte (fun e=>cIte (fun e2=>absurd e (hz e2)) (fun _=>cBin hc hr)) (fun _=>cBin hc hr)
 apply cSuc
 simp only [q0l.l0]
 refine cND (cIte (fun e=>?_) (fun e=>J))
 rw [q9y h (by rw [h1];decide)]
 exact J
include hl
theorem rd_foot {f:S86} {ts:List Tok} {i:Nat} {rest:List Tok} (hA:At l i ((1,q5l) :: (1,f.f0) :: sg 61 :: (ts++sg 59 :: rest))) (hu:q4s f.f0) (hB:TkB f.f1 ts) (h1:x1.length≤1000000)
  (hr:q1B (fun k=>q0l.l0 k false l ((i + (ts.length + 4):Nat):Int) false nm (x1++[f]) x2 x3 y4 y5 y6 y7) r):q1B (fun k=>q0l.l0 k false l (i:Int) false nm x1 x2 x3 y4 y5 y6 y7) r:=by
 obtain ⟨h,ha,hb⟩:=hA.head
 obtain ⟨h',ha',hb'⟩:=hA.tail.head
 have he:=hA.tail.tail.sign
 have hA3:=hA.tail.tail.tail
 have h59:=hA3.right.sign
 have hs:=q7H hl hB hA3.left (q4K hl h59 (.inr (.inr (.inr (.inr rfl)))))
 have hn:=q6O hl h' ha' (by rw [hb'];exact q4I hu)
 have hi59:=h59.1
 refine q8H h ha hb (by simp) false (fun k=>by cases k) (cSuc ?_)
 simp only [q0l.j2,q5d (show i≤1000000 by omega),hn,q4M (show i + 1 + 1≤l.length by omega) (by omega) he,Option.bind_some]
 refine cND (cPos tFoot (cBin hs (cPO ?_)))
 simp only [q5T,q4M (show i + 1 + 1 + 1 + ts.length≤l.length by omega) (by omega) h59,Option.bind_some,q7I,hb']
 rw [show i + 1 + 1 + 1 + ts.length + 1 = i + (ts.length + 4) by omega]
 exact hr
theorem rd_ct {c:S88} {i:Nat} {rest:List Tok} (hA:At l i (ctt c++sg 59 :: rest)) (hc:CtOk c) (h1:x2.length≤1000000)
  (hr:q1B (fun k=>q0l.l0 k false l ((i + 5:Nat):Int) false nm x1 (x2++[c]) x3 y4 y5 y6 y7) r):q1B (fun k=>q0l.l0 k false l (i:Int) false nm x1 x2 x3 y4 y5 y6 y7) r:=by
 obtain ⟨hu,k1,k2,k3⟩:=hc
 obtain ⟨h,ha,hb⟩:=hA.head
 obtain ⟨h',ha',hb'⟩:=hA.tail.head
 obtain ⟨g,ga,gb⟩:=hA.tail.tail.head
 obtain ⟨g',ga',gb'⟩:=hA.tail.tail.tail.head
 have h59:=hA.tail.tail.tail.tail.sign
 have hi59:=h59.1
 have hn:=q6O hl h' ha' (by rw [hb'];exact q4I hu)
 refine q8H h ha hb (by simp) false (fun k=>by cases k) (cSuc ?_)
 have n1:Num (l[i + 1 + 1].f1) c.f1:=by rw [gb];exact q7w ⟨k1,by omega⟩
 have n2:Num (l[i + 1 + 1 + 1].f1) c.f2:=by rw [gb'];exact q7w ⟨by omega,by omega⟩
 simp only [q0l.j2,q2n.f,q5d (show i≤1000000 by omega),hn,q5R l _ 2 g ga (by omega),Option.bind_some]
 refine cND (cNeg (by rw [v0O];decide) (cPos v0O (cBin (cBin n1 (cCon _)) ?_)))
 simp only [q5R l _ 2 g' ga' (by omega),Option.bind_some]
 refine cBin (cBin n2 (cCon _)) (cPO ?_)
 simp only [q4M (show i + 1 + 1 + 1 + 1≤l.length by omega) (by omega) h59,Option.bind_some,hb']
 exact hr
theorem v0z (z:Bool):∀ (us:List q0a) (i:Nat) (rest:List Tok) (w:List q0a),At l i (us.map (fun u=>((1:Int),u))++sg 59 :: rest) → (∀ u,u ∈ us → q4s u) → w.length + us.length≤1000000 → x3.length≤1000000 →
  q1B (fun k=>q0l.l0 k z l ((i + us.length + 1:Nat):Int) false nm x1 x2 (x3++[w++us]) y4 y5 y6 y7) r → q1B (fun k=>q0l.l1 k z w l (i:Int) false nm x1 x2 x3 y4 y5 y6 y7) r:=by
 intro us
 induction us with
 | nil=>
  intro i rest w hA _ _ hx hr
  have h59:=At.sign (l:=l) (c:=59) (ts:=rest) hA
  have hi:=h59.1
  rw [List.append_nil] at hr
  apply cSuc
  simp only [q0l.l1,q8F h59,q4M (show i≤l.length by omega) (by omega) h59,Option.bind_some]
  exact cND (cPos trivial (cPO hr))
 | cons u us ih=>
  intro i rest w hA hu hw hx hr
  obtain ⟨h,ha,hb⟩:=At.head (t:=((1:Int),u)) (ts:=us.map (fun u=>((1:Int),u))++sg 59 :: rest) hA
  have hT:=At.tail (t:=((1:Int),u)) (ts:=us.map (fun u=>((1:Int),u))++sg 59 :: rest) hA
  have hn:=q6O hl h ha (by rw [hb];exact q4I (hu u (by simp)))
  rw [List.length_cons] at hw
  rw [show w++u :: us = (w++[u])++us by simp,show i + (u :: us).length + 1 = i + 1 + us.length + 1 by rw [List.length_cons];omega] at hr
  apply cSuc
  simp only [q0l.l1,q9y h (show l[i].f0≠4 by rw [ha];show (1:Int)≠4;decide),hn,hb,Option.bind_some]
  exact cND (cND (cPO (ih (i + 1) rest (w++[u]) hT (fun x hx=>hu x (List.mem_cons_of_mem _ hx)) (by rw [List.length_append,List.length_singleton];omega) hx hr)))
theorem rd_some {us:List q0a} {i:Nat} {rest:List Tok} (z:Bool) (hA:At l i (smt us++sg 59 :: rest)) (hu:SmOk us) (h1:x3.length≤1000000)
  (hr:q1B (fun k=>q0l.l0 k z l ((i + (us.length + 2):Nat):Int) false nm x1 x2 (x3++[us]) y4 y5 y6 y7) r):q1B (fun k=>q0l.l0 k z l (i:Int) false nm x1 x2 x3 y4 y5 y6 y7) r:=by
 obtain ⟨hne,h6,hus⟩:=hu
 obtain ⟨h,ha,hb⟩:=hA.head
 cases us with
 | nil=>exact absurd rfl hne
 | cons u us=>
 obtain ⟨h',ha',hb'⟩:=hA.tail.head
 have hn:=q6O hl h' ha' (by rw [hb'];exact q4I (hus u (by simp)))
 rw [List.length_cons] at h6
 refine q8H h ha hb (by simp) z (fun _=>by rw [v0F];decide) (cSuc ?_)
 simp only [q0l.j2,q5d (show i≤1000000 by omega),hn,hb',Option.bind_some]
 refine cND (cNeg (by rw [v0F];decide) (cNeg (by rw [v0F];decide) (cPos v0F ?_)))
 refine v0z hl z us (i + 1 + 1) rest [u] hA.tail.tail (fun x hx=>hus x (List.mem_cons_of_mem _ hx)) (by rw [List.length_singleton];omega) h1 ?_
 rw [show i + 1 + 1 + us.length + 1 = i + ((u :: us).length + 2) by rw [List.length_cons];omega]
 exact hr
theorem rd_line {n:S25} {ts:List Tok} {i:Nat} {rest:List Tok} (hA:At l i ((1,q4t) :: sg 61 :: (ts++sg 59 :: rest))) (hB:TkB n ts)
  (hr:q1B (fun k=>q0l.l0 k true l ((i + (ts.length + 3):Nat):Int) false nm x1 x2 x3 n.f0 n.f1 n.f2 n.f3) r):q1B (fun k=>q0l.l0 k false l (i:Int) false nm x1 x2 x3 y4 y5 y6 y7) r:=by
 obtain ⟨h,ha,hb⟩:=hA.head
 have he:=hA.tail.sign
 have hA3:=hA.tail.tail
 have h59:=hA3.right.sign
 have hi59:=h59.1
 have hs:=q7H hl hB hA3.left (q4K hl h59 (.inr (.inr (.inr (.inr rfl)))))
 refine q8H h ha hb (by simp) false (fun k=>by cases k) (cSuc ?_)
 simp only [q0l.j2,q5d (show i≤1000000 by omega),q4M (show i + 1≤l.length by omega) (by omega) he,Option.bind_some]
 refine cND (cNeg (by rw [v0e];decide) (cNeg (by rw [v0e];decide) (cNeg (by rw [v0e];decide) (cPos v0e (cBin hs ?_)))))
 simp only [q5T,q4M (show i + 1 + 1 + ts.length≤l.length by omega) (by omega) h59,Option.bind_some]
 rw [show i + 1 + 1 + ts.length + 1 = i + (ts.length + 3) by omega]
 exact hr
omit hl in
theorem rd_end {i:Nat} {rest:List Tok} (hA:At l i (sg 125 :: rest)):q1B (fun k=>q0l.l0 k true l (i:Int) false nm x1 x2 x3 y4 y5 y6 y7) (nm,x1,x2,x3,y4,y5,y6,y7,(i:Int),false):=by
 have h:=hA.sign
 apply cSuc
 simp only [q0l.l0,q8F h,Option.bind_some]
 refine cND (cPos trivial (cSuc ?_))
 simp only [q0l.j1]
 exact cND (cCon _)
end
end
section
section
variable {l:List S36} (hl:l.length≤1000000) {nm:q0a} {y4:Int} {y5:q0a} {y6:Int} {y7:List S25} {r:IR}
include hl
theorem rd_feet {x2:List S88} {x3:List (List q0a)} {fs:List S86} {n:Nat} {wss:List (List q0a)} {tss:List (List Tok)} (h:FW fs n wss tss):∀ (i:Nat) (rest:List Tok) (x1:List S86),At l i (tks tss++rest) → x1.length + fs.length≤1000000 →
  q1B (fun k=>q0l.l0 k false l ((i + (tks tss).length:Nat):Int) false nm (x1++fs) x2 x3 y4 y5 y6 y7) r → q1B (fun k=>q0l.l0 k false l (i:Int) false nm x1 x2 x3 y4 y5 y6 y7) r:=by
 induction h with
 | nil=>
  intro i rest x1 _ _ hr
  rw [List.append_nil] at hr
  exact hr
 | cons f fs m n ws ts wss tss hu h r ih=>
  intro i rest x1 hA hx hr
  rw [show tks (((1,q5l) :: (1,f.f0) :: sg 61 :: ts) :: tss)++rest = (1,q5l) :: (1,f.f0) :: sg 61 :: (ts++sg 59 :: (tks tss++rest)) by simp only [tks,List.cons_append,List.append_assoc]] at hA
  have e:(tks (((1,q5l) :: (1,f.f0) :: sg 61 :: ts) :: tss)).length = ts.length + 4 + (tks tss).length:=by
   simp only [tks,List.cons_append,List.length_cons,List.length_append];omega
  rw [List.length_cons] at hx
  rw [e,← Nat.add_assoc,show x1++f :: fs = (x1++[f])++fs by simp] at hr
  refine rd_foot hl hA hu h.b (by omega) (ih _ rest _ ?_ (by rw [List.length_append,List.length_singleton];omega) hr)
  have:=hA.tail.tail.tail.right.tail
  rw [show i + 1 + 1 + 1 + ts.length + 1 = i + (ts.length + 4) by omega] at this
  exact this
theorem rd_cts {x1:List S86} {x3:List (List q0a)} : ∀ (cs:List S88) (i:Nat) (rest:List Tok) (x2:List S88),At l i (tks (cs.map ctt)++rest) → (∀ c,c ∈ cs → CtOk c) → x2.length + cs.length≤1000000 →
  q1B (fun k=>q0l.l0 k false l ((i + (tks (cs.map ctt)).length:Nat):Int) false nm x1 (x2++cs) x3 y4 y5 y6 y7) r → q1B (fun k=>q0l.l0 k false l (i:Int) false nm x1 x2 x3 y4 y5 y6 y7) r:=by
 intro cs
 induction cs with
 | nil=>
  intro i rest x2 _ _ _ hr
  rw [List.append_nil] at hr
  exact hr
 | cons c cs ih=>
  intro i rest x2 hA hk hx hr
  rw [show tks ((c :: cs).map ctt)++rest = ctt c++sg 59 :: (tks (cs.map ctt)++rest) by simp only [tks,List.map_cons,List.cons_append,List.append_assoc]] at hA
  have e:(tks ((c :: cs).map ctt)).length = 5 + (tks (cs.map ctt)).length:=by
   simp only [tks,List.map_cons,List.length_cons,List.length_append,ctt,List.length_nil];omega
  rw [List.length_cons] at hx
  rw [e,← Nat.add_assoc,show x2++c :: cs = (x2++[c])++cs by simp] at hr
  exact rd_ct hl hA (hk c (by simp)) (by omega) (ih _ rest _ hA.right.tail (fun x hx=>hk x (List.mem_cons_of_mem _ hx)) (by rw [List.length_append,List.length_singleton];omega) hr)
theorem v0l {x1:List S86} {x2:List S88} (z:Bool):∀ (ls:List (List q0a)) (i:Nat) (rest:List Tok) (x3:List (List q0a)),At l i (tks (ls.map smt)++rest) → (∀ c,c ∈ ls → SmOk c) → x3.length + ls.length≤1000000 →
  q1B (fun k=>q0l.l0 k z l ((i + (tks (ls.map smt)).length:Nat):Int) false nm x1 x2 (x3++ls) y4 y5 y6 y7) r → q1B (fun k=>q0l.l0 k z l (i:Int) false nm x1 x2 x3 y4 y5 y6 y7) r:=by
 intro ls
 induction ls with
 | nil=>
  intro i rest x3 _ _ _ hr
  rw [List.append_nil] at hr
  exact hr
 | cons c ls ih=>
  intro i rest x3 hA hk hx hr
  rw [show tks ((c :: ls).map smt)++rest = smt c++sg 59 :: (tks (ls.map smt)++rest) by simp only [tks,List.map_cons,List.cons_append,List.append_assoc]] at hA
  have ec:(smt c).length = c.length + 1:=by simp only [smt,List.length_cons,List.length_map]
  have e:(tks ((c :: ls).map smt)).length = c.length + 2 + (tks (ls.map smt)).length:=by
   simp only [tks,List.map_cons,List.length_cons,List.length_append,ec];omega
  rw [List.length_cons] at hx
  rw [e,← Nat.add_assoc,show x3++c :: ls = (x3++[c])++ls by simp] at hr
  have hT:=hA.right.tail
  rw [ec,show i + (c.length + 1) + 1 = i + (c.length + 2) by omega] at hT
  exact rd_some hl z hA (hk c (by simp)) (by omega) (ih _ rest _ hT (fun x hx=>hk x (List.mem_cons_of_mem _ hx)) (by rw [List.length_append,List.length_singleton];omega) hr)
/-- All items. -/
theorem q8X {l1:List S86} {l2:List S88} {l3:List (List q0a)} {n:S25} {q:Nat} {fw:List (List q0a)} {ft:List (List Tok)} {lts:List Tok} (hF:FW l1 q fw ft) (h2:∀ c,c ∈ l2 → CtOk c) (h3:∀ c,c ∈ l3 → SmOk c) (hB:TkB n lts) (z1:l1.length≤1000) (z2:l2.length≤1000) (z3:l3.length≤1000)
  {rest:List Tok} (hA:At l 3 (tks (ft++(l2.map ctt++(((1,q4t) :: sg 61 :: lts) :: l3.map smt)))++sg 125 :: rest)) :
  q1B (fun k=>q0l.f k l 3 false nm) (nm,l1,l2,l3,n.f0,n.f1,n.f2,n.f3,((3 + (tks (ft++(l2.map ctt++(((1,q4t) :: sg 61 :: lts) :: l3.map smt)))).length:Nat):Int),false):=by
 rw [q9K,q9K] at hA ⊢
 rw [show tks (((1,q4t) :: sg 61 :: lts) :: l3.map smt) = (1,q4t) :: sg 61 :: (lts++sg 59 :: tks (l3.map smt)) by simp only [tks,List.cons_append]] at hA ⊢
 simp only [List.append_assoc,List.cons_append] at hA
 have a1:=hA.right
 have a2:=a1.right
 have a3:=a2.tail.tail.right.tail
 have a4:=a3.right
 refine rd_feet hl hF 3 _ [] hA (by rw [List.length_nil];omega) ?_
 refine rd_cts hl l2 _ _ [] a1 h2 (by rw [List.length_nil];omega) ?_
 refine rd_line hl a2 hB ?_
 rw [show 3 + (tks ft).length + (tks (l2.map ctt)).length + 1 + 1 + lts.length + 1 = 3 + (tks ft).length + (tks (l2.map ctt)).length + (lts.length + 3) by omega] at a3 a4
 refine v0l hl true l3 _ _ [] a3 h3 (by rw [List.length_nil];omega) ?_
 have:=rd_end (nm:=nm) (x1:=[]++l1) (x2:=[]++l2) (x3:=[]++l3) (y4:=n.f0) (y5:=n.f1) (y6:=n.f2) (y7:=n.f3) a4
 rw [show 3 + (tks ft++(tks (l2.map ctt)++(1,q4t) :: sg 61 :: (lts++sg 59 :: tks (l3.map smt)))).length = 3 + (tks ft).length + (tks (l2.map ctt)).length + (lts.length + 3) + (tks (l3.map smt)).length by simp only [List.length_append,List.length_cons];omega]
 exact this
end
theorem Prss.few {wss:List (List q0a)} {tss:List (List Tok)} (h:Prss wss tss):(tks tss).length≤wd wss:=by
 induction h with
 | nil=>exact q0e _
 | cons ws ts wss tss h r ih=>
  have e1:=h.len
  have e2:=q5k ws
  simp only [tks,wd,List.length_append,List.length_cons]
  omega
/-- Parse leads back. -/
theorem q8u {a0:q0a} {l1:List S86} {l2:List S88} {l3:List (List q0a)} {a4:Int} {a5:q0a} {a6:Int} {l7:List S25} (hN:Wk a0 (1,a0)) {m q:Nat} {fw:List (List q0a)} {ft:List (List Tok)} {lws:List q0a} {lts:List Tok}
  (hF:FW l1 q fw ft) (h2:∀ c,c ∈ l2 → CtOk c) (h3:∀ c,c ∈ l3 → SmOk c) (hL:Wr ⟨a4,a5,a6,l7⟩ m lws lts) (z1:l1.length≤1000) (z2:l2.length≤1000) (z3:l3.length≤1000)
  (hz:a0.size + wd (fw++(l2.map ctw++(([q4t,⟨#[61]⟩]++lws) :: l3.map smw)))≤19000) (hV:q1B (fun k=>q1d.f k a0 l1 l2 l3 a4 a5 a6 l7) 0) :
  q1B (fun k=>q3I.f k (txt a0 (fw++(l2.map ctw++(([q4t,⟨#[61]⟩]++lws) :: l3.map smw))))) (a0,l1,l2,l3,a4,a5,a6,l7,0,0):=by
 have hP:Prss (fw++(l2.map ctw++(([q4t,⟨#[61]⟩]++lws) :: l3.map smw))) (ft++(l2.map ctt++(((1,q4t) :: sg 61 :: lts) :: l3.map smt))):=
  hF.prs.app ((ct_prs h2).app (.cons _ _ _ _ (.cons _ _ _ _ (q9P (by simp)) (.cons _ _ _ _ (q4n (by decide)) hL.p)) (sm_prs h3)))
 obtain ⟨l,hm,ht⟩:=q8Z hP hN hz
 generalize hts:ft++(l2.map ctt++(((1,q4t) :: sg 61 :: lts) :: l3.map smt)) = tss at hm
 have hA:=at_of hm
 unfold ttk at hA hm
 have hlen:l.length = 3 + (tks tss).length + 1:=by
  have:=congrArg List.length hm
  simp only [List.length_map,List.length_cons,List.length_append,List.length_nil] at this
  omega
 have hfew:=hP.few
 rw [hts] at hfew
 have hl:l.length≤1000000:=by omega
 obtain ⟨g0,ga0,gb0⟩:=hA.head
 obtain ⟨g1,ga1,gb1⟩:=hA.tail.head
 have g2:=hA.tail.tail.sign
 have aI:=hA.tail.tail.tail
 have hI:=q8X hl (nm:=a0) hF h2 h3 hL.b z1 z2 z3 (by rw [hts];exact aI)
 rw [hts] at hI
 have gE:=aI.right.sign
 have s1:q1T.f l 0 false 1 (⟨#[109,101,116,114,101]⟩:q0a) = some (true,0,false):=by
  have e:l[0].f1 = (⟨#[109,101,116,114,101]⟩:q0a):=gb0
  have n0:=q3Y l 0 g0
  simp only [Int.ofNat_zero] at n0
  simp [q1T.f,n0,ga0,e]
 have s2:q2u.f l 0 false 1 = some (l[0].f1,1,false):=q5R l 0 1 g0 ga0 (by omega)
 have s3:q2u.f l 1 false 1 = some (a0,2,false):=by
  have:=q5R l 1 1 g1 ga1 (by omega)
  rw [gb1] at this
  exact this
 have s4:q1t.f l 2 false (⟨#[123]⟩:q0a) = some (3,false):=q4M (i:=2) (by omega) (by omega) g2
 have s5:=q4M (show 3 + (tks tss).length≤l.length by omega) (by omega) gE
 unfold q3I.f
 refine cBin ht (cPos rfl (cNeg (by show ¬ ((l.length:Int) = 0);omega) ?_))
 simp only [s1,s2,s3,s4,Option.bind_some]
 refine cPos trivial (cBin hI ?_)
 simp only [s5,Option.bind_some]
 exact cND (cNeg (by show ¬ (((3 + (tks tss).length + 1:Nat):Int) < (l.length:Int));omega) (cBin hV (cPos rfl (cCon _))))
end
section
theorem q9D (x:List q0a) (hl:x.length≤1048576):q1B (fun k=>q1x.f k x x) true:=by
 have loop:∀ (m i:Nat),i + m = x.length → q1B (fun k=>q1x.l0 k x x (i:Int)) true:=by
  intro m
  induction m with
  | zero=>
   intro i hi
   apply cSuc
   simp only [q1x.l0]
   exact cNO (cCon _)
  | succ m IH=>
   intro i hi
   apply cSuc
   simp only [q1x.l0,q2t (show i≤1048576 by omega)]
   exact cPO (cPO (cPO (cPos trivial (IH (i + 1) (by omega)))))
 unfold q1x.f
 exact cPos rfl (loop x.length 0 (by omega))
section
variable {a0:q0a} {l1:List S86} {l2:List S88} {l3:List (List q0a)} {a4:Int} {a5:q0a} {a6:Int} {l7:List S25} (z1:l1.length≤1048576) (k1:∀ x,x ∈ l1 → Small x.f1) (z2:l2.length≤1048576) (z3:l3.length≤1048576) (k3:∀ x,x ∈ l3 → x.length≤1048576)
include z3 k3
theorem same_l2:∀ (d i:Nat),i + d = l3.length → q1B (fun k=>q0u.l2 k (i:Int) a0 l1 l2 l3 a4 a5 a6 l7 a0 l1 l2 l3 a4 a5 a6 l7) true:=by
 intro d
 induction d with
 | zero=>
  intro i hi
  apply cSuc
  simp only [q0u.l2]
  exact cNO (cCon _)
 | succ d IH=>
  intro i hi
  have h:i < l3.length:=by omega
  apply cSuc
  simp only [q0u.l2,rdl7 h,q2t (show i≤1048576 by omega)]
  exact cPO (cPO (cPO (cBin (q9D _ (k3 _ (List.getElem_mem h))) (cPos rfl (IH (i + 1) (by omega))))))
include z2
theorem same_l1:∀ (d i:Nat),i + d = l2.length → q1B (fun k=>q0u.l1 k (i:Int) a0 l1 l2 l3 a4 a5 a6 l7 a0 l1 l2 l3 a4 a5 a6 l7) true:=by
 intro d
 induction d with
 | zero=>
  intro i hi
  apply cSuc
  simp only [q0u.l1]
  exact cNO (same_l2 z3 k3 l3.length 0 (by omega))
 | succ d IH=>
  intro i hi
  apply cSuc
  simp only [q0u.l1,q2t (show i≤1048576 by omega)]
  exact cPO (cPO (cPO (cNeg (by simp) (IH (i + 1) (by omega)))))
include z1 k1
theorem same_l0:∀ (d i:Nat),i + d = l1.length → q1B (fun k=>q0u.l0 k (i:Int) a0 l1 l2 l3 a4 a5 a6 l7 a0 l1 l2 l3 a4 a5 a6 l7) true:=by
 intro d
 induction d with
 | zero=>
  intro i hi
  apply cSuc
  simp only [q0u.l0]
  exact cNO (same_l1 z2 z3 k3 l2.length 0 (by omega))
 | succ d IH=>
  intro i hi
  have h:i < l1.length:=by omega
  apply cSuc
  simp only [q0u.l0,rd86 h,q2t (show i≤1048576 by omega)]
  exact cPO (cPO (cPO (cPos trivial (cBin (q6d _ (k1 _ (List.getElem_mem h))) (cPos rfl (IH (i + 1) (by omega)))))))
theorem q9O (k4:Small ⟨a4,a5,a6,l7⟩):q1B (fun k=>q0u.f k a0 l1 l2 l3 a4 a5 a6 l7 a0 l1 l2 l3 a4 a5 a6 l7) true:=by
 unfold q0u.f
 refine cPos rfl (cPos rfl (cPos rfl (cPos rfl (cBin (q6d ⟨a4,a5,a6,l7⟩ k4) (cSuc ?_)))))
 simp only [q0u.j0]
 exact cND (same_l0 z1 k1 z2 z3 k3 l1.length 0 (by omega))
end
theorem v0n (n:S25) (h:Fit n) (q:Int) (h1 : -300000000000000000≤q) (h2:q < 0):∃ t,q1B (fun k=>q1u.f k n.f0 n.f1 n.f2 n.f3 q) t∧t < 0∧-600000000000000000≤t:=by
 obtain ⟨a,b,c,l⟩:=n
 cases h with
 | mk _ _ _ _ hb hl hk=>
 have hw:wrap64 ((wrap64 (q - 1)) - (wrap64 ((b.size:Int) / 40))) = q - 1 - (b.size:Int) / 40:=by unfold wrap64;omega
 refine ⟨q - 1 - (b.size:Int) / 40,cSuc ?_,by omega,by omega⟩
 simp only [q1u.f,hw]
 refine cSuc ?_
 simp only [q1u.l0]
 exact cIte (fun _=>cNO (cCon _)) (fun _=>cCon _)
/-- A metre that fits into a machine. -/
structure FitM (a0:q0a) (l1:List S86) (l2:List S88) (l3:List (List q0a)) (a4:Int) (a5:q0a) (a6:Int) (l7:List S25):Prop where
 k1:∀ x,x ∈ l1 → x.f0.size≤9223372036854775807∧Fit x.f1
 k7:Fit ⟨a4,a5,a6,l7⟩
section
variable {a0:q0a} {l1:List S86} {l2:List S88} {l3:List (List q0a)} {a4:Int} {a5:q0a} {a6:Int} {l7:List S25} (hM:FitM a0 l1 l2 l3 a4 a5 a6 l7)
include hM
theorem few_l1 (z3:l3.length≤6) (q:Int) (hq:q≤1000):∀ (d i:Nat),i + d = l3.length → ∃ t,q1B (fun k=>q0I.l1 k q ((i:Nat):Int) a0 l1 l2 l3 a4 a5 a6 l7) t∧(t = true → q≥0∧(∀ j (h:j < l3.length),i≤j → l3[j].length≤10)∧∃ (m:Nat) (ys:List q0a),CntN ⟨a4,a5,a6,l7⟩ m ys∧(m:Int)≤q):=by
 intro d
 induction d with
 | zero=>
  intro i hi
  by_cases h0:q≥0
  ·obtain ⟨t,ht,_,hc⟩:=q7s _ hM.k7 q h0 (by omega)
   refine ⟨decide (t≥0),cSuc ?_,fun k=>⟨h0,fun j h hij=>by omega,?_⟩⟩
   ·simp only [q0I.l1]
    exact cNO (cPos h0 (cBin ht (cCon _)))
   ·have ht0:=q0b k
    obtain ⟨m,ys,c1,c2⟩:=hc ht0
    exact ⟨m,ys,c1,by omega⟩
  ·refine ⟨false,cSuc ?_,fun k=>by cases k⟩
   simp only [q0I.l1]
   exact cNO (cNeg h0 (cCon _))
 | succ d IH=>
  intro i hi
  have h:i < l3.length:=by omega
  by_cases h10:l3[i].length > 10
  ·refine ⟨false,cSuc ?_,fun k=>by cases k⟩
   simp only [q0I.l1,rdl7 h]
   exact cPO (cPO (cPO (cCon _)))
  ·obtain ⟨t,ht,hc⟩:=IH (i + 1) (by omega)
   refine ⟨t,cSuc ?_,fun k=>?_⟩
   ·simp only [q0I.l1,rdl7 h,q2t (show i≤1048576 by omega)]
    exact cPO (cPO (cNO ht))
   ·obtain ⟨c1,c2,c3⟩:=hc k
    refine ⟨c1,fun j hj hij=>?_,c3⟩
    rcases q3s hij with rfl | hij'
    ·omega
    ·exact c2 j hj hij'
theorem few_l0 (z1:l1.length≤25) (z3:l3.length≤6):∀ (d i:Nat),i + d = l1.length → ∀ q:Int,q≤1000 → ∃ t,q1B (fun k=>q0I.l0 k q ((i:Nat):Int) a0 l1 l2 l3 a4 a5 a6 l7) t∧(t = true → q≥0∧(∀ x,x ∈ l3 → x.length≤10)∧∃ (n m:Nat) (ys:List q0a),CntF (l1.drop i) n∧CntN ⟨a4,a5,a6,l7⟩ m ys∧(n:Int) + (m:Int)≤q):=by
 have tail:∀ q:Int,q≤1000 → ∃ t,q1B (fun k=>q0I.j2 k q a0 l1 l2 l3 a4 a5 a6 l7) t∧(t = true → q≥0∧(∀ x,x ∈ l3 → x.length≤10)∧∃ (m:Nat) (ys:List q0a),CntN ⟨a4,a5,a6,l7⟩ m ys∧(m:Int)≤q):=by
  intro q hq
  obtain ⟨t,ht,hc⟩:=few_l1 hM z3 q hq l3.length 0 (by omega)
  refine ⟨t,cSuc ?_,fun k=>⟨(hc k).1,fun x hx=>?_,(hc k).2.2⟩⟩
  ·simp only [q0I.j2]
   exact ht
  ·obtain ⟨j,hj,rfl⟩:=List.getElem_of_mem hx
   exact (hc k).2.1 j hj (q2S _)
 intro d
 induction d with
 | zero=>
  intro i hi q hq
  obtain ⟨t,ht,hc⟩:=tail q hq
  refine ⟨t,cSuc ?_,fun k=>?_⟩
  ·simp only [q0I.l0]
   exact cNO ht
  ·obtain ⟨c1,c2,m,ys,c3,c4⟩:=hc k
   refine ⟨c1,c2,0,m,ys,?_,c3,by omega⟩
   rw [List.drop_eq_nil_of_le (by omega)];exact .nil
 | succ d IH=>
  intro i hi q hq
  have h:i < l1.length:=by omega
  obtain ⟨f1,f2⟩:=hM.k1 _ (List.getElem_mem h)
  by_cases h0:q≥0
  ·have hw:wrap64 ((wrap64 (q - 1)) - (wrap64 ((((l1[i]).f0).size:Int) / 40))) = q - 1 - ((l1[i]).f0.size:Int) / 40:=by clear IH tail;unfold wrap64;omega
   by_cases hp:0≤q - 1 - ((l1[i]).f0.size:Int) / 40
   ·obtain ⟨t,ht,hb,hc⟩:=q7s _ f2 _ hp (by omega)
    obtain ⟨r,hr,hk⟩:=IH (i + 1) (by omega) t (by
     by_cases ht0:t≥0
     ·obtain ⟨m,ys,_,c2⟩:=hc ht0;omega
     ·omega)
    refine ⟨r,cSuc ?_,fun k=>?_⟩
    ·simp only [q0I.l0,rd86 h,hw,q2t (show i≤1048576 by omega)]
     exact cPO (cPos h0 (cPO (cBin ht hr)))
    ·obtain ⟨c1,c2,n,m,ys,c3,c4,c5⟩:=hk k
     obtain ⟨m',ys',d1,d2⟩:=hc c1
     refine ⟨h0,c2,m' + n,m,ys,?_,c4,by omega⟩
     rw [List.drop_eq_getElem_cons h]
     exact .cons _ _ _ _ _ d1 c3
   ·obtain ⟨t,ht,hn,hb⟩:=v0n _ f2 (q - 1 - ((l1[i]).f0.size:Int) / 40) (by omega) (by omega)
    obtain ⟨r,hr,hk⟩:=IH (i + 1) (by omega) t (by omega)
    refine ⟨r,cSuc ?_,fun k=>absurd (hk k).1 (by omega)⟩
    simp only [q0I.l0,rd86 h,hw,q2t (show i≤1048576 by omega)]
    exact cPO (cPos h0 (cPO (cBin ht hr)))
  ·obtain ⟨t,ht,hc⟩:=tail q hq
   refine ⟨t,cSuc ?_,fun k=>absurd (hc k).1 h0⟩
   simp only [q0I.l0]
   exact cPO (cNeg h0 ht)
theorem few_is:∃ t,q1B (fun k=>q0I.f k a0 l1 l2 l3 a4 a5 a6 l7) t∧(t = true → l1.length≤25∧l2.length≤6∧l3.length≤6∧(∀ x,x ∈ l3 → x.length≤10)∧∃ (n m:Nat) (ys:List q0a),CntF l1 n∧CntN ⟨a4,a5,a6,l7⟩ m ys∧n + m≤260):=by
 have no:q1B (fun k=>q0I.j0 k true a0 l1 l2 l3 a4 a5 a6 l7) false:=cSuc (by simp only [q0I.j0];exact cPos trivial (cCon _))
 unfold q0I.f
 by_cases b:(a0.size:Int) > 60∨(l1.length:Int) > 25∨(l2.length:Int) > 6∨(l3.length:Int) > 6
 ·refine ⟨false,?_,fun k=>by cases k⟩
  refine cIte (fun _=>no) (fun b1=>cIte (fun _=>no) (fun b2=>cIte (fun _=>no) (fun b3=>?_)))
  rw [decide_eq_true (by omega)]
  exact no
 ·obtain ⟨t,ht,hc⟩:=few_l0 hM (by omega) (by omega) l1.length 0 (by omega) 260 (by omega)
  refine ⟨t,cNO (cNO (cNO ?_)),fun k=>?_⟩
  ·rw [decide_eq_false (by omega)]
   apply cSuc
   simp only [q0I.j0]
   exact cND ht
  ·obtain ⟨_,c2,n,m,ys,c3,c4,c5⟩:=hc k
   rw [List.drop_zero] at c3
   exact ⟨by omega,by omega,by omega,c2,n,m,ys,c3,c4,by omega⟩
end
section
variable (a0:q0a) {l1:List S86} {l2:List S88} {l3:List (List q0a)} {a4:Int} {a5:q0a} {a6:Int} {l7:List S25} {n m:Nat} {ys:List q0a} (hF:CntF l1 n) (hL:CntN ⟨a4,a5,a6,l7⟩ m ys) (hz:n + m≤260) (z1:l1.length≤25) (z2:l2.length≤6) (z3:l3.length≤6) (z4:∀ x,x ∈ l3 → x.length≤10)
include hF hL hz z1 z2 z3 z4
/-- The text or the error by both; Parse leads back. -/
theorem q8i:∃ (s:q0a) (e:Int),q1B (fun k=>q1d.f k a0 l1 l2 l3 a4 a5 a6 l7) e∧q1B (fun k=>q0q.f k a0 l1 l2 l3 a4 a5 a6 l7) e∧q1B (fun k=>q1f.f k a0 l1 l2 l3 a4 a5 a6 l7) (s,e)∧q1B (fun k=>q0J.f k a0 l1 l2 l3 a4 a5 a6 l7) (s,e)∧
  (e = 0 → q1B (fun k=>q3I.f k s) (a0,l1,l2,l3,a4,a5,a6,l7,0,0)):=by
 obtain ⟨e,e1,e2,e3⟩:=q9g a0 hF hL hz z1 z2 z3 z4
 by_cases he:e = 0
 ·subst he
  obtain ⟨v1,v2,v3,v4,v5⟩:=e3 rfl
  obtain ⟨fw,ft,hW⟩:=fw_of hF (by omega) v2
  obtain ⟨lws,lts,hX⟩:=q9w _ v5 m ys hL (by omega)
  obtain ⟨w0,w1⟩:=q6Q v1
  have b1:=hW.wide
  have b2:=v1h ctw 31 l2 (fun x hx=>q8J (v3 x hx))
  have b3:=v1h smw 131 l3 (fun x hx=>by
   have:=q8E (v4 x hx)
   have:=(v4 x hx).2.1
   omega)
  have b4:=hX.z
  have g1:q4t.size = 4:=rfl
  have g2:(⟨#[61]⟩:q0a).size = 1:=rfl
  have b5:wd (fw++(l2.map ctw++(([q4t,⟨#[61]⟩]++lws) :: l3.map smw)))≤15000:=by
   simp only [wd_app,wd,q4J,wid,g1,g2]
   omega
  have d6:(⟨#[109,101,116,114,101,32]⟩:q0a).size = 6:=rfl
  have d3:(⟨#[32,123,10]⟩:q0a).size = 3:=rfl
  have hs:((((⟨#[109,101,116,114,101,32]⟩:q0a)++a0)++(⟨#[32,123,10]⟩:q0a))).size = 9 + a0.size:=by
   rw [ByteArray.size_append,ByteArray.size_append,d6,d3];omega
  obtain ⟨f1,f2⟩:=fmt_l0 a0 v4 (by omega) v3 (by omega) hX (by omega) l1.length 0 n fw ft (((⟨#[109,101,116,114,101,32]⟩:q0a)++a0)++(⟨#[32,123,10]⟩:q0a)) (by omega) (by rw [List.drop_zero];exact hW) (by omega) z1 (by omega)
  refine ⟨txt a0 (fw++(l2.map ctw++(([q4t,⟨#[61]⟩]++lws) :: l3.map smw))),0,e1,e2,?_,?_,fun _=>q8u w0 hW v3 v4 hX (by omega) (by omega) (by omega) (by omega) e1⟩
  ·unfold q1f.f
   exact cBin e1 (cPos rfl (cPO f1))
  ·unfold q0J.f
   exact cBin e2 (cPos rfl (cPO (cPos (by rw [ByteArray.size_append,d6];omega) f2)))
 ·refine ⟨⟨#[]⟩,e,e1,e2,?_,?_,fun k=>absurd k he⟩
  ·unfold q1f.f
   exact cBin e1 (cNeg he (cCon _))
  ·unfold q0J.f
   exact cBin e2 (cNeg he (cCon _))
end
theorem q6m (a0:q0a) (l1:List S86) (l2:List S88) (l3:List (List q0a)) (a4:Int) (a5:q0a) (a6:Int) (l7:List S25) (hM:FitM a0 l1 l2 l3 a4 a5 a6 l7):q1B (fun k=>q0V.f k a0 l1 l2 l3 a4 a5 a6 l7) true:=by
 obtain ⟨t,ht,hc⟩:=few_is hM
 unfold q0V.f
 refine cBin q6u (cPos rfl (cBin ht (cSuc ?_)))
 simp only [q0V.j0]
 cases t with
 | false=>exact cPos rfl (cBin q6u (cCon _))
 | true=>
  obtain ⟨z1,z2,z3,z4,n,m,ys,hF,hL,hz⟩:=hc rfl
  obtain ⟨s,e,v1,v2,f1,f2,hp⟩:=q8i a0 hF hL hz z1 z2 z3 z4
  have k1:∀ x,x ∈ l1 → Small x.f1:=fun x hx=>by
   obtain ⟨j,hj,rfl⟩:=List.getElem_of_mem hx
   obtain ⟨mi,yi,hci,hmi⟩:=hF.get j hj
   exact q5H mi _ mi yi (q0e _) hci (by omega)
  have k7:=q5H m _ m ys (q0e _) hL (by omega)
  have k3:∀ x,x ∈ l3 → x.length≤1048576:=fun x hx=>by have:=z4 x hx;omega
  have cp:=q7N a0 l1 l2 l3 a4 a5 a6 l7 (by omega) k1 (by omega) (by omega) k3 k7
  refine cND (cBin cp (cBin f1 (cBin f2 (cBin cp (cBin v1 (cBin v2 (cPos rfl (cPos rfl (cPos rfl (cSuc ?_))))))))))
  have ss:=q9O (a0:=a0) (l1:=l1) (l2:=l2) (l3:=l3) (a4:=a4) (a5:=a5) (a6:=a6) (l7:=l7) (by omega) k1 (by omega) (by omega) k3 k7
  simp only [q0V.j1]
  by_cases he:e = 0
  ·subst he
   exact cND (cBin (hp rfl) (cPos rfl (cPos rfl (cBin ss (cCon _)))))
  ·exact cPos (by simpa using he) (cBin cp (cBin v1 (cBin v2 (cPos rfl (cPos trivial (cVal (by simp)))))))
end
section
theorem list_of {α:Type} (n:Nat) (Q:Nat → α → Prop) (h:∀ i,i < n → ∃ b,Q i b):∃ xs:List α,xs.length = n∧∀ i (hi:i < xs.length),Q i xs[i]:=by
 induction n with
 | zero=>exact ⟨[],rfl,fun i hi=>absurd hi (by simp)⟩
 | succ n ih=>
  obtain ⟨xs,hl,hx⟩:=ih (fun i hi=>h i (by omega))
  obtain ⟨b,hb⟩:=h n (by omega)
  refine ⟨xs++[b],by simp [hl],fun i hi=>?_⟩
  by_cases hin:i < xs.length
  ·rw [List.getElem_append_left hin]
   exact hx i hin
  ·have:i = n:=by simp at hi;omega
   subst this
   rw [List.getElem_append_right (by omega)]
   simp [hl,hb]
section
variable {H:Type} {enc:TypeId × Value → H} {w:World} {base:Nat} {sp:Nat → Bool} {held:Bool}
/-- Whatever reads as a slice of e is a row of values of the elements' kind. -/
theorem q5o {α:Type} (d:Kd α) (Pr:α → Prop) {t e:TypeId} {fuel:Nat} {cs:List Value} {x:DataW H × List MemPlace} (ht:Tryd.prog.underlying t = some (.slice e)) (hsz:Tryd.prog.cellsOf e = d.sz)
  (ih:∀ n,n < fuel → ∀ cs' x',DataW.trod enc Tryd.prog w base sp held n e cs' = some x' → ∃ a,d.K w a cs'∧Pr a)
  (h:DataW.trod enc Tryd.prog w base sp held fuel t cs = some x) :
  ∃ (xs:List α) (A:Option Addr) (c:Nat),cs = [.slice A xs.length c]∧xs.length≤c∧Kd.C d w A xs.length xs∧xs.length≤9223372036854775807∧∀ y,y ∈ xs → Pr y:=by
 rcases DataW.trod_slice ht h with ⟨rfl,rfl⟩ | ⟨a,len,cap,elems,rest,n,rfl,rfl,rfl,hb,hl,hm,hlen,hel,hsp,hns⟩
 ·exact ⟨[],none,0,rfl,q0e _,⟨rfl,by simp,fun h=>absurd h (by simp)⟩,by simp,fun y hy=>absurd hy (by simp)⟩
 ·have each:∀ i (hi:i < len),∃ b cs',w.cells? base (a.add (i * Tryd.prog.cellsOf e)) (Tryd.prog.cellsOf e) = some cs'∧d.K w b cs'∧Pr b:=by
   intro i hi
   have he:=hel i hi
   rw [List.getElem?_eq_getElem (by omega)] at he
   obtain ⟨cs',h1,h2⟩:=Option.bind_eq_some_iff.1 he
   obtain ⟨b,hK,hP⟩:=ih n (Nat.lt_succ_self n) cs' _ h2
   exact ⟨b,cs',h1,hK,hP⟩
  obtain ⟨xs,hxl,hx⟩:=list_of len (fun i b=>∃ cs',w.cells? base (a.add (i * Tryd.prog.cellsOf e)) (Tryd.prog.cellsOf e) = some cs'∧d.K w b cs'∧Pr b) (fun i hi=>each i hi)
  unfold maxLen at hm
  refine ⟨xs,some a,cap,by rw [hxl],by omega,⟨rfl,by omega,fun _=>⟨a,rfl,fun j p hj=>?_⟩⟩,by omega,fun y hy=>?_⟩
  ·obtain ⟨hj1,rfl⟩:=List.getElem?_eq_some_iff.1 hj
   obtain ⟨cs',h1,h2,_⟩:=hx j (by omega)
   obtain ⟨_,hcl,hcell⟩:=World.cells?_some h1
   refine ⟨cs',by rw [hcl,hsz],h2,fun i u hu=>?_⟩
   have hi:=(List.getElem?_eq_some_iff.1 hu).1
   have:=hcell i (by omega)
   rw [hu] at this
   rw [← this,← hsz,Addr.add_add]
  ·obtain ⟨j,hj,rfl⟩:=List.getElem_of_mem hy
   obtain ⟨_,_,_,h3⟩:=hx j hj
   exact h3
set_option maxRecDepth 100000 in
/-- A node that reads. -/
theorem q6H:∀ (fuel:Nat) (cs:List Value) (x:DataW H × List MemPlace),DataW.trod enc Tryd.prog w base sp held fuel 25 cs = some x → ∃ n:S25,k25.K w n cs∧Fit n:=by
 intro fuel
 induction fuel using Nat.strongRecOn with
 | _ fuel ih=>
  intro cs x h
  obtain ⟨xs,n,rfl,rfl,hcl,hxl,hf⟩:=DataW.trod_struct Tryd.underlying25 h
  have hc:Tryd.prog.cellsOf 25 = 4:=by kernel_rfl
  rw [hc] at hcl
  match xs,hxl,cs,hcl with
  | [y0,y1,y2,y3],_,[v0,v1,v2,v3],_=>
  have c3:Tryd.prog.cellsOf 3 = 1:=by kernel_rfl
  have c9:Tryd.prog.cellsOf 9 = 1:=by kernel_rfl
  have c23:Tryd.prog.cellsOf 23 = 1:=by kernel_rfl
  have g0:DataW.trod enc Tryd.prog w base sp held n 3 [v0] = some y0:=by
   have g:=hf 0 _ rfl
   simp [c3] at g
   exact g
  have g1:DataW.trod enc Tryd.prog w base sp held n 9 [v1] = some y1:=by
   have g:=hf 1 _ rfl
   simp [c9] at g
   exact g
  have g2:DataW.trod enc Tryd.prog w base sp held n 3 [v2] = some y2:=by
   have g:=hf 2 _ rfl
   simp [c3] at g
   exact g
  have g3:DataW.trod enc Tryd.prog w base sp held n 23 [v3] = some y3:=by
   have g:=hf 3 _ rfl
   simp [c23] at g
   exact g
  obtain ⟨i0,e0,hx0,_⟩:=DataW.trod_int Tryd.underlying3 g0
  obtain ⟨s1,e1,hx1,hz1⟩:=DataW.trod_string Tryd.underlying9 g1
  obtain ⟨i2,e2,hx2,_⟩:=DataW.trod_int Tryd.underlying3 g2
  obtain ⟨l,A,c,e3,hl,hC,hll,hfit⟩:=q5o k25 Fit Tryd.underlying23 (by kernel_rfl) (fun m hm=>ih m (by omega)) g3
  obtain rfl:v0 = .int .i64 i0:=by simpa using e0
  obtain rfl:v1 = .string s1:=by simpa using e1
  obtain rfl:v2 = .int .i64 i2:=by simpa using e2
  obtain rfl:v3 = .slice A l.length c:=by simpa using e3
  unfold maxLen at hz1
  exact ⟨⟨i0,s1,i2,l⟩,q9H w ⟨i0,s1,i2,l⟩ hl hC,.mk _ _ _ _ (by omega) hll hfit⟩
set_option maxRecDepth 100000 in
theorem q7n (fuel:Nat) (cs:List Value) (x:DataW H × List MemPlace) (h:DataW.trod enc Tryd.prog w base sp held fuel 88 cs = some x):∃ n:S88,k88.K w n cs∧True:=by
 obtain ⟨xs,n,rfl,rfl,hcl,hxl,hf⟩:=DataW.trod_struct Tryd.underlying88 h
 have hc:Tryd.prog.cellsOf 88 = 3:=by kernel_rfl
 rw [hc] at hcl
 match xs,hxl,cs,hcl with
 | [y0,y1,y2],_,[v0,v1,v2],_=>
 have c3:Tryd.prog.cellsOf 3 = 1:=by kernel_rfl
 have c9:Tryd.prog.cellsOf 9 = 1:=by kernel_rfl
 have g0:DataW.trod enc Tryd.prog w base sp held n 9 [v0] = some y0:=by
  have g:=hf 0 _ rfl
  simp [c9] at g
  exact g
 have g1:DataW.trod enc Tryd.prog w base sp held n 3 [v1] = some y1:=by
  have g:=hf 1 _ rfl
  simp [c3] at g
  exact g
 have g2:DataW.trod enc Tryd.prog w base sp held n 3 [v2] = some y2:=by
  have g:=hf 2 _ rfl
  simp [c3] at g
  exact g
 obtain ⟨s0,e0,_,_⟩:=DataW.trod_string Tryd.underlying9 g0
 obtain ⟨i1,e1,_,_⟩:=DataW.trod_int Tryd.underlying3 g1
 obtain ⟨i2,e2,_,_⟩:=DataW.trod_int Tryd.underlying3 g2
 obtain rfl:v0 = .string s0:=by simpa using e0
 obtain rfl:v1 = .int .i64 i1:=by simpa using e1
 obtain rfl:v2 = .int .i64 i2:=by simpa using e2
 exact ⟨⟨s0,i1,i2⟩,k88_mk w ⟨s0,i1,i2⟩,trivial⟩
set_option maxRecDepth 100000 in
theorem q8U (fuel:Nat) (cs:List Value) (x:DataW H × List MemPlace) (h:DataW.trod enc Tryd.prog w base sp held fuel 86 cs = some x):∃ n:S86,k86.K w n cs∧(n.f0.size≤9223372036854775807∧Fit n.f1):=by
 obtain ⟨xs,n,rfl,rfl,hcl,hxl,hf⟩:=DataW.trod_struct Tryd.underlying86 h
 have hc:Tryd.prog.cellsOf 86 = 5:=by kernel_rfl
 rw [hc] at hcl
 match xs,hxl,cs,hcl with
 | [y0,y1],_,[v0,v1,v2,v3,v4],_=>
 have c9:Tryd.prog.cellsOf 9 = 1:=by kernel_rfl
 have c25:Tryd.prog.cellsOf 25 = 4:=by kernel_rfl
 have g0:DataW.trod enc Tryd.prog w base sp held n 9 [v0] = some y0:=by
  have g:=hf 0 _ rfl
  simp [c9] at g
  exact g
 have g1:DataW.trod enc Tryd.prog w base sp held n 25 [v1,v2,v3,v4] = some y1:=by
  have g:=hf 1 _ rfl
  simp [c25] at g
  exact g
 obtain ⟨s0,e0,_,hz⟩:=DataW.trod_string Tryd.underlying9 g0
 obtain ⟨b,hK,hP⟩:=q6H n _ _ g1
 obtain rfl:v0 = .string s0:=by simpa using e0
 unfold maxLen at hz
 exact ⟨⟨s0,b⟩,⟨[.string s0],[v1,v2,v3,v4],rfl,rfl,hK⟩,by show s0.size≤_;omega,hP⟩
theorem q9s (fuel:Nat) (cs:List Value) (x:DataW H × List MemPlace) (h:DataW.trod enc Tryd.prog w base sp held fuel 9 cs = some x):∃ n:q0a,Kd.string.K w n cs∧True:=by
 obtain ⟨s0,rfl,_,_⟩:=DataW.trod_string Tryd.underlying9 h
 exact ⟨s0,rfl,trivial⟩
theorem q8W (fuel:Nat) (cs:List Value) (x:DataW H × List MemPlace) (h:DataW.trod enc Tryd.prog w base sp held fuel 39 cs = some x):∃ n:List q0a,(Kd.slice 9 Kd.string).K w n cs∧True:=by
 obtain ⟨xs,A,c,rfl,hl,hC,_⟩:=q5o Kd.string (fun _=>True) Tryd.underlying39 (by kernel_rfl) (fun m _=>q9s m) h
 exact ⟨xs,⟨A,c,rfl,hl,hC⟩,trivial⟩
set_option maxRecDepth 100000 in
/-- Whatever reads as a metre. -/
theorem q8s (fuel:Nat) (cs:List Value) (x:DataW H × List MemPlace) (h:DataW.trod enc Tryd.prog w base sp held fuel 44 cs = some x) :
  ∃ (a0:q0a) (A1:Option Addr) (c1:Nat) (l1:List S86) (A2:Option Addr) (c2:Nat) (l2:List S88) (A3:Option Addr) (c3:Nat) (l3:List (List q0a)) (a4:Int) (a5:q0a) (a6:Int) (A7:Option Addr) (c7:Nat) (l7:List S25),
   cs = [.string a0,.slice A1 l1.length c1,.slice A2 l2.length c2,.slice A3 l3.length c3,.int .i64 a4,.string a5,.int .i64 a6,.slice A7 l7.length c7]∧
   Kd.C k86 w A1 l1.length l1∧l1.length≤c1∧Kd.C k88 w A2 l2.length l2∧l2.length≤c2∧Kd.C (Kd.slice 9 Kd.string) w A3 l3.length l3∧l3.length≤c3∧Kd.C k25 w A7 l7.length l7∧l7.length≤c7∧
   FitM a0 l1 l2 l3 a4 a5 a6 l7:=by
 obtain ⟨xs,n,rfl,rfl,hcl,hxl,hf⟩:=DataW.trod_struct Tryd.underlying44 h
 have hc:Tryd.prog.cellsOf 44 = 8:=by kernel_rfl
 rw [hc] at hcl
 match xs,hxl,cs,hcl with
 | [y0,y1,y2,y3,y4],_,[v0,v1,v2,v3,v4,v5,v6,v7],_=>
 have c9:Tryd.prog.cellsOf 9 = 1:=by kernel_rfl
 have c40:Tryd.prog.cellsOf 40 = 1:=by kernel_rfl
 have c41:Tryd.prog.cellsOf 41 = 1:=by kernel_rfl
 have c42:Tryd.prog.cellsOf 42 = 1:=by kernel_rfl
 have c25:Tryd.prog.cellsOf 25 = 4:=by kernel_rfl
 have g0:DataW.trod enc Tryd.prog w base sp held n 9 [v0] = some y0:=by
  have g:=hf 0 _ rfl
  simp [c9] at g
  exact g
 have g1:DataW.trod enc Tryd.prog w base sp held n 40 [v1] = some y1:=by
  have g:=hf 1 _ rfl
  simp [c40] at g
  exact g
 have g2:DataW.trod enc Tryd.prog w base sp held n 41 [v2] = some y2:=by
  have g:=hf 2 _ rfl
  simp [c41] at g
  exact g
 have g3:DataW.trod enc Tryd.prog w base sp held n 42 [v3] = some y3:=by
  have g:=hf 3 _ rfl
  simp [c42] at g
  exact g
 have g4:DataW.trod enc Tryd.prog w base sp held n 25 [v4,v5,v6,v7] = some y4:=by
  have g:=hf 4 _ rfl
  simp [c25] at g
  exact g
 obtain ⟨s0,e0,_,_⟩:=DataW.trod_string Tryd.underlying9 g0
 obtain ⟨l1,A1,c1,e1,m1,r1,_,p1⟩:=q5o k86 (fun y=>y.f0.size≤9223372036854775807∧Fit y.f1) Tryd.underlying40 (by kernel_rfl) (fun m _=>q8U m) g1
 obtain ⟨l2,A2,c2,e2,m2,r2,_⟩:=q5o k88 (fun _=>True) Tryd.underlying41 (by kernel_rfl) (fun m _=>q7n m) g2
 obtain ⟨l3,A3,c3,e3,m3,r3,_⟩:=q5o (Kd.slice 9 Kd.string) (fun _=>True) Tryd.underlying42 (by kernel_rfl) (fun m _=>q8W m) g3
 obtain ⟨nd,hK,p4⟩:=q6H n _ _ g4
 obtain ⟨A7,c7,e4,m7,r7⟩:=q5L hK
 obtain rfl:v0 = .string s0:=by simpa using e0
 obtain rfl:v1 = .slice A1 l1.length c1:=by simpa using e1
 obtain rfl:v2 = .slice A2 l2.length c2:=by simpa using e2
 obtain rfl:v3 = .slice A3 l3.length c3:=by simpa using e3
 simp only [List.cons.injEq,and_true] at e4
 obtain ⟨rfl,rfl,rfl,rfl⟩:=e4
 refine ⟨s0,A1,c1,l1,A2,c2,l2,A3,c3,l3,nd.f0,nd.f1,nd.f2,A7,c7,nd.f3,rfl,r1,m1,r2,m2,r3,m3,r7,m7,?_⟩
 cases nd
 exact ⟨p1,p4⟩
end
end
end Go.Proofs.YtmffocankommaaaDoor.F
section
namespace Go.Proofs.YtmffocankommaaaDoor.WitF
open Go.ChangeShapes Go.WideShapes Go.ChangeAt Go.RowKit
/-- The values of a table's datum. -/
def vals (d:DataW Unit):Array Value:=
 match d with
 | .agg l=>(l.map fun
  | .lit (.int .u8 n)=>Value.int .u8 n
  | .lit (.int .u64 n)=>Value.int .u64 n
  | _=>.bool false).toArray
 | _=>#[]
def held (v:Array Value):Obj → Obj
 | .cells _ t frozen=>.cells v t frozen
 | o=>o
noncomputable def laidWorld (os:Os):World:=
 {World.holding Tryd.prog os ⟨#[],#[],[]⟩ with heap:=(((World.holding Tryd.prog os ⟨#[],#[],[]⟩).heap.modify 1 (held (vals Rows.laid_internal_strconv_uint64pow10))).modify 2 (held (vals Rows.laid_math_bits_deBruijn32tab))).modify 3 (held (vals Rows.laid_math_bits_deBruijn64tab))}
def zero:Value:=.agg #[.string ⟨#[]⟩,.slice none 0 0,.slice none 0 0,.slice none 0 0,.int .i64 0,.string ⟨#[]⟩,.int .i64 0,.slice none 0 0]
theorem laid_met (os:Os):laidMet Tryd.prog Rows.metreFormatsRow.laid ((laidWorld os).forCall (fun _ _=>0) ⟨#[],#[zero],[]⟩).memory:=
 laidMet_of_run' 8 (by kernel_rfl) (by kernel_rfl)
theorem reads (os:Os) {H:Type} (enc:TypeId × Value → H):∃ ds places,DataW.whole enc Tryd.prog ((laidWorld os).forCall (fun _ _=>0) ⟨#[],#[zero],[]⟩).memory Tryd.f6.params.toList Rows.metreFormatsSpec.vars false #[zero].toList 8 = some (ds,[],places):=by
 have h:(match DataW.whole enc Tryd.prog ((laidWorld os).forCall (fun _ _=>0) ⟨#[],#[zero],[]⟩).memory Tryd.f6.params.toList Rows.metreFormatsSpec.vars false #[zero].toList 8 with
  | some (ds,[],_)=>true
  | _=>false) = true:=by kernel_rfl
 split at h
 ·rename_i ds p he
  exact ⟨ds,p,he⟩
 ·cases h
end Go.Proofs.YtmffocankommaaaDoor.WitF
end
