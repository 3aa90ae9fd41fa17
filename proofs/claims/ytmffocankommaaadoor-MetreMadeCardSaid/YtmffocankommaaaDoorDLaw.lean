/- The plain law: what the walks' functions compute answers as the statement says; the opening of the arguments; the witness's world. No program in sight but its types. Conditions: the lists within the arguments are no longer than the row's bulk. -/
import Derived.Test.YtmffocankommaaaDoorDx34
import Derived.Test.YtmffocankommaaaDoorDYShort
namespace Go.Proofs.YtmffocankommaaaDoor.J
open Go.RowKit Go.Proofs.YtmffocankommaaaDoorW.PrintWords Go.Proofs.YtmffocankommaaaDoorW.PrintLast Go.Proofs.YtmffocankommaaaDoorW.PrintMore Go.Proofs.YtmffocankommaaaDoorY Go.Proofs.YtmffocankommaaaDoorS
set_option linter.unusedVariables false
open Go.Sort
section
/-- From some number of rounds on, f comes to r. -/
def q1q {α:Type} (f:Nat → Option α) (r:α):Prop:=∃ K,∀ k,K≤k → f k = some r
theorem cBin {α β:Type} {f:Nat → Option α} {g:Nat → α → Option β} {x:α} {r:β} (h:q1q f x) (hg:q1q (fun k=>g k x) r):q1q (fun k=>(f k).bind (g k)) r:=by
 obtain ⟨K,h⟩:=h
 obtain ⟨L,hg⟩:=hg
 exact ⟨max K L,fun k hk=>by
  show (f k).bind (g k) = some r
  rw [h k (by omega)]
  exact hg k (by omega)⟩
theorem cCon {α:Type} (r:α):q1q (fun _=>some r) r:=⟨0,fun _ _=>rfl⟩
theorem cSuc {α:Type} {f:Nat → Option α} {r:α} (h:q1q (fun k=>f (k + 1)) r):q1q f r:=by
 obtain ⟨K,h⟩:=h
 exact ⟨K + 1,fun k hk=>by
  obtain ⟨j,rfl⟩:∃ j,k = j + 1:=⟨k - 1,by omega⟩
  exact h j (by omega)⟩
theorem cPos {α:Type} {c:Prop} [Decidable c] {f g:Nat → Option α} {r:α} (hc:c) (h:q1q f r):q1q (fun k=>if c then f k else g k) r:=by simpa only [if_pos hc] using h
theorem cNeg {α:Type} {c:Prop} [Decidable c] {f g:Nat → Option α} {r:α} (hc : ¬ c) (h:q1q g r):q1q (fun k=>if c then f k else g k) r:=by simpa only [if_neg hc] using h
theorem cND {α:Type} {c:Prop} [Decidable c] {f g:Nat → Option α} {r:α} (h:q1q g r) (hc : ¬ c:=by decide):q1q (fun k=>if c then f k else g k) r:=cNeg hc h
theorem cNO {α:Type} {c:Prop} [Decidable c] {f g:Nat → Option α} {r:α} (h:q1q g r) (hc : ¬ c:=by omega):q1q (fun k=>if c then f k else g k) r:=cNeg hc h
theorem cPD {α:Type} {c:Prop} [Decidable c] {f g:Nat → Option α} {r:α} (h:q1q f r) (hc:c:=by decide):q1q (fun k=>if c then f k else g k) r:=cPos hc h
theorem cPO {α:Type} {c:Prop} [Decidable c] {f g:Nat → Option α} {r:α} (h:q1q f r) (hc:c:=by omega):q1q (fun k=>if c then f k else g k) r:=cPos hc h
/-- Lists within a node are no longer than 2^20. -/
inductive Small:S25 → Prop
 | mk (a:Int) (b:q0a) (c:Int) (l:List S25) (hl:l.length≤1048576) (hk:∀ x,x ∈ l → Small x):Small ⟨a,b,c,l⟩
theorem q2f {i:Nat} (h:i≤1048576):wrap64 ((i:Int) + 1) = ((i + 1:Nat):Int):=by unfold wrap64;omega
theorem rd25 {xs:List S25} {i:Nat} (h:i < xs.length):q0A xs (i:Int) = xs[i]:=by
 show xs.getD i z25 = xs[i]
 rw [List.getD_eq_getElem?_getD,List.getElem?_eq_getElem h]
 rfl
theorem rd86 {xs:List S86} {i:Nat} (h:i < xs.length):q1e xs (i:Int) = xs[i]:=by
 show xs.getD i z86 = xs[i]
 rw [List.getD_eq_getElem?_getD,List.getElem?_eq_getElem h]
 rfl
theorem rd88 {xs:List S88} {i:Nat} (h:i < xs.length):q2p xs (i:Int) = xs[i]:=by
 show xs.getD i z88 = xs[i]
 rw [List.getD_eq_getElem?_getD,List.getElem?_eq_getElem h]
 rfl
theorem rdl7 {xs:List (List q0a)} {i:Nat} (h:i < xs.length):q2M xs (i:Int) = xs[i]:=by
 show xs.getD i [] = xs[i]
 rw [List.getD_eq_getElem?_getD,List.getElem?_eq_getElem h]
 rfl
end
section
mutual
inductive CntN:S25 → Nat → List q0a → Prop
 | mk (a:Int) (b:q0a) (c:Int) (l:List S25) (m:Nat) (ys:List q0a) (h:CntL l m ys):CntN ⟨a,b,c,l⟩ (m + 1) ((if a = 4∨a = 11∨a = 12 then [b] else [])++ys)
inductive CntL:List S25 → Nat → List q0a → Prop
 | nil:CntL [] 0 []
 | cons (x:S25) (l:List S25) (m n:Nat) (ys zs:List q0a) (h1:CntN x m ys) (h2:CntL l n zs):CntL (x :: l) (m + n) (ys++zs)
end
theorem CntN.inv {a:Int} {b:q0a} {c:Int} {l:List S25} {m:Nat} {zs:List q0a} (h:CntN ⟨a,b,c,l⟩ m zs):∃ m' ys,m = m' + 1∧zs = (if a = 4∨a = 11∨a = 12 then [b] else [])++ys∧CntL l m' ys:=by
 cases h with
 | mk _ _ _ _ m ys h=>exact ⟨m,ys,rfl,rfl,h⟩
theorem CntN.pos {n:S25} {m:Nat} {zs:List q0a} (h:CntN n m zs):0 < m:=by
 cases h;omega
theorem CntL.inv {x:S25} {l:List S25} {m:Nat} {zs:List q0a} (h:CntL (x :: l) m zs):∃ m1 m2 y1 y2,m = m1 + m2∧zs = y1++y2∧CntN x m1 y1∧CntL l m2 y2:=by
 cases h with
 | cons _ _ m1 m2 y1 y2 h1 h2=>exact ⟨m1,m2,y1,y2,rfl,rfl,h1,h2⟩
theorem CntL.nil_inv {m:Nat} {zs:List q0a} (h:CntL [] m zs):m = 0∧zs = []:=by
 cases h;exact ⟨rfl,rfl⟩
theorem CntL.len:∀ (l:List S25) (m:Nat) (zs:List q0a),CntL l m zs → l.length≤m
 | [],m,zs,h=>by simp
 | x :: l,m,zs,h=>by
  obtain ⟨m1,m2,y1,y2,rfl,rfl,h1,h2⟩:=h.inv
  have:=CntL.len l m2 y2 h2
  have:=h1.pos
  simp only [List.length_cons]
  omega
theorem CntL.mem:∀ (l:List S25) (m:Nat) (zs:List q0a),CntL l m zs → ∀ x,x ∈ l → ∃ m' ys,CntN x m' ys∧m'≤m
 | [],m,zs,h,x,hx=>by cases hx
 | y :: l,m,zs,h,x,hx=>by
  obtain ⟨m1,m2,y1,y2,rfl,rfl,h1,h2⟩:=h.inv
  rcases List.mem_cons.1 hx with e | e
  ·subst e;exact ⟨m1,y1,h1,by omega⟩
  ·obtain ⟨m',ys,h',hl⟩:=CntL.mem l m2 y2 h2 x e
   exact ⟨m',ys,h',by omega⟩
theorem q5M:∀ (M:Nat) (n:S25) (m:Nat) (ys:List q0a),m≤M → CntN n m ys → m≤1048576 → Small n:=by
 intro M
 induction M with
 | zero=>intro n m ys hm h _;have:=h.pos;omega
 | succ M ih=>
  intro n m ys hm h hM
  obtain ⟨a,b,c,l⟩:=n
  obtain ⟨m',zs,rfl,rfl,hl⟩:=h.inv
  refine .mk _ _ _ _ (by have:=CntL.len _ _ _ hl;omega) (fun x hx=>?_)
  obtain ⟨m1,y1,h1,h2⟩:=CntL.mem _ _ _ hl x hx
  exact ih x m1 y1 (by omega) h1 (by omega)
theorem wrapI {i:Int} (h : -1000000000000≤i∧i≤1000000000000):wrap64 i = i:=by unfold wrap64;omega
theorem wrapN {i:Nat} (h:i≤1000000000):wrap64 ((i:Int) + 1) = ((i + 1:Nat):Int):=by unfold wrap64;omega
theorem q8q {l:List S25} {i:Nat} (h:i < l.length):l.drop i = l[i] :: l.drop (i + 1):=List.drop_eq_getElem_cons h
theorem q5s:∀ (M:Nat) (n:S25) (m:Nat) (ys:List q0a),m≤M → CntN n m ys → m≤10000000 → q1q (fun k=>q1M.f k n.f0 n.f1 n.f2 n.f3) (m:Int):=by
 intro M
 induction M with
 | zero=>intro n m ys hm h;have:=h.pos;omega
 | succ M ih=>
  intro n m ys hm h hM
  obtain ⟨a,b,c,l⟩:=n
  obtain ⟨m',zs,rfl,rfl,hl⟩:=h.inv
  have loop:∀ (d:Nat) (i:Nat) (m2:Nat) (zs2:List q0a),i + d = l.length → CntL (l.drop i) m2 zs2 → m2≤m' → ∀ q:Nat,q + m2≤20000000 → q1q (fun k=>q1M.l0 k (q:Int) l (l.length:Int) (i:Int)) ((q + m2:Nat):Int):=by
   intro d
   induction d with
   | zero=>
    intro i m2 zs2 hi h2 _ q _
    rw [List.drop_eq_nil_of_le (by omega)] at h2
    obtain ⟨rfl,rfl⟩:=h2.nil_inv
    apply cSuc
    simp only [q1M.l0]
    exact cNO (cCon _)
   | succ d IH=>
    intro i m2 zs2 hi h2 hle q hq
    have hlt:i < l.length:=by omega
    rw [q8q hlt] at h2
    obtain ⟨m1,m3,y1,y3,rfl,rfl,h1,h3⟩:=h2.inv
    apply cSuc
    simp only [q1M.l0]
    refine cPO (cPO (cPO ?_))
    rw [rd25 hlt]
    refine cBin (ih _ m1 y1 (by omega) h1 (by omega)) ?_
    rw [wrapN (by have:=CntL.len _ _ _ hl;omega),wrapI (by omega)]
    have:=IH (i + 1) m3 y3 (by omega) h3 (by omega) (q + m1) (by omega)
    rw [show q + m1 + m3 = q + (m1 + m3) by omega] at this
    exact this
  apply cSuc
  simp only [q1M.f]
  have:=loop l.length 0 m' zs (by omega) (by simpa using hl) (q0f _) 1 (by omega)
  rw [show 1 + m' = m' + 1 by omega] at this
  exact this
set_option maxRecDepth 100000 in
theorem v0I:q2Y.f 100 = some true:=by decide +kernel
theorem q9f:q1q (fun k=>q2Y.f k) true:=
 ⟨100,fun k hk=>by
  obtain ⟨j,rfl⟩:∃ j,k = 100 + j:=⟨k - 100,by omega⟩
  induction j with
  | zero=>exact v0I
  | succ j ih=>exact q2Y.mono _ _ (ih (by omega))⟩
theorem q6J {l:List q0a} {i:Nat} (h:i < l.length):rdOf ByteArray.empty l (i:Int) = l[i]:=by
 unfold rdOf
 rw [Int.toNat_natCast,List.getD_eq_getElem?_getD,List.getElem?_eq_getElem h]
 rfl
end
section
theorem v0O (l:List S25) (hl:l.length≤1048576) (a:Int) (b:q0a) (c:Int) (ih:∀ x,x ∈ l → ∀ q,∃ t,q1q (fun k=>q1u.f k x.f0 x.f1 x.f2 x.f3 q) t) :
  ∀ m i,i + m = l.length → ∀ q,∃ t,q1q (fun k=>q1u.l0 k q (i:Int) a b c l) t:=by
 intro m
 induction m with
 | zero=>
  intro i hi q
  exact ⟨q,cSuc (by simp only [q1u.l0];exact cNO (cCon _))⟩
 | succ m IH=>
  intro i hi q
  have hlt:i < l.length:=by omega
  by_cases hq:q≥0
  ·obtain ⟨t,ht⟩:=ih _ (List.getElem_mem hlt) q
   obtain ⟨u,hu⟩:=IH (i + 1) (by omega) t
   refine ⟨u,cSuc ?_⟩
   simp only [q1u.l0]
   refine cPO (cPos hq (cPO ?_))
   rw [rd25 hlt]
   refine cBin ht ?_
   rw [q2f (by omega)]
   exact hu
  ·exact ⟨q,cSuc (by simp only [q1u.l0];exact cPO (cNeg hq (cCon _)))⟩
theorem q7F:∀ n:S25,Small n → ∀ q,∃ t,q1q (fun k=>q1u.f k n.f0 n.f1 n.f2 n.f3 q) t
 | ⟨a,b,c,l⟩,hs,q=>by
  cases hs with
  | mk _ _ _ _ hl hk=>
  obtain ⟨t,ht⟩:=v0O l hl a b c (fun x hx=>q7F x (hk x hx)) l.length 0 (by omega) (wrap64 ((wrap64 (q - 1)) - (wrap64 ((b.size:Int) / 40))))
  exact ⟨t,cSuc (by simp only [q1u.f];exact ht)⟩
 termination_by n=>SizeOf.sizeOf n
 decreasing_by
  have:=List.sizeOf_lt_of_mem hx
  simp only [S25.mk.sizeOf_spec]
  omega
end
section
theorem rd36 {xs:List S36} {i:Nat} (h:i < xs.length):q5i xs (i:Int) = xs[i]:=by
 show xs.getD i z36 = xs[i]
 rw [List.getD_eq_getElem?_getD,List.getElem?_eq_getElem h]
 rfl
theorem q5v {i:Nat} (h:i≤1000000):wrap64 ((i:Int) + 1) = ((i + 1:Nat):Int):=by unfold wrap64;omega
/-- Token i is this sign. -/
def Hit (l:List S36) (i:Nat) (s:q0a):Prop:=∃ h:i < l.length,l[i].f0 = 4∧l[i].f1.toList = s.toList
instance (l:List S36) (i:Nat) (s:q0a):Decidable (Hit l i s):=by unfold Hit;exact inferInstance
section
variable (l:List S36) (i:Nat) (s:q0a)
theorem v1N:q0P.f l (l.length:Int) false = some (0,⟨#[]⟩,0,(l.length:Int),false):=by simp [q0P.f]
theorem q4g (h:i < l.length):q0P.f l (i:Int) false = some (l[i].f0,l[i].f1,l[i].f2,(i:Int),false):=by
 unfold q0P.f
 rw [if_neg (by decide),if_neg (by omega),if_pos (by omega),if_pos (by omega),rd36 h]
theorem q7p (hi:i≤l.length) (hs:i≤1000000):q0q.f l (i:Int) false s = some (if Hit l i s then (true,((i + 1:Nat):Int),false) else (false,(i:Int),false)):=by
 unfold q0q.f q1E.f
 by_cases h:i < l.length
 ·rw [q4g l i h]
  simp only [Option.bind_some]
  by_cases h4:l[i].f0 = 4
  ·rw [if_pos h4]
   simp only [Option.bind_some]
   by_cases ht:l[i].f1.toList = s.toList
   ·rw [if_pos (show Hit l i s from ⟨h,h4,ht⟩),if_pos (by rw [ht];exact beq_self_eq_true _),q5v hs]
   ·rw [if_neg (show ¬ Hit l i s from fun k=>ht k.2.2),if_neg (by simpa using ht)]
  ·rw [if_neg h4,if_neg (show ¬ Hit l i s from fun k=>h4 k.2.1)]
   simp
 ·obtain rfl:i = l.length:=by omega
  rw [v1N,if_neg (show ¬ Hit l l.length s from fun k=>by obtain ⟨k,_⟩:=k;omega)]
  simp
theorem v0x (hi:i≤l.length) (hs:i≤1000000):q1m.f l (i:Int) false s = some (if Hit l i s then (((i + 1:Nat):Int),false) else ((i:Int),true)):=by
 unfold q1m.f
 rw [q7p l i s hi hs]
 by_cases h:Hit l i s
 ·rw [if_pos h,if_pos h];simp
 ·rw [if_neg h,if_neg h];simp
theorem q6D (q:Int) (h:i < l.length) (hk:l[i].f0 = q) (hs:i≤1000000):q2n.f l (i:Int) false q = some (l[i].f1,((i + 1:Nat):Int),false):=by
 unfold q2n.f
 rw [q4g l i h]
 simp only [Option.bind_some]
 rw [if_pos hk,q5v hs]
end
/-- From some number of rounds on, f comes to r. -/
theorem cIte {α:Type} {c:Prop} [Decidable c] {f g:Nat → Option α} {r:α} (hf:c → q1q f r) (hg : ¬ c → q1q g r):q1q (fun k=>if c then f k else g k) r:=by
 by_cases h:c
 ·exact cPos h (hf h)
 ·exact cNeg h (hg h)
theorem cVal {α:Type} {x r:α} (h:x = r):q1q (fun _=>some x) r:=h ▸ cCon _
theorem q1q.mono {α:Type} {f:Nat → Option α} {r:α} (h:∀ k,LeO (f k) (f (k + 1))) (k:Nat) (hk:f k = some r):q1q f r:=by
 refine ⟨k,fun j hj=>?_⟩
 obtain ⟨d,rfl⟩:∃ d,j = k + d:=⟨j - k,by omega⟩
 clear hj
 induction d with
 | zero=>exact hk
 | succ d ih=>exact h _ _ ih
def q6F (n:S25) (i:Nat) (b:Bool):Int × q0a × Int × (List S25) × Int × Bool:=(n.f0,n.f1,n.f2,n.f3,(i:Int),b)
def q7w (n:S25) (ok:Bool) (i:Nat) (b:Bool):Int × q0a × Int × (List S25) × Bool × Int × Bool:=(n.f0,n.f1,n.f2,n.f3,ok,(i:Int),b)
def one (x:List S25):S25:=if x.length = 1 then q0A x 0 else ⟨5,⟨#[]⟩,0,x⟩
theorem q7U (l:List S36) (x:List S25) (i:Nat) (b:Bool) (q0:Int) (q1:q0a) (q2:Int) (q3:List S25):q1q (fun k=>q0g.j1 k x true l (i:Int) b q0 q1 q2 q3) (q6F (one x) i b):=by
 apply cSuc
 simp only [q0g.j1]
 refine cPos trivial ?_
 unfold one
 by_cases h:x.length = 1
 ·rw [if_pos h]
  exact cPO (cPO (cCon _))
 ·rw [if_neg h]
  exact cNO (cCon _)
theorem tl1 (c:UInt8):(⟨#[c]⟩:q0a).toList = [c]:=by rw [ByteArray.toList_eq]
theorem Small.size:∀ {n:S25},Small n → n.f3.length≤1048576
 | _,.mk _ _ _ _ hl _=>hl
theorem Small.kids:∀ {n:S25},Small n → ∀ x,x ∈ n.f3 → Small x
 | _,.mk _ _ _ _ _ hk=>hk
def Cnt (n:S25) (i i':Nat):Prop:=n.f0 = 5 → n.f3.length + i≤i'∧∀ y,y ∈ n.f3 → y.f0≠5
def Good (n:S25) (i i':Nat):Prop:=Small n∧Cnt n i i'
theorem Good.of {a:Int} {b:q0a} {c:Int} {l:List S25} {i i':Nat} (h:Small ⟨a,b,c,l⟩) (ha:a≠5):Good ⟨a,b,c,l⟩ i i':=⟨h,fun k=>absurd k ha⟩
theorem Good.wide {n:S25} {i i' j j':Nat} (h:Good n i i') (hj:j≤i) (hk:i'≤j'):Good n j j':=⟨h.1,fun k=>⟨by have:=(h.2 k).1;omega,(h.2 k).2⟩⟩
theorem Cnt.wide {n:S25} {i i' j j':Nat} (h:Cnt n i i') (hj:j≤i) (hk:i'≤j'):Cnt n j j':=fun k=>⟨by have:=(h k).1;omega,(h k).2⟩
section
variable {l:List S36} {i:Nat} {s:q0a}
theorem q6V (hi:i≤l.length) (hs:i≤1000000) (h : ¬ Hit l i s):q0q.f l (i:Int) false s = some (false,(i:Int),false):=by rw [q7p l i s hi hs,if_neg h]
theorem q7T (hi:i≤l.length) (hs:i≤1000000) (h:Hit l i s):q0q.f l (i:Int) false s = some (true,((i + 1:Nat):Int),false):=by rw [q7p l i s hi hs,if_pos h]
theorem q4V (hi:i≤l.length) (hs:i≤1000000) (h:Hit l i s):q1m.f l (i:Int) false s = some (((i + 1:Nat):Int),false):=by rw [v0x l i s hi hs,if_pos h]
end
theorem q7z (n:S25):(⟨n.f0,n.f1,n.f2,n.f3⟩:S25) = n:=by cases n;rfl
section
variable {l:List S36} {c c1 c2:Int} {t:S36} {k:Nat} (hn:q0P.f l c false = some (t.f0,t.f1,t.f2,c,false)) (hw:wrap64 (c + 1) = c1) (hr:q5i l c = t) (h0:0≤c) (hl:c < (l.length:Int))
include hn in
theorem m_none (h1:t.f0≠1) (ha:∀ u:UInt8,u ∈ ([45,58,126,64,91,40]:List UInt8) → q0q.f l c false ⟨#[u]⟩ = some (false,c,false)):q0Q.f (k + 1) l c false = some (0,⟨#[]⟩,0,[],false,c,false):=by
 simp only [q0Q.f,hn,Option.bind_some,if_neg h1,ha 45 (by decide),ha 58 (by decide),ha 126 (by decide),ha 64 (by decide),ha 91 (by decide),ha 40 (by decide),Bool.false_eq_true,if_false]
include hn in
theorem v0V (h1:t.f0≠1) {v:UInt8} {q:Int} (hv:v = 45∧q = 2∨v = 58∧q = 9∨v = 126∧q = 10) (ha:∀ u:UInt8,q0q.f l c false ⟨#[u]⟩ = some (if u = v then (true,c1,false) else (false,c,false))):q0Q.f (k + 1) l c false = some (q,⟨#[]⟩,0,[],true,c1,false):=by
 rcases hv with ⟨rfl,rfl⟩ | ⟨rfl,rfl⟩ | ⟨rfl,rfl⟩ <;> simp [q0Q.f,hn,h1,ha]
include hn in
theorem m_at (h1:t.f0≠1) (ha:∀ u:UInt8,q0q.f l c false ⟨#[u]⟩ = some (if u = 64 then (true,c1,false) else (false,c,false))):q0Q.f (k + 1) l c false = (q2z.f l c1 false).bind fun aT=>some (11,aT.1,0,[],true,aT.2.1,aT.2.2):=by
 simp [q0Q.f,hn,h1,ha]
include hn in
theorem m_box (h1:t.f0≠1) (ha:∀ u:UInt8,q0q.f l c false ⟨#[u]⟩ = some (if u = 91 then (true,c1,false) else (false,c,false))):q0Q.f (k + 1) l c false = (q0g.f k l c1 false).bind fun aW=>(q1m.f l aW.2.2.2.2.1 aW.2.2.2.2.2 ⟨#[93]⟩).bind fun aX=>some (8,⟨#[]⟩,0,[⟨aW.1,aW.2.1,aW.2.2.1,aW.2.2.2.1⟩],true,aX.1,aX.2):=by
 simp [q0Q.f,hn,h1,ha]
include hn in
theorem m_alt (h1:t.f0≠1) (ha:∀ u:UInt8,q0q.f l c false ⟨#[u]⟩ = some (if u = 40 then (true,c1,false) else (false,c,false))):q0Q.f (k + 1) l c false = (q0g.f k l c1 false).bind fun aZ=>q0Q.l0 k [⟨aZ.1,aZ.2.1,aZ.2.2.1,aZ.2.2.2.1⟩] l aZ.2.2.2.2.1 aZ.2.2.2.2.2:=by
 simp [q0Q.f,hn,h1,ha]
include hn hw in
theorem m_one (h1:t.f0 = 1) (hu:t.f1.toList = ([117]:List UInt8)):q0Q.f (k + 1) l c false = some (1,⟨#[]⟩,0,[],true,c1,false):=by
 simp [q0Q.f,hn,h1,hu,hw]
include hn hw in
theorem m_any (h1:t.f0 = 1) (hu:t.f1.toList = ([120]:List UInt8)):q0Q.f (k + 1) l c false = some (3,⟨#[]⟩,0,[],true,c1,false):=by
 simp [q0Q.f,hn,h1,hu,hw]
include hn hw in
theorem m_name (h1:t.f0 = 1) (hu:t.f1.toList≠([117]:List UInt8)) (hx:t.f1.toList≠([120]:List UInt8)) (ha:q0q.f l c1 false ⟨#[123]⟩ = some (false,c1,false)):q0Q.f (k + 1) l c false = some (4,t.f1,0,[],true,c1,false):=by
 simp [q0Q.f,hn,h1,hu,hx,hw,ha]
include hn hw in
theorem m_bound (h1:t.f0 = 1) (hu:t.f1.toList≠([117]:List UInt8)) (hx:t.f1.toList≠([120]:List UInt8)) (ha:q0q.f l c1 false ⟨#[123]⟩ = some (true,c2,false)):q0Q.f (k + 1) l c false = (q0g.f k l c2 false).bind fun aH=>(q1m.f l aH.2.2.2.2.1 aH.2.2.2.2.2 ⟨#[125]⟩).bind fun aI=>some (12,t.f1,0,[⟨aH.1,aH.2.1,aH.2.2.1,aH.2.2.2.1⟩],true,aI.1,aI.2):=by
 simp [q0Q.f,hn,h1,hu,hx,hw,ha]
end
/-- q1q to a part, or fails. -/
def T7 (j i len:Nat) (f:Nat → Option (Int × q0a × Int × (List S25) × Bool × Int × Bool)):Prop:=
 (∃ n i1,q1q f (q7w n true i1 true))∨(∃ n i',Good n j i'∧i < i'∧i'≤len∧q1q f (q7w n true i' false))
def T6 (j i len:Nat) (f:Nat → Option (Int × q0a × Int × (List S25) × Int × Bool)):Prop:=
 (∃ n i1,q1q f (q6F n i1 true))∨(∃ n i',Good n j i'∧i≤i'∧i'≤len∧q1q f (q6F n i' false))
theorem T7.map {j i i0 len:Nat} {f f'} (h:T7 j i0 len f) (hi:i≤i0) (hf:∀ r,q1q f r → q1q f' r):T7 j i len f':=by
 rcases h with ⟨n,i1,a⟩ | ⟨n,i',h,hl,hl',a⟩
 ·exact .inl ⟨n,i1,hf _ a⟩
 ·exact .inr ⟨n,i',h,by omega,hl',hf _ a⟩
theorem T6.map {j i i0 len:Nat} {f f'} (h:T6 j i0 len f) (hi:i≤i0) (hf:∀ r,q1q f r → q1q f' r):T6 j i len f':=by
 rcases h with ⟨n,i1,a⟩ | ⟨n,i',h,hl,hl',a⟩
 ·exact .inl ⟨n,i1,hf _ a⟩
 ·exact .inr ⟨n,i',h,by omega,hl',hf _ a⟩
theorem T7.succ {j i len:Nat} {f} (h:T7 j i len (fun k=>f (k + 1))):T7 j i len f:=h.map (q0f _) (fun _=>cSuc)
theorem T6.succ {j i len:Nat} {f} (h:T6 j i len (fun k=>f (k + 1))):T6 j i len f:=h.map (q0f _) (fun _=>cSuc)
theorem T6.then {j i0 j' i len:Nat} {f:Nat → Option (Int × q0a × Int × (List S25) × Int × Bool)} {F:Nat → Int × q0a × Int × (List S25) × Int × Bool → Option (Int × q0a × Int × (List S25) × Bool × Int × Bool)} (h:T6 j i0 len f)
  (hF:∀ n i1,∃ n' i',q1q (fun k=>F k (q6F n i1 true)) (q7w n' true i' true)) (hok:∀ n i',Good n j i' → i0≤i' → i'≤len → T7 j' i len (fun k=>F k (q6F n i' false))):T7 j' i len (fun k=>(f k).bind (F k)):=by
 rcases h with ⟨n,i1,a⟩ | ⟨n,i',h,hl,hl',a⟩
 ·obtain ⟨n',i',hF⟩:=hF n i1
  exact .inl ⟨n',i',cBin a hF⟩
 ·exact (hok n i' h hl hl').map (q0f _) (fun _=>cBin a)
end
section
theorem wrap2 {i:Nat} (h:i≤1000000):wrap64 ((i:Int) + 2) = ((i + 2:Nat):Int):=by unfold wrap64;omega
theorem q4v {s:q0a} {i j m:Nat} (hj:j≤s.size) (h:m < j - i):bt (s.extract i j) ((m:Nat):Int) = bt s ((i + m:Nat):Int):=by
 have h1:((m:Nat):Int).toNat = m:=Int.toNat_natCast _
 have h2:((i + m:Nat):Int).toNat = i + m:=Int.toNat_natCast _
 unfold bt
 rw [dif_pos (show ((m:Nat):Int).toNat < (s.extract i j).size by rw [h1,ByteArray.size_extract];omega),dif_pos (show ((i + m:Nat):Int).toNat < s.size by rw [h2];omega)]
 simp only [h1,h2,ByteArray.getElem_extract]
theorem q4J {s:q0a} {i j:Nat} (hj:j≤s.size):(s.extract i j).size = j - i:=by rw [ByteArray.size_extract];omega
def Dg (c:Int):Bool:=decide (48≤c) && decide (c≤57)
def Sm (c:Int):Bool:=decide (97≤c) && decide (c≤122)
theorem q4C (c:Int):q3w.f c = some (Dg c):=by
 unfold q3w.f Dg
 by_cases h:c≥48
 ·rw [if_pos h,decide_eq_true (show (48:Int)≤c from h)];simp
 ·rw [if_neg h,decide_eq_false (show ¬ (48:Int)≤c from h)];simp
theorem q4h (c:Int):q3l.f c = some (Sm c):=by
 unfold q3l.f Sm
 by_cases h:c≥97
 ·rw [if_pos h,decide_eq_true (show (97:Int)≤c from h)];simp
 ·rw [if_neg h,decide_eq_false (show ¬ (97:Int)≤c from h)];simp
theorem q9v (c:Int):q4P.f c = some (Dg c):=q4C c
theorem q7R (c:Int):q4t.f c = some (Sm c):=q4h c
theorem q9q (s:q0a) (hs:s.size≤20000):∀ (d i:Nat),i + d = s.size → ∃ t:Nat,i≤t∧t≤s.size∧(∀ m,i≤m → m < t → Dg (bt s ((m:Nat):Int)) = true)∧(t < s.size → Dg (bt s (t:Int)) = false)∧q1q (fun k=>q1T.l0 k s (i:Int)) (t:Int):=by
 intro d
 induction d with
 | zero=>
  intro i hi
  refine ⟨i,q0f _,by omega,fun m h1 h2=>by omega,fun h=>by omega,cSuc ?_⟩
  simp only [q1T.l0]
  exact cNO (cCon _)
 | succ d IH=>
  intro i hi
  cases hb:Dg (bt s (i:Int)) with
  | true=>
   obtain ⟨t,h1,h2,h3,h4,h5⟩:=IH (i + 1) (by omega)
   refine ⟨t,by omega,h2,fun m m1 m2=>?_,h4,cSuc ?_⟩
   ·by_cases e:m = i
    ·rw [e];exact hb
    ·exact h3 m (by omega) m2
   ·simp only [q1T.l0,q4C,hb,Option.bind_some,if_true,q5v (show i≤1000000 by omega)]
    exact cPO (cPO h5)
  | false=>
   refine ⟨i,q0f _,by omega,fun m h1 h2=>by omega,fun _=>hb,cSuc ?_⟩
   simp only [q1T.l0,q4C,hb,Option.bind_some,Bool.false_eq_true,if_false]
   exact cPO (cPO (cCon _))
theorem q7l (s:q0a) (hs:s.size≤20000):∃ t:Nat,t≤s.size∧(∀ m,m < t → Dg (bt s ((m:Nat):Int)) = true)∧(t < s.size → Dg (bt s (t:Int)) = false)∧q1q (fun k=>q1T.f k s) (t:Int)∧True:=by
 obtain ⟨t,h1,h2,h3,h4,h5⟩:=q9q s hs s.size 0 (by omega)
 exact ⟨t,h2,fun m hm=>h3 m (q2c _) hm,h4,h5,trivial⟩
theorem q9J (a:q0a) (h1:0 < a.size) (h6:a.size≤6) (hd:∀ m,m < a.size → Dg (bt a ((m:Nat):Int)) = true):∃ v,q1q (fun k=>q1z.f k a) (if 1 < a.size∧bt a 0 = 48 then (0,false) else (v,true)):=by
 have h0 : ¬ a.toList = ([]:List UInt8):=by
  rw [ByteArray.toList_eq]
  intro h
  have:=congrArg List.length h
  rw [q5d] at this
  have:a.size = 0:=this
  omega
 obtain ⟨t,ht,hm,hn,hc,_⟩:=q7l a (by omega)
 have et:t = a.size:=by
  rcases Nat.lt_or_ge t a.size with h | h
  ·have:=hn h;rw [hd t h] at this;cases this
  ·omega
 subst et
 have loop:∀ (d i:Nat) (x:Int),i + d = a.size → ∃ r,q1q (fun k=>q1z.l0 k x (q5F a) (a.size:Int) (i:Int)) (r,true):=by
  intro d
  induction d with
  | zero=>
   intro i x hi
   exact ⟨x,cSuc (by simp only [q1z.l0];exact cNO (cCon _))⟩
  | succ d IH=>
   intro i x hi
   obtain ⟨r,hr⟩:=IH (i + 1) (wrap64 ((wrap64 (10 * x)) + (((rd (q5F a) (i:Int)) - 48) % 256))) (by omega)
   refine ⟨r,cSuc ?_⟩
   simp only [q1z.l0,q4k,q5v (show i≤1000000 by omega)]
   exact cPO (cPO (cPO hr))
 obtain ⟨r,hr⟩:=loop a.size 0 0 (by omega)
 have jf:q1q (fun k=>q1z.j0 k a false) (r,true):=by
  apply cSuc
  simp only [q1z.j0,Option.bind_some]
  refine cND (cPO ?_)
  rw [q4k]
  exact hr
 have jt:q1q (fun k=>q1z.j0 k a true) (0,false):=cSuc (by simp only [q1z.j0];exact cPos trivial (cCon _))
 refine ⟨r,?_⟩
 unfold q1z.f
 by_cases hs:a.size > 1
 ·by_cases hb:bt a 0 = 48
  ·rw [if_pos ⟨hs,hb⟩]
   refine cNeg h0 (cNO (cBin hc (cPos rfl (cPO (cPO ?_)))))
   rw [show (bt a 0 == 48) = true from by simpa using hb];exact jt
  ·rw [if_neg (fun k=>hb k.2)]
   refine cNeg h0 (cNO (cBin hc (cPos rfl (cPO (cPO ?_)))))
   rw [show (bt a 0 == 48) = false from by simpa using hb];exact jf
 ·rw [if_neg (fun k=>hs k.1)]
  exact cNeg h0 (cNO (cBin hc (cPos rfl (cNO jf))))
theorem q8g (s:q0a) (hs:s.size≤20000):∀ (k i:Nat),i≤s.size → (q1r.l0 k s (i:Int) = q0W.l0 k s (i:Int))∧(i < s.size → ∀ b,q1r.j2 k s (i:Int) b = q0W.j2 k s (i:Int) (bt s (i:Int)) b)
 | 0,i,hi=>⟨rfl,fun _ _=>rfl⟩
 | k + 1,i,hi=>by
  have w1:=q5v (show i≤1000000 by omega)
  have w2:=wrap2 (show i≤1000000 by omega)
  refine ⟨?_,fun h b=>?_⟩
  ·simp only [q1r.l0,q0W.l0,q4C,q4h,q9v,q7R,Option.bind_some]
   by_cases h:i < s.size
   ·simp only [(q8g s hs k i hi).2 h]
   ·rw [if_neg (by omega),if_neg (by omega)]
  ·simp only [q1r.j2,q0W.j2,q4C,q4h,q9v,q7R,Option.bind_some,w1,w2]
   rw [(q8g s hs k (i + 1) h).1,if_pos (show (0:Int)≤(i:Int) by omega),if_pos (show (i:Int) < (s.size:Int) by omega)]
   by_cases h1:i + 1 < s.size
   ·rw [(q8g s hs k (i + 2) h1).1,if_neg (show ¬ ((i + 1:Nat):Int) = (s.size:Int) by omega)]
    simp only [if_pos (show (0:Int)≤((i + 1:Nat):Int) by omega),if_pos (show ((i + 1:Nat):Int) < (s.size:Int) by omega)]
   ·rw [if_pos (show ((i + 1:Nat):Int) = (s.size:Int) by omega)]
    simp only [if_neg (show ¬ ((i + 1:Nat):Int) < (s.size:Int) by omega)]
theorem v0e (s:q0a) (hs:s.size≤20000):∀ (d i:Nat),i + d = s.size → ∃ t:Nat,i≤t∧t≤s.size∧q1q (fun k=>q0W.l0 k s (i:Int)) (t:Int):=by
 intro d
 induction d using Nat.strongRecOn with
 | _ d IH=>
  intro i hi
  have w1:=q5v (show i≤1000000 by omega)
  have w2:=wrap2 (show i≤1000000 by omega)
  by_cases h:i < s.size
  ·have hj:∀ b,∃ t:Nat,i≤t∧t≤s.size∧q1q (fun k=>q0W.j2 k s (i:Int) (bt s (i:Int)) b) (t:Int):=by
    intro b
    obtain ⟨t1,a1,b1,c1⟩:=IH (d - 1) (by omega) (i + 1) (by omega)
    cases b with
    | true=>exact ⟨t1,by omega,b1,cSuc (by simp only [q0W.j2,w1];exact cPos trivial c1)⟩
    | false=>
     by_cases h45:bt s (i:Int) = 45
     ·by_cases h1:i + 1 < s.size
      ·obtain ⟨t2,a2,b2,c2⟩:=IH (d - 2) (by omega) (i + 2) (by omega)
       by_cases hx:Sm (bt s ((i + 1:Nat):Int)) = true
       ·exact ⟨t2,by omega,b2,cSuc (by simp only [q0W.j2,w1,w2,q4h,Option.bind_some];exact cND (cPos h45 (cPO (cPO (cPos hx c2)))))⟩
       ·by_cases hy:Dg (bt s ((i + 1:Nat):Int)) = true
        ·exact ⟨t2,by omega,b2,cSuc (by simp only [q0W.j2,w1,w2,q4h,q4C,Option.bind_some];exact cND (cPos h45 (cPO (cPO (cNeg hx (cPos hy c2))))))⟩
        ·exact ⟨i,q0f _,by omega,cSuc (by simp only [q0W.j2,w1,w2,q4h,q4C,Option.bind_some];exact cND (cPos h45 (cPO (cPO (cNeg hx (cNeg hy (cCon _)))))))⟩
      ·exact ⟨i,q0f _,by omega,cSuc (by simp only [q0W.j2,w1];exact cND (cPos h45 (cNO (cCon _))))⟩
     ·exact ⟨i,q0f _,by omega,cSuc (by simp only [q0W.j2];exact cND (cNeg h45 (cCon _)))⟩
   by_cases hx:Sm (bt s (i:Int)) = true
   ·obtain ⟨t,a1,b1,c1⟩:=hj true
    exact ⟨t,a1,b1,cSuc (by simp only [q0W.l0,q4h,Option.bind_some];exact cPO (cPO (cPos hx c1)))⟩
   ·obtain ⟨t,a1,b1,c1⟩:=hj (Dg (bt s (i:Int)))
    exact ⟨t,a1,b1,cSuc (by simp only [q0W.l0,q4h,q4C,Option.bind_some];exact cPO (cPO (cNeg hx c1)))⟩
  ·exact ⟨i,q0f _,by omega,cSuc (by simp only [q0W.l0];exact cNO (cCon _))⟩
theorem name_rf (s:q0a) (hs:s.size≤20000) (h0:0 < s.size) (k:Nat):q1r.f k s = q0W.f k s:=by
 unfold q1r.f q0W.f
 have e:∀ b,q1r.j0 k s b = q0W.j0 k s b:=by
  intro b
  cases k with
  | zero=>rfl
  | succ k=>
   simp only [q1r.j0,q0W.j0]
   have:=(q8g s hs k 1 h0).1
   rw [show ((1:Nat):Int) = 1 from rfl] at this
   rw [this]
 simp only [e,q4h,q7R]
theorem q7a (s:q0a) (hs:s.size≤20000) (h0:0 < s.size):(Sm (bt s 0) = true → ∃ t:Nat,1≤t∧t≤s.size∧q1q (fun k=>q0W.f k s) (t:Int))∧(Sm (bt s 0) = false → q1q (fun k=>q0W.f k s) 0):=by
 have hn : ¬ s.toList = ([]:List UInt8):=by
  rw [ByteArray.toList_eq]
  intro h
  have:=congrArg List.length h
  rw [q5d] at this
  have:s.size = 0:=this
  omega
 unfold q0W.f
 refine ⟨fun hb=>?_,fun hb=>?_⟩
 ·obtain ⟨t,a1,b1,c1⟩:=v0e s hs (s.size - 1) 1 (by omega)
  refine ⟨t,a1,b1,?_⟩
  simp only [q4h,hb,Option.bind_some]
  exact cNeg hn (cPO (cSuc (by simp only [q0W.j0];exact cND c1)))
 ·simp only [q4h,hb,Option.bind_some]
  exact cNeg hn (cPO (cSuc (by simp only [q0W.j0];exact cPD (cCon _))))
end
section
/-- Nodes of these kinds have names. -/
def Nm (a:Int):Bool:=decide (a = 4∨a = 11∨a = 12)
def no5 (x:List S25):Bool:=x.all fun y=>decide (y.f0≠5)
def ShpT (a:Int) (x:List S25):Bool:=if a = 5 then decide (x.length≠1) && no5 x else if a = 6 then decide (2≤x.length) else if a = 7 then decide (x.length = 1) else if a = 8 then decide (x.length = 1) else if a = 12 then decide (x.length = 1) else decide (x.length = 0)
/-- The kind, the fields and the kids of a node fit together. -/
def Shp (a:Int) (b:q0a) (c:Int) (x:List S25):Bool:=decide (1≤a) && decide (a≤12) && (Nm a || decide (b.toList = [])) && (decide (a = 7) || decide (c = 0)) && ShpT a x
theorem q6x (a:Int):q3R.f a = some (Nm a):=by
 unfold q3R.f Nm
 by_cases h4:a = 4 <;> by_cases h11:a = 11 <;> by_cases h12:a = 12 <;> simp_all
theorem q6S {x:List S25} {i:Nat} (h:i < x.length):no5 (x.drop i) = (decide (x[i].f0≠5) && no5 (x.drop (i + 1))):=by
 unfold no5
 rw [List.drop_eq_getElem_cons h,List.all_cons]
theorem v1J (x:List S25) (hl:x.length≤1048576):∀ (d i:Nat),i + d = x.length → ∃ q:Int,q1q (fun k=>q2q.l0 k x (x.length:Int) (i:Int)) q∧decide (q≥0) = !(no5 (x.drop i)):=by
 intro d
 induction d with
 | zero=>
  intro i hi
  refine ⟨-1,cSuc ?_,?_⟩
  ·simp only [q2q.l0]
   exact cNO (cCon _)
  ·rw [List.drop_eq_nil_of_le (by omega)];rfl
 | succ d IH=>
  intro i hi
  have h:i < x.length:=by omega
  obtain ⟨q,hq,e⟩:=IH (i + 1) (by omega)
  by_cases h5:x[i].f0 = 5
  ·refine ⟨i,cSuc ?_,?_⟩
   ·simp only [q2q.l0,q4d.f,rd25 h,Option.bind_some,h5]
    exact cPO (cPO (cPO (cPD (cCon _))))
   ·rw [q6S h,decide_eq_true (show ((i:Nat):Int)≥0 by omega),decide_eq_false (not_not_intro h5)];rfl
  ·refine ⟨q,cSuc ?_,?_⟩
   ·simp only [q2q.l0,q4d.f,rd25 h,Option.bind_some,q2f (show i≤1048576 by omega)]
    exact cPO (cPO (cPO (cNeg (by simpa using h5) hq)))
   ·rw [q6S h,e,decide_eq_true h5,Bool.true_and]
theorem q5Q (a:Int) (b:q0a) (c:Int) (x:List S25) (hl:x.length≤1048576):q1q (fun k=>q1x.f k a b c x) (Shp a b c x):=by
 have J2:q1q (fun k=>q1x.j2 k a b c x) (ShpT a x):=by
  obtain ⟨q,hq,e⟩:=v1J x hl x.length 0 (by omega)
  rw [List.drop_zero] at e
  apply cSuc
  unfold ShpT
  simp only [q1x.j2]
  refine cIte (fun h=>?_) (fun h=>?_)
  ·rw [if_pos h]
   refine cIte (fun h=>cVal ?_) (fun h=>?_)
   ·rw [decide_eq_false (by omega),Bool.false_and]
   ·rw [decide_eq_true (by omega),Bool.true_and]
    unfold q3J.f q2q.f
    refine cBin (cBin hq (cCon _)) (cVal ?_)
    rw [e,Bool.not_not]
  rw [if_neg h]
  have e1:((x.length:Int) == 1) = decide (x.length = 1):=by
   by_cases k:x.length = 1 <;> simp [k];omega
  have e0:((x.length:Int) == 0) = decide (x.length = 0):=by
   by_cases k:x.length = 0 <;> simp [k]
  rw [e1,e0]
  refine cIte (fun h=>cVal ?_) (fun h=>?_)
  ·rw [if_pos h];congr 1;exact propext ⟨fun k=>by omega,fun k=>by omega⟩
  rw [if_neg h]
  refine cIte (fun h=>cVal (by rw [if_pos h])) (fun h=>?_)
  rw [if_neg h]
  refine cIte (fun h=>cVal (by rw [if_pos h])) (fun h=>?_)
  rw [if_neg h]
  refine cIte (fun h=>cVal (by rw [if_pos h])) (fun h=>?_)
  rw [if_neg h]
  exact cCon _
 have J1:∀ z,q1q (fun k=>q1x.j1 k z a b c x) (!z && (decide (a = 7) || decide (c = 0)) && ShpT a x):=by
  intro z
  apply cSuc
  simp only [q1x.j1]
  cases z with
  | true=>exact cPos rfl (cCon _)
  | false=>
   refine cND (cIte (fun h=>?_) (fun h=>cIte (fun h'=>?_) (fun h'=>cVal ?_)))
   ·rw [decide_eq_true h];simpa using J2
   ·rw [decide_eq_false h,decide_eq_true h'];simpa using J2
   ·rw [decide_eq_false h,decide_eq_false h'];rfl
 have J0:∀ z,q1q (fun k=>q1x.j0 k z a b c x) (!z && ((Nm a || decide (b.toList = [])) && ((decide (a = 7) || decide (c = 0)) && ShpT a x))):=by
  intro z
  apply cSuc
  simp only [q1x.j0,q6x,Option.bind_some]
  cases z with
  | true=>exact cPos rfl (cCon _)
  | false=>
   refine cND (cIte (fun h=>?_) (fun h=>?_))
   ·rw [h];exact J1 false
   ·rw [Bool.eq_false_iff.2 h]
    by_cases hb:b.toList = []
    ·have:=J1 false
     rw [show (b.toList != ([]:List UInt8)) = false from by simpa using hb,decide_eq_true hb]
     exact this
    ·have:=J1 true
     rw [show (b.toList != ([]:List UInt8)) = true from by simpa using hb,decide_eq_false hb]
     exact this
 unfold q1x.f Shp
 refine cIte (fun h=>?_) (fun h=>?_)
 ·rw [decide_eq_false (show ¬ 1≤a by omega)];exact J0 true
 ·rw [decide_eq_true (show 1≤a by omega)]
  have:=J0 (decide (a > 12))
  rw [show (!(decide (a > 12))) = decide (a≤12) from by rw [← decide_not];congr 1;exact propext ⟨fun k=>by omega,fun k=>by omega⟩] at this
  simpa only [Bool.true_and,Bool.and_assoc] using this
theorem q9b (a:Int) (b:q0a) (c:Int) (x:List S25) (hl:x.length≤1048576):∀ (d i:Nat),i + d = x.length → q1q (fun k=>q0U.l0 k (i:Int) a b c x) (decide (x.length≠1) && no5 (x.drop i)):=by
 intro d
 induction d with
 | zero=>
  intro i hi
  apply cSuc
  simp only [q0U.l0]
  refine cNO (cVal ?_)
  rw [List.drop_eq_nil_of_le (by omega)]
  by_cases k:x.length = 1 <;> simp [k,no5];omega
 | succ d IH=>
  intro i hi
  have h:i < x.length:=by omega
  apply cSuc
  simp only [q0U.l0,rd25 h,q2f (show i≤1048576 by omega)]
  refine cPO (cPO (cIte (fun h5=>cVal ?_) (fun h5=>?_)))
  ·rw [q6S h,decide_eq_false (not_not_intro h5),Bool.false_and,Bool.and_false]
  ·have:=IH (i + 1) (by omega)
   rw [q6S h,decide_eq_true h5,Bool.true_and]
   exact this
theorem q8u (a:Int) (b:q0a) (c:Int) (x:List S25) (hl:x.length≤1048576):q1q (fun k=>q0U.f k a b c x) (Shp a b c x):=by
 have J1:∀ z,q1q (fun k=>q0U.j1 k z a b c x) (!z && ShpT a x):=by
  intro z
  apply cSuc
  simp only [q0U.j1]
  cases z with
  | true=>exact cPos rfl (cCon _)
  | false=>
   unfold ShpT
   rw [Bool.not_false,Bool.true_and]
   have e1:((x.length:Int) == 1) = decide (x.length = 1):=by
    by_cases k:x.length = 1 <;> simp [k];omega
   have e0:((x.length:Int) == 0) = decide (x.length = 0):=by
    by_cases k:x.length = 0 <;> simp [k]
   rw [e1,e0]
   refine cND (cIte (fun h=>?_) (fun h=>?_))
   ·rw [if_pos h]
    have:=q9b a b c x hl x.length 0 (by omega)
    rw [List.drop_zero] at this
    exact this
   rw [if_neg h]
   refine cIte (fun h=>cVal ?_) (fun h=>?_)
   ·rw [if_pos h];congr 1;exact propext ⟨fun k=>by omega,fun k=>by omega⟩
   rw [if_neg h]
   refine cIte (fun h=>cVal (by rw [if_pos h])) (fun h=>?_)
   rw [if_neg h]
   refine cIte (fun h=>cVal (by rw [if_pos h])) (fun h=>?_)
   rw [if_neg h]
   refine cIte (fun h=>cVal (by rw [if_pos h])) (fun h=>?_)
   rw [if_neg h]
   exact cCon _
 have hc:(c != 0) = !decide (c = 0):=by by_cases k:c = 0 <;> simp [k]
 have J0:∀ z,q1q (fun k=>q0U.j0 k z a b c x) (decide (1≤a) && decide (a≤12) && (z || decide (b.toList = [])) && (decide (a = 7) || decide (c = 0)) && ShpT a x):=by
  intro z
  apply cSuc
  simp only [q0U.j0]
  refine cIte (fun h=>?_) (fun h=>cIte (fun h'=>?_) (fun h'=>?_))
  ·rw [decide_eq_false (show ¬ 1≤a by omega)];exact J1 true
  ·rw [decide_eq_false (show ¬ a≤12 by omega),Bool.and_false];exact J1 true
  rw [decide_eq_true (show 1≤a by omega),decide_eq_true (show a≤12 by omega)]
  have A:q1q (fun k=>if a = 7 then q0U.j1 k false a b c x else q0U.j1 k (c != 0) a b c x) ((decide (a = 7) || decide (c = 0)) && ShpT a x):=by
   refine cIte (fun h=>?_) (fun h=>?_)
   ·rw [decide_eq_true h];exact J1 false
   ·rw [decide_eq_false h,Bool.false_or]
    have:=J1 (c != 0)
    rw [hc,Bool.not_not,← hc] at this
    exact this
  refine cIte (fun h=>?_) (fun h=>?_)
  ·rw [h];exact A
  rw [Bool.eq_false_iff.2 h]
  refine cIte (fun h=>?_) (fun h=>?_)
  ·rw [decide_eq_true h];exact A
  ·rw [decide_eq_false h];exact J1 true
 unfold q0U.f Shp Nm
 refine cIte (fun h=>?_) (fun h=>cIte (fun h'=>?_) (fun h'=>?_))
 ·rw [decide_eq_true (show a = 4∨a = 11∨a = 12 from .inl h)];exact J0 true
 ·rw [decide_eq_true (show a = 4∨a = 11∨a = 12 from .inr (.inl h'))];exact J0 true
 ·have:=J0 (a == 12)
  rw [show decide (a = 4∨a = 11∨a = 12) = (a == 12) from by by_cases k:a = 12 <;> simp [h,h',k]]
  exact this
theorem q6g (s:q0a):∃ r,q1q (fun k=>q2v.f k s) r∧q1q (fun k=>q3a.f k s) r:=by
 unfold q2v.f q3a.f
 by_cases h0:s.toList = []
 ·exact ⟨_,cPos h0 (cCon _),cPos h0 (cCon _)⟩
 by_cases h20:(s.size:Int)≤20
 ·have hp:0 < s.size:=by
   rcases Nat.eq_zero_or_pos s.size with h | h
   ·exact absurd (by rw [ByteArray.toList_eq];exact List.length_eq_zero_iff.1 (by simpa using h)) h0
   ·exact h
  have hr:=name_rf s (by omega) hp
  have hc:∃ t:Int,q1q (fun k=>q0W.f k s) t:=by
   cases hb:Sm (bt s 0) with
   | true=>obtain ⟨t,_,_,h⟩:=(q7a s (by omega) hp).1 hb;exact ⟨_,h⟩
   | false=>exact ⟨_,(q7a s (by omega) hp).2 hb⟩
  obtain ⟨t,hc⟩:=hc
  refine ⟨_,cNeg h0 (cPos h20 (cBin hc (cCon _))),cNeg h0 (cPos h20 (cBin ?_ (cCon _)))⟩
  simpa only [hr] using hc
 ·exact ⟨_,cNeg h0 (cNeg h20 (cCon _)),cNeg h0 (cNeg h20 (cCon _))⟩
theorem q5B (s:q0a):∃ r,q1q (fun k=>q1N.f k s) r∧q1q (fun k=>q2W.f k s) r:=by
 obtain ⟨r,h1,h2⟩:=q6g s
 unfold q1N.f q2W.f
 have:∃ q:Bool,q1q (fun k=>if r = true then (if s.toList = ([117]:List UInt8) then (some false) else (some (s.toList != ([120]:List UInt8)))) else (some false)) q:=by
  split
  ·split <;> exact ⟨_,cCon _⟩
  ·exact ⟨_,cCon _⟩
 obtain ⟨q,hq⟩:=this
 exact ⟨q,cBin h1 hq,cBin h2 hq⟩
theorem q7K (x:List S25) (hl:x.length≤1048576) (a:Int) (b:q0a) (c:Int) (d:Int) (ih:∀ y,y ∈ x → ∃ e,q1q (fun k=>q0V.f k y.f0 y.f1 y.f2 y.f3 (wrap64 (d + 1))) e∧q1q (fun k=>q0O.f k y.f0 y.f1 y.f2 y.f3 (wrap64 (d + 1))) e) :
  ∀ (m i:Nat),i + m = x.length → ∃ e,q1q (fun k=>q0V.l0 k d x (x.length:Int) (i:Int)) e∧q1q (fun k=>q0O.l0 k d (i:Int) a b c x) e:=by
 intro m
 induction m with
 | zero=>
  intro i hi
  refine ⟨0,cSuc ?_,cSuc ?_⟩
  ·simp only [q0V.l0];exact cNO (cCon _)
  ·simp only [q0O.l0];exact cNO (cCon _)
 | succ m IH=>
  intro i hi
  have h:i < x.length:=by omega
  obtain ⟨e,h1,h2⟩:=ih _ (List.getElem_mem h)
  obtain ⟨e',h1',h2'⟩:=IH (i + 1) (by omega)
  by_cases he:e = 0
  ·refine ⟨e',cSuc ?_,cSuc ?_⟩
   ·simp only [q0V.l0,rd25 h,q2f (show i≤1048576 by omega)]
    exact cPO (cPO (cPO (cBin h1 (cPos he h1'))))
   ·simp only [q0O.l0,rd25 h,q2f (show i≤1048576 by omega)]
    exact cPO (cPO (cBin h2 (cPos he h2')))
  ·refine ⟨e,cSuc ?_,cSuc ?_⟩
   ·simp only [q0V.l0,rd25 h]
    exact cPO (cPO (cPO (cBin h1 (cNeg he (cCon _)))))
   ·simp only [q0O.l0,rd25 h]
    exact cPO (cPO (cBin h2 (cNeg he (cCon _))))
theorem q5X:∀ (n:S25),Small n → ∀ d:Int,∃ e,q1q (fun k=>q0V.f k n.f0 n.f1 n.f2 n.f3 d) e∧q1q (fun k=>q0O.f k n.f0 n.f1 n.f2 n.f3 d) e
 | ⟨a,b,c,x⟩,hs,d=>by
  cases hs with
  | mk _ _ _ _ hl hk=>
  obtain ⟨e,L1,L2⟩:=q7K x hl a b c d (fun y hy=>q5X y (hk y hy) _) x.length 0 (by omega)
  have J:∀ z:Bool,∃ q,q1q (fun k=>q0V.j0 k d z a b c x) q∧q1q (fun k=>q0O.j0 k d z a b c x) q:=by
   intro z
   by_cases hz:z = true
   ·refine ⟨2,cSuc ?_,cSuc ?_⟩
    ·simp only [q0V.j0];exact cPos hz (cCon _)
    ·simp only [q0O.j0];exact cPos hz (cCon _)
   by_cases h0:c < 0
   ·refine ⟨6,cSuc ?_,cSuc ?_⟩
    ·simp only [q0V.j0];exact cNeg hz (cPos h0 (cCon _))
    ·simp only [q0O.j0];refine cNeg hz (cPos h0 (cSuc ?_));simp only [q0O.j1];exact cPos trivial (cCon _)
   by_cases h9:c > 9
   ·refine ⟨6,cSuc ?_,cSuc ?_⟩
    ·simp only [q0V.j0];exact cNeg hz (cNeg h0 (cPos h9 (cCon _)))
    ·simp only [q0O.j0];refine cNeg hz (cNeg h0 (cSuc ?_));simp only [q0O.j1];exact cPos (q0w h9) (cCon _)
   ·refine ⟨e,cSuc ?_,cSuc ?_⟩
    ·simp only [q0V.j0];exact cNeg hz (cNeg h0 (cNeg h9 L1))
    ·simp only [q0O.j0];refine cNeg hz (cNeg h0 (cSuc ?_));simp only [q0O.j1];exact cNeg (by simpa using h9) L2
  have s1:=q5Q a b c x hl
  have s2:=q8u a b c x hl
  obtain ⟨u,u1,u2⟩:=q5B b
  by_cases h12:d > 12
  ·refine ⟨3,cSuc ?_,cSuc ?_⟩
   ·simp only [q0V.f];exact cPos h12 (cCon _)
   ·simp only [q0O.f];exact cPos h12 (cCon _)
  by_cases hS:Shp a b c x = true
  ·by_cases hn:Nm a = true
   ·obtain ⟨q,q1,q2⟩:=J (!u)
    refine ⟨q,cSuc ?_,cSuc ?_⟩
    ·simp only [q0V.f,q6x,Option.bind_some]
     exact cNeg h12 (cBin s1 (cPos hS (cPos hn (cBin u1 q1))))
    ·simp only [q0O.f]
     have hn':a = 4∨a = 11∨a = 12:=q0b hn
     have B:=cBin (g:=fun k t953=>q0O.j0 k d (!t953) a b c x) u2 q2
     exact cNeg h12 (cBin s2 (cPos hS (cIte (fun _=>B) (fun h4=>cIte (fun _=>B) (fun h11=>cIte (fun _=>B) (fun h12=>absurd hn' (by omega)))))))
   ·obtain ⟨q,q1,q2⟩:=J false
    refine ⟨q,cSuc ?_,cSuc ?_⟩
    ·simp only [q0V.f,q6x,Option.bind_some]
     exact cNeg h12 (cBin s1 (cPos hS (cNeg hn q1)))
    ·simp only [q0O.f]
     have hn' : ¬ (a = 4∨a = 11∨a = 12):=fun k=>hn (q0w k)
     exact cNeg h12 (cBin s2 (cPos hS (cNO (cNO (cNO q2)))))
  ·refine ⟨1,cSuc ?_,cSuc ?_⟩
   ·simp only [q0V.f];exact cNeg h12 (cBin s1 (cNeg hS (cCon _)))
   ·simp only [q0O.f];exact cNeg h12 (cBin s2 (cNeg hS (cCon _)))
 termination_by n=>SizeOf.sizeOf n
 decreasing_by
  have:=List.sizeOf_lt_of_mem hy
  simp only [S25.mk.sizeOf_spec]
  omega
theorem q9S (x:List S25) (hl:x.length≤1048576) (a:Int) (b:q0a) (c:Int) (ih:∀ y,y ∈ x → ∃ e,q1q (fun k=>q1M.f k y.f0 y.f1 y.f2 y.f3) e∧q1q (fun k=>q1n.f k y.f0 y.f1 y.f2 y.f3) e) :
  ∀ (m i:Nat),i + m = x.length → ∀ v:Int,∃ e,q1q (fun k=>q1M.l0 k v x (x.length:Int) (i:Int)) e∧q1q (fun k=>q1n.l0 k v (i:Int) a b c x) e:=by
 intro m
 induction m with
 | zero=>
  intro i hi v
  refine ⟨v,cSuc ?_,cSuc ?_⟩
  ·simp only [q1M.l0];exact cNO (cCon _)
  ·simp only [q1n.l0];exact cNO (cCon _)
 | succ m IH=>
  intro i hi v
  have h:i < x.length:=by omega
  obtain ⟨e,h1,h2⟩:=ih _ (List.getElem_mem h)
  obtain ⟨e',h1',h2'⟩:=IH (i + 1) (by omega) (wrap64 (v + e))
  refine ⟨e',cSuc ?_,cSuc ?_⟩
  ·simp only [q1M.l0,rd25 h,q2f (show i≤1048576 by omega)]
   exact cPO (cPO (cPO (cBin h1 h1')))
  ·simp only [q1n.l0,rd25 h,q2f (show i≤1048576 by omega)]
   exact cPO (cPO (cBin h2 h2'))
theorem q5K:∀ (n:S25),Small n → ∃ e,q1q (fun k=>q1M.f k n.f0 n.f1 n.f2 n.f3) e∧q1q (fun k=>q1n.f k n.f0 n.f1 n.f2 n.f3) e
 | ⟨a,b,c,x⟩,hs=>by
  cases hs with
  | mk _ _ _ _ hl hk=>
  obtain ⟨e,L1,L2⟩:=q9S x hl a b c (fun y hy=>q5K y (hk y hy)) x.length 0 (by omega) 1
  refine ⟨e,cSuc ?_,cSuc ?_⟩
  ·simp only [q1M.f];exact L1
  ·simp only [q1n.f];exact L2
 termination_by n=>SizeOf.sizeOf n
 decreasing_by
  have:=List.sizeOf_lt_of_mem hy
  simp only [S25.mk.sizeOf_spec]
  omega
theorem v0Y (x:List S25) (hl:x.length≤1048576) (a:Int) (b:q0a) (c:Int) (ih:∀ y,y ∈ x → q1q (fun k=>q0s.f k y.f0 y.f1 y.f2 y.f3 y.f0 y.f1 y.f2 y.f3) true) :
  ∀ (m i:Nat),i + m = x.length → q1q (fun k=>q0s.l0 k (i:Int) a b c x a b c x) true:=by
 intro m
 induction m with
 | zero=>
  intro i hi
  apply cSuc
  simp only [q0s.l0]
  exact cNO (cCon _)
 | succ m IH=>
  intro i hi
  have h:i < x.length:=by omega
  apply cSuc
  simp only [q0s.l0,rd25 h,q2f (show i≤1048576 by omega)]
  exact cPO (cPO (cPO (cBin (ih _ (List.getElem_mem h)) (cPos rfl (IH (i + 1) (by omega))))))
theorem q6G:∀ (n:S25),Small n → q1q (fun k=>q0s.f k n.f0 n.f1 n.f2 n.f3 n.f0 n.f1 n.f2 n.f3) true
 | ⟨a,b,c,x⟩,hs=>by
  cases hs with
  | mk _ _ _ _ hl hk=>
  apply cSuc
  simp only [q0s.f]
  refine cPos trivial (cPos trivial (cPos trivial (cSuc ?_)))
  simp only [q0s.j0]
  exact cNeg (by simp) (v0Y x hl a b c (fun y hy=>q6G y (hk y hy)) x.length 0 (by omega))
 termination_by n=>SizeOf.sizeOf n
 decreasing_by
  have:=List.sizeOf_lt_of_mem hy
  simp only [S25.mk.sizeOf_spec]
  omega
end
section
def q1C (xs:List q0a):List (List UInt8):=xs.map (·.data.toList)
def q5q (ls:List (List UInt8)):List q0a:=ls.map fun l=>⟨l.toArray⟩
theorem q5P (xs:List q0a):q5q (q1C xs) = xs:=by
 unfold q5q q1C
 rw [List.map_map]
 conv=>rhs;rw [← List.map_id xs]
 exact List.map_congr_left fun l _=>by simp
theorem q6W (ls:List (List UInt8)):q1C (q5q ls) = ls:=by
 unfold q5q q1C
 rw [List.map_map]
 conv=>rhs;rw [← List.map_id ls]
 exact List.map_congr_left fun l _=>by simp
theorem q4y (xs:List q0a):(q1C xs).length = xs.length:=by simp [q1C]
abbrev St:=List UInt8
def Asc (l:List St):Prop:=l.Pairwise (· < ·)
theorem irr (x:St) : ¬ x < x:=List.lt_irrefl x
theorem tr {x y z:St} (h:x < y) (k:y < z):x < z:=List.lt_trans h k
theorem tri (x y:St):x < y∨x = y∨y < x:=by
 by_cases h:x < y
 ·exact .inl h
 ·by_cases k:y < x
  ·exact .inr (.inr k)
  ·exact .inr (.inl (List.le_antisymm k h))
/-- Two ascending lists with the same members are one. -/
theorem q7P:∀ (l m:List St),Asc l → Asc m → (∀ x,x ∈ l↔x ∈ m) → l = m
 | [],[],_,_,_=>rfl
 | [],y :: m,_,_,h=>absurd ((h y).2 (by simp)) (by simp)
 | x :: l,[],_,_,h=>absurd ((h x).1 (by simp)) (by simp)
 | x :: l,y :: m,hl,hm,h=>by
  have hl':=List.pairwise_cons.1 hl
  have hm':=List.pairwise_cons.1 hm
  have hxy:x = y:=by
   rcases List.mem_cons.1 ((h x).1 (by simp)) with e | e
   ·exact e
   ·rcases List.mem_cons.1 ((h y).2 (by simp)) with e' | e'
    ·exact e'.symm
    ·exact absurd (tr (hm'.1 x e) (hl'.1 y e')) (irr _)
  subst hxy
  rw [q7P l m hl'.2 hm'.2 (fun z=>?_)]
  have hz:=h z
  simp only [List.mem_cons] at hz
  constructor
  ·intro hzl
   rcases hz.1 (.inr hzl) with e | e
   ·subst e;exact absurd (hl'.1 z hzl) (irr _)
   ·exact e
  ·intro hzm
   rcases hz.2 (.inr hzm) with e | e
   ·subst e;exact absurd (hm'.1 z hzm) (irr _)
   ·exact e
theorem q4H:∀ (x y:St),Op.bytesLess x y = true↔x < y
 | [],[]=>by simp [Op.bytesLess]
 | a :: x,[]=>by simp [Op.bytesLess]
 | [],b :: y=>by simp [Op.bytesLess]
 | a :: x,b :: y=>by
  rw [List.cons_lt_cons_iff,← q4H x y]
  simp [Op.bytesLess]
/-- What stays of an ordered list is ascending and has its members. -/
theorem q8T (zs:List St) (hs:zs.Pairwise (·≤·)):∀ m,m≤zs.length → Asc (Lib.compactUpTo zs.toArray m)∧∀ x,x ∈ Lib.compactUpTo zs.toArray m↔x ∈ zs.take m:=by
 intro m
 induction m with
 | zero=>intro _;simp [Lib.compactUpTo,Asc]
 | succ m ih=>
  intro hm
  obtain ⟨ha,hmem⟩:=ih (by omega)
  have hm':m < zs.length:=by omega
  have hg:zs.toArray[m]! = zs[m]:=by simp [hm']
  rw [Lib.compactUpTo_succ,hg]
  have htake:zs.take (m + 1) = zs.take m++[zs[m]]:=List.take_succ_eq_append_getElem hm'
  by_cases hk:Lib.keeps zs.toArray m = true
  ·rw [if_pos hk,htake]
   refine ⟨List.pairwise_append.2 ⟨ha,by simp,fun x hx y hy=>?_⟩,fun x=>by simp only [List.mem_append,hmem]⟩
   obtain rfl:y = zs[m]:=by simpa using hy
   have hx':=(hmem x).1 hx
   obtain ⟨j,hj,rfl⟩:=List.mem_iff_getElem.1 hx'
   have hjm:j < m:=by have:j < (zs.take m).length:=hj;rw [List.length_take] at this;omega
   rw [List.getElem_take]
   have h1:zs[m - 1]≠zs[m]:=by
    have:=q0b hk
    rcases this with h0 | h0
    ·omega
    ·have e:zs.toArray[m - 1]! = zs[m - 1]:=by simp [show m - 1 < zs.length by omega]
     rw [hg,e] at h0
     exact fun h=>h0 h.symm
   have h2:zs[m - 1]≤zs[m]:=List.pairwise_iff_getElem.1 hs (m - 1) m (by omega) hm' (by omega)
   have h3:zs[m - 1] < zs[m]:=by
    rcases tri zs[m - 1] zs[m] with h | h | h
    ·exact h
    ·exact absurd h h1
    ·exact absurd h h2
   by_cases hje:j = m - 1
   ·subst hje;exact h3
   ·have h4:zs[j]≤zs[m - 1]:=List.pairwise_iff_getElem.1 hs j (m - 1) (by omega) (by omega) (by omega)
    rcases tri zs[j] zs[m - 1] with h | h | h
    ·exact tr h h3
    ·rw [h];exact h3
    ·exact absurd h h4
  ·rw [if_neg hk,List.append_nil,htake]
   refine ⟨ha,fun x=>?_⟩
   rw [hmem,List.mem_append]
   refine ⟨.inl,fun h=>h.elim id fun h=>?_⟩
   obtain rfl:x = zs[m]:=by simpa using h
   have hk' : ¬ (m = 0∨zs.toArray[m]!≠zs.toArray[m - 1]!):=fun h=>hk (q0w h)
   have hm0:m≠0:=fun h=>hk' (.inl h)
   have he:zs.toArray[m]! = zs.toArray[m - 1]!:=Classical.byContradiction fun h=>hk' (.inr h)
   have e:zs.toArray[m - 1]! = zs[m - 1]:=by simp [show m - 1 < zs.length by omega]
   rw [hg,e] at he
   rw [he]
   exact List.mem_iff_getElem.2 ⟨m - 1,by rw [List.length_take];omega,by rw [List.getElem_take]⟩
theorem q7v (zs:List St):(Lib.compact zs).length≤zs.length:=by
 unfold Lib.compact Lib.compactUpTo
 rw [List.length_map]
 exact q0k (List.length_filter_le _ _) (by simp)
def v0w (zs:List St):List St:=Lib.compact (zs.mergeSort fun x y=>decide (x≤y))
theorem v0G (zs:List St):Asc (v0w zs)∧∀ x,x ∈ v0w zs↔x ∈ zs:=by
 have hp:(zs.mergeSort fun x y=>decide (x≤y)).Pairwise (·≤·):=by
  have h:=List.pairwise_mergeSort (le:=fun x y:St=>decide (x≤y)) (fun a b c h k=>q0w (List.le_trans (q0b h) (q0b k))) (fun a b=>by
   rcases List.le_total a b with h | h
   ·simp [h]
   ·simp [h]) zs
  exact h.imp fun h=>q0b h
 have h:=q8T _ hp _ (q0f _)
 refine ⟨h.1,fun x=>(h.2 x).trans ?_⟩
 rw [List.take_length,List.mem_mergeSort]
/-- A string put in at its place. -/
theorem put_asc (l:List St) (s:St) (i:Nat) (hi:i≤l.length) (hl:Asc l) (h1:∀ j (h:j < l.length),j < i → l[j] < s) (h2:∀ j (h:j < l.length),i≤j → s < l[j]) :
  Asc (l.take i++[s]++l.drop i)∧∀ x,x ∈ l.take i++[s]++l.drop i↔x ∈ l∨x = s:=by
 have a1:∀ x,x ∈ l.take i → x < s:=fun x hx=>by
  obtain ⟨j,hj,rfl⟩:=List.mem_iff_getElem.1 hx
  rw [List.getElem_take]
  rw [List.length_take] at hj
  exact h1 j (by omega) (by omega)
 have a2:∀ x,x ∈ l.drop i → s < x:=fun x hx=>by
  obtain ⟨j,hj,rfl⟩:=List.mem_iff_getElem.1 hx
  rw [List.getElem_drop]
  rw [List.length_drop] at hj
  exact h2 (i + j) (by omega) (by omega)
 have hall:Asc (l.take i++l.drop i):=by rw [List.take_append_drop];exact hl
 have hp:=List.pairwise_append.1 hall
 refine ⟨List.pairwise_append.2 ⟨List.pairwise_append.2 ⟨hp.1,by simp,fun x hx y hy=>?_⟩,hp.2.1,fun x hx y hy=>?_⟩,fun x=>?_⟩
 ·obtain rfl:y = s:=by simpa using hy
  exact a1 x hx
 ·rcases List.mem_append.1 hx with h | h
  ·exact hp.2.2 x h y hy
  ·obtain rfl:x = s:=by simpa using h
   exact a2 y hy
 ·have:x ∈ l↔x ∈ l.take i∨x ∈ l.drop i:=by rw [← List.mem_append,List.take_append_drop]
  rw [this]
  simp only [List.mem_append,List.mem_singleton]
  constructor
  ·rintro ((h | h) | h)
   ·exact .inl (.inl h)
   ·exact .inr h
   ·exact .inl (.inr h)
  ·rintro ((h | h) | h)
   ·exact .inl (.inl h)
   ·exact .inr h
   ·exact .inl (.inr h)
theorem v0B:∀ (M:Nat),(∀ n m ys,m≤M → CntN n m ys → ys.length≤m)∧(∀ l m ys,m≤M → CntL l m ys → ys.length≤m):=by
 intro M
 induction M with
 | zero=>
  refine ⟨fun n m ys hm h=>by have:=h.pos;omega,fun l m ys hm h=>?_⟩
  cases l with
  | nil=>obtain ⟨rfl,rfl⟩:=h.nil_inv;simp
  | cons x l=>have:=CntL.len _ _ _ h;simp only [List.length_cons] at this;omega
 | succ M ih=>
  have hN:∀ n m ys,m≤M + 1 → CntN n m ys → ys.length≤m:=by
   intro n m ys hm h
   obtain ⟨a,b,c,l⟩:=n
   obtain ⟨m',zs,rfl,rfl,hl⟩:=h.inv
   have:=ih.2 l m' zs (by omega) hl
   rw [List.length_append]
   split <;> simp <;> omega
  refine ⟨hN,fun l=>?_⟩
  induction l with
  | nil=>intro m ys hm h;obtain ⟨rfl,rfl⟩:=h.nil_inv;simp
  | cons x l IH=>
   intro m ys hm h
   obtain ⟨m1,m2,y1,y2,rfl,rfl,h1,h2⟩:=h.inv
   have:=hN x m1 y1 (by omega) h1
   have:=IH m2 y2 (by omega) h2
   rw [List.length_append]
   omega
def NM (ys:List q0a):List q0a:=q5q (v0w (q1C ys))
theorem q9V (ys:List q0a):q1C (NM ys) = v0w (q1C ys):=q6W _
theorem v1r (ys:List q0a):(NM ys).length≤ys.length:=by
 unfold NM q5q v0w
 rw [List.length_map]
 exact q0k (q7v _) (by simp [q1C])
theorem q4R {l:List q0a} {i:Nat} (h:i < l.length):(rdOf ByteArray.empty l (i:Int)).toList = (q1C l)[i]'(by rw [q4y];exact h):=by
 unfold rdOf q1C
 rw [List.getElem_map,ByteArray.toList_eq,Int.toNat_natCast,List.getD_eq_getElem?_getD,List.getElem?_eq_getElem h]
 rfl
def Put (l:List q0a) (s:St) (r:List q0a):Prop:=Asc (q1C r)∧(∀ x,x ∈ q1C r↔x ∈ q1C l∨x = s)∧r.length≤l.length + 1
theorem v2Y (l:List q0a) (s:q0a) (i:Nat) (hi:i≤l.length) (hA:Asc (q1C l)) (h1:∀ j (h:j < (q1C l).length),j < i → (q1C l)[j] < s.data.toList) (h2:∀ j (h:j < (q1C l).length),i≤j → s.data.toList < (q1C l)[j]) :
  Put l s.data.toList (l.take i++[s]++l.drop i):=by
 have e:q1C (l.take i++[s]++l.drop i) = (q1C l).take i++[s.data.toList]++(q1C l).drop i:=by
  simp [q1C,List.map_append,List.map_take,List.map_drop]
 have h:=put_asc (q1C l) s.data.toList i (by rw [q4y];exact hi) hA h1 h2
 refine ⟨by rw [e];exact h.1,fun x=>by rw [e];exact h.2 x,?_⟩
 simp only [List.length_append,List.length_take,List.length_drop,List.length_cons,List.length_nil]
 omega
theorem q9T (l:List q0a) (s:q0a) (hA:Asc (q1C l)) (hl:l.length≤20000000) (hs:s.data.toList ∉ q1C l) :
  ∃ r,q1q (fun k=>q2S.f k l s) r∧Put l s.data.toList r:=by
 unfold q2S.f
 have hLL:(q1C l).length = l.length:=q4y l
 have loop:∀ (d i:Nat),i + d = l.length → (∀ j (h:j < (q1C l).length),j < i → (q1C l)[j] < s.data.toList) → ∃ r,q1q (fun k=>q2S.l0 k l s (i:Int)) r∧Put l s.data.toList r:=by
  intro d
  induction d with
  | zero=>
   intro i hi h1
   refine ⟨_,cSuc ?_,v2Y l s i (by omega) hA h1 (fun j h hij=>by omega)⟩
   simp only [q2S.l0,Option.bind_some,List.nil_append,Int.toNat_natCast,List.length_nil,List.length_cons,List.length_append,List.length_take,List.length_drop]
   refine cNO (cPO (cPO (cPO (cPO (cPO (cCon _))))))
  | succ d IH=>
   intro i hi h1
   have hlt:i < l.length:=by omega
   by_cases hb:(q1C l)[i]'(by omega) < s.data.toList
   ·obtain ⟨r,hr,hp⟩:=IH (i + 1) (by omega) (fun j h hj=>by
     by_cases e:j = i
     ·subst e;exact hb
     ·exact h1 j h (by omega))
    refine ⟨r,cSuc ?_,hp⟩
    simp only [q2S.l0]
    refine cPO (cPO (cPos ?_ ?_))
    ·rw [q4R hlt,ByteArray.toList_eq,q4H];exact hb
    ·rw [wrapN (by omega)];exact hr
   ·have hne:(q1C l)[i]'(by omega)≠s.data.toList:=fun e=>hs (e ▸ List.getElem_mem _)
    have hgt:s.data.toList < (q1C l)[i]'(by omega):=by
     rcases tri ((q1C l)[i]'(by omega)) s.data.toList with h | h | h
     ·exact absurd h hb
     ·exact absurd h hne
     ·exact h
    refine ⟨_,cSuc ?_,v2Y l s i (by omega) hA h1 (fun j h hij=>?_)⟩
    ·simp only [q2S.l0,Option.bind_some,List.nil_append,Int.toNat_natCast,List.length_nil,List.length_cons,List.length_append,List.length_take,List.length_drop]
     refine cPO (cPO (cNeg ?_ (cNeg ?_ (cPO (cPO (cPO (cPO (cCon _))))))))
     ·rw [q4R hlt,ByteArray.toList_eq,q4H];exact hb
     ·rw [q4R hlt,ByteArray.toList_eq];exact hne
    ·by_cases e:j = i
     ·subst e;exact hgt
     ·exact tr hgt (List.pairwise_iff_getElem.1 hA i j (by omega) h (by omega))
 exact loop l.length 0 (by omega) (fun j _ h=>by omega)
theorem q9O (l:List q0a) (s:q0a) (hA:Asc (q1C l)) (hl:l.length≤20000000) (hs:s.data.toList ∈ q1C l):q1q (fun k=>q3D.f k l s) l:=by
 unfold q3D.f
 have hLL:(q1C l).length = l.length:=q4y l
 obtain ⟨p,hp,he⟩:=List.mem_iff_getElem.1 hs
 have loop:∀ (d i:Nat),i + d = p → q1q (fun k=>q3D.l0 k l s (i:Int)) l:=by
  intro d
  induction d with
  | zero=>
   intro i hi
   obtain rfl:i = p:=by omega
   have hlt:i < l.length:=by omega
   apply cSuc
   simp only [q3D.l0]
   refine cPO (cPO (cNeg ?_ (cPos ?_ (cCon _))))
   ·rw [q4R hlt,ByteArray.toList_eq,q4H,he];exact irr _
   ·rw [q4R hlt,ByteArray.toList_eq,he]
  | succ d IH=>
   intro i hi
   have hlt:i < l.length:=by omega
   apply cSuc
   simp only [q3D.l0]
   refine cPO (cPO (cPos ?_ ?_))
   ·rw [q4R hlt,ByteArray.toList_eq,q4H,← he]
    exact List.pairwise_iff_getElem.1 hA i p (by omega) hp (by omega)
   ·rw [wrapN (by omega)];exact IH (i + 1) (by omega)
 exact loop p 0 (by omega)
theorem v0h (l:List q0a) (s:q0a) (hA:Asc (q1C l)) (hl:l.length≤20000000):∃ r,q1q (fun k=>q3y.f k l s) r∧Put l s.data.toList r:=by
 unfold q3y.f
 have hany:(l.any (fun x=>x.toList == s.toList) = true)↔s.data.toList ∈ q1C l:=by
  unfold q1C
  rw [List.any_eq_true]
  constructor
  ·rintro ⟨x,hx,h⟩
   have h:=eq_of_beq h
   rw [ByteArray.toList_eq,ByteArray.toList_eq] at h
   exact List.mem_map.2 ⟨x,hx,h⟩
  ·intro h
   obtain ⟨x,hx,h⟩:=List.mem_map.1 h
   exact ⟨x,hx,by rw [ByteArray.toList_eq,ByteArray.toList_eq,h];exact beq_self_eq_true _⟩
 by_cases h:s.data.toList ∈ q1C l
 ·refine ⟨l,cPos (hany.2 h) (q9O l s hA hl h),hA,fun x=>⟨.inl,fun k=>k.elim id fun e=>e ▸ h⟩,by omega⟩
 ·obtain ⟨r,hr,hp⟩:=q9T l s hA hl h
  exact ⟨r,cNeg (fun k=>h (hany.1 k)) hr,hp⟩
theorem q8X {u v:List q0a} (h:q1C u = q1C v):u = v:=by rw [← q5P u,h,q5P]
theorem q9H (ys:List q0a):Asc (q1C (NM ys))∧∀ x,x ∈ q1C (NM ys)↔x ∈ q1C ys:=by rw [q9V];exact v0G _
theorem NM_is {u ys:List q0a} (h:Asc (q1C u)) (hm:∀ x,x ∈ q1C u↔x ∈ q1C ys):u = NM ys:=
 q8X (q7P _ _ h (q9H ys).1 (fun x=>(hm x).trans ((q9H ys).2 x).symm))
theorem q5k (u v:List q0a):q1C (u++v) = q1C u++q1C v:=by simp [q1C]
section
variable (a:Int) (b:q0a) (c:Int) (x:List S25)
theorem v2j (L:List q0a) (hL:L.length≤1048576) (i:Int):∀ (d j:Nat) (W:List q0a),j + d = L.length → Asc (q1C W) → W.length + d≤10000000 →
  ∃ W',Asc (q1C W')∧(∀ s,s ∈ q1C W'↔s ∈ q1C W∨s ∈ q1C (L.drop j))∧W'.length≤W.length + d∧∀ r,q1q (fun k=>q0L.l0 k W' (wrap64 (i + 1)) a b c x) r → q1q (fun k=>q0L.l1 k W i L ((j:Nat):Int) a b c x) r:=by
 intro d
 induction d with
 | zero=>
  intro j W hj hA _
  refine ⟨W,hA,fun s=>?_,q0f _,fun r hr=>cSuc ?_⟩
  ·rw [List.drop_eq_nil_of_le (by omega)];simp [q1C]
  ·simp only [q0L.l1]
   exact cNO hr
 | succ d IH=>
  intro j W hj hA hz
  have h:j < L.length:=by omega
  obtain ⟨V,hc,hA',hm',hl'⟩:=v0h W L[j] hA (by omega)
  obtain ⟨W',k1,k2,k3,k4⟩:=IH (j + 1) V (by omega) hA' (by omega)
  refine ⟨W',k1,fun s=>?_,by omega,fun r hr=>cSuc ?_⟩
  ·rw [k2 s,hm' s,List.drop_eq_getElem_cons h]
   simp only [q1C,List.map_cons,List.mem_cons,or_assoc]
  ·simp only [q0L.l1,q6J h,q2f (show j≤1048576 by omega)]
   exact cPO (cPO (cBin hc (k4 r hr)))
end
theorem q8K:∀ (M:Nat) (n:S25) (m:Nat) (ys:List q0a),m≤M → CntN n m ys → m≤1048576 → q1q (fun k=>q0L.f k n.f0 n.f1 n.f2 n.f3) (NM ys):=by
 intro M
 induction M with
 | zero=>intro n m ys hm h;have:=h.pos;omega
 | succ M ih=>
  intro n m ys hm h hM
  obtain ⟨a,b,c,l⟩:=n
  obtain ⟨m',zs,rfl,rfl,hl⟩:=h.inv
  have loop:∀ (d i m2:Nat) (zs2:List q0a),i + d = l.length → CntL (l.drop i) m2 zs2 → m2≤m' → ∀ W:List q0a,Asc (q1C W) → W.length + m2≤5000000 → ∃ r,q1q (fun k=>q0L.l0 k W ((i:Nat):Int) a b c l) r∧Asc (q1C r)∧∀ s,s ∈ q1C r↔s ∈ q1C W∨s ∈ q1C zs2:=by
   intro d
   induction d with
   | zero=>
    intro i m2 zs2 hi h2 _ W hA _
    rw [List.drop_eq_nil_of_le (by omega)] at h2
    obtain ⟨rfl,rfl⟩:=h2.nil_inv
    refine ⟨W,cSuc ?_,hA,fun s=>by simp [q1C]⟩
    simp only [q0L.l0]
    exact cNO (cCon _)
   | succ d IH=>
    intro i m2 zs2 hi h2 hle W hA hW
    have hlt:i < l.length:=by omega
    rw [q8q hlt] at h2
    obtain ⟨m1,m3,y1,y3,rfl,rfl,h1,h3⟩:=h2.inv
    have hy:=(v0B _).1 _ _ _ (q0f _) h1
    have hny:=v1r y1
    obtain ⟨W',k1,k2,k3,k4⟩:=v2j a b c l (NM y1) (by omega) (i:Int) (NM y1).length 0 W (by omega) hA (by omega)
    have hll:=CntL.len _ _ _ hl
    rw [q2f (show i≤1048576 by omega)] at k4
    obtain ⟨r,r1,r2,r3⟩:=IH (i + 1) m3 y3 (by omega) h3 (by omega) W' k1 (by omega)
    refine ⟨r,cSuc ?_,r2,fun s=>?_⟩
    ·simp only [q0L.l0,rd25 hlt]
     exact cPO (cPO (cBin (ih _ m1 y1 (by omega) h1 (by omega)) (k4 r r1)))
    ·rw [r3 s,k2 s,List.drop_zero,(q9H y1).2 s,q5k,List.mem_append,or_assoc]
  have j1:∀ W:List q0a,Asc (q1C W) → W.length≤1 → ∃ r,q1q (fun k=>q0L.j1 k W a b c l) r∧Asc (q1C r)∧∀ s,s ∈ q1C r↔s ∈ q1C W∨s ∈ q1C zs:=by
   intro W hA hW
   obtain ⟨r,r1,r2,r3⟩:=loop l.length 0 m' zs (by omega) (by simpa using hl) (q0f _) W hA (by omega)
   refine ⟨r,cSuc ?_,r2,r3⟩
   simp only [q0L.j1]
   exact r1
  by_cases hn:a = 4∨a = 11∨a = 12
  ·obtain ⟨r,r1,r2,r3⟩:=j1 [b] (by simp [Asc,q1C]) (by simp)
   rw [if_pos hn]
   have e:r = NM ([b]++zs):=NM_is r2 (fun s=>by rw [r3 s,q5k,List.mem_append])
   rw [← e]
   have J0:q1q (fun k=>q0L.j0 k [] true a b c l) r:=cSuc (by simp only [q0L.j0];exact cPos trivial r1)
   apply cSuc
   simp only [q0L.f]
   refine cIte (fun _=>J0) (fun h4=>cIte (fun _=>J0) (fun h11=>?_))
   rw [show (a == 12) = true from by rw [hn.resolve_left h4 |>.resolve_left h11];rfl]
   exact J0
  ·obtain ⟨r,r1,r2,r3⟩:=j1 [] (by simp [Asc,q1C]) (by simp)
   rw [if_neg hn]
   have e:r = NM ([]++zs):=NM_is r2 (fun s=>by rw [r3 s,q5k,List.mem_append])
   rw [← e]
   have J0:q1q (fun k=>q0L.j0 k [] false a b c l) r:=cSuc (by simp only [q0L.j0];exact cND r1)
   apply cSuc
   simp only [q0L.f]
   refine cNeg (fun k=>hn (.inl k)) (cNeg (fun k=>hn (.inr (.inl k))) ?_)
   rw [show (a == 12) = false from by simpa using fun k=>hn (.inr (.inr k))]
   exact J0
end
section
/-- A token without its line. -/
abbrev Tok:=Int × q0a
def sg (c:UInt8):Tok:=(4,⟨#[c]⟩)
def em:q0a:=⟨#[]⟩
/-- A name that can be a foot's, a mark's, a tag's. -/
def Nme (b:q0a):Prop:=b.toList≠([117]:List UInt8)∧b.toList≠([120]:List UInt8)
/-- A number's text and its value. -/
def Num (y:q0a) (c:Int):Prop:=q1q (fun k=>q1z.f k y) (c,true)
mutual
/-- The tokens of a part. -/
inductive Tk:S25 → List Tok → Prop
 | light:Tk ⟨1,em,0,[]⟩ [(1,⟨#[117]⟩)]
 | heavy:Tk ⟨2,em,0,[]⟩ [sg 45]
 | anceps:Tk ⟨3,em,0,[]⟩ [(1,⟨#[120]⟩)]
 | fin:Tk ⟨9,em,0,[]⟩ [sg 58]
 | bridge:Tk ⟨10,em,0,[]⟩ [sg 126]
 | foot (b:q0a) (hb:Nme b):Tk ⟨4,b,0,[]⟩ [(1,b)]
 | mark (b:q0a) (hb:Nme b):Tk ⟨11,b,0,[]⟩ [sg 64,(1,b)]
 | opt (n:S25) (ts:List Tok) (h:TkB n ts):Tk ⟨8,em,0,[n]⟩ (sg 91 :: (ts++[sg 93]))
 | tag (b:q0a) (hb:Nme b) (n:S25) (ts:List Tok) (h:TkB n ts):Tk ⟨12,b,0,[n]⟩ ((1,b) :: sg 123 :: (ts++[sg 125]))
 | alt (n n2:S25) (ns:List S25) (ts us:List Tok) (h:TkB n ts) (h2:TkA (n2 :: ns) us):Tk ⟨6,em,0,n :: n2 :: ns⟩ (sg 40 :: (ts++us))
 | pow (n:S25) (ts:List Tok) (c:Int) (y:q0a) (h5:n.f0≠5) (h7:n.f0≠7) (h:Tk n ts) (hy:Num y c):Tk ⟨7,em,c,[n]⟩ (ts++[sg 94,(2,y)])
 | powp (n:S25) (ts:List Tok) (c:Int) (y:q0a) (h:TkB n ts) (hy:Num y c):Tk ⟨7,em,c,[n]⟩ (sg 40 :: (ts++[sg 41,sg 94,(2,y)]))
/-- The tokens of a body. -/
inductive TkB:S25 → List Tok → Prop
 | part (n:S25) (ts:List Tok) (h5:n.f0≠5) (h:Tk n ts):TkB n ts
 | seq (ns:List S25) (ts:List Tok) (h1:ns.length≠1) (h:TkS ns ts):TkB ⟨5,em,0,ns⟩ ts
/-- Parts in a row. -/
inductive TkS:List S25 → List Tok → Prop
 | nil:TkS [] []
 | cons (n:S25) (ns:List S25) (ts us:List Tok) (h5:n.f0≠5) (h:Tk n ts) (r:TkS ns us):TkS (n :: ns) (ts++us)
/-- Further alternatives, up to the closing sign. -/
inductive TkA:List S25 → List Tok → Prop
 | nil:TkA [] [sg 41]
 | cons (n:S25) (ns:List S25) (ts us:List Tok) (h:TkB n ts) (r:TkA ns us):TkA (n :: ns) (sg 47 :: (ts++us))
end
/-- From i on l holds these tokens. -/
def At (l:List S36) (i:Nat) (ts:List Tok):Prop:=i + ts.length≤l.length∧∀ j (h:j < ts.length) (h':i + j < l.length),l[i + j].f0 = ts[j].1∧l[i + j].f1 = ts[j].2
theorem At.left {l:List S36} {i:Nat} {ts us:List Tok} (h:At l i (ts++us)):At l i ts:=by
 have hl:=h.1
 rw [List.length_append] at hl
 refine ⟨by omega,fun j hj h'=>?_⟩
 have:=h.2 j (by rw [List.length_append];omega) h'
 rw [List.getElem_append_left hj] at this
 exact this
theorem At.right {l:List S36} {i:Nat} {ts us:List Tok} (h:At l i (ts++us)):At l (i + ts.length) us:=by
 have hl:=h.1
 rw [List.length_append] at hl
 refine ⟨by omega,fun j hj h'=>?_⟩
 have:=h.2 (ts.length + j) (by rw [List.length_append];omega) (by omega)
 rw [List.getElem_append_right (by omega)] at this
 simp only [Nat.add_sub_cancel_left] at this
 simp only [show i + ts.length + j = i + (ts.length + j) by omega]
 exact this
theorem At.head {l:List S36} {i:Nat} {t:Tok} {ts:List Tok} (h:At l i (t :: ts)):∃ hi:i < l.length,l[i].f0 = t.1∧l[i].f1 = t.2:=by
 have hl:=h.1
 rw [List.length_cons] at hl
 exact ⟨by omega,h.2 0 (by simp) (by omega)⟩
theorem At.tail {l:List S36} {i:Nat} {t:Tok} {ts:List Tok} (h:At l i (t :: ts)):At l (i + 1) ts:=At.right (ts:=[t]) (us:=ts) h
theorem At.sign {l:List S36} {i:Nat} {c:UInt8} {ts:List Tok} (h:At l i (sg c :: ts)):Hit l i ⟨#[c]⟩:=by
 obtain ⟨hi,h1,h2⟩:=h.head
 exact ⟨hi,h1,by rw [h2];rfl⟩
theorem At.nosign {l:List S36} {i:Nat} {t:Tok} {ts:List Tok} (h:At l i (t :: ts)) {s:q0a} (hs:t.1 = 4 → t.2.toList≠s.toList) : ¬ Hit l i s:=by
 obtain ⟨hi,h1,h2⟩:=h.head
 rintro ⟨_,k1,k2⟩
 exact hs (h1 ▸ k1) (by rw [← h2];exact k2)
/-- What may follow a part: neither a power nor an opening brace. -/
def Fol (l:List S36) (i:Nat):Prop:=i≤l.length∧¬ Hit l i ⟨#[94]⟩∧¬ Hit l i ⟨#[123]⟩
/-- No part begins here. -/
def q8o (l:List S36) (i:Nat):Prop:=Fol l i∧∃ n,q1q (fun k=>q0Q.f k l (i:Int) false) (q7w n false i false)
theorem v1H {c d:UInt8} (h:c≠d):(sg c).1 = 4 → (sg c).2.toList≠(⟨#[d]⟩:q0a).toList:=fun _ k=>h (by
 have:([c]:List UInt8) = [d]:=by rw [← tl1 c,← tl1 d];exact k
 simpa using this)
/-- A part begins with a name, or with a sign that is neither a power nor a brace. -/
def Beg (t:Tok):Prop:=t.1 = 1∨∃ c:UInt8,t = sg c∧c≠94∧c≠123
theorem Tk.first:∀ {n:S25} {ts:List Tok},Tk n ts → ∃ t us,ts = t :: us∧Beg t
 | _,_,.light=>⟨_,_,rfl,.inl rfl⟩
 | _,_,.heavy=>⟨_,_,rfl,.inr ⟨45,rfl,by decide,by decide⟩⟩
 | _,_,.anceps=>⟨_,_,rfl,.inl rfl⟩
 | _,_,.fin=>⟨_,_,rfl,.inr ⟨58,rfl,by decide,by decide⟩⟩
 | _,_,.bridge=>⟨_,_,rfl,.inr ⟨126,rfl,by decide,by decide⟩⟩
 | _,_,.foot b hb=>⟨_,_,rfl,.inl rfl⟩
 | _,_,.mark b hb=>⟨_,_,rfl,.inr ⟨64,rfl,by decide,by decide⟩⟩
 | _,_,.opt n ts h=>⟨_,_,rfl,.inr ⟨91,rfl,by decide,by decide⟩⟩
 | _,_,.tag b hb n ts h=>⟨_,_,rfl,.inl rfl⟩
 | _,_,.alt n n2 ns ts us h h2=>⟨_,_,rfl,.inr ⟨40,rfl,by decide,by decide⟩⟩
 | _,_,.pow n ts c y h5 h7 h hy=>by
  obtain ⟨t,us,rfl,k⟩:=Tk.first h
  exact ⟨t,us++[sg 94,(2,y)],rfl,k⟩
 | _,_,.powp n ts c y h hy=>⟨_,_,rfl,.inr ⟨40,rfl,by decide,by decide⟩⟩
theorem Beg.fol {l:List S36} {i:Nat} {t:Tok} {us:List Tok} (h:At l i (t :: us)) (hb:Beg t):Fol l i:=by
 refine ⟨by have:=h.1;omega,h.nosign (fun e=>?_),h.nosign (fun e=>?_)⟩
 ·rcases hb with h1 | ⟨c,rfl,h1,h2⟩
  ·rw [h1] at e;exact absurd e (by decide)
  ·exact v1H h1 e
 ·rcases hb with h1 | ⟨c,rfl,h1,h2⟩
  ·rw [h1] at e;exact absurd e (by decide)
  ·exact v1H h2 e
/-- Closing signs begin no part, and follow one. -/
theorem q4Q {l:List S36} (hl:l.length≤1000000) {i:Nat} {c:UInt8} (h:Hit l i ⟨#[c]⟩) (hc:c = 93∨c = 125∨c = 41∨c = 47∨c = 59):q8o l i:=by
 obtain ⟨hi,h4,ht⟩:=h
 have hno:∀ u:UInt8,u≠c → ¬ Hit l i ⟨#[u]⟩:=fun u hu k=>hu (by
  have:=k.2.2
  rw [ht,tl1,tl1] at this
  simpa using this.symm)
 have hne:∀ u:UInt8,u ∈ ([45,58,126,64,91,40,94,123]:List UInt8) → u≠c:=by
  intro u hu e
  subst e
  rcases hc with rfl | rfl | rfl | rfl | rfl <;> exact absurd hu (by decide)
 refine ⟨⟨by omega,hno 94 (hne 94 (by decide)),hno 123 (hne 123 (by decide))⟩,⟨0,em,0,[]⟩,cSuc ?_⟩
 have h1:l[i].f0≠1:=by rw [h4];decide
 simp only [m_none (q4g l i hi) h1 (fun u hu=>q6V (by omega) (by omega) (hno u (hne u (by
  simp only [List.mem_cons,List.not_mem_nil,or_false] at hu ⊢
  rcases hu with h | h | h | h | h | h <;> simp [h]))))]
 exact cCon _
end
section
/-- The parser reads a part, powers apart. -/
def v1E (l:List S36) (n:S25) (i j:Nat):Prop:=q1q (fun k=>q0Q.f k l (i:Int) false) (q7w n true j false)
def SeqR (l:List S36) (n:S25) (i j:Nat):Prop:=q1q (fun k=>q0g.f k l (i:Int) false) (q6F n j false)
/-- It goes on behind a part that is put behind others. -/
def OnR (l:List S36) (n:S25) (i j:Nat):Prop:=∀ (x:List S25) r,x.length≤1000000 → q1q (fun k=>q0g.l0 k (x++[n]) l (j:Int) false) r → q1q (fun k=>q0g.l0 k x l (i:Int) false) r
section
variable {l:List S36} (hl:l.length≤1000000)
include hl
theorem on_part {n:S25} {i j:Nat} (h5:n.f0≠5) (hf:Fol l j) (h:v1E l n i j):OnR l n i j:=by
 intro x r hx hr
 apply cSuc
 simp only [q0g.l0]
 refine cBin h (cPos rfl (cSuc ?_))
 simp only [q0g.j1,q7w]
 refine cND (cSuc ?_)
 simp only [q0g.l1,q6V hf.1 (by have:=hf.1;omega) hf.2.1,Option.bind_some,q7z]
 exact cND (cNeg h5 (cPO hr))
theorem v2W {n:S25} {i j:Nat} {c:Int} {y:q0a} (hy:Num y c) (hA:At l j [sg 94,(2,y)]) (hf:Fol l (j + 2)) (h:v1E l n i j):OnR l ⟨7,em,c,[n]⟩ i (j + 2):=by
 intro x r hx hr
 have hj:=hA.1
 rw [show ([sg 94,(2,y)]:List Tok).length = 2 from rfl] at hj
 obtain ⟨h1,k1,k2⟩:=hA.tail.head
 apply cSuc
 simp only [q0g.l0]
 refine cBin h (cPos rfl (cSuc ?_))
 simp only [q0g.j1,q7w]
 refine cND (cSuc ?_)
 simp only [q0g.l1,q7T (show j≤l.length by omega) (by omega) hA.sign,Option.bind_some,q7z]
 refine cPos trivial (cBin (x:=(c,((j + 2:Nat):Int),false)) ?_ (cSuc ?_))
 ·unfold q1Y.f
  simp only [q6D l (j + 1) 2 h1 k1 (by omega),Option.bind_some,k2]
  exact cBin hy (cCon _)
 ·simp only [q0g.l1,q6V hf.1 (by have:=hf.1;omega) hf.2.1,Option.bind_some]
  exact cND (cND (cPO hr))
omit hl in
theorem seq_one {n:S25} {i j:Nat} (hs:q8o l j) (h:OnR l n i j):SeqR l n i j:=by
 obtain ⟨hf,m,hm⟩:=hs
 apply cSuc
 simp only [q0g.f]
 refine h [] _ (q2c _) (cSuc ?_)
 simp only [q0g.l0]
 refine cBin hm (cNeg (show ¬ (false = true) by decide) ?_)
 exact q7U l [n] j false _ _ _ _
theorem q5D {i:Nat} {v:UInt8} (h:i < l.length) (h4:l[i].f0 = 4) (ht:l[i].f1.toList = [v]):∀ u:UInt8,q0q.f l (i:Int) false ⟨#[u]⟩ = some (if u = v then (true,((i + 1:Nat):Int),false) else (false,(i:Int),false)):=by
 intro u
 by_cases huv:u = v
 ·rw [if_pos huv,q7T (by omega) (by omega) ⟨h,h4,by rw [ht,tl1,huv]⟩]
 ·rw [if_neg huv,q6V (by omega) (by omega) (fun k=>huv (by have:=k.2.2;rw [ht,tl1] at this;simpa using this.symm))]
theorem q7m {i:Nat} (h:i < l.length) (h1:l[i].f0 = 1) (hb:Nme l[i].f1):q2z.f l (i:Int) false = some (l[i].f1,((i + 1:Nat):Int),false):=by
 have ht:=q6D l i 1 h h1 (by omega)
 unfold q2z.f q1E.f
 rw [q4g l i h]
 simp only [Option.bind_some]
 have hu:(l[i].f1.toList == (⟨#[117]⟩:q0a).toList) = false:=by rw [tl1];simpa using hb.1
 have hx:(l[i].f1.toList == (⟨#[120]⟩:q0a).toList) = false:=by rw [tl1];simpa using hb.2
 rw [if_pos h1,hu]
 simp only [Option.bind_some]
 rw [if_neg (by decide),q4g l i h]
 simp only [Option.bind_some]
 rw [if_pos h1,hx]
 simp only [Option.bind_some]
 rw [if_neg (by decide),ht]
 rfl
theorem v1B {n:S25} {i j:Nat} (hi:i≤l.length) (hs:SeqR l n (i + 1) j) (ho:Hit l i ⟨#[40]⟩) (hc:Hit l j ⟨#[41]⟩):v1E l n i (j + 1):=by
 obtain ⟨h,h4,ht⟩:=ho
 rw [tl1] at ht
 have hj:j < l.length:=by obtain ⟨k,_⟩:=hc;exact k
 have hns : ¬ Hit l j ⟨#[47]⟩:=fun k=>by
  have a:=hc.2.2
  have b:=k.2.2
  rw [a,tl1,tl1] at b
  exact absurd b (by decide)
 apply cSuc
 simp only [m_alt (q4g l i h) (show l[i].f0≠1 by rw [h4];decide) (q5D hl h h4 ht)]
 refine cBin hs ?_
 simp only [q6F,q7z]
 apply cSuc
 simp only [q0Q.l0,q6V (show j≤l.length by omega) (by omega) hns,q4V (show j≤l.length by omega) (by omega) hc,Option.bind_some]
 exact cND (cPos rfl (cPos (by simp) (cCon _)))
end
def Kp (l:List S36) (n:S25) (ts:List Tok):Prop:=∀ i,At l i ts → ¬ Hit l (i + ts.length) ⟨#[123]⟩ → n.f0≠7 → v1E l n i (i + ts.length)
def Op1 (l:List S36) (n:S25) (ts:List Tok):Prop:=∀ i,At l i ts → Fol l (i + ts.length) → OnR l n i (i + ts.length)
def Bp (l:List S36) (n:S25) (ts:List Tok):Prop:=∀ i,At l i ts → q8o l (i + ts.length) → SeqR l n i (i + ts.length)
def Sp (l:List S36) (ns:List S25) (ts:List Tok):Prop:=∀ i,At l i ts → Fol l (i + ts.length) → ∀ (x:List S25) r,x.length + ts.length≤1000000 → q1q (fun k=>q0g.l0 k (x++ns) l ((i + ts.length:Nat):Int) false) r → q1q (fun k=>q0g.l0 k x l (i:Int) false) r
def Ap (l:List S36) (ns:List S25) (ts:List Tok):Prop:=∀ i,At l i ts → ∀ x:List S25,0 < x.length → 1 < x.length + ns.length → x.length + ts.length≤1000000 → q1q (fun k=>q0Q.l0 k x l (i:Int) false) (q7w ⟨6,em,0,x++ns⟩ true (i + ts.length) false)
section
variable {l:List S36} (hl:l.length≤1000000)
include hl
theorem q7O {ns:List S25} {ts:List Tok} (h:TkA ns ts) {i:Nat} (hA:At l i ts):q8o l i:=by
 cases h with
 | nil=>exact q4Q hl hA.sign (.inr (.inr (.inl rfl)))
 | cons n ns ts us h r=>exact q4Q hl hA.sign (.inr (.inr (.inr (.inl rfl))))
theorem v2p:∀ (N:Nat),(∀ n ts,ts.length≤N → Tk n ts → Kp l n ts∧(n.f0≠5 → Op1 l n ts))∧(∀ n ts,ts.length≤N → TkB n ts → Bp l n ts)∧(∀ ns ts,ts.length≤N → TkS ns ts → Sp l ns ts)∧(∀ ns ts,ts.length≤N → TkA ns ts → Ap l ns ts):=by
 intro N
 induction N with
 | zero=>
  refine ⟨fun n ts hN h=>?_,fun n ts hN h=>?_,fun ns ts hN h=>?_,fun ns ts hN h=>?_⟩
  ·obtain ⟨t,us,rfl,_⟩:=h.first
   exact absurd hN (by simp)
  ·cases h with
   | part n ts h5 h=>
    obtain ⟨t,us,rfl,_⟩:=h.first
    exact absurd hN (by simp)
   | seq ns ts h1 h=>
    cases h with
    | nil=>
     intro i hA hs
     obtain ⟨hf,m,hm⟩:=hs
     apply cSuc
     simp only [q0g.f]
     apply cSuc
     simp only [q0g.l0]
     exact cBin hm (cNeg (show ¬ (false = true) by decide) (q7U l [] i false _ _ _ _))
    | cons n ns ts us h5 h r=>
     obtain ⟨t,us',rfl,_⟩:=h.first
     exact absurd hN (by simp)
  ·cases h with
   | nil=>intro i hA hf x r hx hr;rw [List.append_nil] at hr;exact hr
   | cons n ns ts us h5 h r=>
    obtain ⟨t,us',rfl,_⟩:=h.first
    exact absurd hN (by simp)
  ·cases h with
   | nil=>exact absurd hN (by simp)
   | cons n ns ts us h r=>exact absurd hN (by simp)
 | succ N IH=>
  obtain ⟨IT,IB,IS,IA⟩:=IH
  have KT:∀ n ts,ts.length≤N + 1 → Tk n ts → Kp l n ts:=by
   intro n ts hN h i hA hF h7
   cases h with
   | light=>
    obtain ⟨h,h1,ht⟩:=hA.head
    exact cSuc (by simp only [m_one (q4g l i h) (q5v (by omega)) h1 (by rw [ht,tl1])];exact cCon _)
   | anceps=>
    obtain ⟨h,h1,ht⟩:=hA.head
    exact cSuc (by simp only [m_any (q4g l i h) (q5v (by omega)) h1 (by rw [ht,tl1])];exact cCon _)
   | heavy=>
    obtain ⟨h,h4,ht⟩:=hA.head
    exact cSuc (by simp only [v0V (q4g l i h) (show l[i].f0≠1 by rw [h4];decide) (.inl ⟨rfl,rfl⟩) (q5D hl h h4 (by rw [ht];exact tl1 _))];exact cCon _)
   | fin=>
    obtain ⟨h,h4,ht⟩:=hA.head
    exact cSuc (by simp only [v0V (q4g l i h) (show l[i].f0≠1 by rw [h4];decide) (.inr (.inl ⟨rfl,rfl⟩)) (q5D hl h h4 (by rw [ht];exact tl1 _))];exact cCon _)
   | bridge=>
    obtain ⟨h,h4,ht⟩:=hA.head
    exact cSuc (by simp only [v0V (q4g l i h) (show l[i].f0≠1 by rw [h4];decide) (.inr (.inr ⟨rfl,rfl⟩)) (q5D hl h h4 (by rw [ht];exact tl1 _))];exact cCon _)
   | foot b hb=>
    obtain ⟨h,h1,ht⟩:=hA.head
    have ht:l[i].f1 = b:=ht
    rw [← ht] at hb ⊢
    exact cSuc (by simp only [m_name (q4g l i h) (q5v (by omega)) h1 hb.1 hb.2 (q6V h (by omega) hF)];exact cCon _)
   | mark b hb=>
    obtain ⟨h,h4,ht⟩:=hA.head
    obtain ⟨h',h1,hb'⟩:=hA.tail.head
    have hb':l[i + 1].f1 = b:=hb'
    have hn:=q7m hl h' h1 (by rw [hb'];exact hb)
    exact cSuc (by simp only [m_at (q4g l i h) (show l[i].f0≠1 by rw [h4];decide) (q5D hl h h4 (by rw [ht];exact tl1 _)),hn,Option.bind_some,hb'];exact cCon _)
   | opt n ts h=>
    obtain ⟨hi,h4,ht⟩:=hA.head
    have hT:=hA.tail
    rw [List.length_cons,List.length_append] at hN
    have hc:=(hT.right).sign
    have hs:=IB n ts (by omega) h (i + 1) hT.left (q4Q hl hc (.inl rfl))
    have hj:i + 1 + ts.length < l.length:=by obtain ⟨k,_⟩:=hc;exact k
    apply cSuc
    simp only [m_box (q4g l i hi) (show l[i].f0≠1 by rw [h4];decide) (q5D hl hi h4 (by rw [ht];exact tl1 _))]
    refine cBin hs ?_
    simp only [q6F,q7z,q4V (show i + 1 + ts.length≤l.length by omega) (by omega) hc,Option.bind_some]
    exact cVal (by simp only [q7w,List.length_cons,List.length_append,List.length_nil];congr 6;omega)
   | tag b hb n ts h=>
    obtain ⟨hi,h1,ht⟩:=hA.head
    have ht:l[i].f1 = b:=ht
    have hT:=hA.tail.tail
    rw [List.length_cons,List.length_cons,List.length_append] at hN
    have hc:=(hT.right).sign
    have ho:=hA.tail.sign
    have hi2:i + 1 < l.length:=by obtain ⟨k,_⟩:=ho;exact k
    have hs:=IB n ts (by omega) h (i + 1 + 1) hT.left (q4Q hl hc (.inr (.inl rfl)))
    have hj:i + 1 + 1 + ts.length < l.length:=by obtain ⟨k,_⟩:=hc;exact k
    apply cSuc
    simp only [m_bound (q4g l i hi) (q5v (by omega)) h1 (by rw [ht];exact hb.1) (by rw [ht];exact hb.2) (q7T (by omega) (by omega) ho)]
    refine cBin hs ?_
    simp only [q6F,q7z,q4V (show i + 1 + 1 + ts.length≤l.length by omega) (by omega) hc,Option.bind_some,ht]
    exact cVal (by simp only [q7w,List.length_cons,List.length_append,List.length_nil];congr 6;omega)
   | alt n n2 ns ts us h h2=>
    obtain ⟨hi,h4,ht⟩:=hA.head
    have hT:=hA.tail
    rw [List.length_cons,List.length_append] at hN
    have hlen:=hA.1
    rw [List.length_cons,List.length_append] at hlen
    have hs:=IB n ts (by omega) h (i + 1) hT.left (q7O hl h2 hT.right)
    have ha:=IA (n2 :: ns) us (by omega) h2 (i + 1 + ts.length) hT.right [n] (by simp) (by simp) (by simp;omega)
    apply cSuc
    simp only [m_alt (q4g l i hi) (show l[i].f0≠1 by rw [h4];decide) (q5D hl hi h4 (by rw [ht];exact tl1 _))]
    refine cBin hs ?_
    simp only [q6F,q7z]
    rw [show i + (sg 40 :: (ts++us)).length = i + 1 + ts.length + us.length by simp only [List.length_cons,List.length_append];omega]
    exact ha
   | pow n ts c y h5 h7' h hy=>exact absurd rfl h7
   | powp n ts c y h hy=>exact absurd rfl h7
  have OT:∀ n ts,ts.length≤N + 1 → Tk n ts → n.f0≠5 → Op1 l n ts:=by
   intro n ts hN h h5 i hA hF
   by_cases h7:n.f0 = 7
   ·cases h with
    | pow n ts c y h5' h7' h hy=>
     rw [List.length_append] at hN
     have hk:=KT n ts (by omega) h i hA.left (by
      have:=(hA.right).nosign (s:=⟨#[123]⟩) (v1H (by decide))
      exact this) h7'
     have hlen:i + (ts++[sg 94,(2,y)]).length = i + ts.length + 2:=by rw [List.length_append];show i + (ts.length + 2) = _;omega
     rw [hlen] at hF ⊢
     exact v2W hl hy hA.right hF hk
    | powp n ts c y h hy=>
     rw [List.length_cons,List.length_append] at hN
     have hT:=hA.tail
     have hR:=hT.right
     have hs:=IB n ts (by omega) h (i + 1) hT.left (q4Q hl hR.sign (.inr (.inr (.inl rfl))))
     have hk:=v1B hl (by have:=hA.1;omega) hs hA.sign hR.sign
     have hlen:i + (sg 40 :: (ts++[sg 41,sg 94,(2,y)])).length = i + 1 + ts.length + 1 + 2:=by rw [List.length_cons,List.length_append];show i + (ts.length + 3 + 1) = _;omega
     rw [hlen] at hF ⊢
     exact v2W hl hy hR.tail hF hk
    | light=>exact absurd h7 (by decide)
    | heavy=>exact absurd h7 (by decide)
    | anceps=>exact absurd h7 (by decide)
    | fin=>exact absurd h7 (by decide)
    | bridge=>exact absurd h7 (by decide)
    | foot b hb=>exact absurd (show (4:Int) = 7 from h7) (by decide)
    | mark b hb=>exact absurd (show (11:Int) = 7 from h7) (by decide)
    | opt n ts h=>exact absurd (show (8:Int) = 7 from h7) (by decide)
    | tag b hb n ts h=>exact absurd (show (12:Int) = 7 from h7) (by decide)
    | alt n n2 ns ts us h h2=>exact absurd (show (6:Int) = 7 from h7) (by decide)
   ·exact on_part hl h5 hF (KT n ts hN h i hA hF.2.2 h7)
  have ST:∀ ns ts,ts.length≤N + 1 → TkS ns ts → Sp l ns ts:=by
   intro ns ts hN h i hA hF x r hx hr
   cases h with
   | nil=>rw [List.append_nil] at hr;exact hr
   | cons n ns ts us h5 h rr=>
    obtain ⟨t,ts',rfl,hb⟩:=h.first
    have hlen:(t :: ts'++us).length = (t :: ts').length + us.length:=List.length_append
    have h1:1≤(t :: ts').length:=by simp
    rw [hlen] at hN hF hx hr
    have hf:Fol l (i + (t :: ts').length):=by
     cases rr with
     | nil=>exact hF
     | cons n' ns' ts2 us2 h5' h' r'=>
      obtain ⟨t2,ts2',rfl,hb2⟩:=h'.first
      exact hb2.fol (us:=ts2'++us2) hA.right
    refine OT n (t :: ts') (by omega) h h5 i hA.left hf x r (by omega) ?_
    have hS:=IS ns us (by omega) rr (i + (t :: ts').length) hA.right (by rw [Nat.add_assoc];exact hF) (x++[n]) r (by rw [List.length_append,List.length_singleton];omega)
    rw [Nat.add_assoc,List.append_assoc] at hS
    exact hS hr
  refine ⟨fun n ts hN h=>⟨KT n ts hN h,OT n ts hN h⟩,fun n ts hN h=>?_,ST,fun ns ts hN h=>?_⟩
  ·intro i hA hs
   cases h with
   | part n ts h5 h=>exact seq_one hs (OT n ts hN h h5 i hA hs.1)
   | seq ns ts h1 h=>
    obtain ⟨hf,m,hm⟩:=hs
    apply cSuc
    simp only [q0g.f]
    refine ST ns ts hN h i hA hf [] _ (by have:=hA.1;simp;omega) (cSuc ?_)
    simp only [q0g.l0]
    refine cBin hm (cNeg (show ¬ (false = true) by decide) ?_)
    have:=q7U l ns (i + ts.length) false m.f0 m.f1 m.f2 m.f3
    unfold one at this
    rw [if_neg h1] at this
    exact this
  ·intro i hA x hx h2 hz
   cases h with
   | nil=>
    have hc:=hA.sign
    have hj:i < l.length:=by obtain ⟨k,_⟩:=hc;exact k
    have hns : ¬ Hit l i ⟨#[47]⟩:=hA.nosign (v1H (by decide))
    apply cSuc
    simp only [q0Q.l0,q6V (show i≤l.length by omega) (by omega) hns,q4V (show i≤l.length by omega) (by omega) hc,Option.bind_some,List.append_nil]
    exact cND (cNeg (by simp at h2;omega) (cCon _))
   | cons n ns ts us h rr=>
    have hT:=hA.tail
    rw [List.length_cons,List.length_append] at hN hz
    have hlen:=hA.1
    rw [List.length_cons,List.length_append] at hlen
    have hs:=IB n ts (by omega) h (i + 1) hT.left (q7O hl rr hT.right)
    have ha:=IA ns us (by omega) rr (i + 1 + ts.length) hT.right (x++[n]) (by simp) (by rw [List.length_append,List.length_singleton];simp at h2;omega) (by rw [List.length_append,List.length_singleton];omega)
    apply cSuc
    simp only [q0Q.l0,q7T (show i≤l.length by omega) (by omega) hA.sign,Option.bind_some]
    refine cPos trivial (cBin hs ?_)
    simp only [q6F,q7z]
    rw [show i + (sg 47 :: (ts++us)).length = i + 1 + ts.length + us.length by simp only [List.length_cons,List.length_append];omega,show x++n :: ns = x++[n]++ns by simp]
    exact cPO ha
/-- The words of a body are read as this body. -/
theorem q8z {n:S25} {ts:List Tok} (h:TkB n ts) {i:Nat} (hA:At l i ts) (hs:q8o l (i + ts.length)):SeqR l n i (i + ts.length):=(v2p hl ts.length).2.1 n ts (q0f _) h i hA hs
end
end
section
def Wh (c:Int):Prop:=c = 10∨c = 32∨c = 9∨c = 13∨c = 35
section
variable (a:q0a) (ha:a.size≤20000)
include ha
omit ha in
theorem t_other {i:Nat} {xs:List S36} {x:Int} {r} (h:i < a.size) (hc : ¬ (bt a ((i:Nat):Int) = 10∨bt a ((i:Nat):Int) = 32∨bt a ((i:Nat):Int) = 9∨bt a ((i:Nat):Int) = 13)) (hr:q1q (fun k=>q1g.j1 k a xs x (i:Int) (bt a ((i:Nat):Int)) false) r):q1q (fun k=>q1g.l0 k a xs x (i:Int)) r:=by
 apply cSuc
 simp only [q1g.l0]
 refine cPO (cPO (cNeg (fun k=>hc (.inl k)) (cNeg (fun k=>hc (.inr (.inl k))) (cNeg (fun k=>hc (.inr (.inr (.inl k)))) ?_))))
 rw [show (bt a ((i:Nat):Int) == 13) = false from by simpa using fun k=>hc (.inr (.inr (.inr k)))]
 exact hr
theorem t_white {i:Nat} {xs:List S36} {x:Int} {r} (h:i < a.size) (hc:bt a ((i:Nat):Int) = 32∨bt a ((i:Nat):Int) = 9∨bt a ((i:Nat):Int) = 13) (hr:q1q (fun k=>q1g.l0 k a xs x ((i + 1:Nat):Int)) r):q1q (fun k=>q1g.l0 k a xs x (i:Int)) r:=by
 have hj:∀ c,q1q (fun k=>q1g.j1 k a xs x (i:Int) c true) r:=fun c=>cSuc (by simp only [q1g.j1,q5v (show i≤1000000 by omega)];exact cPos trivial hr)
 apply cSuc
 simp only [q1g.l0]
 refine cPO (cPO ?_)
 rcases hc with hc | hc | hc <;> rw [hc]
 ·exact cND (cPos rfl (hj 32))
 ·exact cND (cND (cPos rfl (hj 9)))
 ·exact cND (cND (cND (hj 13)))
end
theorem t_next {a:q0a} {xs:List S36} {x c m c2 q:Int} {j:Nat} {y:q0a} {r} (hj:c.toNat = j) (h0:0≤c) (h1:c≤(a.size:Int)) (hw:wrap64 (c + m) = c2) (hl:xs.length < 4398046511104) (h35:bt a c≠35) (hn:q1q (fun k=>q3Y.f k (a.extract j a.size)) (q,y,0,m,0)) (h:q1q (fun k=>q1g.l0 k a (xs++[⟨q,y,x⟩]) x c2) r):q1q (fun k=>q1g.j1 k a xs x c (bt a c) false) r:=by
 subst hj hw
 apply cSuc
 simp only [q1g.j1]
 exact cND (cNeg h35 (cPos h0 (cPos h1 (cBin hn (cPos rfl (cPos hl h))))))
end
section
theorem byte_eq {s s':q0a} {i j:Nat} (hi:i < s.size) (hj:j < s'.size) (h:bt s ((i:Nat):Int) = bt s' ((j:Nat):Int)):s[i] = s'[j]:=by
 have h1:=q5n s ((i:Nat):Int) (by rw [Int.toNat_natCast];exact hi)
 have h2:=q5n s' ((j:Nat):Int) (by rw [Int.toNat_natCast];exact hj)
 simp only [Int.toNat_natCast] at h1 h2
 have:s[i].toNat = s'[j].toNat:=by omega
 exact UInt8.toNat_inj.1 this
theorem q7o {s s':q0a} (hz:s.size = s'.size) (h:∀ j:Nat,j < s.size → bt s ((j:Nat):Int) = bt s' ((j:Nat):Int)):s = s':=by
 have:s.data = s'.data:=by
  apply Array.ext
  ·exact hz
  ·intro i h1 h2
   exact byte_eq (s:=s) (s':=s') h1 h2 (h i h1)
 cases s
 cases s'
 exact congrArg _ this
theorem v1e {s s':q0a} {i j:Nat} (h1:j≤s.size) (h2:j≤s'.size) (h:∀ m,i≤m → m < j → bt s' ((m:Nat):Int) = bt s ((m:Nat):Int)):s'.extract i j = s.extract i j:=by
 apply q7o
 ·rw [q4J h1,q4J h2]
 ·intro m hm
  rw [q4J h2] at hm
  rw [q4v h2 hm,q4v h1 hm]
  exact h (i + m) (by omega) (by omega)
def Al1 (c:Int):Bool:=Sm c || Dg c
/-- From i on a name runs to t. -/
inductive NRun (s:q0a):Nat → Nat → Prop
 | stop (i:Nat) (hi:i≤s.size) (h:i < s.size → Al1 (bt s ((i:Nat):Int)) = false∧¬ (bt s ((i:Nat):Int) = 45∧i + 1 < s.size∧Al1 (bt s ((i + 1:Nat):Int)) = true)):NRun s i i
 | one (i t:Nat) (hi:i < s.size) (h:Al1 (bt s ((i:Nat):Int)) = true) (r:NRun s (i + 1) t):NRun s i t
 | two (i t:Nat) (hi:i + 1 < s.size) (h:bt s ((i:Nat):Int) = 45) (h':Al1 (bt s ((i + 1:Nat):Int)) = true) (r:NRun s (i + 2) t):NRun s i t
theorem NRun.le {s:q0a} {i t:Nat} (h:NRun s i t):i≤t∧t≤s.size:=by
 induction h with
 | stop i hi h=>exact ⟨q0f _,hi⟩
 | one i t hi h r ih=>omega
 | two i t hi h h' r ih=>omega
theorem NRun.ex (s:q0a):∀ (d i:Nat),i + d = s.size → ∃ t,NRun s i t:=by
 intro d
 induction d using Nat.strongRecOn with
 | _ d IH=>
  intro i hi
  by_cases h:i < s.size
  ·cases ha:Al1 (bt s ((i:Nat):Int)) with
   | true=>
    obtain ⟨t,ht⟩:=IH (d - 1) (by omega) (i + 1) (by omega)
    exact ⟨t,.one i t h ha ht⟩
   | false=>
    by_cases h2:bt s ((i:Nat):Int) = 45∧i + 1 < s.size∧Al1 (bt s ((i + 1:Nat):Int)) = true
    ·obtain ⟨t,ht⟩:=IH (d - 2) (by omega) (i + 2) (by omega)
     exact ⟨t,.two i t h2.2.1 h2.1 h2.2.2 ht⟩
    ·exact ⟨i,.stop i (by omega) (fun _=>⟨ha,h2⟩)⟩
  ·exact ⟨i,.stop i (by omega) (fun k=>absurd k h)⟩
theorem q6Q {c:Int} {b:Bool} (h:Al1 c = b):(b = true → Sm c = true∨(¬ Sm c = true∧Dg c = true))∧(b = false → ¬ Sm c = true∧Dg c = false):=by
 unfold Al1 at h
 cases h1:Sm c <;> cases h2:Dg c <;> simp_all
theorem NRun.comes {s:q0a} (hs:s.size≤20000) {i t:Nat} (h:NRun s i t):q1q (fun k=>q0W.l0 k s ((i:Nat):Int)) (t:Int):=by
 induction h with
 | stop i hi h=>
  have w1:=q5v (show i≤1000000 by omega)
  by_cases hlt:i < s.size
  ·obtain ⟨ha,h2⟩:=h hlt
   obtain ⟨a1,a2⟩:=(q6Q ha).2 rfl
   have J:q1q (fun k=>q0W.j2 k s ((i:Nat):Int) (bt s ((i:Nat):Int)) (Dg (bt s ((i:Nat):Int)))) (i:Int):=by
    rw [a2]
    apply cSuc
    simp only [q0W.j2,w1]
    refine cND (cIte (fun h45=>cIte (fun h3=>cPO ?_) (fun _=>cCon _)) (fun _=>cCon _))
    simp only [q4h,q4C,Option.bind_some]
    have hb:Al1 (bt s ((i + 1:Nat):Int)) = false:=by
     cases hb:Al1 (bt s ((i + 1:Nat):Int)) with
     | false=>rfl
     | true=>exact absurd ⟨h45,by omega,hb⟩ h2
    obtain ⟨b1,b2⟩:=(q6Q hb).2 rfl
    exact cNeg b1 (cNeg (by rw [b2];decide) (cCon _))
   apply cSuc
   simp only [q0W.l0,q4h,q4C,Option.bind_some]
   exact cPO (cPO (cNeg a1 J))
  ·apply cSuc
   simp only [q0W.l0]
   exact cNO (cCon _)
 | one i t hi h r ih=>
  have w1:=q5v (show i≤1000000 by omega)
  have J:q1q (fun k=>q0W.j2 k s ((i:Nat):Int) (bt s ((i:Nat):Int)) true) (t:Int):=cSuc (by simp only [q0W.j2,w1];exact cPos trivial ih)
  apply cSuc
  simp only [q0W.l0,q4h,q4C,Option.bind_some]
  refine cPO (cPO ?_)
  rcases (q6Q h).1 rfl with a | ⟨a,b⟩
  ·exact cPos a J
  ·rw [b];exact cNeg a J
 | two i t hi h h' r ih=>
  have w1:=q5v (show i≤1000000 by omega)
  have w2:=wrap2 (show i≤1000000 by omega)
  have e1 : ¬ Sm (bt s ((i:Nat):Int)) = true:=by rw [h];decide
  have e2:Dg (bt s ((i:Nat):Int)) = false:=by rw [h];decide
  have J:q1q (fun k=>q0W.j2 k s ((i:Nat):Int) (bt s ((i:Nat):Int)) false) (t:Int):=by
   apply cSuc
   simp only [q0W.j2,w1,w2,q4h,q4C,Option.bind_some]
   refine cND (cPos h (cPO (cPO ?_)))
   rcases (q6Q h').1 rfl with a | ⟨a,b⟩
   ·exact cPos a ih
   ·exact cNeg a (cPos b ih)
  apply cSuc
  simp only [q0W.l0,q4h,q4C,Option.bind_some]
  refine cPO (cPO (cNeg e1 ?_))
  rw [e2]
  exact J
/-- s' begins like s, up to m. -/
def Agr (s s':q0a) (m:Nat):Prop:=m≤s.size∧m≤s'.size∧∀ j:Nat,j < m → bt s' ((j:Nat):Int) = bt s ((j:Nat):Int)
/-- At m it ends, or white space follows. -/
def Stp (s:q0a) (m:Nat):Prop:=m < s.size → bt s ((m:Nat):Int) = 32∨bt s ((m:Nat):Int) = 10∨bt s ((m:Nat):Int) = 9∨bt s ((m:Nat):Int) = 41
theorem NRun.same {s s':q0a} {i t:Nat} (h:NRun s i t) (ha:Agr s s' t) (hp:Stp s' t):NRun s' i t:=by
 induction h with
 | stop i hi h=>
  refine .stop i ha.2.1 (fun hlt=>?_)
  rcases hp hlt with e | e | e | e <;> rw [e] <;> exact ⟨by decide,fun k=>absurd k.1 (by decide)⟩
 | one i t hi h r ih=>
  have hl:=r.le
  exact .one i t (by have:=ha.2.1;omega) (by rw [ha.2.2 i (by omega)];exact h) (ih ha hp)
 | two i t hi h h' r ih=>
  have hl:=r.le
  exact .two i t (by have:=ha.2.1;omega) (by rw [ha.2.2 i (by omega)];exact h) (by rw [ha.2.2 (i + 1) (by omega)];exact h') (ih ha hp)
def LexN (s:q0a) (m:Nat):Prop:=Sm (bt s ((0:Nat):Int)) = true∧1≤m∧m≤20∧m≤s.size∧NRun s 1 m
def LexD (s:q0a) (m:Nat):Prop:=Sm (bt s ((0:Nat):Int)) = false∧1≤m∧m≤6∧m≤s.size∧(∀ j:Nat,j < m → Dg (bt s ((j:Nat):Int)) = true)∧(m < s.size → Dg (bt s ((m:Nat):Int)) = false)∧¬ (1 < m∧bt s ((0:Nat):Int) = 48)
def SGN:q0a:=⟨#[123,125,40,41,91,93,47,59,58,126,64,61,94,44,46,124,43,42,60,62,45]⟩
def LexS (s:q0a):Prop:=0 < s.size∧Sm (bt s ((0:Nat):Int)) = false∧Dg (bt s ((0:Nat):Int)) = false∧bt s ((0:Nat):Int)≠34∧∃ q,q3r.f SGN (bt s ((0:Nat):Int)) = some q∧q≥0
/-- s begins with this token, of m letters. -/
inductive Lx (s:q0a):Int → q0a → Nat → Prop
 | name (m:Nat) (h:LexN s m):Lx s 1 (s.extract 0 m) m
 | num (m:Nat) (h:LexD s m):Lx s 2 (s.extract 0 m) m
 | sign (h:LexS s):Lx s 4 (s.extract 0 1) 1
theorem Lx.same {s s':q0a} {q:Int} {y:q0a} {m:Nat} (h:Lx s q y m) (ha:Agr s s' m) (hp:Stp s' m):Lx s' q y m:=by
 obtain ⟨h1,h2,h3⟩:=ha
 cases h with
 | name m h=>
  obtain ⟨a,b,c,d,e⟩:=h
  rw [← v1e h1 h2 (fun j _ hj=>h3 j hj)]
  exact .name m ⟨by rw [h3 0 (by omega)];exact a,b,c,h2,e.same ⟨h1,h2,h3⟩ hp⟩
 | num m h=>
  obtain ⟨a,b,c,d,e,f,g⟩:=h
  rw [← v1e h1 h2 (fun j _ hj=>h3 j hj)]
  refine .num m ⟨by rw [h3 0 (by omega)];exact a,b,c,h2,fun j hj=>by rw [h3 j hj];exact e j hj,fun hlt=>?_,by rw [h3 0 (by omega)];exact g⟩
  rcases hp hlt with k | k | k | k <;> rw [k] <;> decide
 | sign h=>
  obtain ⟨a,b,c,d,e⟩:=h
  rw [← v1e h1 h2 (fun j _ hj=>h3 j hj)]
  exact .sign ⟨by omega,by rw [h3 0 (by omega)];exact b,by rw [h3 0 (by omega)];exact c,by rw [h3 0 (by omega)];exact d,by rw [h3 0 (by omega)];exact e⟩
end
section
theorem nonnil {s:q0a} (h0:0 < s.size) : ¬ s.toList = ([]:List UInt8):=by
 rw [ByteArray.toList_eq]
 intro h
 have:=congrArg List.length h
 rw [q5d] at this
 have:s.size = 0:=this
 omega
theorem v0t {s:q0a} (hs:s.size≤20000) (h0:0 < s.size) {m:Nat} (hb:Sm (bt s ((0:Nat):Int)) = true) (h:NRun s 1 m):q1q (fun k=>q0W.f k s) (m:Int):=by
 have hb:Sm (bt s 0) = true:=hb
 unfold q0W.f
 simp only [q4h,hb,Option.bind_some]
 exact cNeg (nonnil h0) (cPO (cSuc (by simp only [q0W.j0];exact cND (h.comes hs))))
theorem v0q {s:q0a} (hs:s.size≤20000) {m:Nat} (hm:m≤s.size) (h1:∀ j:Nat,j < m → Dg (bt s ((j:Nat):Int)) = true) (h2:m < s.size → Dg (bt s ((m:Nat):Int)) = false):q1q (fun k=>q1T.f k s) (m:Int):=by
 obtain ⟨t,t2,hd,hn,d1,d2⟩:=q7l s hs
 obtain rfl:t = m:=by
  rcases Nat.lt_trichotomy t m with h | h | h
  ·have a:=hn (by omega)
   rw [h1 t h] at a
   cases a
  ·exact h
  ·have a:=hd m h
   rw [h2 (by omega)] at a
   cases a
 exact d1
theorem Lx.comes {s:q0a} (hs:s.size≤20000) {q:Int} {y:q0a} {m:Nat} (h:Lx s q y m):q1q (fun k=>q3Y.f k s) (q,y,0,(m:Int),0):=by
 have ti:∀ t:Nat,((t:Nat):Int).toNat = t:=Int.toNat_natCast
 unfold q3Y.f
 cases h with
 | name m h=>
  obtain ⟨a,b,c,d,e⟩:=h
  have a':Sm (bt s 0) = true:=a
  refine cPO ?_
  simp only [q4h,a',Option.bind_some]
  refine cPos trivial (cBin (v0t hs (by omega) a e) ?_)
  simp only [ti]
  exact cNO (cPO (cPO (cCon _)))
 | num m h=>
  obtain ⟨a,b,c,d,e,f,g⟩:=h
  have a':Sm (bt s 0) = false:=a
  have e0:Dg (bt s 0) = true:=e 0 (by omega)
  have he:(s.extract 0 m).size = m:=by rw [q4J d];omega
  have hbt:∀ j,j < m → bt (s.extract 0 m) ((j:Nat):Int) = bt s ((j:Nat):Int):=fun j hj=>by rw [q4v d (by omega),Nat.zero_add]
  obtain ⟨v,hv⟩:=q9J (s.extract 0 m) (by omega) (by omega) (fun j hj=>by rw [he] at hj;rw [hbt j hj];exact e j hj)
  have hb0:bt (s.extract 0 m) 0 = bt s ((0:Nat):Int):=hbt 0 (by omega)
  rw [he,hb0,if_neg g] at hv
  refine cPO ?_
  simp only [q4h,q4C,a',e0,Option.bind_some]
  refine cND (cPos trivial (cBin (v0q hs d e f) ?_))
  simp only [ti]
  exact cNO (cPO (cPO (cBin hv (cPos rfl (cCon _)))))
 | sign h=>
  obtain ⟨z,a,b,c,q,e1,e2⟩:=h
  have a':Sm (bt s 0) = false:=a
  have b':Dg (bt s 0) = false:=b
  have e1':q3r.f (⟨#[123,125,40,41,91,93,47,59,58,126,64,61,94,44,46,124,43,42,60,62,45]⟩:q0a) (bt s 0) = some q:=e1
  refine cPO ?_
  simp only [q4h,q4C,a',b',e1',Option.bind_some]
  exact cND (cND (cNeg c (cPos e2 (cPD (cPO (cCon _))))))
theorem Lx.size {s:q0a} {q:Int} {y:q0a} {m:Nat} (h:Lx s q y m):1≤m∧m≤s.size∧m≤62:=by
 cases h with
 | name m h=>exact ⟨h.2.1,h.2.2.2.1,by have:=h.2.2.1;omega⟩
 | num m h=>exact ⟨h.2.1,h.2.2.2.1,by have:=h.2.2.1;omega⟩
 | sign h=>exact ⟨q0f _,h.1,by decide⟩
theorem Lx.head {s:q0a} {q:Int} {y:q0a} {m:Nat} (h:Lx s q y m) : ¬ Wh (bt s ((0:Nat):Int)):=by
 have key:∀ c:Int,Wh c → Sm c = false∧Dg c = false∧c≠34∧∀ q,q3r.f SGN c = some q → ¬ q≥0:=by
  intro c hc
  have e:∀ c ∈ ([10,32,9,13,35]:List Int),q3r.f SGN c = some (-1)∧Sm c = false∧Dg c = false∧c≠34:=by decide +kernel
  obtain ⟨e1,e2,e3,e4⟩:=e c (by rcases hc with rfl | rfl | rfl | rfl | rfl <;> decide)
  exact ⟨e2,e3,e4,fun q hq k=>by rw [← Option.some.inj (e1.symm.trans hq)] at k;exact absurd k (by decide)⟩
 intro hw
 obtain ⟨k1,k2,k3,k4⟩:=key _ hw
 cases h with
 | name m h=>rw [h.1] at k1;cases k1
 | num m h=>have:=h.2.2.2.2.1 0 h.2.1;rw [k2] at this;cases this
 | sign h=>
  obtain ⟨_,_,_,_,q,e1,e2⟩:=h
  exact k4 q e1 e2
end
section
theorem bt_left {a b:q0a} {j:Nat} (h:j < a.size):bt (a++b) ((j:Nat):Int) = bt a ((j:Nat):Int):=by
 have h2:j < (a++b).size:=by rw [ByteArray.size_append];omega
 have e1:=q5n (a++b) ((j:Nat):Int) (by rw [Int.toNat_natCast];exact h2)
 have e2:=q5n a ((j:Nat):Int) (by rw [Int.toNat_natCast];exact h)
 simp only [Int.toNat_natCast] at e1 e2
 rw [← e1,← e2,ByteArray.getElem_append_left h]
theorem v2s {a b:q0a} {j:Nat} (h:j < b.size):bt (a++b) ((a.size + j:Nat):Int) = bt b ((j:Nat):Int):=by
 have h2:a.size + j < (a++b).size:=by rw [ByteArray.size_append];omega
 have e1:=q5n (a++b) ((a.size + j:Nat):Int) (by rw [Int.toNat_natCast];exact h2)
 have e2:=q5n b ((j:Nat):Int) (by rw [Int.toNat_natCast];exact h)
 simp only [Int.toNat_natCast] at e1 e2
 rw [← e1,← e2,ByteArray.getElem_append_right (by omega)]
 simp
theorem bt_one (c:UInt8):bt (⟨#[c]⟩:q0a) ((0:Nat):Int) = (c.toNat:Int):=rfl
end
section
theorem q9Y (n:S25) (h:Small n) (d:Int):∃ e,q1q (fun k=>q0V.f k n.f0 n.f1 n.f2 n.f3 d) e:=by
 obtain ⟨e,h1,_⟩:=q5X n h d
 exact ⟨e,h1⟩
theorem q7f (x:List S25) (hl:x.length≤1048576) (d:Int) (ih:∀ y,y ∈ x → Small y) (m i:Nat) (hi:i + m = x.length):∃ e,q1q (fun k=>q0V.l0 k d x (x.length:Int) (i:Int)) e:=by
 obtain ⟨e,h1,_⟩:=q7K x hl 0 ⟨#[]⟩ 0 d (fun y hy=>q5X y (ih y hy) _) m i hi
 exact ⟨e,h1⟩
theorem q7j (s:q0a):∃ r,q1q (fun k=>q2v.f k s) r:=by
 obtain ⟨r,h,_⟩:=q6g s
 exact ⟨r,h⟩
theorem q8R (s:q0a):∃ r,q1q (fun k=>q1N.f k s) r:=by
 obtain ⟨r,h,_⟩:=q5B s
 exact ⟨r,h⟩
theorem q1q.same {α:Type} {f:Nat → Option α} {r r':α} (h:q1q f r) (h':q1q f r'):r = r':=by
 obtain ⟨K,h⟩:=h
 obtain ⟨K',h'⟩:=h'
 exact q0d ((h (max K K') (by omega)).symm.trans (h' (max K K') (by omega)))
def q4i (b:q0a):Prop:=q1q (fun k=>q1N.f k b) true
/-- A node without an error. -/
inductive Vl:S25 → Prop
 | mk (a:Int) (b:q0a) (c:Int) (x:List S25) (hS:Shp a b c x = true) (hn:Nm a = true → q4i b) (hc:0≤c∧c≤9) (hl:x.length≤1048576) (hk:∀ y,y ∈ x → Vl y):Vl ⟨a,b,c,x⟩
theorem q8P (x:List S25) (hl:x.length≤1048576) (d:Int) (hk:∀ y,y ∈ x → Small y):∀ (m i:Nat),i + m = x.length → q1q (fun k=>q0V.l0 k d x (x.length:Int) (i:Int)) 0 → ∀ j (h:j < x.length),i≤j → q1q (fun k=>q0V.f k x[j].f0 x[j].f1 x[j].f2 x[j].f3 (wrap64 (d + 1))) 0:=by
 intro m
 induction m with
 | zero=>intro i hi _ j h hij;omega
 | succ m IH=>
  intro i hi hz j h hij
  have hlt:i < x.length:=by omega
  obtain ⟨e,he⟩:=q9Y x[i] (hk _ (List.getElem_mem hlt)) (wrap64 (d + 1))
  by_cases h0:e = 0
  ·subst h0
   rcases q3H hij with rfl | hij
   ·exact he
   ·obtain ⟨e',he'⟩:=q7f x hl d hk m (i + 1) (by omega)
    have hs:q1q (fun k=>q0V.l0 k d x (x.length:Int) (i:Int)) e':=by
     apply cSuc
     simp only [q0V.l0,rd25 hlt,q2f (show i≤1048576 by omega)]
     exact cPO (cPO (cPO (cBin he (cPos rfl he'))))
    obtain rfl:=hs.same hz
    exact IH (i + 1) (by omega) he' j h hij
  ·exfalso
   have hs:q1q (fun k=>q0V.l0 k d x (x.length:Int) (i:Int)) e:=by
    apply cSuc
    simp only [q0V.l0,rd25 hlt]
    exact cPO (cPO (cPO (cBin he (cNeg h0 (cCon _)))))
   exact h0 (hs.same hz)
theorem q8G:∀ (n:S25),Small n → ∀ d:Int,q1q (fun k=>q0V.f k n.f0 n.f1 n.f2 n.f3 d) 0 → Vl n
 | ⟨a,b,c,x⟩,hs,d,h=>by
  cases hs with
  | mk _ _ _ _ hl hk=>
  obtain ⟨e,L1⟩:=q7f x hl d hk x.length 0 (by omega)
  have s1:=q5Q a b c x hl
  obtain ⟨u,u1⟩:=q8R b
  have J:∀ z:Bool,q1q (fun k=>q0V.j0 k d z a b c x) (if z = true then 2 else if c < 0 then 6 else if c > 9 then 6 else e):=by
   intro z
   apply cSuc
   simp only [q0V.j0]
   refine cIte (fun hz=>cVal (by rw [if_pos hz])) (fun hz=>?_)
   rw [if_neg hz]
   refine cIte (fun h0=>cVal (by rw [if_pos h0])) (fun h0=>?_)
   rw [if_neg h0]
   refine cIte (fun h9=>cVal (by rw [if_pos h9])) (fun h9=>?_)
   rw [if_neg h9]
   exact L1
  by_cases h12:d > 12
  ·have:q1q (fun k=>q0V.f k a b c x d) 3:=cSuc (by simp only [q0V.f];exact cPos h12 (cCon _))
   exact absurd (this.same h) (by decide)
  by_cases hS:Shp a b c x = true
  case neg=>
   have:q1q (fun k=>q0V.f k a b c x d) 1:=cSuc (by simp only [q0V.f];exact cNeg h12 (cBin s1 (cNeg hS (cCon _))))
   exact absurd (this.same h) (by decide)
  have fin:∀ z:Bool,(Nm a = true → z = !u) → (if z = true then (2:Int) else if c < 0 then 6 else if c > 9 then 6 else e) = 0 → Vl ⟨a,b,c,x⟩:=by
   intro z hz he
   by_cases hzt:z = true
   ·rw [if_pos hzt] at he;exact absurd he (by decide)
   rw [if_neg hzt] at he
   by_cases h0:c < 0
   ·rw [if_pos h0] at he;exact absurd he (by decide)
   rw [if_neg h0] at he
   by_cases h9:c > 9
   ·rw [if_pos h9] at he;exact absurd he (by decide)
   rw [if_neg h9] at he
   subst he
   refine .mk a b c x hS (fun hn=>?_) ⟨by omega,by omega⟩ hl (fun y hy=>?_)
   ·have:u = true:=by
     have:=hz hn
     cases u with
     | true=>rfl
     | false=>exact absurd this (by simpa using hzt)
    rw [this] at u1
    exact u1
   ·obtain ⟨j,hj,rfl⟩:=List.getElem_of_mem hy
    exact q8G x[j] (hk _ hy) _ (q8P x hl d hk x.length 0 (by omega) L1 j hj (q2c _))
  by_cases hn:Nm a = true
  ·have:q1q (fun k=>q0V.f k a b c x d) _:=cSuc (by
    simp only [q0V.f,q6x,Option.bind_some]
    exact cNeg h12 (cBin s1 (cPos hS (cPos hn (cBin u1 (J (!u)))))))
   exact fin (!u) (fun _=>rfl) (this.same h)
  ·have:q1q (fun k=>q0V.f k a b c x d) _:=cSuc (by
    simp only [q0V.f,q6x,Option.bind_some]
    exact cNeg h12 (cBin s1 (cPos hS (cNeg hn (J false)))))
   exact fin false (fun k=>absurd k hn) (this.same h)
 termination_by n=>SizeOf.sizeOf n
 decreasing_by
  have:=List.sizeOf_lt_of_mem hy
  simp only [S25.mk.sizeOf_spec]
  omega
/-- The text of a number of one digit. -/
def dig (c:Int):q0a:=⟨#[(48 + c).toNat.toUInt8]⟩
set_option maxRecDepth 100000 in
theorem dig_tab:∀ c:Fin 10,q1z.f 10 (dig (c.val:Int)) = some ((c.val:Int),true):=by decide +kernel
theorem q8m {c:Int} (h:0≤c∧c≤9):Num (dig c) c:=by
 obtain ⟨n,rfl⟩:∃ n:Nat,c = (n:Int):=⟨c.toNat,by omega⟩
 exact q1q.mono (fun k=>q1z.mono _ k) 10 (dig_tab ⟨n,by omega⟩)
theorem q4N {b:q0a} (h:q4i b):Nme b:=by
 obtain ⟨r,hr⟩:=q7j b
 have key:q1q (fun k=>q1N.f k b) (if r = true then (if b.toList = ([117]:List UInt8) then false else (b.toList != ([120]:List UInt8))) else false):=by
  unfold q1N.f
  refine cBin hr ?_
  refine cIte (fun h1=>?_) (fun h1=>cVal (by rw [if_neg h1]))
  rw [if_pos h1]
  exact cIte (fun h2=>cVal (by rw [if_pos h2])) (fun h2=>cVal (by rw [if_neg h2]))
 have e:=key.same h
 by_cases h1:r = true
 ·rw [if_pos h1] at e
  by_cases h2:b.toList = ([117]:List UInt8)
  ·rw [if_pos h2] at e;cases e
  ·rw [if_neg h2] at e
   exact ⟨h2,by simpa using e⟩
 ·rw [if_neg h1] at e;cases e
end
section
/-- From c on b holds these tokens. -/
inductive Rd (b:q0a):Nat → List Tok → Prop
 | fin:Rd b b.size []
 | nl (c:Nat) (ts:List Tok) (h:c < b.size) (hb:bt b ((c:Nat):Int) = 10) (r:Rd b (c + 1) ts):Rd b c ts
 | white (c:Nat) (ts:List Tok) (h:c < b.size) (hb:bt b ((c:Nat):Int) = 32) (r:Rd b (c + 1) ts):Rd b c ts
 | tok (c m:Nat) (q:Int) (y:q0a) (ts:List Tok) (h:Lx (b.extract c b.size) q y m) (hc:c≤b.size) (r:Rd b (c + m) ts):Rd b c ((q,y) :: ts)
/-- The cutter gives them. -/
theorem Rd.comes {b:q0a} (hb:b.size≤20000) {c:Nat} {ts:List Tok} (h:Rd b c ts):∀ (xs:List S36) (x:Nat),xs.length≤c → x≤c + 1 → ∃ l',l'.map (fun t=>(t.f0,t.f1)) = ts∧q1q (fun k=>q1g.l0 k b xs (x:Int) ((c:Nat):Int)) (xs++l',0,0):=by
 induction h with
 | fin=>
  intro xs x hx hx1
  refine ⟨[],rfl,cSuc ?_⟩
  simp only [q1g.l0,List.append_nil]
  exact cNO (cCon _)
 | nl c ts h hb' r ih=>
  intro xs x hx hx1
  obtain ⟨l',h1,h2⟩:=ih xs (x + 1) (by omega) (by omega)
  refine ⟨l',h1,cSuc ?_⟩
  simp only [q1g.l0,q5v (show c≤1000000 by omega),q5v (show x≤1000000 by omega)]
  exact cPO (cPO (cPos hb' h2))
 | white c ts h hb' r ih=>
  intro xs x hx hx1
  obtain ⟨l',h1,h2⟩:=ih xs x (by omega) (by omega)
  exact ⟨l',h1,t_white b hb h (.inl hb') h2⟩
 | tok c m q y ts h hc r ih=>
  intro xs x hx hx1
  have hz:=h.size
  have hez:(b.extract c b.size).size = b.size - c:=q4J (q0f _)
  have g0:bt (b.extract c b.size) ((0:Nat):Int) = bt b ((c:Nat):Int):=by rw [q4v (Nat.le_refl _) (by omega),Nat.add_zero]
  have hw:=h.head
  rw [g0] at hw
  have hn1 : ¬ (bt b ((c:Nat):Int) = 10∨bt b ((c:Nat):Int) = 32∨bt b ((c:Nat):Int) = 9∨bt b ((c:Nat):Int) = 13):=by
   intro k
   rcases k with k | k | k | k
   ·exact hw (.inl k)
   ·exact hw (.inr (.inl k))
   ·exact hw (.inr (.inr (.inl k)))
   ·exact hw (.inr (.inr (.inr (.inl k))))
  have hn2:bt b ((c:Nat):Int)≠35:=fun k=>hw (.inr (.inr (.inr (.inr k))))
  have tn:((c:Nat):Int).toNat = c:=Int.toNat_natCast _
  have z1:1≤m:=hz.1
  have z2:c + m≤b.size:=by have z3:=hz.2;rw [hez] at z3;clear ih hez hz;omega
  clear hz
  have a1:(xs++[(⟨q,y,(x:Int)⟩:S36)]).length≤c + m:=by rw [List.length_append,List.length_singleton];clear ih hez g0 hw;omega
  have hwr:wrap64 (((c:Nat):Int) + (m:Int)) = ((c + m:Nat):Int):=by clear ih hez a1;unfold wrap64;omega
  have b1:c < b.size:=by clear ih hwr a1;omega
  have b2:((c:Nat):Int)≤(b.size:Int):=by clear ih hwr a1;omega
  have b3:xs.length < 4398046511104:=by clear ih hwr a1 hez;omega
  have b4:(b.extract c b.size).size≤20000:=by rw [hez];clear ih hwr a1;omega
  have b5:x≤c + m + 1:=by clear ih hwr a1;omega
  obtain ⟨l',h1,h2⟩:=ih (xs++[⟨q,y,(x:Int)⟩]) x a1 b5
  rw [List.append_assoc] at h2
  exact ⟨⟨q,y,(x:Int)⟩ :: l',by rw [List.map_cons,h1],t_other b b1 hn1 (t_next tn (Int.natCast_nonneg _) b2 hwr b3 hn2 (h.comes b4) h2)⟩
theorem Rd.tokens {b:q0a} (hb:b.size≤20000) {ts:List Tok} (h:Rd b 0 ts):∃ l:List S36,l.map (fun t=>(t.f0,t.f1)) = ts∧q1q (fun k=>q1g.f k b) (l,0,0):=by
 obtain ⟨l,h1,h2⟩:=h.comes hb [] 1 (q0f _) (q0f _)
 refine ⟨l,h1,?_⟩
 unfold q1g.f
 exact cNO h2
/-- A word is cut as this token. -/
def Wk (u:q0a) (t:Tok):Prop:=Lx u t.1 t.2 u.size
/-- What may stand behind a word. -/
def Bhd (b:q0a) (c:Nat):Prop:=c < b.size → bt b ((c:Nat):Int) = 32∨bt b ((c:Nat):Int) = 10∨bt b ((c:Nat):Int) = 9∨bt b ((c:Nat):Int) = 41
/-- u stands in b at c. -/
def q5h (b u:q0a) (c:Nat):Prop:=c + u.size≤b.size∧∀ j:Nat,j < u.size → bt b ((c + j:Nat):Int) = bt u ((j:Nat):Int)
theorem Rd.word {b u:q0a} {c:Nat} {t:Tok} {ts:List Tok} (h:Wk u t) (hs:q5h b u c) (hp:Bhd b (c + u.size)) (r:Rd b (c + u.size) ts):Rd b c (t :: ts):=by
 obtain ⟨h1,h2⟩:=hs
 have hez:(b.extract c b.size).size = b.size - c:=q4J (q0f _)
 refine .tok c u.size t.1 t.2 ts (Lx.same h ⟨q0f _,by omega,fun j hj=>?_⟩ (fun hlt=>?_)) (by omega) r
 ·rw [q4v (Nat.le_refl _) (by omega)]
  exact h2 j hj
 ·rw [q4v (Nat.le_refl _) (by omega)]
  exact hp (by omega)
theorem Rd.sgn {b:q0a} {c:Nat} {v:UInt8} {ts:List Tok} (h:c < b.size) (hb:bt b ((c:Nat):Int) = (v.toNat:Int)) (hv:LexS ⟨#[v]⟩) (r:Rd b (c + 1) ts):Rd b c (sg v :: ts):=by
 have hez:(b.extract c b.size).size = b.size - c:=q4J (q0f _)
 have g0:bt (b.extract c b.size) ((0:Nat):Int) = bt (⟨#[v]⟩:q0a) ((0:Nat):Int):=by rw [q4v (Nat.le_refl _) (by omega),Nat.add_zero,bt_one];exact hb
 have hx:(b.extract c b.size).extract 0 1 = ⟨#[v]⟩:=by
  apply q7o
  ·rw [q4J (by omega)];rfl
  ·intro j hj
   rw [q4J (by omega)] at hj
   obtain rfl:j = 0:=by omega
   rw [q4v (by omega) (by omega),Nat.add_zero]
   exact g0
 have key:Lx (b.extract c b.size) 4 ((b.extract c b.size).extract 0 1) 1:=by
  obtain ⟨z,e1,e2,e3,e4⟩:=hv
  exact .sign ⟨by omega,by rw [g0];exact e1,by rw [g0];exact e2,by rw [g0];exact e3,by rw [g0];exact e4⟩
 rw [hx] at key
 exact .tok c 1 4 ⟨#[v]⟩ ts key (by omega) r
end
section
/-- The letters of words, with one more each. -/
def wid:List q0a → Nat
 | []=>0
 | u :: us=>u.size + 1 + wid us
theorem q4O (a b:List q0a):wid (a++b) = wid a + wid b:=by
 induction a with
 | nil=>simp [wid]
 | cons u us ih=>simp only [List.cons_append,wid,ih];omega
theorem q5x (a:List q0a):a.length≤wid a:=by
 induction a with
 | nil=>simp [wid]
 | cons u us ih=>simp only [List.length_cons,wid];omega
inductive Prs:List q0a → List Tok → Prop
 | nil:Prs [] []
 | cons (u:q0a) (t:Tok) (us:List q0a) (ts:List Tok) (h:Wk u t) (r:Prs us ts):Prs (u :: us) (t :: ts)
theorem Prs.app {a:List q0a} {s:List Tok} {b:List q0a} {t:List Tok} (h:Prs a s) (h':Prs b t):Prs (a++b) (s++t):=by
 induction h with
 | nil=>exact h'
 | cons u t us ts h r ih=>exact .cons _ _ _ _ h ih
theorem Prs.one {u:q0a} {t:Tok} (h:Wk u t):Prs [u] [t]:=.cons _ _ _ _ h .nil
def SG:List UInt8:=[45,58,126,64,91,93,40,41,47,94,123,125,61,59]
theorem sgn_tab:∀ v ∈ SG,Sm (bt (⟨#[v]⟩:q0a) ((0:Nat):Int)) = false∧Dg (bt (⟨#[v]⟩:q0a) ((0:Nat):Int)) = false∧bt (⟨#[v]⟩:q0a) ((0:Nat):Int)≠34∧(match q3r.f SGN (bt (⟨#[v]⟩:q0a) ((0:Nat):Int)) with | some q=>decide (q≥0) | none=>false) = true:=by decide +kernel
theorem q7W {v:UInt8} (h:v ∈ SG):LexS ⟨#[v]⟩:=by
 obtain ⟨h1,h2,h3,h4⟩:=sgn_tab v h
 refine ⟨Nat.one_pos,h1,h2,h3,?_⟩
 cases hq:q3r.f SGN (bt (⟨#[v]⟩:q0a) ((0:Nat):Int)) with
 | none=>rw [hq] at h4;cases h4
 | some q=>rw [hq] at h4;exact ⟨q,rfl,q0b h4⟩
theorem q8S {u:q0a} {m:Nat} (h:u.size = m):u.extract 0 m = u:=by
 subst h
 apply q7o
 ·rw [q4J (Nat.le_refl _),Nat.sub_zero]
 ·intro j hj
  rw [q4J (Nat.le_refl _),Nat.sub_zero] at hj
  rw [q4v (Nat.le_refl _) (by omega),Nat.zero_add]
theorem q4r {v:UInt8} (h:v ∈ SG):Wk ⟨#[v]⟩ (sg v):=by
 have:=Lx.sign (q7W h)
 rw [q8S (show (⟨#[v]⟩:q0a).size = 1 from rfl)] at this
 exact this
theorem q9G {c:Int} (h:0≤c∧c≤9):Wk (dig c) (2,dig c):=by
 obtain ⟨n,rfl⟩:∃ n:Nat,c = (n:Int):=⟨c.toNat,by omega⟩
 have tab:∀ n:Fin 10,Sm (bt (dig (n.val:Int)) ((0:Nat):Int)) = false∧Dg (bt (dig (n.val:Int)) ((0:Nat):Int)) = true:=by decide +kernel
 obtain ⟨a,b⟩:=tab ⟨n,by omega⟩
 have hz:(dig (n:Int)).size = 1:=rfl
 have hd:∀ j:Nat,j < 1 → Dg (bt (dig (n:Int)) ((j:Nat):Int)) = true:=fun j hj=>by
  obtain rfl:j = 0:=by omega
  exact b
 have:=Lx.num (s:=dig (n:Int)) 1 ⟨a,q0f _,by decide,by omega,hd,fun k=>absurd k (by omega),fun k=>absurd k.1 (by decide)⟩
 rw [q8S hz] at this
 exact this
theorem v0i {b:q0a} (h:LexN b b.size):Wk b (1,b):=by
 have:=Lx.name b.size h
 rw [q8S rfl] at this
 exact this
theorem q8t {v:UInt8} (h:v = 117∨v = 120):Wk ⟨#[v]⟩ (1,⟨#[v]⟩):=by
 apply v0i
 refine ⟨?_,q0f _,by show (1:Nat)≤20;decide,q0f _,.stop 1 (q0f _) (fun k=>absurd k (Nat.lt_irrefl _))⟩
 rcases h with rfl | rfl <;> decide
theorem q7g {b:q0a} (hN:q1q (fun k=>q2v.f k b) true):Wk b (1,b)∧b.size≤20:=by
 unfold q2v.f at hN
 have h0 : ¬ b.toList = ([]:List UInt8):=fun k=>by cases (cPos k (cCon false)).same hN
 have hz:0 < b.size:=Nat.pos_of_ne_zero (fun k=>h0 (by
  have:b.data.toList.length = 0:=k
  rw [ByteArray.toList_eq]
  exact List.eq_nil_of_length_eq_zero this))
 have h20:(b.size:Int)≤20:=by
  by_cases k:(b.size:Int)≤20
  ·exact k
  ·cases (cNeg h0 (cNeg k (cCon false))).same hN
 have key:∀ t:Int,q1q (fun k=>q0W.f k b) t → t = (b.size:Int):=fun t ht=>by
  have:=(cNeg h0 (cPos h20 (cBin ht (cCon (t == (b.size:Int)))))).same hN
  exact beq_iff_eq.1 this
 have hs:b.size≤20000:=by omega
 cases hb:Sm (bt b ((0:Nat):Int)) with
 | false=>
  have:=key 0 ((q7a b hs hz).2 hb)
  omega
 | true=>
  obtain ⟨t,ht⟩:=NRun.ex b (b.size - 1) 1 (by omega)
  have e:=key t (v0t hs hz hb ht)
  obtain rfl:t = b.size:=by omega
  exact ⟨v0i ⟨hb,by omega,by omega,q0f _,ht⟩,by omega⟩
theorem q4A {b:q0a} (h:q4i b):Wk b (1,b)∧b.size≤20:=by
 obtain ⟨r,hr⟩:=q7j b
 cases r with
 | true=>exact q7g hr
 | false=>
  have key:q1q (fun k=>q1N.f k b) false:=by
   unfold q1N.f
   exact cBin hr (cND (cCon _))
  cases key.same h
end
section
/-- What is written of a node. -/
structure Wr (n:S25) (m:Nat) (ws:List q0a) (ts:List Tok):Prop where
 w:q1q (fun k=>q1O.f k n.f0 n.f1 n.f2 n.f3) ws
 r:q1q (fun k=>q0E.f k n.f0 n.f1 n.f2 n.f3) ws
 p:Prs ws ts
 t:n.f0≠5 → Tk n ts
 b:TkB n ts
 z:wid ws + 2≤27 * m
inductive Wrs:List S25 → Nat → List (List q0a) → List (List Tok) → Prop
 | nil:Wrs [] 0 [] []
 | cons (n:S25) (ns:List S25) (m ms:Nat) (ws:List q0a) (wss:List (List q0a)) (ts:List Tok) (tss:List (List Tok)) (h:Wr n m ws ts) (r:Wrs ns ms wss tss):Wrs (n :: ns) (m + ms) (ws :: wss) (ts :: tss)
theorem Wrs.len {l:List S25} {m:Nat} {wss:List (List q0a)} {tss:List (List Tok)} (h:Wrs l m wss tss):wss.length = l.length:=by
 induction h with
 | nil=>rfl
 | cons n ns m ms ws wss ts tss h r ih=>rw [List.length_cons,List.length_cons,ih]
theorem Wrs.wr {l:List S25} {m:Nat} {wss:List (List q0a)} {tss:List (List Tok)} (h:Wrs l m wss tss):∀ i (h:i < l.length) (h':i < wss.length),q1q (fun k=>q1O.f k l[i].f0 l[i].f1 l[i].f2 l[i].f3) wss[i]∧q1q (fun k=>q0E.f k l[i].f0 l[i].f1 l[i].f2 l[i].f3) wss[i]:=by
 induction h with
 | nil=>intro i h;exact absurd h (by simp)
 | cons n ns m ms ws wss ts tss h r ih=>
  intro i hi hi'
  cases i with
  | zero=>exact ⟨h.w,h.r⟩
  | succ i=>exact ih i (by simpa using hi) (by simpa using hi')
theorem Wrs.wide {l:List S25} {m:Nat} {wss:List (List q0a)} {tss:List (List Tok)} (h:Wrs l m wss tss):wid wss.flatten + 2 * wss.length≤27 * m:=by
 induction h with
 | nil=>simp [wid]
 | cons n ns m ms ws wss ts tss h r ih=>
  have:=h.z
  rw [List.flatten_cons,q4O,List.length_cons]
  omega
theorem wrs_of {l:List S25} : ∀ {m:Nat} {ys:List q0a},(∀ y,y ∈ l → ∀ m1 y1,CntN y m1 y1 → m1≤260 → ∃ ws ts,Wr y m1 ws ts) → CntL l m ys → m≤260 → ∃ wss tss,Wrs l m wss tss:=by
 induction l with
 | nil=>
  intro m ys _ h _
  obtain ⟨rfl,rfl⟩:=h.nil_inv
  exact ⟨_,_,.nil⟩
 | cons x l IH=>
  intro m ys ih h hm
  obtain ⟨m1,m2,y1,y2,rfl,rfl,h1,h2⟩:=h.inv
  obtain ⟨ws,ts,hw⟩:=ih x (by simp) m1 y1 h1 (by omega)
  obtain ⟨wss,tss,hs⟩:=IH (fun y hy=>ih y (List.mem_cons_of_mem _ hy)) h2 (by omega)
  exact ⟨_,_,.cons _ _ _ _ _ _ _ _ hw hs⟩
section
variable {l:List S25} {wss:List (List q0a)} (hl:l.length≤1048576) (hw:wss.length = l.length)
include hl hw
theorem kids_N (hk:∀ i (h:i < l.length) (h':i < wss.length),q1q (fun k=>q1O.f k l[i].f0 l[i].f1 l[i].f2 l[i].f3) wss[i]) (a:Int) (b:q0a) (c:Int) (r:List q0a)
  (hr:q1q (fun k=>q0T.l0 k wss l (l.length:Int) ((l.length:Nat):Int) a b c l) r):∀ (d i:Nat),i + d = l.length → q1q (fun k=>q0T.l0 k (wss.take i) l (l.length:Int) ((i:Nat):Int) a b c l) r:=by
 intro d
 induction d with
 | zero=>
  intro i hi
  obtain rfl:i = l.length:=by omega
  rw [List.take_of_length_le (by omega)]
  exact hr
 | succ d IH=>
  intro i hi
  have h:i < l.length:=by omega
  have h':i < wss.length:=by omega
  apply cSuc
  simp only [q0T.l0,rd25 h,q2f (show i≤1048576 by omega)]
  refine cPO (cPO (cPO (cBin (hk i h h') (cPos (by rw [List.length_take];omega) ?_))))
  have:=IH (i + 1) (by omega)
  rw [List.take_succ_eq_append_getElem h'] at this
  exact this
theorem kids_P (hk:∀ i (h:i < l.length) (h':i < wss.length),q1q (fun k=>q1O.f k l[i].f0 l[i].f1 l[i].f2 l[i].f3) wss[i]) (a:Int) (b:q0a) (c:Int) (r:List q0a)
  (hr:q1q (fun k=>q1V.l0 k wss l (l.length:Int) ((l.length:Nat):Int) a b c l) r):∀ (d i:Nat),i + d = l.length → q1q (fun k=>q1V.l0 k (wss.take i) l (l.length:Int) ((i:Nat):Int) a b c l) r:=by
 intro d
 induction d with
 | zero=>
  intro i hi
  obtain rfl:i = l.length:=by omega
  rw [List.take_of_length_le (by omega)]
  exact hr
 | succ d IH=>
  intro i hi
  have h:i < l.length:=by omega
  have h':i < wss.length:=by omega
  apply cSuc
  simp only [q1V.l0,rd25 h,q2f (show i≤1048576 by omega)]
  refine cPO (cPO (cPO (cBin (hk i h h') (cPos (by rw [List.length_take];omega) ?_))))
  have:=IH (i + 1) (by omega)
  rw [List.take_succ_eq_append_getElem h'] at this
  exact this
end
theorem q6I {l:List S25} {wss:List (List q0a)} (hl:l.length≤1048576) (hw:wss.length = l.length) (hk:∀ i (h:i < l.length) (h':i < wss.length),q1q (fun k=>q1O.f k l[i].f0 l[i].f1 l[i].f2 l[i].f3) wss[i]) {a:Int} {b:q0a} {c:Int} {r:List q0a}
  (hn : ¬ (a = 7∧(q0A l 0).f0≠5∧(q0A l 0).f0≠7)) (hr:q1q (fun k=>q0T.l0 k wss l (l.length:Int) ((l.length:Nat):Int) a b c l) r):q1q (fun k=>q1O.f k a b c l) r:=by
 apply cSuc
 simp only [q1O.f]
 refine cNeg hn (cSuc ?_)
 simp only [q0T.f]
 exact kids_N hl hw hk a b c r hr l.length 0 (by omega)
theorem write_P {l:List S25} {wss:List (List q0a)} (hl:l.length≤1048576) (hw:wss.length = l.length) (hk:∀ i (h:i < l.length) (h':i < wss.length),q1q (fun k=>q1O.f k l[i].f0 l[i].f1 l[i].f2 l[i].f3) wss[i]) {a:Int} {b:q0a} {c:Int} {r:List q0a}
  (hn:a = 7∧(q0A l 0).f0≠5∧(q0A l 0).f0≠7) (hr:q1q (fun k=>q1V.l0 k wss l (l.length:Int) ((l.length:Nat):Int) a b c l) r):q1q (fun k=>q1O.f k a b c l) r:=by
 apply cSuc
 simp only [q1O.f]
 refine cPos hn (cSuc ?_)
 simp only [q1V.f]
 exact kids_P hl hw hk a b c r hr l.length 0 (by omega)
theorem q5r (xss:List (List q0a)) {i:Nat} (h:i < xss.length):(xss.drop i).flatten = xss[i]++(xss.drop (i + 1)).flatten:=by rw [List.drop_eq_getElem_cons h,List.flatten_cons]
/-- Concat puts lists behind each other. -/
theorem q7k (xss:List (List q0a)) (hx:xss.length≤1048576) (ht:xss.flatten.length≤1048576):q1q (fun k=>q0o.f k xss) xss.flatten:=by
 have rl:∀ {i:Nat} (h:i < xss.length),q2M xss (i:Int) = xss[i]:=fun {i} h=>rdl7 h
 have L1:∀ (d i:Nat) (out:List q0a),i + d = xss.length → out.length + (xss.drop i).flatten.length≤1048576 → q1q (fun k=>q0o.l1 k out xss (xss.length:Int) ((i:Nat):Int)) (out++(xss.drop i).flatten):=by
  intro d
  induction d with
  | zero=>
   intro i out hi _
   rw [List.drop_eq_nil_of_le (by omega),List.flatten_nil,List.append_nil]
   apply cSuc
   simp only [q0o.l1]
   exact cNO (cCon _)
  | succ d IH=>
   intro i out hi hz
   have h:i < xss.length:=by omega
   rw [q5r xss h,List.length_append] at hz
   apply cSuc
   simp only [q0o.l1,rl h,q2f (show i≤1048576 by omega)]
   refine cPO (cPO (cPO (cPO ?_)))
   rw [q5r xss h,← List.append_assoc]
   exact IH (i + 1) _ (by omega) (by rw [List.length_append];omega)
 have L0:∀ (d i q:Nat),i + d = xss.length → q + (xss.drop i).flatten.length≤1048576 → q1q (fun k=>q0o.l0 k xss (q:Int) xss (xss.length:Int) ((i:Nat):Int)) xss.flatten:=by
  intro d
  induction d with
  | zero=>
   intro i q hi hq
   have hg:q3s.nil (q:Int) = some []:=if_pos (by omega)
   apply cSuc
   simp only [q0o.l0,hg,Option.bind_some]
   refine cNO ?_
   have:=L1 xss.length 0 [] (by omega) (by simpa using ht)
   rwa [List.drop_zero,List.nil_append] at this
  | succ d IH=>
   intro i q hi hq
   have h:i < xss.length:=by omega
   rw [q5r xss h,List.length_append] at hq
   have hwr:wrap64 ((q:Int) + ((xss[i]).length:Int)) = ((q + (xss[i]).length:Nat):Int):=by unfold wrap64;omega
   apply cSuc
   simp only [q0o.l0,rl h,q2f (show i≤1048576 by omega),hwr]
   exact cPO (cPO (cPO (cNO (IH (i + 1) _ (by omega) (by omega)))))
 unfold q0o.f
 exact L0 xss.length 0 0 (by omega) (by simpa using ht)
/-- Alternatives behind the first, with the closing sign. -/
def altw:List (List q0a) → List q0a
 | []=>[⟨#[41]⟩]
 | ws :: wss=>⟨#[47]⟩ :: (ws++altw wss)
def altt:List (List Tok) → List Tok
 | []=>[sg 41]
 | ts :: tss=>sg 47 :: (ts++altt tss)
theorem q6t (xss:List (List q0a)) {i:Nat} (h:i < xss.length):altw (xss.drop i) = ⟨#[47]⟩ :: (xss[i]++altw (xss.drop (i + 1))):=by rw [List.drop_eq_getElem_cons h];rfl
theorem v1X (wss:List (List q0a)):wid (altw wss) = wid wss.flatten + 2 * wss.length + 2:=by
 induction wss with
 | nil=>rfl
 | cons ws wss ih=>
  simp only [altw,wid,List.flatten_cons,q4O,ih,List.length_cons]
  show 1 + 1 + (wid ws + (wid wss.flatten + 2 * wss.length + 2)) = _
  omega
theorem v1y (wss:List (List q0a)) (hx:wss.length≤1048576):∀ (d i:Nat) (out:List q0a),1≤i → i + d = wss.length → out.length + (altw (wss.drop i)).length≤1048576 → q1q (fun k=>q0T.l1 k out wss (wss.length:Int) ((i:Nat):Int)) (out++altw (wss.drop i)):=by
 intro d
 induction d with
 | zero=>
  intro i out h1 hi hz
  rw [List.drop_eq_nil_of_le (by omega)] at hz ⊢
  apply cSuc
  simp only [q0T.l1]
  exact cNO (cPO (cCon _))
 | succ d IH=>
  intro i out h1 hi hz
  have h:i < wss.length:=by omega
  rw [q6t wss h,List.length_cons,List.length_append] at hz
  apply cSuc
  simp only [q0T.l1,rdl7 h,q2f (show i≤1048576 by omega),Option.bind_some]
  refine cPO (cPO (cPO (cPO (cPO (cPos (by rw [List.length_append,List.length_singleton];omega) ?_)))))
  have:=IH (i + 1) (out++[⟨#[47]⟩]++wss[i]) (by omega) (by omega) (by rw [List.length_append,List.length_append,List.length_singleton];omega)
  rw [q6t wss h]
  simpa only [List.append_assoc,List.cons_append,List.nil_append] using this
theorem v0Q {l:List S25} {wss:List (List q0a)} (hl:l.length≤1048576) (hw:wss.length = l.length) (hk:∀ i (h:i < l.length) (h':i < wss.length),q1q (fun k=>q0E.f k l[i].f0 l[i].f1 l[i].f2 l[i].f3) wss[i]) (a:Int) (b:q0a) (c:Int) :
  ∀ (d i:Nat) (out:List q0a),1≤i → i + d = l.length → out.length + (altw (wss.drop i)).length≤1048576 → q1q (fun k=>q0E.l1 k out ((i:Nat):Int) a b c l) (out++altw (wss.drop i)):=by
 intro d
 induction d with
 | zero=>
  intro i out h1 hi hz
  rw [List.drop_eq_nil_of_le (by omega)] at hz ⊢
  have hz:out.length + 1≤1048576:=hz
  apply cSuc
  simp only [q0E.l1,Option.bind_some]
  exact cNO (cPos (by rw [List.length_singleton];omega) (cCon _))
 | succ d IH=>
  intro i out h1 hi hz
  have h:i < l.length:=by omega
  have h':i < wss.length:=by omega
  rw [q6t wss h',List.length_cons,List.length_append] at hz
  apply cSuc
  simp only [q0E.l1,rd25 h,q2f (show i≤1048576 by omega),Option.bind_some]
  refine cPO (cNO (cPos (by rw [List.length_singleton];omega) (cPO (cBin (hk i h h') (cPos (by rw [List.length_append,List.length_singleton];omega) ?_)))))
  have:=IH (i + 1) (out++[⟨#[47]⟩]++wss[i]) (by omega) (by omega) (by rw [List.length_append,List.length_append,List.length_singleton];omega)
  rw [q6t wss h']
  simpa only [List.append_assoc,List.cons_append,List.nil_append] using this
theorem v1j {l:List S25} {wss:List (List q0a)} (hl:l.length≤1048576) (hw:wss.length = l.length) (hk:∀ i (h:i < l.length) (h':i < wss.length),q1q (fun k=>q0E.f k l[i].f0 l[i].f1 l[i].f2 l[i].f3) wss[i]) (a:Int) (b:q0a) (c:Int) :
  ∀ (d i:Nat) (out:List q0a),i + d = l.length → out.length + (wss.drop i).flatten.length≤1048576 → q1q (fun k=>q0E.l0 k out ((i:Nat):Int) a b c l) (out++(wss.drop i).flatten):=by
 intro d
 induction d with
 | zero=>
  intro i out hi hz
  rw [List.drop_eq_nil_of_le (by omega),List.flatten_nil,List.append_nil]
  apply cSuc
  simp only [q0E.l0]
  exact cNO (cCon _)
 | succ d IH=>
  intro i out hi hz
  have h:i < l.length:=by omega
  have h':i < wss.length:=by omega
  rw [q5r wss h',List.length_append] at hz
  apply cSuc
  simp only [q0E.l0,rd25 h,q2f (show i≤1048576 by omega)]
  refine cPO (cPO (cBin (hk i h h') (cPO ?_)))
  rw [q5r wss h',← List.append_assoc]
  exact IH (i + 1) _ (by omega) (by rw [List.length_append];omega)
set_option maxRecDepth 100000 in
theorem v2l:∀ c:Fin 10,q1U.f 10 (c.val:Int) = some (dig (c.val:Int)):=by decide +kernel
theorem q6A {c:Int} (h:0≤c∧c≤9):q1q (fun k=>q1U.f k c) (dig c):=by
 obtain ⟨n,rfl⟩:∃ n:Nat,c = (n:Int):=⟨c.toNat,by omega⟩
 exact q1q.mono (fun k=>q1U.mono _ k) 10 (v2l ⟨n,by omega⟩)
theorem v2a:∀ c:Fin 10,strOfNums [(wrap64 (48 + (c.val:Int))) % 256] = dig (c.val:Int):=by decide +kernel
theorem q7Q {c:Int} (h:0≤c∧c≤9):strOfNums [(wrap64 (48 + c)) % 256] = dig c:=by
 obtain ⟨n,rfl⟩:∃ n:Nat,c = (n:Int):=⟨c.toNat,by omega⟩
 exact v2a ⟨n,by omega⟩
theorem v0P {b:q0a} (h:b.toList = []):b = em:=by
 rw [ByteArray.toList_eq] at h
 cases b with
 | mk d=>
  have:d = #[]:=Array.toList_eq_nil_iff.1 h
  rw [this];rfl
theorem tl0:(⟨#[]⟩:q0a).toList = []:=by rw [ByteArray.toList_eq]
theorem v0L {a:Int} {b:q0a} {c:Int} {x:List S25} (h:Shp a b c x = true):(1≤a∧a≤12)∧(Nm a = true∨b = em)∧(a = 7∨c = 0)∧ShpT a x = true:=by
 unfold Shp at h
 simp only [Bool.and_eq_true,Bool.or_eq_true,decide_eq_true_eq] at h
 obtain ⟨⟨⟨⟨h1,h2⟩,h3⟩,h4⟩,h5⟩:=h
 exact ⟨⟨h1,h2⟩,h3.imp id v0P,h4,h5⟩
theorem shpT0 {a:Int} {x:List S25} (h:ShpT a x = true) (h5:a≠5) (h6:a≠6) (h7:a≠7) (h8:a≠8) (h12:a≠12):x = []:=by
 unfold ShpT at h
 rw [if_neg h5,if_neg h6,if_neg h7,if_neg h8,if_neg h12] at h
 exact List.eq_nil_of_length_eq_zero (q0b h)
theorem shpT1 {a:Int} {x:List S25} (h:ShpT a x = true) (ha:a = 7∨a = 8∨a = 12):∃ y,x = [y]:=by
 have:x.length = 1:=by
  unfold ShpT at h
  rcases ha with rfl | rfl | rfl <;> simpa using h
 exact List.length_eq_one_iff.1 this
theorem shpT5 {x:List S25} (h:ShpT 5 x = true):x.length≠1∧∀ y,y ∈ x → y.f0≠5:=by
 unfold ShpT no5 at h
 rw [if_pos rfl,Bool.and_eq_true,List.all_eq_true] at h
 exact ⟨q0b h.1,fun y hy=>q0b (h.2 y hy)⟩
theorem shpT6 {x:List S25} (h:ShpT 6 x = true):∃ n n2 ns,x = n :: n2 :: ns:=by
 unfold ShpT at h
 rw [if_neg (by decide),if_pos rfl] at h
 have h:=q0b h
 match x,h with
 | n :: n2 :: ns,_=>exact ⟨n,n2,ns,rfl⟩
end
section
/-- Words, each with a blank ahead of it. -/
def tls:List q0a → q0a
 | []=>em
 | u :: us=>((⟨#[32]⟩:q0a)++u)++tls us
/-- Words, joined by blanks. -/
def jn:List q0a → q0a
 | []=>em
 | u :: us=>u++tls us
theorem q9t (z:q0a):em++z = z:=ByteArray.empty_append
theorem app_em (z:q0a):z++em = z:=ByteArray.append_empty
theorem v1u (us:List q0a):(tls us).size = wid us:=by
 induction us with
 | nil=>rfl
 | cons u us ih=>
  simp only [tls,wid,ByteArray.size_append,ih]
  show 1 + u.size + wid us = _
  omega
theorem q5O (us:List q0a):(jn us).size≤wid us:=by
 cases us with
 | nil=>exact q0f _
 | cons u us=>simp only [jn,wid,ByteArray.size_append,v1u];omega
theorem q5h.left {b x y:q0a} {c:Nat} (h:q5h b (x++y) c):q5h b x c:=by
 obtain ⟨h1,h2⟩:=h
 rw [ByteArray.size_append] at h1
 refine ⟨by omega,fun j hj=>?_⟩
 rw [h2 j (by rw [ByteArray.size_append];omega),bt_left hj]
theorem q5h.right {b x y:q0a} {c:Nat} (h:q5h b (x++y) c):q5h b y (c + x.size):=by
 obtain ⟨h1,h2⟩:=h
 rw [ByteArray.size_append] at h1
 refine ⟨by omega,fun j hj=>?_⟩
 rw [show c + x.size + j = c + (x.size + j) by omega,h2 (x.size + j) (by rw [ByteArray.size_append];omega),v2s hj]
theorem q9B {b:q0a} {us:List q0a} {c:Nat} (h:q5h b (tls us) c) (hp:Bhd b (c + (tls us).size)):Bhd b c:=by
 cases us with
 | nil=>exact hp
 | cons u us=>
  intro _
  have:=h.left.left.2 0 Nat.one_pos
  rw [Nat.add_zero] at this
  exact .inl this
theorem Rd.tail {b:q0a} {us:List q0a} {ts:List Tok} (h:Prs us ts):∀ (c:Nat) (rest:List Tok),q5h b (tls us) c → Bhd b (c + (tls us).size) → Rd b (c + (tls us).size) rest → Rd b c (ts++rest):=by
 induction h with
 | nil=>intro c rest _ _ r;exact r
 | cons u t us ts h r ih=>
  intro c rest hs hp hr
  have e:(tls (u :: us)).size = 1 + u.size + (tls us).size:=by
   simp only [tls,ByteArray.size_append];rfl
  rw [e] at hp hr
  have s1:=hs.left.left
  have s2:=hs.left.right
  have s3:=hs.right
  have e1:(⟨#[32]⟩:q0a).size = 1:=rfl
  rw [e1] at s2
  rw [ByteArray.size_append,e1] at s3
  have h1:=s1.1
  rw [e1] at h1
  have hb:=s1.2 0 Nat.one_pos
  rw [Nat.add_zero] at hb
  rw [show c + (1 + u.size + (tls us).size) = c + (1 + u.size) + (tls us).size by omega] at hp hr
  refine .white c _ (by omega) hb (Rd.word h s2 ?_ ?_)
  ·rw [show c + 1 + u.size = c + (1 + u.size) by omega]
   exact q9B s3 hp
  ·rw [show c + 1 + u.size = c + (1 + u.size) by omega]
   exact ih _ rest s3 hp hr
theorem Rd.join {b:q0a} {ws:List q0a} {ts:List Tok} (h:Prs ws ts) {c:Nat} {rest:List Tok} (hs:q5h b (jn ws) c) (hp:Bhd b (c + (jn ws).size)) (hr:Rd b (c + (jn ws).size) rest):Rd b c (ts++rest):=by
 cases h with
 | nil=>exact hr
 | cons u t us ts h r=>
  have s1:=hs.left
  have s2:=hs.right
  have e:(jn (u :: us)).size = u.size + (tls us).size:=by simp only [jn,ByteArray.size_append]
  rw [e,← Nat.add_assoc] at hp hr
  exact Rd.word h s1 (q9B s2 hp) (Rd.tail r _ rest s2 hp hr)
/-- The two joins. -/
theorem q8p (us:List q0a):(tls us).data.toList = Lib.joinTail [32] (us.map (·.data.toList)):=by
 induction us with
 | nil=>rfl
 | cons u us ih=>
  simp only [tls,ByteArray.data_append,Array.toList_append,ih,List.map_cons,Lib.joinTail,List.flatten_cons]
end
section
theorem z1 (v:UInt8):(⟨#[v]⟩:q0a).size = 1:=rfl
theorem dz (c:Int):(dig c).size = 1:=rfl
theorem tl_no (v:UInt8) : ¬ (⟨#[v]⟩:q0a).toList = ([]:List UInt8):=by rw [tl1];simp
section
variable {a:Int} {b:q0a} {c:Int} {r:List q0a}
/-- A node without kids is written at once. -/
theorem q6u (hr:q1q (fun k=>q0T.l0 k [] [] (([]:List S25).length:Int) ((([]:List S25).length:Nat):Int) a b c []) r) (h7:a≠7):q1q (fun k=>q1O.f k a b c []) r:=
 q6I (wss:=[]) (by simp) rfl (fun i h=>absurd h (by simp)) (fun k=>h7 k.1) hr
end
theorem q4L {a:Int} {v:UInt8} (hs:q3z.f a = some ⟨#[v]⟩) (h7:a≠7) (h5:a≠5) (t:Tok) (ht:Tk ⟨a,em,0,[]⟩ [t]) (hw:Wk ⟨#[v]⟩ t)
  (hd:q1q (fun k=>q0T.l0 k [] [] (([]:List S25).length:Int) ((([]:List S25).length:Nat):Int) a em 0 []) [⟨#[v]⟩]):∃ ws ts,Wr ⟨a,em,0,[]⟩ 1 ws ts:=by
 refine ⟨[⟨#[v]⟩],[t],q6u hd h7,cSuc ?_,Prs.one hw,fun _=>ht,.part _ _ h5 ht,?_⟩
 ·simp only [q0E.f,hs,Option.bind_some]
  exact cNeg (tl_no v) (cCon _)
 ·simp only [wid,z1]
  omega
/-- Nodes without kids. -/
theorem wr_leaf {a:Int} {b:q0a} {c:Int} (hS:Shp a b c [] = true) (hn:Nm a = true → q4i b) (ha:a = 1∨a = 2∨a = 3∨a = 4∨a = 9∨a = 10∨a = 11):∃ ws ts,Wr ⟨a,b,c,[]⟩ 1 ws ts:=by
 obtain ⟨_,hb,hc,_⟩:=v0L hS
 have hc:c = 0:=hc.resolve_left (by omega)
 subst hc
 rcases ha with rfl | rfl | rfl | rfl | rfl | rfl | rfl
 ·obtain rfl:=hb.resolve_left (by decide)
  refine q4L (v:=117) rfl (by decide) (by decide) _ .light (q8t (.inl rfl)) (cSuc ?_)
  simp only [q0T.l0]
  exact cNeg (by simp) (cPD (cCon _))
 ·obtain rfl:=hb.resolve_left (by decide)
  refine q4L (v:=45) rfl (by decide) (by decide) _ .heavy (q4r (by decide)) (cSuc ?_)
  simp only [q0T.l0]
  exact cNeg (by simp) (cND (cPD (cCon _)))
 ·obtain rfl:=hb.resolve_left (by decide)
  refine q4L (v:=120) rfl (by decide) (by decide) _ .anceps (q8t (.inr rfl)) (cSuc ?_)
  simp only [q0T.l0]
  exact cNeg (by simp) (cND (cND (cPD (cCon _))))
 ·have hu:=hn (by decide)
  obtain ⟨hw,hz⟩:=q4A hu
  have ht:Tk ⟨4,b,0,[]⟩ [(1,b)]:=.foot b (q4N hu)
  refine ⟨[b],[(1,b)],q6u (cSuc ?_) (show (4:Int)≠7 by decide),cSuc ?_,Prs.one hw,fun _=>ht,.part _ _ (show (4:Int)≠5 by decide) ht,?_⟩
  ·simp only [q0T.l0]
   exact cNeg (by simp) (cND (cND (cND (cPD (cCon _)))))
  ·simp only [q0E.f,show q3z.f 4 = some ⟨#[]⟩ from rfl,Option.bind_some]
   exact cPos tl0 (cPD (cCon _))
  ·simp only [wid];omega
 ·obtain rfl:=hb.resolve_left (by decide)
  refine q4L (v:=58) rfl (by decide) (by decide) _ .fin (q4r (by decide)) (cSuc ?_)
  simp only [q0T.l0]
  exact cNeg (by simp) (cND (cND (cND (cND (cPD (cCon _))))))
 ·obtain rfl:=hb.resolve_left (by decide)
  refine q4L (v:=126) rfl (by decide) (by decide) _ .bridge (q4r (by decide)) (cSuc ?_)
  simp only [q0T.l0]
  exact cNeg (by simp) (cND (cND (cND (cND (cND (cPD (cCon _)))))))
 ·have hu:=hn (by decide)
  obtain ⟨hw,hz⟩:=q4A hu
  have ht:Tk ⟨11,b,0,[]⟩ [sg 64,(1,b)]:=.mark b (q4N hu)
  refine ⟨[⟨#[64]⟩,b],[sg 64,(1,b)],q6u (cSuc ?_) (show (11:Int)≠7 by decide),cSuc ?_,.cons _ _ _ _ (q4r (by decide)) (Prs.one hw),fun _=>ht,.part _ _ (show (11:Int)≠5 by decide) ht,?_⟩
  ·simp only [q0T.l0]
   exact cNeg (by simp) (cND (cND (cND (cND (cND (cND (cPD (cCon _))))))))
  ·simp only [q0E.f,show q3z.f 11 = some ⟨#[]⟩ from rfl,Option.bind_some]
   exact cPos tl0 (cND (cPD (cCon _)))
  ·simp only [wid,z1];omega
/-- Lists put together out of three. -/
theorem q9e (p q s:List q0a) (h:p.length + q.length + s.length≤1048576):q1q (fun k=>q0o.f k [p,q,s]) (p++(q++s)):=by
 have:=q7k [p,q,s] (by simp) (by simp only [List.flatten_cons,List.flatten_nil,List.length_append,List.length_nil];omega)
 simpa using this
section
variable {n:S25} {m:Nat} {ws:List q0a} {ts:List Tok} (h:Wr n m ws ts) (hm:m≤260)
include h
theorem Wr.one {i:Nat} (hi:i < [n].length) (hi':i < [ws].length):q1q (fun k=>q1O.f k ([n][i]).f0 ([n][i]).f1 ([n][i]).f2 ([n][i]).f3) ([ws][i]):=by
 obtain rfl:i = 0:=by simpa using hi
 exact h.w
include hm
theorem Wr.few:ws.length≤7020:=by
 have:=h.z
 have:=q5x ws
 omega
theorem wr_opt:∃ ws' ts',Wr ⟨8,em,0,[n]⟩ (m + 1) ws' ts':=by
 have hf:=h.few hm
 have ht:Tk ⟨8,em,0,[n]⟩ (sg 91 :: (ts++[sg 93])):=.opt n ts h.b
 refine ⟨⟨#[91]⟩ :: (ws++[⟨#[93]⟩]),_,q6I (wss:=[ws]) (by simp) rfl (fun i=>h.one) (fun k=>absurd (show (8:Int) = 7 from k.1) (by decide)) (cSuc ?_),cSuc ?_,.cons _ _ _ _ (q4r (by decide)) (h.p.app (Prs.one (q4r (by decide)))),fun _=>ht,.part _ _ (show (8:Int)≠5 by decide) ht,?_⟩
 ·simp only [q0T.l0,show q2M [ws] 0 = ws from rfl]
  refine cNeg (by simp) (cND (cND (cND (cND (cND (cND (cND (cPD (cPos (by simp) (cBin (q9e _ _ _ ?_) (cCon _)))))))))))
  simp only [List.length_cons,List.length_nil];omega
 ·simp only [q0E.f,show q3z.f 8 = some ⟨#[]⟩ from rfl,Option.bind_some,show q0A [n] 0 = n from rfl]
  refine cPos tl0 (cND (cND (cND (cND (cND (cPD (cPos (by simp) (cBin h.r (cPos ?_ (cPos ?_ (cCon _)))))))))))
  ·simp only [List.length_cons,List.length_nil];omega
  ·simp only [List.length_append,List.length_cons,List.length_nil];omega
 ·have:=h.z
  simp only [wid,q4O,z1];omega
theorem wr_tag {b:q0a} (hu:q4i b):∃ ws' ts',Wr ⟨12,b,0,[n]⟩ (m + 1) ws' ts':=by
 have hf:=h.few hm
 obtain ⟨hw,hz⟩:=q4A hu
 have ht:Tk ⟨12,b,0,[n]⟩ ((1,b) :: sg 123 :: (ts++[sg 125])):=.tag b (q4N hu) n ts h.b
 refine ⟨b :: ⟨#[123]⟩ :: (ws++[⟨#[125]⟩]),_,q6I (wss:=[ws]) (by simp) rfl (fun i=>h.one) (fun k=>absurd (show (12:Int) = 7 from k.1) (by decide)) (cSuc ?_),cSuc ?_,.cons _ _ _ _ hw (.cons _ _ _ _ (q4r (by decide)) (h.p.app (Prs.one (q4r (by decide))))),fun _=>ht,.part _ _ (show (12:Int)≠5 by decide) ht,?_⟩
 ·simp only [q0T.l0,show q2M [ws] 0 = ws from rfl]
  refine cNeg (by simp) (cND (cND (cND (cND (cND (cND (cND (cND (cPD (cPos (by simp) (cBin (q9e _ _ _ ?_) (cCon _))))))))))))
  simp only [List.length_cons,List.length_nil];omega
 ·simp only [q0E.f,show q3z.f 12 = some ⟨#[]⟩ from rfl,Option.bind_some,show q0A [n] 0 = n from rfl]
  refine cPos tl0 (cND (cND (cND (cND (cND (cND (cPD (cPos (by simp) (cBin h.r (cPos ?_ (cPos ?_ (cCon _))))))))))))
  ·simp only [List.length_cons,List.length_nil];omega
  ·simp only [List.length_append,List.length_cons,List.length_nil];omega
 ·have:=h.z
  simp only [wid,q4O,z1];omega
theorem wr_pow {c:Int} (hc:0≤c∧c≤9):∃ ws' ts',Wr ⟨7,em,c,[n]⟩ (m + 1) ws' ts':=by
 have hf:=h.few hm
 have hd:=q6A hc
 have hg:=q7Q hc
 by_cases hk:n.f0 = 5∨n.f0 = 7
 ·have ht:Tk ⟨7,em,c,[n]⟩ (sg 40 :: (ts++[sg 41,sg 94,(2,dig c)])):=.powp n ts c (dig c) h.b (q8m hc)
  refine ⟨⟨#[40]⟩ :: (ws++[⟨#[41]⟩,⟨#[94]⟩,dig c]),_,q6I (wss:=[ws]) (by simp) rfl (fun i=>h.one) (fun k=>hk.elim k.2.1 k.2.2) (cSuc ?_),cSuc ?_,.cons _ _ _ _ (q4r (by decide)) (h.p.app (.cons _ _ _ _ (q4r (by decide)) (.cons _ _ _ _ (q4r (by decide)) (Prs.one (q9G hc))))),fun _=>ht,.part _ _ (show (7:Int)≠5 by decide) ht,?_⟩
  ·simp only [q0T.l0,show q2M [ws] 0 = ws from rfl,show q0A [n] 0 = n from rfl,Option.bind_some]
   have key:q1q (fun k=>(q0o.f k [[⟨#[40]⟩],ws,[⟨#[41]⟩]]).bind fun t=>(q1U.f k c).bind fun u=>if t.length + [(⟨#[94]⟩:q0a),u].length < 8796093022208 then some (t++[⟨#[94]⟩,u]) else none) (⟨#[40]⟩ :: (ws++[⟨#[41]⟩,⟨#[94]⟩,dig c])):=by
    refine cBin (q9e _ _ _ ?_) (cBin hd (cPos ?_ (cVal (by simp))))
    ·simp only [List.length_cons,List.length_nil];omega
    ·simp only [List.length_append,List.length_cons,List.length_nil];omega
   refine cNeg (by simp) (cND (cND (cND (cND (cND (cND (cND (cND (cND (cPD (cPos (by simp) (cPos (by simp) (cIte (fun _=>key) (fun h5=>cPos (hk.resolve_left h5) key))))))))))))))
  ·simp only [q0E.f,show q3z.f 7 = some ⟨#[]⟩ from rfl,Option.bind_some,show q0A [n] 0 = n from rfl,hg]
   have key:q1q (fun k=>if [(⟨#[40]⟩:q0a)].length + ws.length < 8796093022208 then (if ([(⟨#[40]⟩:q0a)]++ws).length + [(⟨#[41]⟩:q0a)].length < 8796093022208 then (if ([(⟨#[40]⟩:q0a)]++ws++[(⟨#[41]⟩:q0a)]).length + [(⟨#[94]⟩:q0a),dig c].length < 8796093022208 then some ([(⟨#[40]⟩:q0a)]++ws++[(⟨#[41]⟩:q0a)]++[(⟨#[94]⟩:q0a),dig c]) else none) else none) else none) (⟨#[40]⟩ :: (ws++[⟨#[41]⟩,⟨#[94]⟩,dig c])):=by
    refine cPos ?_ (cPos ?_ (cPos ?_ (cVal (by simp))))
    ·simp only [List.length_cons,List.length_nil];omega
    ·simp only [List.length_append,List.length_cons,List.length_nil];omega
    ·simp only [List.length_append,List.length_cons,List.length_nil];omega
   exact cPos tl0 (cND (cND (cND (cND (cPD (cPos (by simp) (cBin h.r (cIte (fun _=>key) (fun h5=>cPos (hk.resolve_left h5) key)))))))))
  ·have:=h.z
   simp only [wid,q4O,z1,dz];omega
 ·have h5:n.f0≠5:=fun k=>hk (.inl k)
  have h7:n.f0≠7:=fun k=>hk (.inr k)
  have ht:Tk ⟨7,em,c,[n]⟩ (ts++[sg 94,(2,dig c)]):=.pow n ts c (dig c) h5 h7 (h.t h5) (q8m hc)
  refine ⟨ws++[⟨#[94]⟩,dig c],_,write_P (wss:=[ws]) (by simp) rfl (fun i=>h.one) ⟨rfl,h5,h7⟩ (cSuc ?_),cSuc ?_,h.p.app (.cons _ _ _ _ (q4r (by decide)) (Prs.one (q9G hc))),fun _=>ht,.part _ _ (show (7:Int)≠5 by decide) ht,?_⟩
  ·simp only [q1V.l0,show q2M [ws] 0 = ws from rfl,show q0A [n] 0 = n from rfl,Option.bind_some]
   refine cNeg (by simp) (cND (cND (cND (cND (cND (cND (cND (cND (cND (cPD (cPos (by simp) (cPos (by simp) (cNeg h5 (cNeg h7 (cBin hd (cPos ?_ (cCon _)))))))))))))))))
   simp only [List.length_cons,List.length_nil];omega
  ·simp only [q0E.f,show q3z.f 7 = some ⟨#[]⟩ from rfl,Option.bind_some,show q0A [n] 0 = n from rfl,hg]
   refine cPos tl0 (cND (cND (cND (cND (cPD (cPos (by simp) (cBin h.r (cNeg h5 (cNeg h7 (cPos ?_ (cCon _)))))))))))
   simp only [List.length_cons,List.length_nil];omega
  ·have:=h.z
   simp only [wid,q4O,z1,dz];omega
end
theorem Wrs.tkS {l:List S25} {m:Nat} {wss:List (List q0a)} {tss:List (List Tok)} (h:Wrs l m wss tss):(∀ y,y ∈ l → y.f0≠5) → TkS l tss.flatten:=by
 induction h with
 | nil=>intro _;exact .nil
 | cons n ns m ms ws wss ts tss h r ih=>
  intro h5
  rw [List.flatten_cons]
  exact .cons _ _ _ _ (h5 n (by simp)) (h.t (h5 n (by simp))) (ih (fun y hy=>h5 y (List.mem_cons_of_mem _ hy)))
theorem Wrs.tkA {l:List S25} {m:Nat} {wss:List (List q0a)} {tss:List (List Tok)} (h:Wrs l m wss tss):TkA l (altt tss):=by
 induction h with
 | nil=>exact .nil
 | cons n ns m ms ws wss ts tss h r ih=>exact .cons _ _ _ _ h.b ih
theorem Wrs.prs {l:List S25} {m:Nat} {wss:List (List q0a)} {tss:List (List Tok)} (h:Wrs l m wss tss):Prs wss.flatten tss.flatten∧Prs (altw wss) (altt tss):=by
 induction h with
 | nil=>exact ⟨.nil,Prs.one (q4r (by decide))⟩
 | cons n ns m ms ws wss ts tss h r ih=>
  rw [List.flatten_cons,List.flatten_cons]
  exact ⟨h.p.app ih.1,.cons _ _ _ _ (q4r (by decide)) (h.p.app ih.2)⟩
theorem wr_seq {x:List S25} {m:Nat} {wss:List (List q0a)} {tss:List (List Tok)} (h:Wrs x m wss tss) (hm:m≤260) (hl:x.length≤1048576) (h1:x.length≠1) (h5:∀ y,y ∈ x → y.f0≠5):∃ ws ts,Wr ⟨5,em,0,x⟩ (m + 1) ws ts:=by
 have hw:=h.wide
 have hz:=q5x wss.flatten
 have hlen:=h.len
 refine ⟨wss.flatten,tss.flatten,q6I hl hlen (fun i a b=>(h.wr i a b).1) (fun k=>absurd (show (5:Int) = 7 from k.1) (by decide)) (cSuc ?_),cSuc ?_,h.prs.1,fun k=>absurd rfl k,.seq _ _ h1 (h.tkS h5),by omega⟩
 ·simp only [q0T.l0]
  exact cNO (cND (cND (cND (cND (cND (cND (cND (cND (cND (cND (cND (cBin (q7k wss (by omega) (by omega)) (cCon _)))))))))))))
 ·simp only [q0E.f,show q3z.f 5 = some ⟨#[]⟩ from rfl,Option.bind_some]
  refine cPos tl0 (cND (cND (cPD ?_)))
  have:=v1j hl hlen (fun i a b=>(h.wr i a b).2) 5 em 0 x.length 0 [] (by omega) (by rw [List.drop_zero,List.length_nil];omega)
  rwa [List.drop_zero,List.nil_append] at this
theorem wr_alt {n n2:S25} {x:List S25} {m:Nat} {wss:List (List q0a)} {tss:List (List Tok)} (h:Wrs (n :: n2 :: x) m wss tss) (hm:m≤260) (hl:(n :: n2 :: x).length≤1048576):∃ ws ts,Wr ⟨6,em,0,n :: n2 :: x⟩ (m + 1) ws ts:=by
 have hw:=h.wide
 have hlen:=h.len
 obtain ⟨ws,wss,ts,tss,rfl,rfl,m1,m2,hW,hR⟩:∃ ws wss' ts tss',wss = ws :: wss'∧tss = ts :: tss'∧∃ m1 m2,Wr n m1 ws ts∧Wrs (n2 :: x) m2 wss' tss':=by
  cases h with
  | cons _ _ m1 m2 ws wss ts tss h r=>exact ⟨_,_,_,_,rfl,rfl,_,_,h,r⟩
 have hwr:=h.wr
 have ht:Tk ⟨6,em,0,n :: n2 :: x⟩ (sg 40 :: (ts++altt tss)):=.alt n n2 x ts _ hW.b hR.tkA
 have haw:=v1X wss
 have haz:=q5x (altw wss)
 have hwz:=q5x ws
 rw [List.flatten_cons,q4O,List.length_cons] at hw
 have hd:(ws :: wss).drop 1 = wss:=rfl
 refine ⟨⟨#[40]⟩ :: (ws++altw wss),sg 40 :: (ts++altt tss),q6I hl hlen (fun i a b=>(hwr i a b).1) (fun k=>absurd (show (6:Int) = 7 from k.1) (by decide)) (cSuc ?_),cSuc ?_,.cons _ _ _ _ (q4r (by decide)) (hW.p.app hR.prs.2),fun _=>ht,.part _ _ (show (6:Int)≠5 by decide) ht,?_⟩
 ·simp only [q0T.l0]
  refine cNO (cND (cND (cND (cND (cND (cND (cND (cND (cND (cND (cPD (cSuc ?_))))))))))))
  have w1:wrap64 ((0:Int) + 1) = ((1:Nat):Int):=by unfold wrap64;omega
  simp only [q0T.l1,show q2M (ws :: wss) 0 = ws from rfl,w1]
  refine cPos (by rw [List.length_cons];omega) (cPO (cPos (by rw [List.length_cons];omega) (cNO (cPos ?_ ?_))))
  ·simp only [List.length_cons,List.length_nil];omega
  ·have:=v1y (ws :: wss) (by omega) wss.length 1 ([⟨#[40]⟩]++ws) (by omega) (by rw [List.length_cons];omega) (by rw [hd,List.length_append,List.length_singleton];omega)
   rw [hd] at this
   simpa only [List.append_assoc,List.cons_append,List.nil_append] using this
 ·simp only [q0E.f,show q3z.f 6 = some ⟨#[]⟩ from rfl,Option.bind_some]
  refine cPos tl0 (cND (cND (cND (cPD (cSuc ?_)))))
  have w1:wrap64 ((0:Int) + 1) = ((1:Nat):Int):=by unfold wrap64;omega
  simp only [q0E.l1,show q0A (n :: n2 :: x) 0 = n from rfl,w1,Option.bind_some]
  refine cPos (by rw [List.length_cons];omega) (cPos trivial (cPos (by simp) (cPO (cBin hW.r (cPos ?_ ?_)))))
  ·simp only [List.length_append,List.length_cons,List.length_nil];omega
  ·have:=v0Q hl hlen (fun i a b=>(hwr i a b).2) 6 em 0 (n2 :: x).length 1 ([]++[⟨#[40]⟩]++ws) (by omega) (by simp only [List.length_cons];omega) (by rw [hd];simp only [List.length_append,List.length_cons,List.length_nil];omega)
   rw [hd] at this
   simpa only [List.append_assoc,List.cons_append,List.nil_append] using this
 ·simp only [wid,q4O,z1];omega
/-- Every node without an error is written. -/
theorem v0p:∀ (n:S25),Vl n → ∀ (m:Nat) (ys:List q0a),CntN n m ys → m≤260 → ∃ ws ts,Wr n m ws ts
 | ⟨a,b,c,x⟩,hv,m,ys,hc,hm=>by
  cases hv with
  | mk _ _ _ _ hS hn hcc hl hk=>
  obtain ⟨m',zs,rfl,rfl,hcl⟩:=hc.inv
  obtain ⟨wss,tss,hW⟩:=wrs_of (fun y hy m1 y1 h1 h2=>v0p y (hk y hy) m1 y1 h1 h2) hcl (by omega)
  obtain ⟨⟨a1,a12⟩,hb,hc0,hT⟩:=v0L hS
  by_cases h5:a = 5
  ·subst h5
   obtain rfl:=hb.resolve_left (by decide)
   obtain rfl:=hc0.resolve_left (by decide)
   obtain ⟨k1,k5⟩:=shpT5 hT
   exact wr_seq hW (by omega) hl k1 k5
  by_cases h6:a = 6
  ·subst h6
   obtain rfl:=hb.resolve_left (by decide)
   obtain rfl:=hc0.resolve_left (by decide)
   obtain ⟨n,n2,ns,rfl⟩:=shpT6 hT
   exact wr_alt hW (by omega) hl
  by_cases h1:a = 7∨a = 8∨a = 12
  ·obtain ⟨y,rfl⟩:=shpT1 hT h1
   obtain ⟨mw,ws,ts,hw,e⟩:∃ mw ws ts,Wr y mw ws ts∧mw = m':=by
    cases hW with
    | cons _ _ m1 m2 ws wss ts tss h r=>
     cases r
     exact ⟨_,_,_,h,rfl⟩
   subst e
   rcases h1 with rfl | rfl | rfl
   ·obtain rfl:=hb.resolve_left (by decide)
    exact wr_pow hw (by omega) hcc
   ·obtain rfl:=hb.resolve_left (by decide)
    obtain rfl:=hc0.resolve_left (by decide)
    exact wr_opt hw (by omega)
   ·obtain rfl:=hc0.resolve_left (by decide)
    exact wr_tag hw (by omega) (hn (by decide))
  ·obtain rfl:=shpT0 hT h5 h6 (fun k=>h1 (.inl k)) (fun k=>h1 (.inr (.inl k))) (fun k=>h1 (.inr (.inr k)))
   obtain ⟨rfl,rfl⟩:=hcl.nil_inv
   exact wr_leaf hS hn (by omega)
 termination_by n=>SizeOf.sizeOf n
 decreasing_by
  have:=List.sizeOf_lt_of_mem hy
  simp only [S25.mk.sizeOf_spec]
  omega
end
section
theorem at_of {l:List S36} {ts:List Tok} (h:l.map (fun t=>(t.f0,t.f1)) = ts):At l 0 ts:=by
 subst h
 refine ⟨by simp,fun j hj h'=>?_⟩
 rw [List.getElem_map]
 simp only [Nat.zero_add]
 exact ⟨trivial,trivial⟩
theorem Prs.len {a:List q0a} {s:List Tok} (h:Prs a s):s.length = a.length:=by
 induction h with
 | nil=>rfl
 | cons u t us ts h r ih=>rw [List.length_cons,List.length_cons,ih]
end
section
theorem join_f (ws:List q0a) (h:wid ws≤100000):q3W.f ws (⟨#[32]⟩:q0a) = some (jn ws):=by
 have e:Lib.join (ws.map (·.data.toList)) (⟨#[32]⟩:q0a).data.toList = (jn ws).data.toList:=by
  cases ws with
  | nil=>rfl
  | cons u us=>
   rw [List.map_cons,Lib.join_cons]
   simp only [jn,ByteArray.data_append,Array.toList_append,q8p]
 have h1:=q5x ws
 have h2:=q5O ws
 have h3:(jn ws).data.toList.length = (jn ws).size:=by rw [Array.length_toList];rfl
 unfold q3W.f
 rw [e,if_pos ⟨by omega,by omega⟩]
theorem q8Z (ws:List q0a) (h:wid ws≤100000):q1q (fun k=>q1S.f k ws) (jn ws):=by
 have hz:=q5x ws
 have one32:(⟨#[32]⟩:q0a).size = 1:=rfl
 have loop:∀ (d i:Nat) (out:q0a),1≤i → i + d = ws.length → out.size + wid (ws.drop i)≤100000 → q1q (fun k=>q1S.l0 k ws out ((i:Nat):Int)) (out++tls (ws.drop i)):=by
  intro d
  induction d with
  | zero=>
   intro i out h1 hi _
   rw [List.drop_eq_nil_of_le (by omega)]
   apply cSuc
   simp only [q1S.l0]
   exact cNO (cVal (app_em _).symm)
  | succ d IH=>
   intro i out h1 hi hs
   have hlt:i < ws.length:=by omega
   rw [List.drop_eq_getElem_cons hlt] at hs ⊢
   simp only [wid] at hs
   apply cSuc
   simp only [q1S.l0,q6J hlt,q2f (show i≤1048576 by omega)]
   refine cPO (cPO (cPO (cPO (cPos (by rw [ByteArray.size_append,one32];omega) ?_))))
   have:=IH (i + 1) ((out++(⟨#[32]⟩:q0a))++ws[i]) (by omega) (by omega) (by rw [ByteArray.size_append,ByteArray.size_append,one32];omega)
   simp only [tls]
   rw [ByteArray.append_assoc,ByteArray.append_assoc,ByteArray.append_assoc] at *
   exact this
 unfold q1S.f
 apply cSuc
 simp only [q1S.l0]
 cases ws with
 | nil=>exact cNeg (by simp) (cCon _)
 | cons u us=>
  have hu:rdOf ByteArray.empty (u :: us) (0:Int) = u:=rfl
  have w1:wrap64 ((0:Int) + 1) = ((1:Nat):Int):=by unfold wrap64;omega
  have e0:(⟨#[]⟩:q0a).size = 0:=rfl
  simp only [wid] at h
  rw [hu,w1]
  refine cPos (by rw [List.length_cons];omega) (cNO (cPO (cPos (by rw [e0];omega) ?_)))
  have:=loop us.length 1 (em++u) (by omega) (by rw [List.length_cons];omega) (by rw [q9t];show u.size + wid us≤_;omega)
  rw [q9t] at this
  show q1q (fun k=>q1S.l0 k (u :: us) (em++u) ((1:Nat):Int)) _
  rw [q9t]
  exact this
theorem v1g (n:S25) (hs:Small n) {m:Nat} {ys:List q0a} (hc:CntN n m ys) (hm:m≤1048576):(∃ e:Int,e≠0∧q1q (fun k=>q2V.f k n.f0 n.f1 n.f2 n.f3) e∧q1q (fun k=>q3p.f k n.f0 n.f1 n.f2 n.f3) e)∨
  (Vl n∧m≤200∧q1q (fun k=>q2V.f k n.f0 n.f1 n.f2 n.f3) 0∧q1q (fun k=>q3p.f k n.f0 n.f1 n.f2 n.f3) 0):=by
 obtain ⟨e,h1,h2⟩:=q5X n hs 1
 have s0:=q5s m n m ys (q0f _) hc (by omega)
 obtain ⟨v,s1,s2⟩:=q5K n hs
 obtain rfl:=s1.same s0
 unfold q2V.f q3p.f
 by_cases he:e = 0
 ·subst he
  by_cases hv:m≤200
  ·exact .inr ⟨q8G n hs 1 h1,hv,cBin h1 (cPos rfl (cBin s1 (cNO (cCon _)))),cBin h2 (cPos rfl (cBin s2 (cNO (cCon _))))⟩
  ·exact .inl ⟨3,by decide,cBin h1 (cPos rfl (cBin s1 (cPO (cCon _)))),cBin h2 (cPos rfl (cBin s2 (cPO (cCon _))))⟩
 ·exact .inl ⟨e,he,cBin h1 (cNeg he (cCon _)),cBin h2 (cNeg he (cCon _))⟩
end
section
/-- How many nodes feet hold. -/
inductive CntF:List S86 → Nat → Prop
 | nil:CntF [] 0
 | cons (f:S86) (fs:List S86) (m n:Nat) (ys:List q0a) (h:CntN f.f1 m ys) (r:CntF fs n):CntF (f :: fs) (m + n)
theorem CntF.get {fs:List S86} {n:Nat} (h:CntF fs n):∀ i (hi:i < fs.length),∃ m ys,CntN fs[i].f1 m ys∧m≤n:=by
 induction h with
 | nil=>intro i hi;exact absurd hi (by simp)
 | cons f fs m n ys h r ih=>
  intro i hi
  cases i with
  | zero=>exact ⟨m,ys,h,by omega⟩
  | succ i=>
   obtain ⟨m',ys',h1,h2⟩:=ih i (by simpa using hi)
   exact ⟨m',ys',h1,by omega⟩
/-- A foot without an error. -/
def FtOk (f:S86):Prop:=q4i f.f0∧Vl f.f1
def CtOk (c:S88):Prop:=q4i c.f0∧0≤c.f1∧c.f1≤c.f2∧c.f2≤6
def SmOk (l:List q0a):Prop:=l≠[]∧l.length≤6∧∀ x,x ∈ l → q4i x
theorem q4D {b:q0a} (h : ¬ q4i b):q1q (fun k=>q1N.f k b) false∧q1q (fun k=>q2W.f k b) false:=by
 obtain ⟨r,h1,h2⟩:=q5B b
 cases r with
 | true=>exact absurd h1 h
 | false=>exact ⟨h1,h2⟩
theorem q6f {b:q0a} (h:q4i b):q1q (fun k=>q2W.f k b) true:=by
 obtain ⟨r,h1,h2⟩:=q5B b
 obtain rfl:=h1.same h
 exact h2
theorem q6K (l:List q0a) (hl:l.length≤1048576):∀ (d i:Nat),i + d = l.length → ∃ q:Int,q1q (fun k=>q0C.l0 k l (l.length:Int) ((i:Nat):Int)) q∧(q≥0∨(q = -1∧∀ j (h:j < l.length),i≤j → q4i l[j]))∧(q≥0 → ∃ j,∃ h:j < l.length,¬ q4i l[j]):=by
 intro d
 induction d with
 | zero=>
  intro i hi
  refine ⟨-1,cSuc ?_,.inr ⟨rfl,fun j h hij=>by omega⟩,fun k=>absurd k (by decide)⟩
  simp only [q0C.l0]
  exact cNO (cCon _)
 | succ d IH=>
  intro i hi
  have h:i < l.length:=by omega
  by_cases hu:q4i l[i]
  ·obtain ⟨q,hq,hc,hx⟩:=IH (i + 1) (by omega)
   refine ⟨q,cSuc ?_,hc.imp id (fun k=>⟨k.1,fun j hj hij=>?_⟩),hx⟩
   ·simp only [q0C.l0,q3C.f,q6J h,q2f (show i≤1048576 by omega)]
    exact cPO (cPO (cPO (cBin (cBin hu (cCon _)) (cND hq))))
   ·rcases q3H hij with rfl | k'
    ·exact hu
    ·exact k.2 j hj k'
  ·refine ⟨(i:Int),cSuc ?_,.inl (by omega),fun _=>⟨i,h,hu⟩⟩
   simp only [q0C.l0,q3C.f,q6J h]
   exact cPO (cPO (cPO (cBin (cBin (q4D hu).1 (cCon _)) (cPos rfl (cCon _)))))
section
variable (a0:q0a) (l1:List S86) (l2:List S88) (l3:List (List q0a)) (a4:Int) (a5:q0a) (a6:Int) (l7:List S25)
/-- What a metre without an error is. -/
structure VM:Prop where
 nm:q1q (fun k=>q2v.f k a0) true
 ft:∀ x,x ∈ l1 → FtOk x
 ct:∀ x,x ∈ l2 → CtOk x
 sm:∀ x,x ∈ l3 → SmOk x
 ln:Vl ⟨a4,a5,a6,l7⟩
variable {l1 l2 l3 a4 a5 a6 l7} {n m:Nat} {ys:List q0a} (hF:CntF l1 n) (hL:CntN ⟨a4,a5,a6,l7⟩ m ys) (hz:n + m≤260) (z1:l1.length≤25) (z2:l2.length≤6) (z3:l3.length≤6) (z4:∀ x,x ∈ l3 → x.length≤10)
include hL hz z3 z4
theorem v2k (q:Int):∀ (d i:Nat),i + d = l3.length → ∃ e,q1q (fun k=>q0D.l2 k q l3 (l3.length:Int) ((i:Nat):Int) a0 l1 l2 l3 a4 a5 a6 l7) e∧q1q (fun k=>q0t.l2 k q ((i:Nat):Int) a0 l1 l2 l3 a4 a5 a6 l7) e∧(e = 0 → (∀ j (h:j < l3.length),i≤j → SmOk l3[j])∧Vl ⟨a4,a5,a6,l7⟩):=by
 have hsm:=q5M m _ m ys (q0f _) hL (by omega)
 intro d
 induction d with
 | zero=>
  intro i hi
  rcases v1g _ hsm hL (by omega) with ⟨e,he,b1,b2⟩ | ⟨hv,h2,b1,b2⟩
  ·refine ⟨e,cSuc ?_,cSuc ?_,fun k=>absurd k he⟩
   ·simp only [q0D.l2];exact cNO (cBin b1 (cNeg he (cCon _)))
   ·simp only [q0t.l2];exact cNO (cBin b2 (cNeg he (cCon _)))
  ·obtain ⟨v,s1,s2⟩:=q5K _ hsm
   by_cases hv2:wrap64 (q + v) > 200
   ·refine ⟨3,cSuc ?_,cSuc ?_,fun k=>absurd k (by decide)⟩
    ·simp only [q0D.l2];exact cNO (cBin b1 (cPos rfl (cBin s1 (cPos hv2 (cCon _)))))
    ·simp only [q0t.l2];exact cNO (cBin b2 (cPos rfl (cBin s2 (cPos hv2 (cCon _)))))
   ·refine ⟨0,cSuc ?_,cSuc ?_,fun _=>⟨fun j h hij=>by omega,hv⟩⟩
    ·simp only [q0D.l2];exact cNO (cBin b1 (cPos rfl (cBin s1 (cNeg hv2 (cCon _)))))
    ·simp only [q0t.l2];exact cNO (cBin b2 (cPos rfl (cBin s2 (cNeg hv2 (cCon _)))))
 | succ d IH=>
  intro i hi
  have h:i < l3.length:=by omega
  have h10:=z4 _ (List.getElem_mem h)
  by_cases h0:l3[i].length = 0
  ·refine ⟨7,cSuc ?_,cSuc ?_,fun k=>absurd k (by decide)⟩
   ·simp only [q0D.l2,rdl7 h];exact cPO (cPO (cPO (cPO (cCon _))))
   ·simp only [q0t.l2,rdl7 h];exact cPO (cPO (cPO (cCon _)))
  by_cases h6:l3[i].length > 6
  ·refine ⟨3,cSuc ?_,cSuc ?_,fun k=>absurd k (by decide)⟩
   ·simp only [q0D.l2,rdl7 h];exact cPO (cPO (cPO (cNO (cPO (cCon _)))))
   ·simp only [q0t.l2,rdl7 h];exact cPO (cPO (cNO (cPO (cCon _))))
  obtain ⟨c,hc,hcc,hcx⟩:=q6K l3[i] (by omega) l3[i].length 0 (by omega)
  have hcf:q1q (fun k=>q1k.f k l3[i] ()) (decide (c≥0)):=by
   unfold q1k.f q0C.f
   exact cBin hc (cCon _)
  obtain ⟨e,e1,e2,e3⟩:=IH (i + 1) (by omega)
  have inner:∀ (d2 j:Nat),j + d2 = l3[i].length → (∀ p (hp:p < l3[i].length),p < j → q4i l3[i][p]) → q1q (fun k=>q0t.l3 k q ((i:Nat):Int) ((j:Nat):Int) a0 l1 l2 l3 a4 a5 a6 l7) (if c≥0 then 2 else e):=by
   intro d2
   induction d2 with
   | zero=>
    intro j hj hall
    have hneg : ¬ c≥0:=fun k=>by
     obtain ⟨p,hp,hpu⟩:=hcx k
     exact hpu (hall p hp (by omega))
    rw [if_neg hneg]
    apply cSuc
    simp only [q0t.l3,rdl7 h,q2f (show i≤1048576 by omega)]
    exact cPO (cPO (cNO e2))
   | succ d2 IH2=>
    intro j hj hall
    have hj2:j < l3[i].length:=by omega
    apply cSuc
    simp only [q0t.l3,rdl7 h,q6J hj2,q2f (show j≤1048576 by omega)]
    refine cPO (cPO (cPO (cPO ?_)))
    by_cases hu:q4i l3[i][j]
    ·refine cBin (q6f hu) (cPos rfl (IH2 (j + 1) (by omega) (fun p hp hpj=>?_)))
     rcases Nat.lt_or_ge p j with k | k
     ·exact hall p hp k
     ·obtain rfl:p = j:=by omega
      exact hu
    ·have hpos:c≥0:=by
      rcases hcc with k | ⟨_,k⟩
      ·exact k
      ·exact absurd (k j hj2 (q2c _)) hu
     rw [if_pos hpos]
     exact cBin (q4D hu).2 (cND (cCon _))
  have r3:=inner l3[i].length 0 (by omega) (fun p hp k=>absurd k (Nat.not_lt_zero _))
  refine ⟨if c≥0 then 2 else e,cSuc ?_,cSuc ?_,fun k=>?_⟩
  ·simp only [q0D.l2,rdl7 h,q2f (show i≤1048576 by omega)]
   refine cPO (cPO (cPO (cNO (cNO (cBin hcf ?_)))))
   by_cases hc0:c≥0
   ·rw [if_pos hc0];exact cPos (q0w hc0) (cCon _)
   ·rw [if_neg hc0];exact cNeg (by rw [decide_eq_false hc0];decide) e1
  ·simp only [q0t.l2,rdl7 h]
   exact cPO (cPO (cNO (cNO r3)))
  ·by_cases hc0:c≥0
   ·rw [if_pos hc0] at k;exact absurd k (by decide)
   ·rw [if_neg hc0] at k
    obtain ⟨k1,k2⟩:=e3 k
    refine ⟨fun j hj hij=>?_,k2⟩
    rcases q3H hij with rfl | hij'
    ·rcases hcc with k' | ⟨_,k'⟩
     ·exact absurd k' hc0
     ·refine ⟨fun e0=>h0 (by rw [e0];rfl),by omega,fun x hx=>?_⟩
      obtain ⟨p,hp,rfl⟩:=List.getElem_of_mem hx
      exact k' p hp (q2c _)
    ·exact k1 j hj hij'
include z2
theorem v1U (q:Int):∀ (d i:Nat),i + d = l2.length → ∃ e,q1q (fun k=>q0D.l1 k q l2 (l2.length:Int) ((i:Nat):Int) a0 l1 l2 l3 a4 a5 a6 l7) e∧q1q (fun k=>q0t.l1 k q ((i:Nat):Int) a0 l1 l2 l3 a4 a5 a6 l7) e∧(e = 0 → (∀ j (h:j < l2.length),i≤j → CtOk l2[j])∧(∀ j (h:j < l3.length),SmOk l3[j])∧Vl ⟨a4,a5,a6,l7⟩):=by
 intro d
 induction d with
 | zero=>
  intro i hi
  obtain ⟨e,e1,e2,e3⟩:=v2k a0 (l1:=l1) (l2:=l2) hL hz z3 z4 q l3.length 0 (by omega)
  refine ⟨e,cSuc ?_,cSuc ?_,fun k=>⟨fun j h hij=>by omega,fun j h=>(e3 k).1 j h (q2c _),(e3 k).2⟩⟩
  ·simp only [q0D.l1];exact cNO e1
  ·simp only [q0t.l1];exact cNO e2
 | succ d IH=>
  intro i hi
  have h:i < l2.length:=by omega
  by_cases hu:q4i l2[i].f0
  case neg=>
   refine ⟨2,cSuc ?_,cSuc ?_,fun k=>absurd k (by decide)⟩
   ·simp only [q0D.l1,rd88 h];exact cPO (cPO (cPO (cBin (q4D hu).1 (cND (cCon _)))))
   ·simp only [q0t.l1,rd88 h];exact cPO (cPO (cBin (q4D hu).2 (cND (cCon _))))
  have ht:=q6f hu
  by_cases hr:l2[i].f1 < 0∨l2[i].f2 < l2[i].f1∨6 < l2[i].f2
  ·refine ⟨6,cSuc ?_,cSuc ?_,fun k=>absurd k (by decide)⟩
   ·simp only [q0D.l1,rd88 h]
    exact cPO (cPO (cPO (cBin hu (cPos rfl (cIte (fun _=>cCon _) (fun k1=>cIte (fun _=>cCon _) (fun k2=>cPO (cCon _))))))))
   ·simp only [q0t.l1,rd88 h]
    exact cPO (cPO (cBin ht (cPos rfl (cIte (fun _=>cCon _) (fun k1=>cIte (fun _=>cCon _) (fun k2=>cPO (cCon _)))))))
  ·obtain ⟨e,e1,e2,e3⟩:=IH (i + 1) (by omega)
   refine ⟨e,cSuc ?_,cSuc ?_,fun k=>?_⟩
   ·simp only [q0D.l1,rd88 h,q2f (show i≤1048576 by omega)]
    exact cPO (cPO (cPO (cBin hu (cPos rfl (cNO (cNO (cNO e1)))))))
   ·simp only [q0t.l1,rd88 h,q2f (show i≤1048576 by omega)]
    exact cPO (cPO (cBin ht (cPos rfl (cNO (cNO (cNO e2))))))
   ·obtain ⟨k1,k2⟩:=e3 k
    refine ⟨fun j hj hij=>?_,k2⟩
    rcases q3H hij with rfl | hij'
    ·exact ⟨hu,by omega,by omega,by omega⟩
    ·exact k1 j hj hij'
include z1 hF
theorem v1W:∀ (d i:Nat) (q:Int),i + d = l1.length → ∃ e,q1q (fun k=>q0D.l0 k q l1 (l1.length:Int) ((i:Nat):Int) a0 l1 l2 l3 a4 a5 a6 l7) e∧q1q (fun k=>q0t.l0 k q ((i:Nat):Int) a0 l1 l2 l3 a4 a5 a6 l7) e∧(e = 0 → (∀ j (h:j < l1.length),i≤j → FtOk l1[j])∧(∀ j (h:j < l2.length),CtOk l2[j])∧(∀ j (h:j < l3.length),SmOk l3[j])∧Vl ⟨a4,a5,a6,l7⟩):=by
 intro d
 induction d with
 | zero=>
  intro i q hi
  obtain ⟨e,e1,e2,e3⟩:=v1U a0 (l1:=l1) hL hz z2 z3 z4 q l2.length 0 (by omega)
  refine ⟨e,cSuc ?_,cSuc ?_,fun k=>⟨fun j h hij=>by omega,fun j h=>(e3 k).1 j h (q2c _),(e3 k).2⟩⟩
  ·simp only [q0D.l0];exact cNO e1
  ·simp only [q0t.l0];exact cNO e2
 | succ d IH=>
  intro i q hi
  have h:i < l1.length:=by omega
  obtain ⟨mi,yi,hci,hmi⟩:=hF.get i h
  have hsm:=q5M mi _ mi yi (q0f _) hci (by omega)
  by_cases hu:q4i l1[i].f0
  case neg=>
   refine ⟨2,cSuc ?_,cSuc ?_,fun k=>absurd k (by decide)⟩
   ·simp only [q0D.l0,rd86 h];exact cPO (cPO (cPO (cBin (q4D hu).1 (cND (cCon _)))))
   ·simp only [q0t.l0,rd86 h];exact cPO (cPO (cBin (q4D hu).2 (cND (cCon _))))
  have ht:=q6f hu
  rcases v1g _ hsm hci (by omega) with ⟨e,he,b1,b2⟩ | ⟨hv,h2,b1,b2⟩
  ·refine ⟨e,cSuc ?_,cSuc ?_,fun k=>absurd k he⟩
   ·simp only [q0D.l0,rd86 h];exact cPO (cPO (cPO (cBin hu (cPos rfl (cBin b1 (cNeg he (cCon _)))))))
   ·simp only [q0t.l0,rd86 h];exact cPO (cPO (cBin ht (cPos rfl (cBin b2 (cNeg he (cCon _))))))
  ·obtain ⟨v,s1,s2⟩:=q5K _ hsm
   obtain ⟨e,e1,e2,e3⟩:=IH (i + 1) (wrap64 (q + v)) (by omega)
   refine ⟨e,cSuc ?_,cSuc ?_,fun k=>?_⟩
   ·simp only [q0D.l0,rd86 h,q2f (show i≤1048576 by omega)]
    exact cPO (cPO (cPO (cBin hu (cPos rfl (cBin b1 (cPos rfl (cBin s1 e1)))))))
   ·simp only [q0t.l0,rd86 h,q2f (show i≤1048576 by omega)]
    exact cPO (cPO (cBin ht (cPos rfl (cBin b2 (cPos rfl (cBin s2 e2))))))
   ·obtain ⟨k1,k2⟩:=e3 k
    refine ⟨fun j hj hij=>?_,k2⟩
    rcases q3H hij with rfl | hij'
    ·exact ⟨hu,hv⟩
    ·exact k1 j hj hij'
/-- Both come to the same error; without one the metre is right. -/
theorem q9X:∃ e,q1q (fun k=>q0D.f k a0 l1 l2 l3 a4 a5 a6 l7) e∧q1q (fun k=>q0t.f k a0 l1 l2 l3 a4 a5 a6 l7) e∧(e = 0 → VM a0 l1 l2 l3 a4 a5 a6 l7):=by
 obtain ⟨r,n1,n2⟩:=q6g a0
 obtain ⟨e,e1,e2,e3⟩:=v1W a0 hF hL hz z1 z2 z3 z4 l1.length 0 0 (by omega)
 cases r with
 | false=>
  refine ⟨2,?_,?_,fun k=>absurd k (by decide)⟩
  ·unfold q0D.f;exact cBin n1 (cND (cCon _))
  ·unfold q0t.f;exact cBin n2 (cND (cCon _))
 | true=>
  have jt:q1q (fun k=>q0D.j0 k true a0 l1 l2 l3 a4 a5 a6 l7) 3:=cSuc (by simp only [q0D.j0];exact cPos trivial (cCon _))
  have rt:q1q (fun k=>q0t.j0 k true a0 l1 l2 l3 a4 a5 a6 l7) 3:=cSuc (by simp only [q0t.j0];exact cPos trivial (cCon _))
  by_cases hb:l1.length > 20∨l2.length > 3∨l3.length > 3
  ·refine ⟨3,?_,?_,fun k=>absurd k (by decide)⟩
   ·unfold q0D.f
    refine cBin n1 (cPos rfl (cIte (fun _=>jt) (fun k1=>cIte (fun _=>jt) (fun k2=>?_))))
    rw [decide_eq_true (show (l3.length:Int) > 3 by omega)];exact jt
   ·unfold q0t.f
    refine cBin n2 (cPos rfl (cIte (fun _=>rt) (fun k1=>cIte (fun _=>rt) (fun k2=>?_))))
    rw [decide_eq_true (show (l3.length:Int) > 3 by omega)];exact rt
  ·refine ⟨e,?_,?_,fun k=>?_⟩
   ·unfold q0D.f
    refine cBin n1 (cPos rfl (cNO (cNO ?_)))
    rw [decide_eq_false (show ¬ (l3.length:Int) > 3 by omega)]
    apply cSuc
    simp only [q0D.j0]
    exact cND e1
   ·unfold q0t.f
    refine cBin n2 (cPos rfl (cNO (cNO ?_)))
    rw [decide_eq_false (show ¬ (l3.length:Int) > 3 by omega)]
    apply cSuc
    simp only [q0t.j0]
    exact cND e2
   ·obtain ⟨k1,k2,k3,k4⟩:=e3 k
    refine ⟨n1,fun x hx=>?_,fun x hx=>?_,fun x hx=>?_,k4⟩
    ·obtain ⟨j,hj,rfl⟩:=List.getElem_of_mem hx;exact k1 j hj (q2c _)
    ·obtain ⟨j,hj,rfl⟩:=List.getElem_of_mem hx;exact k2 j hj
    ·obtain ⟨j,hj,rfl⟩:=List.getElem_of_mem hx;exact k3 j hj
end
end
section
def q5A:q0a:=⟨#[102,111,111,116]⟩
def q6p:q0a:=⟨#[99,111,117,110,116]⟩
def q8a:q0a:=⟨#[115,111,109,101]⟩
def q4x:q0a:=⟨#[108,105,110,101]⟩
/-- The lines of items. -/
def itms:List (List q0a) → q0a
 | []=>em
 | ws :: wss=>itm (jn ws)++itms wss
def wd:List (List q0a) → Nat
 | []=>0
 | ws :: wss=>wid ws + 5 + wd wss
theorem wd_app (a b:List (List q0a)):wd (a++b) = wd a + wd b:=by
 induction a with
 | nil=>simp [wd]
 | cons u us ih=>simp only [List.cons_append,wd,ih];omega
theorem v0X (wss:List (List q0a)):(itms wss).size≤wd wss:=by
 induction wss with
 | nil=>exact q0f _
 | cons ws wss ih=>
  have:=q5O ws
  simp only [itms,wd,ByteArray.size_append,q4B]
  omega
theorem q5S {o:q0a} {ws:List q0a} {K:Nat → q0a → Option (q0a × Int)} {r} (hw:wid ws≤100000) (ho:o.size≤1000000) (h:q1q (fun k=>K k (o++itm (jn ws))) r):q1q (fun k=>put1 o ws (K k)) r:=by
 have:=q5O ws
 simp only [put1,join_f ws hw,Option.bind_some]
 exact cPO h
theorem q5W {ws:List q0a} (hw:wid ws≤100000):q1q (fun k=>q3o.f k ws) (itm (jn ws)):=by
 have:=q5O ws
 have e2:(⟨#[32,32]⟩:q0a).size = 2:=rfl
 unfold q3o.f
 exact cBin (q8Z ws hw) (cPO (cPos (by rw [ByteArray.size_append,e2];omega) (cCon _)))
theorem q6o (o:q0a) (ws:List q0a) (wss:List (List q0a)) (z:q0a):(o++itm (jn ws))++(itms wss++z) = o++(itms (ws :: wss)++z):=by
 simp only [itms,ByteArray.append_assoc]
def wEnd:q0a:=⟨#[125,10]⟩
def smw (l:List q0a):List q0a:=[q8a]++l
def ctw (c:S88):List q0a:=[q6p,c.f0,dig c.f1,dig c.f2]
/-- The words of feet. -/
inductive FW:List S86 → Nat → List (List q0a) → List (List Tok) → Prop
 | nil:FW [] 0 [] []
 | cons (f:S86) (fs:List S86) (m n:Nat) (ws:List q0a) (ts:List Tok) (wss:List (List q0a)) (tss:List (List Tok)) (hu:q4i f.f0) (h:Wr f.f1 m ws ts) (r:FW fs n wss tss) :
   FW (f :: fs) (m + n) (([q5A,f.f0,⟨#[61]⟩]++ws) :: wss) (((1,q5A) :: (1,f.f0) :: sg 61 :: ts) :: tss)
theorem FW.wide {fs:List S86} {n:Nat} {wss:List (List q0a)} {tss:List (List Tok)} (h:FW fs n wss tss):wd wss≤27 * n + 40 * fs.length:=by
 induction h with
 | nil=>exact q2c _
 | cons f fs m n ws ts wss tss hu h r ih=>
  have z1:=(q4A hu).2
  have z2:=h.z
  have e1:q5A.size = 4:=rfl
  have e2:(⟨#[61]⟩:q0a).size = 1:=rfl
  simp only [wd,q4O,wid,List.length_cons,e1,e2]
  omega
theorem fw_of:∀ {fs:List S86} {n:Nat},CntF fs n → n≤260 → (∀ x,x ∈ fs → FtOk x) → ∃ wss tss,FW fs n wss tss:=by
 intro fs n h
 induction h with
 | nil=>exact fun _ _=>⟨_,_,.nil⟩
 | cons f fs m n ys h r ih=>
  intro hn hk
  obtain ⟨h1,h2⟩:=hk f (by simp)
  obtain ⟨ws,ts,hw⟩:=v0p _ h2 m ys h (by omega)
  obtain ⟨wss,tss,hs⟩:=ih (by omega) (fun x hx=>hk x (List.mem_cons_of_mem _ hx))
  exact ⟨_,_,.cons _ _ _ _ _ _ _ _ h1 hw hs⟩
theorem q9x {l:List q0a} (h:SmOk l):wid (smw l)≤5 + 21 * l.length:=by
 obtain ⟨_,_,hu⟩:=h
 have e:q8a.size = 4:=rfl
 have key:∀ l:List q0a,(∀ x,x ∈ l → q4i x) → wid l≤21 * l.length:=by
  intro l
  induction l with
  | nil=>intro _;exact q0f _
  | cons u us ih=>
   intro h
   have z1:=(q4A (h u (by simp))).2
   have:=ih (fun x hx=>h x (List.mem_cons_of_mem _ hx))
   simp only [wid,List.length_cons]
   omega
 have:=key l hu
 simp only [smw,q4O,wid,e]
 omega
theorem q9u {c:S88} (h:CtOk c):wid (ctw c)≤31:=by
 have z1:=(q4A h.1).2
 have e:q6p.size = 5:=rfl
 simp only [ctw,wid,dz,e]
 omega
theorem v2V {α:Type} (f:α → List q0a) (q:Nat) (l:List α) (h:∀ x,x ∈ l → wid (f x)≤q):wd (l.map f)≤(q + 5) * l.length:=by
 induction l with
 | nil=>exact q2c _
 | cons x l ih=>
  have h1:=h x (by simp)
  have h2:=ih (fun y hy=>h y (List.mem_cons_of_mem _ hy))
  simp only [List.map_cons,wd,List.length_cons,Nat.mul_succ]
  omega
section
variable (a0:q0a) {l1:List S86} {l2:List S88} {l3:List (List q0a)} {a4:Int} {a5:q0a} {a6:Int} {l7:List S25} (h3:∀ x,x ∈ l3 → SmOk x) (z3:l3.length≤6)
include h3 z3
theorem fmt_l2:∀ (d i:Nat) (o:q0a),i + d = l3.length → o.size + wd ((l3.drop i).map smw)≤100000 →
  q1q (fun k=>q0R.l2 k o ((i:Nat):Int) l1 l2 l3 a4 a5 a6 l7) (o++(itms ((l3.drop i).map smw)++wEnd),0)∧q1q (fun k=>q1a.l2 k o ((i:Nat):Int) a0 l1 l2 l3 a4 a5 a6 l7) (o++(itms ((l3.drop i).map smw)++wEnd),0):=by
 intro d
 induction d with
 | zero=>
  intro i o hi hs
  rw [List.drop_eq_nil_of_le (by omega)]
  have e:o++(itms (([]:List (List q0a)).map smw)++wEnd) = o++(⟨#[125,10]⟩:q0a):=by
   rw [List.map_nil,show itms [] = em from rfl,q9t];rfl
  rw [e]
  refine ⟨cSuc ?_,cSuc ?_⟩
  ·simp only [q0R.l2];exact cNO (cPO (cCon _))
  ·simp only [q1a.l2];exact cNO (cPO (cCon _))
 | succ d IH=>
  intro i o hi hs
  have h:i < l3.length:=by omega
  have hk:=h3 _ (List.getElem_mem h)
  have hl:=hk.2.1
  have hw:=q9x hk
  rw [List.drop_eq_getElem_cons h,List.map_cons] at hs ⊢
  simp only [wd] at hs
  have hj:=q5O (smw l3[i])
  obtain ⟨i1,i2⟩:=IH (i + 1) (o++itm (jn (smw l3[i]))) (by omega) (by rw [ByteArray.size_append,q4B];omega)
  rw [q6o] at i1 i2
  refine ⟨cSuc ?_,cSuc ?_⟩
  ·simp only [q0R.l2,rdl7 h,q2f (show i≤1048576 by omega)]
   exact cPO (cPO (cPO (q5S (ws:=smw l3[i]) (by omega) (by omega) i1)))
  ·simp only [q1a.l2,rdl7 h,q2f (show i≤1048576 by omega),Option.bind_some]
   exact cPO (cPO (cPos (by rw [List.length_singleton];omega) (cBin (q5W (ws:=smw l3[i]) (by omega)) (cPos (by rw [q4B];omega) i2))))
variable (h2:∀ x,x ∈ l2 → CtOk x) (z2:l2.length≤6) {m:Nat} {lws:List q0a} {lts:List Tok} (hL:Wr ⟨a4,a5,a6,l7⟩ m lws lts) (hm:m≤260)
include h2 z2 hL hm
theorem fmt_l1:∀ (d i:Nat) (o:q0a),i + d = l2.length → o.size + wd ((l2.drop i).map ctw++(([q4x,⟨#[61]⟩]++lws) :: l3.map smw))≤100000 →
  q1q (fun k=>q0R.l1 k o ((i:Nat):Int) l1 l2 l3 a4 a5 a6 l7) (o++(itms ((l2.drop i).map ctw++(([q4x,⟨#[61]⟩]++lws) :: l3.map smw))++wEnd),0)∧q1q (fun k=>q1a.l1 k o ((i:Nat):Int) a0 l1 l2 l3 a4 a5 a6 l7) (o++(itms ((l2.drop i).map ctw++(([q4x,⟨#[61]⟩]++lws) :: l3.map smw))++wEnd),0):=by
 intro d
 induction d with
 | zero=>
  intro i o hi hs
  rw [List.drop_eq_nil_of_le (show l2.length≤i by omega),List.map_nil,List.nil_append] at hs ⊢
  have hz:=hL.z
  have e1:q4x.size = 4:=rfl
  have e2:(⟨#[61]⟩:q0a).size = 1:=rfl
  have hw:wid ([q4x,⟨#[61]⟩]++lws) = 7 + wid lws:=by simp only [q4O,wid,e1,e2]
  have hn:=q5x lws
  have hj:=q5O ([q4x,⟨#[61]⟩]++lws)
  simp only [wd] at hs
  obtain ⟨i1,i2⟩:=fmt_l2 a0 (l1:=l1) (l2:=l2) (a4:=a4) (a5:=a5) (a6:=a6) (l7:=l7) h3 z3 l3.length 0 (o++itm (jn ([q4x,⟨#[61]⟩]++lws))) (by omega) (by rw [List.drop_zero,ByteArray.size_append,q4B];omega)
  rw [List.drop_zero,q6o] at i1 i2
  refine ⟨cSuc ?_,cSuc ?_⟩
  ·simp only [q0R.l1]
   exact cNO (cBin hL.w (cPO (q5S (ws:=[q4x,⟨#[61]⟩]++lws) (by omega) (by omega) i1)))
  ·simp only [q1a.l1,Option.bind_some]
   exact cNO (cBin hL.r (cPos (by show 2 + lws.length < _;omega) (cBin (q5W (ws:=[q4x,⟨#[61]⟩]++lws) (by omega)) (cPos (by rw [q4B];omega) i2))))
 | succ d IH=>
  intro i o hi hs
  have h:i < l2.length:=by omega
  have hk:=h2 _ (List.getElem_mem h)
  obtain ⟨k1,k2,k3,k4⟩:=id hk
  have hw:=q9u hk
  rw [List.drop_eq_getElem_cons h,List.map_cons,List.cons_append] at hs ⊢
  simp only [wd] at hs
  have hj:=q5O (ctw l2[i])
  obtain ⟨i1,i2⟩:=IH (i + 1) (o++itm (jn (ctw l2[i]))) (by omega) (by rw [ByteArray.size_append,q4B];omega)
  rw [q6o] at i1 i2
  refine ⟨cSuc ?_,cSuc ?_⟩
  ·simp only [q0R.l1,rd88 h,q2f (show i≤1048576 by omega)]
   exact cPO (cPO (cBin (q6A ⟨k2,by omega⟩) (cBin (q6A ⟨by omega,by omega⟩) (q5S (ws:=ctw l2[i]) (by omega) (by omega) i1))))
  ·simp only [q1a.l1,rd88 h,q2f (show i≤1048576 by omega),q7Q (show 0≤l2[i].f1∧l2[i].f1≤9 from ⟨k2,by omega⟩),q7Q (show 0≤l2[i].f2∧l2[i].f2≤9 from ⟨by omega,by omega⟩)]
   exact cPO (cPO (cBin (q5W (ws:=ctw l2[i]) (by omega)) (cPos (by rw [q4B];omega) i2)))
theorem fmt_l0:∀ (d i n:Nat) (fw:List (List q0a)) (ft:List (List Tok)) (o:q0a),i + d = l1.length → FW (l1.drop i) n fw ft → n≤260 → l1.length≤25 → o.size + wd (fw++(l2.map ctw++(([q4x,⟨#[61]⟩]++lws) :: l3.map smw)))≤100000 →
  q1q (fun k=>q0R.l0 k o ((i:Nat):Int) l1 l2 l3 a4 a5 a6 l7) (o++(itms (fw++(l2.map ctw++(([q4x,⟨#[61]⟩]++lws) :: l3.map smw)))++wEnd),0)∧q1q (fun k=>q1a.l0 k o ((i:Nat):Int) a0 l1 l2 l3 a4 a5 a6 l7) (o++(itms (fw++(l2.map ctw++(([q4x,⟨#[61]⟩]++lws) :: l3.map smw)))++wEnd),0):=by
 intro d
 induction d with
 | zero=>
  intro i n fw ft o hi hF hn z1 hs
  rw [List.drop_eq_nil_of_le (by omega)] at hF
  cases hF
  rw [List.nil_append] at hs ⊢
  obtain ⟨i1,i2⟩:=fmt_l1 a0 (l1:=l1) h3 z3 h2 z2 hL hm l2.length 0 o (by omega) (by rw [List.drop_zero];exact hs)
  rw [List.drop_zero] at i1 i2
  refine ⟨cSuc ?_,cSuc ?_⟩
  ·simp only [q0R.l0];exact cNO i1
  ·simp only [q1a.l0];exact cNO i2
 | succ d IH=>
  intro i n fw ft o hi hF hn z1 hs
  have h:i < l1.length:=by omega
  rw [List.drop_eq_getElem_cons h] at hF
  cases hF with
  | cons _ _ m' n' ws ts wss tss hu hW r=>
  have hz:=hW.z
  have hn2:=q5x ws
  have zz:=(q4A hu).2
  have e1:q5A.size = 4:=rfl
  have e2:(⟨#[61]⟩:q0a).size = 1:=rfl
  have hw:wid ([q5A,l1[i].f0,⟨#[61]⟩]++ws) = 8 + l1[i].f0.size + wid ws:=by simp only [q4O,wid,e1,e2];omega
  have hj:=q5O ([q5A,l1[i].f0,⟨#[61]⟩]++ws)
  rw [List.cons_append] at hs ⊢
  simp only [wd] at hs
  obtain ⟨i1,i2⟩:=IH (i + 1) n' wss tss (o++itm (jn ([q5A,l1[i].f0,⟨#[61]⟩]++ws))) (by omega) r (by omega) z1 (by rw [ByteArray.size_append,q4B];omega)
  rw [q6o] at i1 i2
  refine ⟨cSuc ?_,cSuc ?_⟩
  ·simp only [q0R.l0,rd86 h,q2f (show i≤1048576 by omega)]
   exact cPO (cPO (cBin hW.w (cPO (q5S (ws:=[q5A,l1[i].f0,⟨#[61]⟩]++ws) (by omega) (by omega) i1))))
  ·simp only [q1a.l0,rd86 h,q2f (show i≤1048576 by omega),Option.bind_some]
   exact cPO (cPO (cBin hW.r (cPos (by show 3 + ws.length < _;omega) (cBin (q5W (ws:=[q5A,l1[i].f0,⟨#[61]⟩]++ws) (by omega)) (cPos (by rw [q4B];omega) i2)))))
end
end
section
inductive Prss:List (List q0a) → List (List Tok) → Prop
 | nil:Prss [] []
 | cons (ws:List q0a) (ts:List Tok) (wss:List (List q0a)) (tss:List (List Tok)) (h:Prs ws ts) (r:Prss wss tss):Prss (ws :: wss) (ts :: tss)
theorem Prss.app {a:List (List q0a)} {s:List (List Tok)} {b:List (List q0a)} {t:List (List Tok)} (h:Prss a s) (h':Prss b t):Prss (a++b) (s++t):=by
 induction h with
 | nil=>exact h'
 | cons u t us ts h r ih=>exact .cons _ _ _ _ h ih
/-- The tokens of items. -/
def tks:List (List Tok) → List Tok
 | []=>[]
 | ts :: tss=>ts++sg 59 :: tks tss
theorem v0D (a b:List (List Tok)):tks (a++b) = tks a++tks b:=by
 induction a with
 | nil=>rfl
 | cons u us ih=>simp only [List.cons_append,tks,ih,List.append_assoc]
theorem Rd.items {b:q0a} {wss:List (List q0a)} {tss:List (List Tok)} (h:Prss wss tss):∀ (c:Nat) (rest:List Tok),q5h b (itms wss) c → Rd b (c + (itms wss).size) rest → Rd b c (tks tss++rest):=by
 induction h with
 | nil=>intro c rest _ r;exact r
 | cons ws ts wss tss h r ih=>
  intro c rest hs hr
  have e2:(⟨#[32,32]⟩:q0a).size = 2:=rfl
  have e3:(⟨#[32,59,10]⟩:q0a).size = 3:=rfl
  have s:q5h b (((⟨#[32,32]⟩:q0a)++jn ws)++(⟨#[32,59,10]⟩:q0a)) c:=hs.left
  have sr:=hs.right
  have ez:(itms (ws :: wss)).size = (jn ws).size + 5 + (itms wss).size:=by simp only [itms,ByteArray.size_append,q4B]
  have p1:=s.left.left
  have p2:=s.left.right
  have p3:=s.right
  rw [q4B] at sr
  rw [ez] at hr
  rw [e2] at p2
  rw [ByteArray.size_append,e2] at p3
  have z1:=p3.1
  rw [e3] at z1
  have b0:=p1.2 0 (by rw [e2];omega)
  have b1:=p1.2 1 (by rw [e2];omega)
  have b2:=p3.2 0 (by rw [e3];omega)
  have b3:=p3.2 1 (by rw [e3];omega)
  have b4:=p3.2 2 (by rw [e3];omega)
  rw [Nat.add_zero] at b0 b2
  rw [show c + (2 + (jn ws).size) = c + 2 + (jn ws).size by omega] at b2 b3 b4
  rw [show c + ((jn ws).size + 5 + (itms wss).size) = c + ((jn ws).size + 5) + (itms wss).size by omega] at hr
  have q:=ih _ rest sr hr
  rw [show c + ((jn ws).size + 5) = c + 2 + (jn ws).size + 1 + 1 + 1 by omega] at q
  rw [show tks (ts :: tss)++rest = ts++(sg 59 :: (tks tss++rest)) by simp only [tks,List.append_assoc,List.cons_append]]
  refine .white c _ (by omega) b0 (.white (c + 1) _ (by omega) b1 (Rd.join h p2 (fun _=>.inl b2) ?_))
  exact .white _ _ (by omega) b2 (Rd.sgn (v:=59) (by omega) b3 (q7W (by decide)) (.nl _ _ (by omega) b4 q))
def q6O:q0a:=⟨#[109,101,116,114,101]⟩
theorem kw_tab:∀ w ∈ [q6O,q5A,q6p,q8a,q4x],q2v.f 12 w = some true:=by decide +kernel
theorem v0d {w:q0a} (h:w ∈ [q6O,q5A,q6p,q8a,q4x]):Wk w (1,w):=(q7g (q1q.mono (fun k=>q2v.mono _ k) 12 (kw_tab w h))).1
/-- The text. -/
def txt (a0:q0a) (wss:List (List q0a)):q0a:=(((⟨#[109,101,116,114,101,32]⟩:q0a)++a0)++(⟨#[32,123,10]⟩:q0a))++(itms wss++wEnd)
def ttk (a0:q0a) (tss:List (List Tok)):List Tok:=(1,q6O) :: (1,a0) :: sg 123 :: (tks tss++[sg 125])
theorem q9N {a0:q0a} {wss:List (List q0a)} {tss:List (List Tok)} (h:Prss wss tss) (h0:Wk a0 (1,a0)) (hz:a0.size + wd wss≤19000):∃ l:List S36,l.map (fun t=>(t.f0,t.f1)) = ttk a0 tss∧q1q (fun k=>q1g.f k (txt a0 wss)) (l,0,0):=by
 have hi:=v0X wss
 have e6:(⟨#[109,101,116,114,101,32]⟩:q0a).size = 6:=rfl
 have e3:(⟨#[32,123,10]⟩:q0a).size = 3:=rfl
 have e2:wEnd.size = 2:=rfl
 have e5:q6O.size = 5:=rfl
 have e1:(⟨#[32]⟩:q0a).size = 1:=rfl
 have ez:(txt a0 wss).size = 6 + a0.size + 3 + ((itms wss).size + 2):=by simp only [txt,ByteArray.size_append,e6,e3,e2]
 have hS:q5h (txt a0 wss) ((((⟨#[109,101,116,114,101,32]⟩:q0a)++a0)++(⟨#[32,123,10]⟩:q0a))++(itms wss++wEnd)) 0:=⟨by rw [Nat.zero_add];exact q0f _,fun j hj=>by rw [Nat.zero_add];rfl⟩
 have p0:q5h (txt a0 wss) (q6O++(⟨#[32]⟩:q0a)) 0:=hS.left.left.left
 have p1:=p0.left
 have p2:=p0.right
 have p3:=hS.left.left.right
 have p4:=hS.left.right
 have p5:=hS.right.left
 have p6:=hS.right.right
 rw [e5] at p2
 rw [e6] at p3
 rw [ByteArray.size_append,e6] at p4
 rw [ByteArray.size_append,ByteArray.size_append,e6,e3] at p5 p6
 have b0:=p2.2 0 (by rw [e1];omega)
 have b1:=p4.2 0 (by rw [e3];omega)
 have b2:=p4.2 1 (by rw [e3];omega)
 have b3:=p4.2 2 (by rw [e3];omega)
 have b4:=p6.2 0 (by rw [e2];omega)
 have b5:=p6.2 1 (by rw [e2];omega)
 rw [Nat.add_zero] at b0 b1 b4
 generalize txt a0 wss = B at *
 refine Rd.tokens (by omega) ?_
 have f:Rd B (0 + (6 + a0.size + 3) + (itms wss).size) [sg 125]:=by
  refine Rd.sgn (v:=125) (by omega) b4 (q7W (by decide)) (.nl _ _ (by omega) b5 ?_)
  rw [show 0 + (6 + a0.size + 3) + (itms wss).size + 1 + 1 = B.size by omega]
  exact .fin
 have g:=Rd.items h _ _ p5 f
 rw [show 0 + (6 + a0.size + 3) = 0 + (6 + a0.size) + 1 + 1 + 1 by omega] at g
 refine Rd.word (u:=q6O) (v0d (by simp)) p1 (fun _=>.inl b0) (.white _ _ (by rw [e5];omega) b0 ?_)
 refine Rd.word (u:=a0) h0 p3 (fun _=>.inl ?_) ?_
 ·rw [show 0 + q6O.size + 1 + a0.size = 0 + (6 + a0.size) by omega];exact b1
 ·rw [show 0 + q6O.size + 1 + a0.size = 0 + (6 + a0.size) by omega]
  exact .white _ _ (by omega) b1 (Rd.sgn (v:=123) (by omega) b2 (q7W (by decide)) (.nl _ _ (by omega) b3 g))
/-- The words of the items are their tokens. -/
theorem FW.prs {fs:List S86} {n:Nat} {wss:List (List q0a)} {tss:List (List Tok)} (h:FW fs n wss tss):Prss wss tss:=by
 induction h with
 | nil=>exact .nil
 | cons f fs m n ws ts wss tss hu h r ih=>exact .cons _ _ _ _ (.cons _ _ _ _ (v0d (by simp)) (.cons _ _ _ _ (q4A hu).1 (.cons _ _ _ _ (q4r (by decide)) h.p))) ih
def ctt (c:S88):List Tok:=[(1,q6p),(1,c.f0),(2,dig c.f1),(2,dig c.f2)]
def smt (l:List q0a):List Tok:=(1,q8a) :: l.map (fun u=>((1:Int),u))
theorem ct_prs {l:List S88} (h:∀ x,x ∈ l → CtOk x):Prss (l.map ctw) (l.map ctt):=by
 induction l with
 | nil=>exact .nil
 | cons c l ih=>
  obtain ⟨h1,h2,h3,h4⟩:=h c (by simp)
  exact .cons _ _ _ _ (.cons _ _ _ _ (v0d (by simp)) (.cons _ _ _ _ (q4A h1).1 (.cons _ _ _ _ (q9G ⟨h2,by omega⟩) (.cons _ _ _ _ (q9G ⟨by omega,by omega⟩) .nil)))) (ih (fun x hx=>h x (List.mem_cons_of_mem _ hx)))
theorem v1q {l:List q0a} (h:∀ x,x ∈ l → q4i x):Prs l (l.map (fun u=>((1:Int),u))):=by
 induction l with
 | nil=>exact .nil
 | cons c l ih=>exact .cons _ _ _ _ (q4A (h c (by simp))).1 (ih (fun x hx=>h x (List.mem_cons_of_mem _ hx)))
theorem sm_prs {l:List (List q0a)} (h:∀ x,x ∈ l → SmOk x):Prss (l.map smw) (l.map smt):=by
 induction l with
 | nil=>exact .nil
 | cons c l ih=>exact .cons _ _ _ _ (.cons _ _ _ _ (v0d (by simp)) (v1q (h c (by simp)).2.2)) (ih (fun x hx=>h x (List.mem_cons_of_mem _ hx)))
end
section
abbrev KW:List q0a:=[(⟨#[102,111,111,116]⟩:q0a),(⟨#[99,111,117,110,116]⟩:q0a),(⟨#[115,111,109,101]⟩:q0a),(⟨#[108,105,110,101]⟩:q0a)]
theorem kw_has:∀ w ∈ [q5A,q6p,q8a,q4x],q1w.f 10 KW w = some true:=by decide +kernel
theorem v2g {w:q0a} (h:w ∈ [q5A,q6p,q8a,q4x]):q1q (fun k=>q1w.f k KW w) true:=q1q.mono (fun k=>q1w.mono _ _ k) 10 (kw_has w h)
theorem tFoot:q5A.toList = [102,111,111,116]:=by rw [ByteArray.toList_eq];rfl
theorem v2P:q6p.toList = [99,111,117,110,116]:=by rw [ByteArray.toList_eq];rfl
theorem v1P:q8a.toList = [115,111,109,101]:=by rw [ByteArray.toList_eq];rfl
theorem v2u:q4x.toList = [108,105,110,101]:=by rw [ByteArray.toList_eq];rfl
theorem v0v {l:List S36} {i:Nat} (h:i < l.length) {q:Int} (hq:l[i].f0≠q) (s:q0a):q1E.f l (i:Int) false q s = some (false,(i:Int),false):=by
 simp [q1E.f,q4g l i h,hq]
theorem q9C {l:List S36} {i:Nat} {s:q0a} (h:Hit l i s):q1E.f l (i:Int) false 4 s = some (true,(i:Int),false):=by
 obtain ⟨h1,h2,h3⟩:=h
 simp [q1E.f,q4g l i h1,h2,h3]
abbrev IR:Type:=q0a × (List S86) × (List S88) × (List (List q0a)) × Int × q0a × Int × (List S25) × Int × Bool
section
variable {l:List S36} (hl:l.length≤1000000) {nm:q0a} {x1:List S86} {x2:List S88} {x3:List (List q0a)} {y4:Int} {y5:q0a} {y6:Int} {y7:List S25} {r:IR}
omit hl in
theorem q9F {i:Nat} (h:i < l.length) (h1:l[i].f0 = 1) {w:q0a} (hw:l[i].f1 = w) (hk:w ∈ [q5A,q6p,q8a,q4x]) (z:Bool) (hz:z = true → w.toList≠([108,105,110,101]:List UInt8))
  (hr:q1q (fun k=>q0h.j2 k z false l (i:Int) false nm x1 x2 x3 y4 y5 y6 y7 1 w l[i].f2) r):q1q (fun k=>q0h.l0 k z l (i:Int) false nm x1 x2 x3 y4 y5 y6 y7) r:=by
 have hc:=v2g hk
 have J:q1q (fun k=>q0h.j1 k z true l (i:Int) false nm x1 x2 x3 y4 y5 y6 y7) r:=by
  apply cSuc
  simp only [q0h.j1,q4g l i h,Option.bind_some,h1,hw]
  refine cPos trivial (cPos trivial ?_)
  refine cIte (fun e=>cIte (fun e2=>absurd e (hz e2)) (fun _=>cBin hc hr)) (fun _=>cBin hc hr)
 apply cSuc
 simp only [q0h.l0]
 refine cND (cIte (fun e=>?_) (fun e=>J))
 rw [v0v h (by rw [h1];decide)]
 exact J
include hl
theorem rd_foot {f:S86} {ts:List Tok} {i:Nat} {rest:List Tok} (hA:At l i ((1,q5A) :: (1,f.f0) :: sg 61 :: (ts++sg 59 :: rest))) (hu:q4i f.f0) (hB:TkB f.f1 ts) (h1:x1.length≤1000000)
  (hr:q1q (fun k=>q0h.l0 k false l ((i + (ts.length + 4):Nat):Int) false nm (x1++[f]) x2 x3 y4 y5 y6 y7) r):q1q (fun k=>q0h.l0 k false l (i:Int) false nm x1 x2 x3 y4 y5 y6 y7) r:=by
 obtain ⟨h,ha,hb⟩:=hA.head
 obtain ⟨h',ha',hb'⟩:=hA.tail.head
 have he:=hA.tail.tail.sign
 have hA3:=hA.tail.tail.tail
 have h59:=hA3.right.sign
 have hs:=q8z hl hB hA3.left (q4Q hl h59 (.inr (.inr (.inr (.inr rfl)))))
 have hn:=q7m hl h' ha' (by rw [hb'];exact q4N hu)
 have hi59:=h59.1
 refine q9F h ha hb (by simp) false (fun k=>by cases k) (cSuc ?_)
 simp only [q0h.j2,q5v (show i≤1000000 by omega),hn,q4V (show i + 1 + 1≤l.length by omega) (by omega) he,Option.bind_some]
 refine cND (cPos tFoot (cBin hs (cPO ?_)))
 simp only [q6F,q4V (show i + 1 + 1 + 1 + ts.length≤l.length by omega) (by omega) h59,Option.bind_some,q7z,hb']
 rw [show i + 1 + 1 + 1 + ts.length + 1 = i + (ts.length + 4) by omega]
 exact hr
theorem rd_ct {c:S88} {i:Nat} {rest:List Tok} (hA:At l i (ctt c++sg 59 :: rest)) (hc:CtOk c) (h1:x2.length≤1000000)
  (hr:q1q (fun k=>q0h.l0 k false l ((i + 5:Nat):Int) false nm x1 (x2++[c]) x3 y4 y5 y6 y7) r):q1q (fun k=>q0h.l0 k false l (i:Int) false nm x1 x2 x3 y4 y5 y6 y7) r:=by
 obtain ⟨hu,k1,k2,k3⟩:=hc
 obtain ⟨h,ha,hb⟩:=hA.head
 obtain ⟨h',ha',hb'⟩:=hA.tail.head
 obtain ⟨g,ga,gb⟩:=hA.tail.tail.head
 obtain ⟨g',ga',gb'⟩:=hA.tail.tail.tail.head
 have h59:=hA.tail.tail.tail.tail.sign
 have hi59:=h59.1
 have hn:=q7m hl h' ha' (by rw [hb'];exact q4N hu)
 refine q9F h ha hb (by simp) false (fun k=>by cases k) (cSuc ?_)
 have n1:Num (l[i + 1 + 1].f1) c.f1:=by rw [gb];exact q8m ⟨k1,by omega⟩
 have n2:Num (l[i + 1 + 1 + 1].f1) c.f2:=by rw [gb'];exact q8m ⟨by omega,by omega⟩
 simp only [q0h.j2,q1Y.f,q5v (show i≤1000000 by omega),hn,q6D l _ 2 g ga (by omega),Option.bind_some]
 refine cND (cNeg (by rw [v2P];decide) (cPos v2P (cBin (cBin n1 (cCon _)) ?_)))
 simp only [q6D l _ 2 g' ga' (by omega),Option.bind_some]
 refine cBin (cBin n2 (cCon _)) (cPO ?_)
 simp only [q4V (show i + 1 + 1 + 1 + 1≤l.length by omega) (by omega) h59,Option.bind_some,hb']
 exact hr
theorem v1S (z:Bool):∀ (us:List q0a) (i:Nat) (rest:List Tok) (w:List q0a),At l i (us.map (fun u=>((1:Int),u))++sg 59 :: rest) → (∀ u,u ∈ us → q4i u) → w.length + us.length≤1000000 → x3.length≤1000000 →
  q1q (fun k=>q0h.l0 k z l ((i + us.length + 1:Nat):Int) false nm x1 x2 (x3++[w++us]) y4 y5 y6 y7) r → q1q (fun k=>q0h.l1 k z w l (i:Int) false nm x1 x2 x3 y4 y5 y6 y7) r:=by
 intro us
 induction us with
 | nil=>
  intro i rest w hA _ _ hx hr
  have h59:=At.sign (l:=l) (c:=59) (ts:=rest) hA
  have hi:=h59.1
  rw [List.append_nil] at hr
  apply cSuc
  simp only [q0h.l1,q9C h59,q4V (show i≤l.length by omega) (by omega) h59,Option.bind_some]
  exact cND (cPos trivial (cPO hr))
 | cons u us ih=>
  intro i rest w hA hu hw hx hr
  obtain ⟨h,ha,hb⟩:=At.head (t:=((1:Int),u)) (ts:=us.map (fun u=>((1:Int),u))++sg 59 :: rest) hA
  have hT:=At.tail (t:=((1:Int),u)) (ts:=us.map (fun u=>((1:Int),u))++sg 59 :: rest) hA
  have hn:=q7m hl h ha (by rw [hb];exact q4N (hu u (by simp)))
  rw [List.length_cons] at hw
  rw [show w++u :: us = (w++[u])++us by simp,show i + (u :: us).length + 1 = i + 1 + us.length + 1 by rw [List.length_cons];omega] at hr
  apply cSuc
  simp only [q0h.l1,v0v h (show l[i].f0≠4 by rw [ha];show (1:Int)≠4;decide),hn,hb,Option.bind_some]
  exact cND (cND (cPO (ih (i + 1) rest (w++[u]) hT (fun x hx=>hu x (List.mem_cons_of_mem _ hx)) (by rw [List.length_append,List.length_singleton];omega) hx hr)))
theorem rd_some {us:List q0a} {i:Nat} {rest:List Tok} (z:Bool) (hA:At l i (smt us++sg 59 :: rest)) (hu:SmOk us) (h1:x3.length≤1000000)
  (hr:q1q (fun k=>q0h.l0 k z l ((i + (us.length + 2):Nat):Int) false nm x1 x2 (x3++[us]) y4 y5 y6 y7) r):q1q (fun k=>q0h.l0 k z l (i:Int) false nm x1 x2 x3 y4 y5 y6 y7) r:=by
 obtain ⟨hne,h6,hus⟩:=hu
 obtain ⟨h,ha,hb⟩:=hA.head
 cases us with
 | nil=>exact absurd rfl hne
 | cons u us=>
 obtain ⟨h',ha',hb'⟩:=hA.tail.head
 have hn:=q7m hl h' ha' (by rw [hb'];exact q4N (hus u (by simp)))
 rw [List.length_cons] at h6
 refine q9F h ha hb (by simp) z (fun _=>by rw [v1P];decide) (cSuc ?_)
 simp only [q0h.j2,q5v (show i≤1000000 by omega),hn,hb',Option.bind_some]
 refine cND (cNeg (by rw [v1P];decide) (cNeg (by rw [v1P];decide) (cPos v1P ?_)))
 refine v1S hl z us (i + 1 + 1) rest [u] hA.tail.tail (fun x hx=>hus x (List.mem_cons_of_mem _ hx)) (by rw [List.length_singleton];omega) h1 ?_
 rw [show i + 1 + 1 + us.length + 1 = i + ((u :: us).length + 2) by rw [List.length_cons];omega]
 exact hr
theorem rd_line {n:S25} {ts:List Tok} {i:Nat} {rest:List Tok} (hA:At l i ((1,q4x) :: sg 61 :: (ts++sg 59 :: rest))) (hB:TkB n ts)
  (hr:q1q (fun k=>q0h.l0 k true l ((i + (ts.length + 3):Nat):Int) false nm x1 x2 x3 n.f0 n.f1 n.f2 n.f3) r):q1q (fun k=>q0h.l0 k false l (i:Int) false nm x1 x2 x3 y4 y5 y6 y7) r:=by
 obtain ⟨h,ha,hb⟩:=hA.head
 have he:=hA.tail.sign
 have hA3:=hA.tail.tail
 have h59:=hA3.right.sign
 have hi59:=h59.1
 have hs:=q8z hl hB hA3.left (q4Q hl h59 (.inr (.inr (.inr (.inr rfl)))))
 refine q9F h ha hb (by simp) false (fun k=>by cases k) (cSuc ?_)
 simp only [q0h.j2,q5v (show i≤1000000 by omega),q4V (show i + 1≤l.length by omega) (by omega) he,Option.bind_some]
 refine cND (cNeg (by rw [v2u];decide) (cNeg (by rw [v2u];decide) (cNeg (by rw [v2u];decide) (cPos v2u (cBin hs ?_)))))
 simp only [q6F,q4V (show i + 1 + 1 + ts.length≤l.length by omega) (by omega) h59,Option.bind_some]
 rw [show i + 1 + 1 + ts.length + 1 = i + (ts.length + 3) by omega]
 exact hr
omit hl in
theorem rd_end {i:Nat} {rest:List Tok} (hA:At l i (sg 125 :: rest)):q1q (fun k=>q0h.l0 k true l (i:Int) false nm x1 x2 x3 y4 y5 y6 y7) (nm,x1,x2,x3,y4,y5,y6,y7,(i:Int),false):=by
 have h:=hA.sign
 apply cSuc
 simp only [q0h.l0,q9C h,Option.bind_some]
 refine cND (cPos trivial (cSuc ?_))
 simp only [q0h.j1]
 exact cND (cCon _)
end
end
section
section
variable {l:List S36} (hl:l.length≤1000000) {nm:q0a} {y4:Int} {y5:q0a} {y6:Int} {y7:List S25} {r:IR}
include hl
theorem rd_feet {x2:List S88} {x3:List (List q0a)} {fs:List S86} {n:Nat} {wss:List (List q0a)} {tss:List (List Tok)} (h:FW fs n wss tss):∀ (i:Nat) (rest:List Tok) (x1:List S86),At l i (tks tss++rest) → x1.length + fs.length≤1000000 →
  q1q (fun k=>q0h.l0 k false l ((i + (tks tss).length:Nat):Int) false nm (x1++fs) x2 x3 y4 y5 y6 y7) r → q1q (fun k=>q0h.l0 k false l (i:Int) false nm x1 x2 x3 y4 y5 y6 y7) r:=by
 induction h with
 | nil=>
  intro i rest x1 _ _ hr
  rw [List.append_nil] at hr
  exact hr
 | cons f fs m n ws ts wss tss hu h r ih=>
  intro i rest x1 hA hx hr
  rw [show tks (((1,q5A) :: (1,f.f0) :: sg 61 :: ts) :: tss)++rest = (1,q5A) :: (1,f.f0) :: sg 61 :: (ts++sg 59 :: (tks tss++rest)) by simp only [tks,List.cons_append,List.append_assoc]] at hA
  have e:(tks (((1,q5A) :: (1,f.f0) :: sg 61 :: ts) :: tss)).length = ts.length + 4 + (tks tss).length:=by
   simp only [tks,List.cons_append,List.length_cons,List.length_append];omega
  rw [List.length_cons] at hx
  rw [e,← Nat.add_assoc,show x1++f :: fs = (x1++[f])++fs by simp] at hr
  refine rd_foot hl hA hu h.b (by omega) (ih _ rest _ ?_ (by rw [List.length_append,List.length_singleton];omega) hr)
  have:=hA.tail.tail.tail.right.tail
  rw [show i + 1 + 1 + 1 + ts.length + 1 = i + (ts.length + 4) by omega] at this
  exact this
theorem rd_cts {x1:List S86} {x3:List (List q0a)} : ∀ (cs:List S88) (i:Nat) (rest:List Tok) (x2:List S88),At l i (tks (cs.map ctt)++rest) → (∀ c,c ∈ cs → CtOk c) → x2.length + cs.length≤1000000 →
  q1q (fun k=>q0h.l0 k false l ((i + (tks (cs.map ctt)).length:Nat):Int) false nm x1 (x2++cs) x3 y4 y5 y6 y7) r → q1q (fun k=>q0h.l0 k false l (i:Int) false nm x1 x2 x3 y4 y5 y6 y7) r:=by
 intro cs
 induction cs with
 | nil=>
  intro i rest x2 _ _ _ hr
  rw [List.append_nil] at hr
  exact hr
 | cons c cs ih=>
  intro i rest x2 hA hk hx hr
  rw [show tks ((c :: cs).map ctt)++rest = ctt c++sg 59 :: (tks (cs.map ctt)++rest) by simp only [tks,List.map_cons,List.cons_append,List.append_assoc]] at hA
  have e:(tks ((c :: cs).map ctt)).length = 5 + (tks (cs.map ctt)).length:=by
   simp only [tks,List.map_cons,List.length_cons,List.length_append,ctt,List.length_nil];omega
  rw [List.length_cons] at hx
  rw [e,← Nat.add_assoc,show x2++c :: cs = (x2++[c])++cs by simp] at hr
  exact rd_ct hl hA (hk c (by simp)) (by omega) (ih _ rest _ hA.right.tail (fun x hx=>hk x (List.mem_cons_of_mem _ hx)) (by rw [List.length_append,List.length_singleton];omega) hr)
theorem v2q {x1:List S86} {x2:List S88} (z:Bool):∀ (ls:List (List q0a)) (i:Nat) (rest:List Tok) (x3:List (List q0a)),At l i (tks (ls.map smt)++rest) → (∀ c,c ∈ ls → SmOk c) → x3.length + ls.length≤1000000 →
  q1q (fun k=>q0h.l0 k z l ((i + (tks (ls.map smt)).length:Nat):Int) false nm x1 x2 (x3++ls) y4 y5 y6 y7) r → q1q (fun k=>q0h.l0 k z l (i:Int) false nm x1 x2 x3 y4 y5 y6 y7) r:=by
 intro ls
 induction ls with
 | nil=>
  intro i rest x3 _ _ _ hr
  rw [List.append_nil] at hr
  exact hr
 | cons c ls ih=>
  intro i rest x3 hA hk hx hr
  rw [show tks ((c :: ls).map smt)++rest = smt c++sg 59 :: (tks (ls.map smt)++rest) by simp only [tks,List.map_cons,List.cons_append,List.append_assoc]] at hA
  have ec:(smt c).length = c.length + 1:=by simp only [smt,List.length_cons,List.length_map]
  have e:(tks ((c :: ls).map smt)).length = c.length + 2 + (tks (ls.map smt)).length:=by
   simp only [tks,List.map_cons,List.length_cons,List.length_append,ec];omega
  rw [List.length_cons] at hx
  rw [e,← Nat.add_assoc,show x3++c :: ls = (x3++[c])++ls by simp] at hr
  have hT:=hA.right.tail
  rw [ec,show i + (c.length + 1) + 1 = i + (c.length + 2) by omega] at hT
  exact rd_some hl z hA (hk c (by simp)) (by omega) (ih _ rest _ hT (fun x hx=>hk x (List.mem_cons_of_mem _ hx)) (by rw [List.length_append,List.length_singleton];omega) hr)
/-- All items. -/
theorem q9L {l1:List S86} {l2:List S88} {l3:List (List q0a)} {n:S25} {q:Nat} {fw:List (List q0a)} {ft:List (List Tok)} {lts:List Tok} (hF:FW l1 q fw ft) (h2:∀ c,c ∈ l2 → CtOk c) (h3:∀ c,c ∈ l3 → SmOk c) (hB:TkB n lts) (z1:l1.length≤1000) (z2:l2.length≤1000) (z3:l3.length≤1000)
  {rest:List Tok} (hA:At l 3 (tks (ft++(l2.map ctt++(((1,q4x) :: sg 61 :: lts) :: l3.map smt)))++sg 125 :: rest)) :
  q1q (fun k=>q0h.f k l 3 false nm) (nm,l1,l2,l3,n.f0,n.f1,n.f2,n.f3,((3 + (tks (ft++(l2.map ctt++(((1,q4x) :: sg 61 :: lts) :: l3.map smt)))).length:Nat):Int),false):=by
 rw [v0D,v0D] at hA ⊢
 rw [show tks (((1,q4x) :: sg 61 :: lts) :: l3.map smt) = (1,q4x) :: sg 61 :: (lts++sg 59 :: tks (l3.map smt)) by simp only [tks,List.cons_append]] at hA ⊢
 simp only [List.append_assoc,List.cons_append] at hA
 have a1:=hA.right
 have a2:=a1.right
 have a3:=a2.tail.tail.right.tail
 have a4:=a3.right
 refine rd_feet hl hF 3 _ [] hA (by rw [List.length_nil];omega) ?_
 refine rd_cts hl l2 _ _ [] a1 h2 (by rw [List.length_nil];omega) ?_
 refine rd_line hl a2 hB ?_
 rw [show 3 + (tks ft).length + (tks (l2.map ctt)).length + 1 + 1 + lts.length + 1 = 3 + (tks ft).length + (tks (l2.map ctt)).length + (lts.length + 3) by omega] at a3 a4
 refine v2q hl true l3 _ _ [] a3 h3 (by rw [List.length_nil];omega) ?_
 have:=rd_end (nm:=nm) (x1:=[]++l1) (x2:=[]++l2) (x3:=[]++l3) (y4:=n.f0) (y5:=n.f1) (y6:=n.f2) (y7:=n.f3) a4
 rw [show 3 + (tks ft++(tks (l2.map ctt)++(1,q4x) :: sg 61 :: (lts++sg 59 :: tks (l3.map smt)))).length = 3 + (tks ft).length + (tks (l2.map ctt)).length + (lts.length + 3) + (tks (l3.map smt)).length by simp only [List.length_append,List.length_cons];omega]
 exact this
end
theorem Prss.few {wss:List (List q0a)} {tss:List (List Tok)} (h:Prss wss tss):(tks tss).length≤wd wss:=by
 induction h with
 | nil=>exact q0f _
 | cons ws ts wss tss h r ih=>
  have e1:=h.len
  have e2:=q5x ws
  simp only [tks,wd,List.length_append,List.length_cons]
  omega
/-- Parse leads back. -/
theorem q9g {a0:q0a} {l1:List S86} {l2:List S88} {l3:List (List q0a)} {a4:Int} {a5:q0a} {a6:Int} {l7:List S25} (hN:Wk a0 (1,a0)) {m q:Nat} {fw:List (List q0a)} {ft:List (List Tok)} {lws:List q0a} {lts:List Tok}
  (hF:FW l1 q fw ft) (h2:∀ c,c ∈ l2 → CtOk c) (h3:∀ c,c ∈ l3 → SmOk c) (hL:Wr ⟨a4,a5,a6,l7⟩ m lws lts) (z1:l1.length≤1000) (z2:l2.length≤1000) (z3:l3.length≤1000)
  (hz:a0.size + wd (fw++(l2.map ctw++(([q4x,⟨#[61]⟩]++lws) :: l3.map smw)))≤19000) (hV:q1q (fun k=>q0D.f k a0 l1 l2 l3 a4 a5 a6 l7) 0) :
  q1q (fun k=>q3E.f k (txt a0 (fw++(l2.map ctw++(([q4x,⟨#[61]⟩]++lws) :: l3.map smw))))) (a0,l1,l2,l3,a4,a5,a6,l7,0,0):=by
 have hP:Prss (fw++(l2.map ctw++(([q4x,⟨#[61]⟩]++lws) :: l3.map smw))) (ft++(l2.map ctt++(((1,q4x) :: sg 61 :: lts) :: l3.map smt))):=
  hF.prs.app ((ct_prs h2).app (.cons _ _ _ _ (.cons _ _ _ _ (v0d (by simp)) (.cons _ _ _ _ (q4r (by decide)) hL.p)) (sm_prs h3)))
 obtain ⟨l,hm,ht⟩:=q9N hP hN hz
 generalize hts:ft++(l2.map ctt++(((1,q4x) :: sg 61 :: lts) :: l3.map smt)) = tss at hm
 have hA:=at_of hm
 unfold ttk at hA hm
 have hlen:l.length = 3 + (tks tss).length + 1:=by
  have:=congrArg List.length hm
  simp only [List.length_map,List.length_cons,List.length_append,List.length_nil] at this
  omega
 have hfew:=hP.few
 rw [hts] at hfew
 have hl:l.length≤1000000:=by omega
 obtain ⟨g0,ga0,gb0⟩:=hA.head
 obtain ⟨g1,ga1,gb1⟩:=hA.tail.head
 have g2:=hA.tail.tail.sign
 have aI:=hA.tail.tail.tail
 have hI:=q9L hl (nm:=a0) hF h2 h3 hL.b z1 z2 z3 (by rw [hts];exact aI)
 rw [hts] at hI
 have gE:=aI.right.sign
 have s1:q1E.f l 0 false 1 (⟨#[109,101,116,114,101]⟩:q0a) = some (true,0,false):=by
  have e:l[0].f1 = (⟨#[109,101,116,114,101]⟩:q0a):=gb0
  have n0:=q4g l 0 g0
  simp only [Int.ofNat_zero] at n0
  simp [q1E.f,n0,ga0,e]
 have s2:q2n.f l 0 false 1 = some (l[0].f1,1,false):=q6D l 0 1 g0 ga0 (by omega)
 have s3:q2n.f l 1 false 1 = some (a0,2,false):=by
  have:=q6D l 1 1 g1 ga1 (by omega)
  rw [gb1] at this
  exact this
 have s4:q1m.f l 2 false (⟨#[123]⟩:q0a) = some (3,false):=q4V (i:=2) (by omega) (by omega) g2
 have s5:=q4V (show 3 + (tks tss).length≤l.length by omega) (by omega) gE
 unfold q3E.f
 refine cBin ht (cPos rfl (cNeg (by show ¬ ((l.length:Int) = 0);omega) ?_))
 simp only [s1,s2,s3,s4,Option.bind_some]
 refine cPos trivial (cBin hI ?_)
 simp only [s5,Option.bind_some]
 exact cND (cNeg (by show ¬ (((3 + (tks tss).length + 1:Nat):Int) < (l.length:Int));omega) (cBin hV (cPos rfl (cCon _))))
end
section
theorem v1p (x:List q0a) (hl:x.length≤1048576):q1q (fun k=>q1t.f k x x) true:=by
 have loop:∀ (m i:Nat),i + m = x.length → q1q (fun k=>q1t.l0 k x x (i:Int)) true:=by
  intro m
  induction m with
  | zero=>
   intro i hi
   apply cSuc
   simp only [q1t.l0]
   exact cNO (cCon _)
  | succ m IH=>
   intro i hi
   apply cSuc
   simp only [q1t.l0,q2f (show i≤1048576 by omega)]
   exact cPO (cPO (cPO (cPos trivial (IH (i + 1) (by omega)))))
 unfold q1t.f
 exact cPos rfl (loop x.length 0 (by omega))
section
variable {a0:q0a} {l1:List S86} {l2:List S88} {l3:List (List q0a)} {a4:Int} {a5:q0a} {a6:Int} {l7:List S25} (z1:l1.length≤1048576) (k1:∀ x,x ∈ l1 → Small x.f1) (z2:l2.length≤1048576) (z3:l3.length≤1048576) (k3:∀ x,x ∈ l3 → x.length≤1048576)
include z3 k3
theorem same_l2:∀ (d i:Nat),i + d = l3.length → q1q (fun k=>q0p.l2 k (i:Int) a0 l1 l2 l3 a4 a5 a6 l7 a0 l1 l2 l3 a4 a5 a6 l7) true:=by
 intro d
 induction d with
 | zero=>
  intro i hi
  apply cSuc
  simp only [q0p.l2]
  exact cNO (cCon _)
 | succ d IH=>
  intro i hi
  have h:i < l3.length:=by omega
  apply cSuc
  simp only [q0p.l2,rdl7 h,q2f (show i≤1048576 by omega)]
  exact cPO (cPO (cPO (cBin (v1p _ (k3 _ (List.getElem_mem h))) (cPos rfl (IH (i + 1) (by omega))))))
include z2
theorem same_l1:∀ (d i:Nat),i + d = l2.length → q1q (fun k=>q0p.l1 k (i:Int) a0 l1 l2 l3 a4 a5 a6 l7 a0 l1 l2 l3 a4 a5 a6 l7) true:=by
 intro d
 induction d with
 | zero=>
  intro i hi
  apply cSuc
  simp only [q0p.l1]
  exact cNO (same_l2 z3 k3 l3.length 0 (by omega))
 | succ d IH=>
  intro i hi
  apply cSuc
  simp only [q0p.l1,q2f (show i≤1048576 by omega)]
  exact cPO (cPO (cPO (cNeg (by simp) (IH (i + 1) (by omega)))))
include z1 k1
theorem same_l0:∀ (d i:Nat),i + d = l1.length → q1q (fun k=>q0p.l0 k (i:Int) a0 l1 l2 l3 a4 a5 a6 l7 a0 l1 l2 l3 a4 a5 a6 l7) true:=by
 intro d
 induction d with
 | zero=>
  intro i hi
  apply cSuc
  simp only [q0p.l0]
  exact cNO (same_l1 z2 z3 k3 l2.length 0 (by omega))
 | succ d IH=>
  intro i hi
  have h:i < l1.length:=by omega
  apply cSuc
  simp only [q0p.l0,rd86 h,q2f (show i≤1048576 by omega)]
  exact cPO (cPO (cPO (cPos trivial (cBin (q6G _ (k1 _ (List.getElem_mem h))) (cPos rfl (IH (i + 1) (by omega)))))))
theorem v1n (k4:Small ⟨a4,a5,a6,l7⟩):q1q (fun k=>q0p.f k a0 l1 l2 l3 a4 a5 a6 l7 a0 l1 l2 l3 a4 a5 a6 l7) true:=by
 unfold q0p.f
 refine cPos rfl (cPos rfl (cPos rfl (cPos rfl (cBin (q6G ⟨a4,a5,a6,l7⟩ k4) (cSuc ?_)))))
 simp only [q0p.j0]
 exact cND (same_l0 z1 k1 z2 z3 k3 l1.length 0 (by omega))
end
section
variable (a0:q0a) {l1:List S86} {l2:List S88} {l3:List (List q0a)} {a4:Int} {a5:q0a} {a6:Int} {l7:List S25} {n m:Nat} {ys:List q0a} (hF:CntF l1 n) (hL:CntN ⟨a4,a5,a6,l7⟩ m ys) (hz:n + m≤260) (z1:l1.length≤25) (z2:l2.length≤6) (z3:l3.length≤6) (z4:∀ x,x ∈ l3 → x.length≤10)
include hF hL hz z1 z2 z3 z4
/-- The text or the error by both; Parse leads back. -/
theorem q9a:∃ (s:q0a) (e:Int),q1q (fun k=>q0D.f k a0 l1 l2 l3 a4 a5 a6 l7) e∧q1q (fun k=>q0t.f k a0 l1 l2 l3 a4 a5 a6 l7) e∧q1q (fun k=>q0R.f k a0 l1 l2 l3 a4 a5 a6 l7) (s,e)∧q1q (fun k=>q1a.f k a0 l1 l2 l3 a4 a5 a6 l7) (s,e)∧
  (e = 0 → q1q (fun k=>q3E.f k s) (a0,l1,l2,l3,a4,a5,a6,l7,0,0)):=by
 obtain ⟨e,e1,e2,e3⟩:=q9X a0 hF hL hz z1 z2 z3 z4
 by_cases he:e = 0
 ·subst he
  obtain ⟨v1,v2,v3,v4,v5⟩:=e3 rfl
  obtain ⟨fw,ft,hW⟩:=fw_of hF (by omega) v2
  obtain ⟨lws,lts,hX⟩:=v0p _ v5 m ys hL (by omega)
  obtain ⟨w0,w1⟩:=q7g v1
  have b1:=hW.wide
  have b2:=v2V ctw 31 l2 (fun x hx=>q9u (v3 x hx))
  have b3:=v2V smw 131 l3 (fun x hx=>by
   have:=q9x (v4 x hx)
   have:=(v4 x hx).2.1
   omega)
  have b4:=hX.z
  have g1:q4x.size = 4:=rfl
  have g2:(⟨#[61]⟩:q0a).size = 1:=rfl
  have b5:wd (fw++(l2.map ctw++(([q4x,⟨#[61]⟩]++lws) :: l3.map smw)))≤15000:=by
   simp only [wd_app,wd,q4O,wid,g1,g2]
   omega
  have d6:(⟨#[109,101,116,114,101,32]⟩:q0a).size = 6:=rfl
  have d3:(⟨#[32,123,10]⟩:q0a).size = 3:=rfl
  have hs:((((⟨#[109,101,116,114,101,32]⟩:q0a)++a0)++(⟨#[32,123,10]⟩:q0a))).size = 9 + a0.size:=by
   rw [ByteArray.size_append,ByteArray.size_append,d6,d3];omega
  obtain ⟨f1,f2⟩:=fmt_l0 a0 v4 (by omega) v3 (by omega) hX (by omega) l1.length 0 n fw ft (((⟨#[109,101,116,114,101,32]⟩:q0a)++a0)++(⟨#[32,123,10]⟩:q0a)) (by omega) (by rw [List.drop_zero];exact hW) (by omega) z1 (by omega)
  refine ⟨txt a0 (fw++(l2.map ctw++(([q4x,⟨#[61]⟩]++lws) :: l3.map smw))),0,e1,e2,?_,?_,fun _=>q9g w0 hW v3 v4 hX (by omega) (by omega) (by omega) (by omega) e1⟩
  ·unfold q0R.f
   exact cBin e1 (cPos rfl (cPO f1))
  ·unfold q1a.f
   exact cBin e2 (cPos rfl (cPO (cPos (by rw [ByteArray.size_append,d6];omega) f2)))
 ·refine ⟨⟨#[]⟩,e,e1,e2,?_,?_,fun k=>absurd k he⟩
  ·unfold q0R.f
   exact cBin e1 (cNeg he (cCon _))
  ·unfold q1a.f
   exact cBin e2 (cNeg he (cCon _))
end
end
end Go.Proofs.YtmffocankommaaaDoor.J
