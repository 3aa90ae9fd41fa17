/- Small words of the printed walks: what of them this claim names. No condition. -/
import Derived.Test.YtmffocankommaaaDoorDWLast
import Derived.Test.YtmffocankommaaaDoorDWWords
namespace Go.Proofs.YtmffocankommaaaDoorW.PrintLast
open Go.Proofs.YtmffocankommaaaDoorW.PrintWords (q0j)
def q6h (md:Region.Mode) (o:Oper):List Nat:=(o.after.toList.filter (fun e=>Region.binds md e)).map (fun e=>e.on)
def q8f (md:Region.Mode) (ops:Array Oper) (i:Nat) (oi:Oper):List Nat:=(List.range ops.size).filter fun j=>!(j == i) && match ops[j]? with
 | some oj=>!(oj.after.any (fun e=>Region.binds md e && e.on == i) || oi.apart ops oj)
 | none=>false
def rtab (md:Region.Mode) (ops:Array Oper):Bool × List (List Nat × List Nat):=(Region.noSelect ops,(List.range ops.size).map fun i=>match ops[i]? with
 | some o=>(q6h md o,q8f md ops i o)
 | none=>([],[]))
def q4Z (T:List (List Nat × List Nat)) (l:List Bool) (i:Nat):Bool:=!l.getD i true && match T[i]? with
 | some r=>r.1.all (fun j=>l.getD j false)
 | none=>false
def q5x (T:List (List Nat × List Nat)) (l:List Bool):List Nat:=(List.range T.length).filter (q4Z T l)
def q9U (T:List (List Nat × List Nat)) (l:List Bool) (i:Nat):Bool:=match T[i]? with
 | some r=>r.2.all (fun j=>l.getD j true)
 | none=>false
def q7u (T:List (List Nat × List Nat)) (l:List Bool):Bool:=(List.range T.length).all fun j=>!l.getD j false || match T[j]? with
 | some r=>r.1.all (fun k=>l.getD k false)
 | none=>true
def q7a (T:List (List Nat × List Nat)) (i:Nat):Nat → Nat → Bool
 | 0,_=>false
 | fuel + 1,d=>match T[d]? with
  | some r=>r.1.any fun j=>j == i || q7a T i fuel j
  | none=>false
def v0t (T:List (List Nat × List Nat)) (l:List Bool) (ds:List Nat) (i:Nat):Bool:=ds.all fun d=>l.getD d true || q7a T i T.length d
section
variable {md:Region.Mode} {ops:Array Oper} {T:Bool × List (List Nat × List Nat)} {l l' li lj lk:Array Bool} {ds:List Nat} {i j k:Nat}
theorem gd (l:Array Bool) (j:Nat) (b:Bool):l.getD j b = l.toList.getD j b:=by simp [Array.getD_eq_getD_getElem?,List.getD_eq_getElem?_getD]
theorem q7O (o:Oper) (p:Nat → Bool):o.after.all (fun e=>!Region.binds md e || p e.on) = (q6h md o).all p:=by
 unfold q6h
 rw [← Array.all_toList]
 induction o.after.toList with
 | nil=>rfl
 | cons e r ih=>
  rw [List.all_cons,ih,List.filter_cons]
  cases h:Region.binds md e <;> simp
theorem q9G (o:Oper) (p:Nat → Bool):o.after.any (fun e=>Region.binds md e && p e.on) = (q6h md o).any p:=by
 unfold q6h
 rw [← Array.any_toList]
 induction o.after.toList with
 | nil=>rfl
 | cons e r ih=>
  rw [List.any_cons,ih,List.filter_cons]
  cases h:Region.binds md e <;> simp
theorem q5j:(rtab md ops).2.length = ops.size:=by simp [rtab]
theorem q5F {o:Oper} (h:ops[i]? = some o):(rtab md ops).2[i]? = some (q6h md o,q8f md ops i o):=by
 have hi:=(Array.getElem?_eq_some_iff.1 h).1
 unfold rtab
 rw [List.getElem?_map,List.getElem?_range hi,Option.map_some,h]
theorem q5I (h:ops[i]? = none):(rtab md ops).2[i]? = none:=by
 have hi:ops.size≤i:=Array.getElem?_eq_none_iff.1 h
 exact List.getElem?_eq_none (by rw [q5j];exact hi)
theorem q9b:q4Z (rtab md ops).2 l.toList i = (!l.getD i true && ((ops[i]?).map (·.after.all fun e=>!Region.binds md e || l.getD e.on false)).getD false):=by
 unfold q4Z
 rw [gd]
 cases h:ops[i]? with
 | none=>rw [q5I h];rfl
 | some o=>
  rw [q5F h]
  simp only [Option.map_some,Option.getD_some]
  rw [← q7O]
  simp only [gd]
theorem q5e:Region.ready md ops l = q5x (rtab md ops).2 l.toList:=by
 unfold Region.ready q5x
 rw [q5j]
 refine List.filter_congr (fun i _=>?_)
 rw [q9b]
theorem q9T:Region.free md ops l i = q9U (rtab md ops).2 l.toList i:=by
 unfold Region.free q9U
 cases h:ops[i]? with
 | none=>rw [q5I h]
 | some oi=>
  rw [q5F h]
  simp only [q8f]
  rw [List.all_filter]
  congr 1
  funext j
  rw [gd]
  cases hj:ops[j]? with
  | none=>cases (j == i) <;> cases (l.toList.getD j true) <;> simp
  | some oj=>
   cases (j == i) <;> cases (l.toList.getD j true) <;> cases (oj.after.any (fun e=>Region.binds md e && e.on == i) || oi.apart ops oj) <;> simp_all
theorem q9F:Region.closedB md ops l = q7u (rtab md ops).2 l.toList:=by
 unfold Region.closedB q7u
 rw [q5j]
 congr 1
 funext j
 rw [gd]
 cases h:ops[j]? with
 | none=>rw [q5I h]
 | some o=>
  rw [q5F h]
  simp only
  rw [← q7O]
  simp only [gd]
theorem q8G:∀ (fuel d:Nat),Region.reachB md ops i fuel d = q7a (rtab md ops).2 i fuel d
 | 0,_=>rfl
 | fuel + 1,d=>by
  unfold Region.reachB q7a
  cases h:ops[d]? with
  | none=>rw [q5I h]
  | some o=>
   rw [q5F h]
   simp only
   rw [← q9G]
   congr 1
   funext e
   rw [q8G fuel]
theorem last_eq:Region.lastB md ops l ds i = v0t (rtab md ops).2 l.toList ds i:=by
 unfold Region.lastB v0t
 rw [q5j]
 congr 1
 funext d
 rw [gd,q8G]
theorem q6D (h:q4Z T.2 l.toList i = true) (hT:rtab md ops = T):(Region.ready md ops l).contains i = true:=by
 subst hT
 rw [q5e]
 unfold q5x
 rw [List.contains_iff_mem,List.mem_filter,List.mem_range]
 refine ⟨?_,h⟩
 unfold q4Z at h
 rw [Bool.and_eq_true] at h
 cases hq:(rtab md ops).2[i]? with
 | none=>rw [hq] at h;simp at h
 | some r=>exact (List.getElem?_eq_some_iff.1 hq).1
theorem q6i (h:(l.toList.set i true == l'.toList) = true):(l.setIfInBounds i true == l') = true:=by
 rw [beq_iff_eq] at h ⊢
 apply Array.ext'
 rw [Array.toList_setIfInBounds]
 exact h
def anyT (T:Bool × List (List Nat × List Nat)) (l l':List Bool) (i:Nat):Bool:=T.1 && q9U T.2 l i && q4Z T.2 l i && (l.set i true == l')
theorem v0S (hT:rtab md ops = T) (h:anyT T l.toList l'.toList i = true):anyB md ops l l' i = true:=by
 simp only [anyT,Bool.and_eq_true] at h
 obtain ⟨⟨⟨h1,h2⟩,h3⟩,h4⟩:=h
 have h5:=q6D h3 hT
 have h6:=q6i h4
 subst hT
 simp only [anyB,Bool.and_eq_true]
 exact ⟨⟨⟨h1,by rw [q9T];exact h2⟩,h5⟩,h6⟩
def takeT (T:Bool × List (List Nat × List Nat)) (ds:List Nat) (l l':List Bool) (i:Nat):Bool:=T.1 && q9U T.2 l i && q4Z T.2 l i && q7u T.2 l && v0t T.2 l ds i && (l.set i true == l')
theorem take_of (hT:rtab md ops = T) (h:takeT T ds l.toList l'.toList i = true):q9t md ops ds l l' i = true:=by
 simp only [takeT,Bool.and_eq_true] at h
 obtain ⟨⟨⟨⟨⟨h1,h2⟩,h3⟩,h4⟩,h5⟩,h6⟩:=h
 have h7:=q6D h3 hT
 have h8:=q6i h6
 subst hT
 simp only [q9t,Bool.and_eq_true]
 exact ⟨⟨⟨⟨⟨h1,by rw [q9T];exact h2⟩,h7⟩,by rw [q9F];exact h4⟩,by rw [last_eq];exact h5⟩,h8⟩
theorem q6j (hT:rtab md ops = T) (h:(q5x T.2 l.toList == [i] && l.toList.set i true == l'.toList) = true):q7d md ops l l' i = true:=by
 simp only [Bool.and_eq_true] at h
 obtain ⟨h1,h2⟩:=h
 subst hT
 simp only [q7d,Bool.and_eq_true]
 exact ⟨by rw [q5e];exact h1,q6i h2⟩
theorem q5G (hT:rtab md ops = T) (h:(q5x T.2 l.toList == [i,j] && l.toList.set i true == li.toList && l.toList.set j true == lj.toList) = true):(Region.ready md ops l == [i,j] && l.setIfInBounds i true == li && l.setIfInBounds j true == lj) = true:=by
 simp only [Bool.and_eq_true] at h ⊢
 obtain ⟨⟨h1,h2⟩,h3⟩:=h
 subst hT
 exact ⟨⟨by rw [q5e];exact h1,q6i h2⟩,q6i h3⟩
theorem v0J (hT:rtab md ops = T) (h:(q5x T.2 l.toList == [i,j,k] && l.toList.set i true == li.toList && l.toList.set j true == lj.toList && l.toList.set k true == lk.toList) = true) :
  (Region.ready md ops l == [i,j,k] && l.setIfInBounds i true == li && l.setIfInBounds j true == lj && l.setIfInBounds k true == lk) = true:=by
 simp only [Bool.and_eq_true] at h ⊢
 obtain ⟨⟨⟨h1,h2⟩,h3⟩,h4⟩:=h
 subst hT
 exact ⟨⟨⟨by rw [q5e];exact h1,q6i h2⟩,q6i h3⟩,q6i h4⟩
theorem q3U (hT:rtab md ops = T) (h:(q5x T.2 l.toList == []) = true):(Region.ready md ops l == []) = true:=by
 subst hT
 rw [q5e]
 exact h
def upM (B:List Nat) (d:Nat):List Nat → Nat
 | []=>0
 | n :: r=>(2 ^ n ||| (if n < d then B.getD n 0 else 0)) ||| upM B d r
def q3J (T:List (List Nat × List Nat)) (B:List Nat):Bool:=(List.range T.length).all fun d=>match T[d]? with
 | some r=>(B.getD d 0 ||| upM B d r.1) == upM B d r.1
 | none=>false
theorem q5C {B:List Nat} {d i:Nat} : ∀ {ns:List Nat},(upM B d ns).testBit i = true → ∃ n ∈ ns,n = i∨(n < d∧(B.getD n 0).testBit i = true)
 | [],h=>by simp [upM] at h
 | n :: r,h=>by
  unfold upM at h
  rw [Nat.testBit_or,Nat.testBit_or,Bool.or_eq_true,Bool.or_eq_true] at h
  rcases h with (h | h) | h
  ·rw [Nat.testBit_two_pow] at h
   exact ⟨n,List.mem_cons_self,.inl (by simpa using h)⟩
  ·by_cases hn:n < d
   ·rw [if_pos hn] at h
    exact ⟨n,List.mem_cons_self,.inr ⟨hn,h⟩⟩
   ·rw [if_neg hn] at h
    simp at h
  ·obtain ⟨m,hm,h2⟩:=q5C h
   exact ⟨m,List.mem_cons_of_mem _ hm,h2⟩
theorem q7K {T:List (List Nat × List Nat)} {B:List Nat} (hB:q3J T B = true):∀ (fuel d:Nat),d < fuel → d < T.length → (B.getD d 0).testBit i = true → q7a T i fuel d = true
 | 0,d,h,_,_=>by omega
 | fuel + 1,d,h,hd,hb=>by
  have h1:=List.all_eq_true.1 hB d (List.mem_range.2 hd)
  cases hr:T[d]? with
  | none=>rw [hr] at h1;simp at h1
  | some r=>
   rw [hr] at h1
   simp only [beq_iff_eq] at h1
   have h2:(upM B d r.1).testBit i = true:=by rw [← h1,Nat.testBit_or,hb,Bool.true_or]
   obtain ⟨n,hn,h3⟩:=q5C h2
   unfold q7a
   rw [hr]
   simp only
   rw [List.any_eq_true]
   refine ⟨n,hn,?_⟩
   rcases h3 with rfl | ⟨h4,h5⟩
   ·simp
   ·rw [q7K hB fuel n (by omega) (by omega) h5,Bool.or_true]
def lastW (T:List (List Nat × List Nat)) (B:List Nat) (l:List Bool) (ds:List Nat) (i:Nat):Bool:=ds.all fun d=>l.getD d true || (decide (d < T.length) && (B.getD d 0).testBit i)
def takeW (T:Bool × List (List Nat × List Nat)) (B:List Nat) (ds:List Nat) (l l':List Bool) (i:Nat):Bool:=T.1 && q9U T.2 l i && q4Z T.2 l i && q7u T.2 l && lastW T.2 B l ds i && (l.set i true == l')
theorem v0K {B:List Nat} (hT:rtab md ops = T) (hB:q3J T.2 B = true) (h:takeW T B ds l.toList l'.toList i = true):q9t md ops ds l l' i = true:=by
 refine take_of hT ?_
 simp only [takeW,takeT,Bool.and_eq_true] at h ⊢
 obtain ⟨⟨⟨⟨⟨h1,h2⟩,h3⟩,h4⟩,h5⟩,h6⟩:=h
 refine ⟨⟨⟨⟨⟨h1,h2⟩,h3⟩,h4⟩,?_⟩,h6⟩
 unfold lastW at h5
 unfold v0t
 rw [List.all_eq_true] at h5 ⊢
 intro d hd
 have h7:=h5 d hd
 rw [Bool.or_eq_true,Bool.and_eq_true,decide_eq_true_eq] at h7
 rcases h7 with h7 | ⟨h8,h9⟩
 ·rw [h7,Bool.true_or]
 ·rw [q7K hB _ d h8 h8 h9,Bool.or_true]
theorem q3u {P:Program} {Q:Exit → Act → World → Prop} {S:World → Prop} {n:Nat} {a:Act} {w:World} {B:List Nat} (hT:rtab md ops = T) (hB:q3J T.2 B = true) (h:q0j (rtab md ops = T) → q0j (q3J T.2 B = true) → q2i P md ops Q S ds n l a w):q2i P md ops Q S ds n l a w:=h ⟨hT⟩ ⟨hB⟩
end
def q6W:Code → Nat → Option (Array Oper)
 | .region id ops _,k=>if id == k then some ops else none
 | .seq a b,k=>match q6W a k with
  | some o=>some o
  | none=>q6W b k
 | .cond _ a b,k=>match q6W a k with
  | some o=>some o
  | none=>q6W b k
 | .block _ c,k=>q6W c k
 | .loop c,k=>q6W c k
 | .scope c,k=>q6W c k
 | .rangeFunc _ _ a b,k=>match q6W a k with
  | some o=>some o
  | none=>q6W b k
 | _,_=>none
def q4Y (f:Func) (k:Nat):Array Oper:=((f.body.bind fun c=>q6W c k)).getD #[]
end Go.Proofs.YtmffocankommaaaDoorW.PrintLast
