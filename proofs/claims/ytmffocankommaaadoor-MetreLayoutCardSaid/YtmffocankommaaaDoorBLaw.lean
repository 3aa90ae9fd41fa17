/- The plain law: what the walks' functions compute answers as the statement says; the opening of the arguments; the witness's world. No program in sight but its types. Conditions: the lists within the arguments are no longer than the row's bulk. -/
import Derived.Test.YtmffocankommaaaDoorBx24
import Derived.Test.YtmffocankommaaaDoorRows
import Derived.WalkKit
import Derived.ProofKit
import Derived.OpenShut
import Derived.Deep.DeepHandedRow
import Derived.Lib.LaidTab
section
namespace Go.Proofs.YtmffocankommaaaDoor.L
open Go.RowKit Go.Proofs.YtmffocankommaaaDoorW.PrintWords Go.Proofs.YtmffocankommaaaDoorW.PrintLast Go.Proofs.YtmffocankommaaaDoorW.PrintMore Go.Proofs.YtmffocankommaaaDoorY
set_option linter.unusedVariables false
theorem rd36 {xs : List S36} {i : Nat} (h : i < xs.length) : q1t xs (i : Int) = xs[i] := by
 show xs.getD i z36 = xs[i]
 rw [List.getD_eq_getElem?_getD, List.getElem?_eq_getElem h]
 rfl
theorem q2L {i : Nat} (h : i ≤ 1000000) : wrap64 ((i : Int) + 1) = ((i + 1 : Nat) : Int) := by unfold wrap64; omega
/-- Token i is this sign. -/
def Hit (l : List S36) (i : Nat) (s : ByteArray) : Prop := ∃ h : i < l.length, l[i].f0 = 4 ∧ l[i].f1.toList = s.toList
instance (l : List S36) (i : Nat) (s : ByteArray) : Decidable (Hit l i s) := by unfold Hit; exact inferInstance
section
variable (l : List S36) (i : Nat) (s : ByteArray)
theorem q3H : q0u.f l (i : Int) true = some (0, ⟨#[]⟩, 0, (i : Int), true) := by simp [q0u.f]
theorem q2Y : q0u.f l (l.length : Int) false = some (0, ⟨#[]⟩, 0, (l.length : Int), false) := by simp [q0u.f]
theorem q2M (h : i < l.length) : q0u.f l (i : Int) false = some (l[i].f0, l[i].f1, l[i].f2, (i : Int), false) := by
 unfold q0u.f
 rw [if_neg (by decide), if_neg (by omega), if_pos (by omega), if_pos (by omega), rd36 h]
theorem q2W : q0g.f l (i : Int) true s = some (false, (i : Int), true) := by
 unfold q0g.f q0T.f
 rw [q3H]
 simp
theorem q3L (hi : i ≤ l.length) (hs : i ≤ 1000000) : q0g.f l (i : Int) false s = some (if Hit l i s then (true, ((i + 1 : Nat) : Int), false) else (false, (i : Int), false)) := by
 unfold q0g.f q0T.f
 by_cases h : i < l.length
 ·rw [q2M l i h]
  simp only [Option.bind_some]
  by_cases h4 : l[i].f0 = 4
  ·rw [if_pos h4]
   simp only [Option.bind_some]
   by_cases ht : l[i].f1.toList = s.toList
   ·rw [if_pos (show Hit l i s from ⟨h, h4, ht⟩), if_pos (by rw [ht]; exact beq_self_eq_true _), q2L hs]
   ·rw [if_neg (show ¬ Hit l i s from fun k => ht k.2.2), if_neg (by simpa using ht)]
  ·rw [if_neg h4, if_neg (show ¬ Hit l i s from fun k => h4 k.2.1)]
   simp
 ·obtain rfl : i = l.length := by omega
  rw [q2Y, if_neg (show ¬ Hit l l.length s from fun k => by obtain ⟨k, _⟩ := k; omega)]
  simp
theorem q3v : q0t.f l (i : Int) true s = some ((i : Int), true) := by
 unfold q0t.f; rw [q2W]; simp
theorem q5G (hi : i ≤ l.length) (hs : i ≤ 1000000) : q0t.f l (i : Int) false s = some (if Hit l i s then (((i + 1 : Nat) : Int), false) else ((i : Int), true)) := by
 unfold q0t.f
 rw [q3L l i s hi hs]
 by_cases h : Hit l i s
 ·rw [if_pos h, if_pos h]; simp
 ·rw [if_neg h, if_neg h]; simp
theorem q3I (q : Int) (hq : q ≠ 0) : q0U.f l (i : Int) true q = some (⟨#[]⟩, (i : Int), true) := by
 unfold q0U.f; rw [q3H]; simp [hq.symm]
theorem q5X (q : Int) (h : i < l.length) (hk : l[i].f0 = q) (hs : i ≤ 1000000) : q0U.f l (i : Int) false q = some (l[i].f1, ((i + 1 : Nat) : Int), false) := by
 unfold q0U.f
 rw [q2M l i h]
 simp only [Option.bind_some]
 rw [if_pos hk, q2L hs]
theorem q5e (q : Int) (hq : q ≠ 0) (hi : i ≤ l.length) (hk : ∀ h : i < l.length, l[i].f0 ≠ q) : q0U.f l (i : Int) false q = some (⟨#[]⟩, (i : Int), true) := by
 unfold q0U.f
 by_cases h : i < l.length
 ·rw [q2M l i h]
  simp only [Option.bind_some]
  rw [if_neg (hk h)]
 ·obtain rfl : i = l.length := by omega
  rw [q2Y]
  simp [hq.symm]
end
/-- From some number of rounds on, f comes to r. -/
def q0a {α : Type} (f : Nat → Option α) (r : α) : Prop := ∃ K, ∀ k, K ≤ k → f k = some r
theorem q0a.bind {α β : Type} {f : Nat → Option α} {g : Nat → α → Option β} {x : α} {r : β} (h : q0a f x) (hg : q0a (fun k => g k x) r) : q0a (fun k => (f k).bind (g k)) r := by
 obtain ⟨K, h⟩ := h
 obtain ⟨L, hg⟩ := hg
 exact ⟨max K L, fun k hk => by
  show (f k).bind (g k) = some r
  rw [h k (by omega)]
  exact hg k (by omega)⟩
theorem q0a.const {α : Type} (r : α) : q0a (fun _ => some r) r := ⟨0, fun _ _ => rfl⟩
theorem q0a.succ {α : Type} {f : Nat → Option α} {r : α} (h : q0a (fun k => f (k + 1)) r) : q0a f r := by
 obtain ⟨K, h⟩ := h
 exact ⟨K + 1, fun k hk => by
  obtain ⟨j, rfl⟩ : ∃ j, k = j + 1 := ⟨k - 1, by omega⟩
  exact h j (by omega)⟩
theorem q0a.ite_pos {α : Type} {c : Prop} [Decidable c] {f g : Nat → Option α} {r : α} (hc : c) (h : q0a f r) : q0a (fun k => if c then f k else g k) r := by simpa only [if_pos hc] using h
theorem q0a.ite_neg {α : Type} {c : Prop} [Decidable c] {f g : Nat → Option α} {r : α} (hc : ¬ c) (h : q0a g r) : q0a (fun k => if c then f k else g k) r := by simpa only [if_neg hc] using h
theorem q0a.ite {α : Type} {c : Prop} [Decidable c] {f g : Nat → Option α} {r : α} (hf : c → q0a f r) (hg : ¬ c → q0a g r) : q0a (fun k => if c then f k else g k) r := by
 by_cases h : c
 ·exact q0a.ite_pos h (hf h)
 ·exact q0a.ite_neg h (hg h)
theorem q0a.val {α : Type} {x r : α} (h : x = r) : q0a (fun _ => some x) r := h ▸ q0a.const _
theorem q0a.mono {α : Type} {f : Nat → Option α} {r : α} (h : ∀ k, LeO (f k) (f (k + 1))) (k : Nat) (hk : f k = some r) : q0a f r := by
 refine ⟨k, fun j hj => ?_⟩
 obtain ⟨d, rfl⟩ : ∃ d, j = k + d := ⟨j - k, by omega⟩
 clear hj
 induction d with
 | zero => exact hk
 | succ d ih => exact h _ _ ih
/-- Lists within a node are no longer than 2^20. -/
inductive Small : S25 → Prop
 | mk (a : Int) (b : ByteArray) (c : Int) (l : List S25) (hl : l.length ≤ 1048576) (hk : ∀ x, x ∈ l → Small x) : Small ⟨a, b, c, l⟩
theorem q2r {i : Nat} (h : i ≤ 1048576) : wrap64 ((i : Int) + 1) = ((i + 1 : Nat) : Int) := by unfold wrap64; omega
theorem rd25 {xs : List S25} {i : Nat} (h : i < xs.length) : q0J xs (i : Int) = xs[i] := by
 show xs.getD i z25 = xs[i]
 rw [List.getD_eq_getElem?_getD, List.getElem?_eq_getElem h]
 rfl
theorem q4d (a : ByteArray) (ha : a.size ≤ 1000) : ∃ t, q0a (fun k => q0Y.f k a) t := by
 have loop : ∀ (d i : Nat), i + d = a.size → ∃ t, q0a (fun k => q0Y.l0 k a (i : Int)) t := by
  intro d
  induction d with
  | zero =>
   intro i hi
   exact ⟨(i : Int), q0a.succ (by simp only [q0Y.l0]; exact q0a.ite_neg (by omega) (q0a.const _))⟩
  | succ d IH =>
   intro i hi
   obtain ⟨t, ht⟩ := IH (i + 1) (by omega)
   have hd : ∃ b, q1E.f (bt a (i : Int)) = some b := by unfold q1E.f; split <;> exact ⟨_, rfl⟩
   obtain ⟨b, hb⟩ := hd
   cases b with
   | true =>
    refine ⟨t, q0a.succ ?_⟩
    simp only [q0Y.l0, hb, Option.bind_some]
    refine q0a.ite_pos (by omega) (q0a.ite_pos (by omega) (q0a.ite_pos trivial ?_))
    rw [q2L (by omega)]
    exact ht
   | false =>
    refine ⟨(i : Int), q0a.succ ?_⟩
    simp only [q0Y.l0, hb, Option.bind_some]
    exact q0a.ite_pos (by omega) (q0a.ite_pos (by omega) (q0a.ite_neg (by decide) (q0a.const _)))
 exact loop a.size 0 (by omega)
def q3k (n : S25) (i : Nat) (b : Bool) : Int × ByteArray × Int × (List S25) × Int × Bool := (n.f0, n.f1, n.f2, n.f3, (i : Int), b)
def q5q (n : S25) (ok : Bool) (i : Nat) (b : Bool) : Int × ByteArray × Int × (List S25) × Bool × Int × Bool := (n.f0, n.f1, n.f2, n.f3, ok, (i : Int), b)
def one (x : List S25) : S25 := if x.length = 1 then q0J x 0 else ⟨5, ⟨#[]⟩, 0, x⟩
theorem q7Y (l : List S36) (i : Nat) : q0a (fun k => q0o.f k l (i : Int) true) (q5q ⟨0, ⟨#[]⟩, 0, []⟩ false i true) := by
 apply q0a.succ
 simp only [q0o.f, q3H, q2W, Option.bind_some]
 exact q0a.const _
theorem q8m (l : List S36) (hl : l.length ≤ 1000000) : q0a (fun k => q0o.f k l (l.length : Int) false) (q5q ⟨0, ⟨#[]⟩, 0, []⟩ false l.length false) := by
 have h : ∀ s, ¬ Hit l l.length s := fun s k => by obtain ⟨k, _⟩ := k; omega
 apply q0a.succ
 simp only [q0o.f, q2Y, q3L l l.length _ (Nat.le_refl _) hl, if_neg (h _), Option.bind_some]
 exact q0a.const _
theorem q4j (l : List S36) (x : List S25) (i : Nat) (b : Bool) (q0 : Int) (q1 : ByteArray) (q2 : Int) (q3 : List S25) : q0a (fun k => q0b.j1 k x true l (i : Int) b q0 q1 q2 q3) (q3k (one x) i b) := by
 apply q0a.succ
 simp only [q0b.j1]
 refine q0a.ite_pos trivial ?_
 unfold one
 by_cases h : x.length = 1
 ·rw [if_pos h]
  exact q0a.ite_pos (by omega) (q0a.ite_pos (by omega) (q0a.const _))
 ·rw [if_neg h]
  exact q0a.ite_neg (by omega) (q0a.const _)
theorem q6o (l : List S36) (x : List S25) (i : Nat) : q0a (fun k => q0b.l0 k x l (i : Int) true) (q3k (one x) i true) := by
 apply q0a.succ
 simp only [q0b.l0]
 refine q0a.bind (q7Y l i) ?_
 exact q0a.ite_neg (show ¬ (false = true) by decide) (q4j l x i true _ _ _ _)
theorem tl1 (c : UInt8) : (⟨#[c]⟩ : ByteArray).toList = [c] := by rw [ByteArray.toList_eq]
theorem Small.size : ∀ {n : S25}, Small n → n.f3.length ≤ 1048576
 | _, .mk _ _ _ _ hl _ => hl
theorem Small.kids : ∀ {n : S25}, Small n → ∀ x, x ∈ n.f3 → Small x
 | _, .mk _ _ _ _ _ hk => hk
theorem Small.leaf (a : Int) (b : ByteArray) (c : Int) : Small ⟨a, b, c, []⟩ := .mk _ _ _ _ (by simp) (fun x h => by cases h)
theorem Small.sole (a : Int) (b : ByteArray) (c : Int) {n : S25} (h : Small n) : Small ⟨a, b, c, [n]⟩ := .mk _ _ _ _ (by simp) (fun x hx => by rw [List.mem_singleton.1 hx]; exact h)
def Cnt (n : S25) (i i' : Nat) : Prop := n.f0 = 5 → n.f3.length + i ≤ i' ∧ ∀ y, y ∈ n.f3 → y.f0 ≠ 5
def Good (n : S25) (i i' : Nat) : Prop := Small n ∧ Cnt n i i'
def Wor (x : List S25) (i i' : Nat) : Prop := x.length + i ≤ i' ∧ ∀ y, y ∈ x → y.f0 ≠ 5
def Row (x : List S25) (i i' : Nat) : Prop := x.length + i ≤ i' ∧ ∀ y, y ∈ x → Small y ∧ y.f0 ≠ 5
theorem Good.of {a : Int} {b : ByteArray} {c : Int} {l : List S25} {i i' : Nat} (h : Small ⟨a, b, c, l⟩) (ha : a ≠ 5) : Good ⟨a, b, c, l⟩ i i' := ⟨h, fun k => absurd k ha⟩
theorem Good.wide {n : S25} {i i' j j' : Nat} (h : Good n i i') (hj : j ≤ i) (hk : i' ≤ j') : Good n j j' := ⟨h.1, fun k => ⟨by have := (h.2 k).1; omega, (h.2 k).2⟩⟩
theorem q6O {x : List S25} (h : 0 < x.length) : q0J x 0 ∈ x := by
 have e : q0J x 0 = x[0] := rd25 h
 exact e ▸ List.getElem_mem h
theorem Cnt.wide {n : S25} {i i' j j' : Nat} (h : Cnt n i i') (hj : j ≤ i) (hk : i' ≤ j') : Cnt n j j' := fun k => ⟨by have := (h k).1; omega, (h k).2⟩
theorem Row.wor {x : List S25} {i i' : Nat} (h : Row x i i') : Wor x i i' := ⟨h.1, fun y hy => (h.2 y hy).2⟩
theorem one_cnt {x : List S25} {i i' : Nat} (h : Wor x i i') : Cnt (one x) i i' := by
 unfold one
 by_cases h1 : x.length = 1
 ·rw [if_pos h1]
  exact fun k => absurd k (h.2 _ (q6O (by omega : 0 < x.length)))
 ·rw [if_neg h1]
  exact fun _ => h
theorem q8a {x : List S25} {i i' : Nat} (h : Row x i i') (hi : i' ≤ 1000000) : Good (one x) i i' := by
 refine ⟨?_, one_cnt h.wor⟩
 unfold one
 by_cases h1 : x.length = 1
 ·rw [if_pos h1]
  exact (h.2 _ (q6O (by omega : 0 < x.length))).1
 ·rw [if_neg h1]
  exact .mk _ _ _ _ (by have := h.1; omega) (fun y hy => (h.2 y hy).1)
section
variable {l : List S36} {i : Nat} {s : ByteArray}
theorem q4R (hi : i ≤ l.length) (hs : i ≤ 1000000) (h : ¬ Hit l i s) : q0g.f l (i : Int) false s = some (false, (i : Int), false) := by rw [q3L l i s hi hs, if_neg h]
theorem q5i (hi : i ≤ l.length) (hs : i ≤ 1000000) (h : Hit l i s) : q0g.f l (i : Int) false s = some (true, ((i + 1 : Nat) : Int), false) := by rw [q3L l i s hi hs, if_pos h]
theorem q6L (hi : i ≤ l.length) (hs : i ≤ 1000000) (h : ¬ Hit l i s) : q0t.f l (i : Int) false s = some ((i : Int), true) := by rw [q5G l i s hi hs, if_neg h]
theorem q5k (hi : i ≤ l.length) (hs : i ≤ 1000000) (h : Hit l i s) : q0t.f l (i : Int) false s = some (((i + 1 : Nat) : Int), false) := by rw [q5G l i s hi hs, if_pos h]
end
theorem q4I (n : S25) : (⟨n.f0, n.f1, n.f2, n.f3⟩ : S25) = n := by cases n; rfl
theorem q4V {l : List S36} (hl : l.length ≤ 1000000) {i : Nat} (hi : i ≤ l.length) : (∃ s, q1h.f l (i : Int) false = some (s, (i : Int), true)) ∨ (∃ s, i + 1 ≤ l.length ∧ q1h.f l (i : Int) false = some (s, ((i + 1 : Nat) : Int), false)) := by
 have ht : (∃ s, q0U.f l (i : Int) false 1 = some (s, (i : Int), true)) ∨ (∃ s, i + 1 ≤ l.length ∧ q0U.f l (i : Int) false 1 = some (s, ((i + 1 : Nat) : Int), false)) := by
  by_cases h : ∃ h : i < l.length, l[i].f0 = 1
  ·obtain ⟨h, h1⟩ := h
   exact .inr ⟨_, h, q5X l i 1 h h1 (by omega)⟩
  ·exact .inl ⟨_, q5e l i 1 (by decide) hi (fun k k' => h ⟨k, k'⟩)⟩
 have hb := q3I l i 1 (by decide)
 unfold q1h.f q0T.f
 by_cases h : i < l.length
 ·rw [q2M l i h]
  simp only [Option.bind_some]
  by_cases h1 : l[i].f0 = 1
  ·by_cases hu : l[i].f1.toList = ([117] : List UInt8)
   ·exact .inl ⟨_, by simp [h1, hu, hb]; rfl⟩
   ·by_cases hx : l[i].f1.toList = ([120] : List UInt8)
    ·exact .inl ⟨_, by simp [h1, hx, hb, q2M l i h]; rfl⟩
    ·rcases ht with ⟨s, e⟩ | ⟨s, hs, e⟩
     ·exact .inl ⟨s, by simp [h1, hu, hx, q2M l i h, e]⟩
     ·exact .inr ⟨s, hs, by simp [h1, hu, hx, q2M l i h, e]⟩
  ·rcases ht with ⟨s, e⟩ | ⟨s, hs, e⟩
   ·exact .inl ⟨s, by simp [h1, q2M l i h, e]⟩
   ·exact .inr ⟨s, hs, by simp [h1, q2M l i h, e]⟩
 ·obtain rfl : i = l.length := by omega
  rw [q2Y]
  rcases ht with ⟨s, e⟩ | ⟨s, hs, e⟩
  ·exact .inl ⟨s, by simp [q2Y, e]⟩
  ·exact .inr ⟨s, hs, by simp [q2Y, e]⟩
theorem q6A (l : List S36) (x : List S25) (hx : 0 < x.length) (i : Nat) : ∃ n i', q0a (fun k => q0o.l0 k x l (i : Int) true) (q5q n true i' true) := by
 by_cases h : x.length = 1
 ·refine ⟨q0J x 0, i, q0a.succ ?_⟩
  simp only [q0o.l0, q2W, q3v, Option.bind_some]
  exact q0a.ite_neg (show ¬ (false = true) by decide) (q0a.ite_pos (by omega) (q0a.ite_pos (by omega) (q0a.const _)))
 ·refine ⟨⟨6, ⟨#[]⟩, 0, x⟩, i, q0a.succ ?_⟩
  simp only [q0o.l0, q2W, q3v, Option.bind_some]
  exact q0a.ite_neg (show ¬ (false = true) by decide) (q0a.ite_neg (by omega) (q0a.const _))
theorem wor_app {x : List S25} {n : S25} {j i1 i : Nat} (h : Wor x j i1) (hn : Cnt n i1 i) (hi : i1 < i) (h5 : n.f0 = 5) : Wor (x ++ n.f3) j i := by
 have h6 := hn h5
 have h7 := h.1
 refine ⟨by rw [List.length_append]; omega, fun y hy => ?_⟩
 rcases List.mem_append.1 hy with hy | hy
 ·exact h.2 y hy
 ·exact h6.2 y hy
theorem wor_add {x : List S25} {n : S25} {j i1 i : Nat} (h : Wor x j i1) (hi : i1 < i) (h5 : n.f0 ≠ 5) : Wor (x ++ [n]) j i := by
 have h7 := h.1
 refine ⟨by rw [List.length_append, List.length_singleton]; omega, fun y hy => ?_⟩
 rcases List.mem_append.1 hy with hy | hy
 ·exact h.2 y hy
 ·rw [List.mem_singleton.1 hy]; exact h5
theorem q8k (l : List S36) (x : List S25) (i : Nat) (n : S25) (h1 : x.length ≤ 1000000) (h2 : n.f0 = 5 → n.f3.length ≤ 1000000) : ∃ n' i', q0a (fun k => q0b.l1 k x l (i : Int) true n.f0 n.f1 n.f2 n.f3) (q3k n' i' true) := by
 by_cases h : n.f0 = 5
 ·have h2 := h2 h
  refine ⟨one (x ++ n.f3), i, q0a.succ ?_⟩
  simp only [q0b.l1, q2W, Option.bind_some]
  exact q0a.ite_neg (show ¬ (false = true) by decide) (q0a.ite_pos h (q0a.ite_pos (by omega) (q6o _ _ _)))
 ·refine ⟨one (x ++ [n]), i, q0a.succ ?_⟩
  simp only [q0b.l1, q2W, Option.bind_some, q4I]
  exact q0a.ite_neg (show ¬ (false = true) by decide) (q0a.ite_neg h (q0a.ite_pos (by omega) (q6o _ _ _)))
theorem row_app {x : List S25} {n : S25} {j i1 i : Nat} (h : Row x j i1) (hn : Good n i1 i) (hi : i1 < i) (h5 : n.f0 = 5) : Row (x ++ n.f3) j i := by
 have hw := wor_app h.wor hn.2 hi h5
 refine ⟨hw.1, fun y hy => ⟨?_, hw.2 y hy⟩⟩
 rcases List.mem_append.1 hy with hy | hy
 ·exact (h.2 y hy).1
 ·exact hn.1.kids y hy
theorem row_add {x : List S25} {n : S25} {j i1 i : Nat} (h : Row x j i1) (hn : Good n i1 i) (hi : i1 < i) (h5 : n.f0 ≠ 5) : Row (x ++ [n]) j i := by
 have hw := wor_add h.wor hi h5
 refine ⟨hw.1, fun y hy => ⟨?_, hw.2 y hy⟩⟩
 rcases List.mem_append.1 hy with hy | hy
 ·exact (h.2 y hy).1
 ·rw [List.mem_singleton.1 hy]; exact hn.1
section
variable {l : List S36} {c c1 c2 : Int} {t : S36} {k : Nat} (hn : q0u.f l c false = some (t.f0, t.f1, t.f2, c, false)) (hw : wrap64 (c + 1) = c1) (hr : q1t l c = t) (h0 : 0 ≤ c) (hl : c < (l.length : Int))
include hn in
theorem q8I (h1 : t.f0 ≠ 1) (ha : ∀ u : UInt8, u ∈ ([45, 58, 126, 64, 91, 40] : List UInt8) → q0g.f l c false ⟨#[u]⟩ = some (false, c, false)) : q0o.f (k + 1) l c false = some (0, ⟨#[]⟩, 0, [], false, c, false) := by
 simp only [q0o.f, hn, Option.bind_some, if_neg h1, ha 45 (by decide), ha 58 (by decide), ha 126 (by decide), ha 64 (by decide), ha 91 (by decide), ha 40 (by decide), Bool.false_eq_true, if_false]
include hn in
theorem q7q (h1 : t.f0 ≠ 1) {v : UInt8} {q : Int} (hv : v = 45 ∧ q = 2 ∨ v = 58 ∧ q = 9 ∨ v = 126 ∧ q = 10) (ha : ∀ u : UInt8, q0g.f l c false ⟨#[u]⟩ = some (if u = v then (true, c1, false) else (false, c, false))) : q0o.f (k + 1) l c false = some (q, ⟨#[]⟩, 0, [], true, c1, false) := by
 rcases hv with ⟨rfl, rfl⟩ | ⟨rfl, rfl⟩ | ⟨rfl, rfl⟩ <;> simp [q0o.f, hn, h1, ha]
include hn in
theorem m_at (h1 : t.f0 ≠ 1) (ha : ∀ u : UInt8, q0g.f l c false ⟨#[u]⟩ = some (if u = 64 then (true, c1, false) else (false, c, false))) : q0o.f (k + 1) l c false = (q1h.f l c1 false).bind fun aT => some (11, aT.1, 0, [], true, aT.2.1, aT.2.2) := by
 simp [q0o.f, hn, h1, ha]
include hn in
theorem m_box (h1 : t.f0 ≠ 1) (ha : ∀ u : UInt8, q0g.f l c false ⟨#[u]⟩ = some (if u = 91 then (true, c1, false) else (false, c, false))) : q0o.f (k + 1) l c false = (q0b.f k l c1 false).bind fun aW => (q0t.f l aW.2.2.2.2.1 aW.2.2.2.2.2 ⟨#[93]⟩).bind fun aX => some (8, ⟨#[]⟩, 0, [⟨aW.1, aW.2.1, aW.2.2.1, aW.2.2.2.1⟩], true, aX.1, aX.2) := by
 simp [q0o.f, hn, h1, ha]
include hn in
theorem m_alt (h1 : t.f0 ≠ 1) (ha : ∀ u : UInt8, q0g.f l c false ⟨#[u]⟩ = some (if u = 40 then (true, c1, false) else (false, c, false))) : q0o.f (k + 1) l c false = (q0b.f k l c1 false).bind fun aZ => q0o.l0 k [⟨aZ.1, aZ.2.1, aZ.2.2.1, aZ.2.2.2.1⟩] l aZ.2.2.2.2.1 aZ.2.2.2.2.2 := by
 simp [q0o.f, hn, h1, ha]
include hn hw in
theorem m_one (h1 : t.f0 = 1) (hu : t.f1.toList = ([117] : List UInt8)) : q0o.f (k + 1) l c false = some (1, ⟨#[]⟩, 0, [], true, c1, false) := by
 simp [q0o.f, hn, h1, hu, hw]
include hn hw in
theorem m_any (h1 : t.f0 = 1) (hu : t.f1.toList = ([120] : List UInt8)) : q0o.f (k + 1) l c false = some (3, ⟨#[]⟩, 0, [], true, c1, false) := by
 simp [q0o.f, hn, h1, hu, hw]
include hn hw in
theorem m_name (h1 : t.f0 = 1) (hu : t.f1.toList ≠ ([117] : List UInt8)) (hx : t.f1.toList ≠ ([120] : List UInt8)) (ha : q0g.f l c1 false ⟨#[123]⟩ = some (false, c1, false)) : q0o.f (k + 1) l c false = some (4, t.f1, 0, [], true, c1, false) := by
 simp [q0o.f, hn, h1, hu, hx, hw, ha]
include hn hw in
theorem m_bound (h1 : t.f0 = 1) (hu : t.f1.toList ≠ ([117] : List UInt8)) (hx : t.f1.toList ≠ ([120] : List UInt8)) (ha : q0g.f l c1 false ⟨#[123]⟩ = some (true, c2, false)) : q0o.f (k + 1) l c false = (q0b.f k l c2 false).bind fun aH => (q0t.f l aH.2.2.2.2.1 aH.2.2.2.2.2 ⟨#[125]⟩).bind fun aI => some (12, t.f1, 0, [⟨aH.1, aH.2.1, aH.2.2.1, aH.2.2.2.1⟩], true, aI.1, aI.2) := by
 simp [q0o.f, hn, h1, hu, hx, hw, ha]
end
theorem q3h (a : ByteArray) : ∃ r, q0a (fun k => q0G.f k a) r := by
 have jt : q0a (fun k => q0G.j0 k a true) (0, false) := q0a.succ (by simp only [q0G.j0]; exact q0a.ite_pos trivial (q0a.const _))
 unfold q0G.f
 by_cases h0 : a.toList = ([] : List UInt8)
 ·exact ⟨_, q0a.ite_pos h0 jt⟩
 by_cases h6 : (a.size : Int) > 6
 ·exact ⟨_, q0a.ite_neg h0 (q0a.ite_pos h6 jt)⟩
 have hpos : 0 < a.size := by
  rcases Nat.eq_zero_or_pos a.size with h | h
  ·exact absurd (by rw [ByteArray.toList_eq]; exact List.length_eq_zero_iff.1 (by simpa using h)) h0
  ·exact h
 obtain ⟨t, ht⟩ := q4d a (by omega)
 have loop : ∀ (d i : Nat) (x : Int), i + d = a.size → ∃ r, q0a (fun k => q0G.l0 k x (q2R a) (a.size : Int) (i : Int)) r := by
  intro d
  induction d with
  | zero =>
   intro i x hi
   exact ⟨(x, true), q0a.succ (by simp only [q0G.l0]; exact q0a.ite_neg (by omega) (q0a.const _))⟩
  | succ d IH =>
   intro i x hi
   obtain ⟨r, hr⟩ := IH (i + 1) (wrap64 ((wrap64 (10 * x)) + (((bt a i) - 48) % 256))) (by omega)
   refine ⟨r, q0a.succ ?_⟩
   simp only [q0G.l0, q4S, q2j]
   refine q0a.ite_pos (by omega) (q0a.ite_pos (by omega) (q0a.ite_pos (by omega) ?_))
   rw [q2L (by omega)]
   exact hr
 obtain ⟨r, hr⟩ := loop a.size 0 0 (by omega)
 have jf : q0a (fun k => q0G.j0 k a false) r := by
  apply q0a.succ
  simp only [q0G.j0, Option.bind_some]
  refine q0a.ite_neg (by decide) (q0a.ite_pos (by omega) ?_)
  rw [q2j]
  exact hr
 by_cases hs : t = (a.size : Int)
 ·by_cases h1 : (a.size : Int) > 1
  ·by_cases hb : bt a 0 = 48
   ·refine ⟨(0, false), q0a.ite_neg h0 (q0a.ite_neg h6 (q0a.bind ht (q0a.ite_pos hs (q0a.ite_pos h1 (q0a.ite_pos (by omega) ?_)))))⟩
    rw [show (bt a 0 == 48) = true from by simpa using hb]; exact jt
   ·refine ⟨r, q0a.ite_neg h0 (q0a.ite_neg h6 (q0a.bind ht (q0a.ite_pos hs (q0a.ite_pos h1 (q0a.ite_pos (by omega) ?_)))))⟩
    rw [show (bt a 0 == 48) = false from by simpa using hb]; exact jf
  ·exact ⟨r, q0a.ite_neg h0 (q0a.ite_neg h6 (q0a.bind ht (q0a.ite_pos hs (q0a.ite_neg h1 jf))))⟩
 ·exact ⟨_, q0a.ite_neg h0 (q0a.ite_neg h6 (q0a.bind ht (q0a.ite_neg hs jt)))⟩
theorem q4g {l : List S36} (hl : l.length ≤ 1000000) {i : Nat} (hi : i ≤ l.length) (b : Bool) : ∃ (q : Int) (i1 : Nat) (b' : Bool), (i ≤ i1 ∧ i1 ≤ l.length) ∧ q0a (fun k => q0X.f k l (i : Int) b) (q, (i1 : Int), b') := by
 unfold q0X.f
 cases b with
 | true =>
  obtain ⟨r, ha⟩ := q3h ⟨#[]⟩
  rw [q3I l i 2 (by decide)]
  simp only [Option.bind_some]
  exact ⟨r.1, i, true, ⟨Nat.le_refl _, hi⟩, q0a.bind ha (q0a.const _)⟩
 | false =>
  by_cases h : ∃ h : i < l.length, l[i].f0 = 2
  ·obtain ⟨h, h2⟩ := h
   obtain ⟨r, ha⟩ := q3h l[i].f1
   rw [q5X l i 2 h h2 (by omega)]
   simp only [Option.bind_some]
   exact ⟨r.1, i + 1, false, ⟨by omega, h⟩, q0a.bind ha (q0a.const _)⟩
  ·obtain ⟨r, ha⟩ := q3h ⟨#[]⟩
   rw [q5e l i 2 (by decide) hi (fun k k' => h ⟨k, k'⟩)]
   simp only [Option.bind_some]
   exact ⟨r.1, i, true, ⟨Nat.le_refl _, hi⟩, q0a.bind ha (q0a.const _)⟩
/-- q0a to a part, or fails. -/
def T7 (j i len : Nat) (f : Nat → Option (Int × ByteArray × Int × (List S25) × Bool × Int × Bool)) : Prop :=
 (∃ n i1, q0a f (q5q n true i1 true)) ∨ (∃ n i', Good n j i' ∧ i < i' ∧ i' ≤ len ∧ q0a f (q5q n true i' false))
def T6 (j i len : Nat) (f : Nat → Option (Int × ByteArray × Int × (List S25) × Int × Bool)) : Prop :=
 (∃ n i1, q0a f (q3k n i1 true)) ∨ (∃ n i', Good n j i' ∧ i ≤ i' ∧ i' ≤ len ∧ q0a f (q3k n i' false))
theorem T7.map {j i i0 len : Nat} {f f'} (h : T7 j i0 len f) (hi : i ≤ i0) (hf : ∀ r, q0a f r → q0a f' r) : T7 j i len f' := by
 rcases h with ⟨n, i1, a⟩ | ⟨n, i', h, hl, hl', a⟩
 ·exact .inl ⟨n, i1, hf _ a⟩
 ·exact .inr ⟨n, i', h, by omega, hl', hf _ a⟩
theorem T6.map {j i i0 len : Nat} {f f'} (h : T6 j i0 len f) (hi : i ≤ i0) (hf : ∀ r, q0a f r → q0a f' r) : T6 j i len f' := by
 rcases h with ⟨n, i1, a⟩ | ⟨n, i', h, hl, hl', a⟩
 ·exact .inl ⟨n, i1, hf _ a⟩
 ·exact .inr ⟨n, i', h, by omega, hl', hf _ a⟩
theorem T7.succ {j i len : Nat} {f} (h : T7 j i len (fun k => f (k + 1))) : T7 j i len f := h.map (Nat.le_refl _) (fun _ => q0a.succ)
theorem T6.succ {j i len : Nat} {f} (h : T6 j i len (fun k => f (k + 1))) : T6 j i len f := h.map (Nat.le_refl _) (fun _ => q0a.succ)
theorem T6.then {j i0 j' i len : Nat} {f : Nat → Option (Int × ByteArray × Int × (List S25) × Int × Bool)} {F : Nat → Int × ByteArray × Int × (List S25) × Int × Bool → Option (Int × ByteArray × Int × (List S25) × Bool × Int × Bool)} (h : T6 j i0 len f)
  (hF : ∀ n i1, ∃ n' i', q0a (fun k => F k (q3k n i1 true)) (q5q n' true i' true)) (hok : ∀ n i', Good n j i' → i0 ≤ i' → i' ≤ len → T7 j' i len (fun k => F k (q3k n i' false))) : T7 j' i len (fun k => (f k).bind (F k)) := by
 rcases h with ⟨n, i1, a⟩ | ⟨n, i', h, hl, hl', a⟩
 ·obtain ⟨n', i', hF⟩ := hF n i1
  exact .inl ⟨n', i', q0a.bind a hF⟩
 ·exact (hok n i' h hl hl').map (Nat.le_refl _) (fun _ => q0a.bind a)
theorem shut {l : List S36} (hl : l.length ≤ 1000000) (s : ByteArray) (mk : S25 → S25) (hmk : ∀ n, Small n → Small (mk n)) (h5 : ∀ n, (mk n).f0 ≠ 5) {j j' i : Nat}
  {f : Nat → Option (Int × ByteArray × Int × (List S25) × Int × Bool)} {i0 : Nat} (hi : i < i0) (h : T6 j i0 l.length f) {F : Nat → Int × ByteArray × Int × (List S25) × Int × Bool → Option (Int × ByteArray × Int × (List S25) × Bool × Int × Bool)}
  (hF : ∀ k n (i1 : Nat) b, F k (q3k n i1 b) = (q0t.f l (i1 : Int) b s).bind fun q => some ((mk n).f0, (mk n).f1, (mk n).f2, (mk n).f3, true, q.1, q.2)) :
  T7 j' i l.length (fun k => (f k).bind (F k)) := by
 have hc : ∀ n i', Cnt (mk n) j' i' := fun n i' k => absurd k (h5 n)
 refine h.then (fun n i1 => ⟨mk n, i1, ?_⟩) (fun n i' hg hl0 hl1 => ?_)
 ·simp only [hF, q3v, Option.bind_some]; exact q0a.const _
 ·simp only [hF]
  by_cases hh : Hit l i' s
  ·simp only [q5k hl1 (by omega) hh, Option.bind_some]
   refine .inr ⟨mk n, i' + 1, ⟨hmk n hg.1, hc n _⟩, by omega, ?_, q0a.const _⟩
   obtain ⟨hh, _⟩ := hh
   omega
  ·simp only [q6L hl1 (by omega) hh, Option.bind_some]
   exact .inl ⟨mk n, i', q0a.const _⟩
def SeqT (l : List S36) (i : Nat) : Prop := ∀ x j, Row x j i → T6 j i l.length (fun k => q0b.l0 k x l (i : Int) false)
def PowT (l : List S36) (i : Nat) : Prop := ∀ x j i1 n, Row x j i1 → Good n i1 i → i1 < i → T6 j i l.length (fun k => q0b.l1 k x l (i : Int) false n.f0 n.f1 n.f2 n.f3)
def AltT (l : List S36) (i : Nat) : Prop := ∀ x j i0, i0 < i → 0 < x.length → x.length ≤ i → (∀ y, y ∈ x → Small y) → (x.length = 1 → Good (q0J x 0) j i) → T7 j i0 l.length (fun k => q0o.l0 k x l (i : Int) false)
def PartT (l : List S36) (i : Nat) : Prop := T7 i i l.length (fun k => q0o.f k l (i : Int) false) ∨ ∃ n, q0a (fun k => q0o.f k l (i : Int) false) (q5q n false i false)
theorem SeqT.start {l : List S36} {i : Nat} (h : SeqT l i) : T6 i i l.length (fun k => q0b.f k l (i : Int) false) := by
 refine (h [] i ⟨by simp, fun y hy => by cases hy⟩).map (Nat.le_refl _) (fun r hr => q0a.succ ?_)
 simpa only [q0b.f] using hr
theorem q8p {l : List S36} (hl : l.length ≤ 1000000) {i : Nat} (hi : i ≤ l.length) (hs : ∀ j, i < j → j ≤ l.length → SeqT l j) (ha : ∀ j, i < j → j ≤ l.length → AltT l j) : AltT l i := by
 intro x j i0 hi0 h0 hx hk h1
 apply T7.succ
 simp only [q0o.l0]
 by_cases hh : Hit l i ⟨#[47]⟩
 ·simp only [q5i hi (by omega) hh, Option.bind_some, if_true]
  have hi' : i + 1 ≤ l.length := by obtain ⟨hh, _⟩ := hh; omega
  have hle : ∀ n : S25, (x ++ [n]).length = x.length + 1 := fun n => by simp
  refine (hs (i + 1) (by omega) hi').start.then (fun n i1 => ?_) (fun n i' hg hlo hhi => ?_)
  ·obtain ⟨n', i', h⟩ := q6A l (x ++ [n]) (by simp) i1
   simp only [q3k, q4I]
   exact ⟨n', i', q0a.ite_pos (by omega) h⟩
  ·simp only [q3k, q4I]
   refine (ha i' (by omega) hhi (x ++ [n]) j i0 (by omega) (by simp) (by rw [hle]; omega) (fun y hy => ?_) (fun h => by rw [hle] at h; omega)).map (by omega) (fun _ => q0a.ite_pos (by omega))
   rcases List.mem_append.1 hy with hy | hy
   ·exact hk y hy
   ·rw [List.mem_singleton.1 hy]; exact hg.1
 ·simp only [q4R hi (by omega) hh, Option.bind_some, Bool.false_eq_true, if_false]
  by_cases hc : Hit l i ⟨#[41]⟩
  ·simp only [q5k hi (by omega) hc, Option.bind_some]
   have hi' : i + 1 ≤ l.length := by obtain ⟨hc, _⟩ := hc; omega
   by_cases hx1 : x.length = 1
   ·exact .inr ⟨q0J x 0, i + 1, (h1 hx1).wide (Nat.le_refl _) (by omega), by omega, hi', q0a.ite_pos (by omega) (q0a.ite_pos (by omega) (q0a.const _))⟩
   ·exact .inr ⟨⟨6, ⟨#[]⟩, 0, x⟩, i + 1, Good.of (.mk _ _ _ _ (by omega) hk) (by decide), by omega, hi', q0a.ite_neg (by omega) (q0a.const _)⟩
  ·simp only [q6L hi (by omega) hc, Option.bind_some]
   by_cases hx1 : x.length = 1
   ·exact .inl ⟨q0J x 0, i, q0a.ite_pos (by omega) (q0a.ite_pos (by omega) (q0a.const _))⟩
   ·exact .inl ⟨⟨6, ⟨#[]⟩, 0, x⟩, i, q0a.ite_neg (by omega) (q0a.const _)⟩
theorem q7Z {l : List S36} (hl : l.length ≤ 1000000) {i : Nat} (hi : i ≤ l.length) (hs : SeqT l i) (hp : ∀ j, i < j → j ≤ l.length → PowT l j) : PowT l i := by
 intro x j i1 n hx hn h1
 have hx1 := hx.1
 apply T6.succ
 by_cases hh : Hit l i ⟨#[94]⟩
 ·have hi' : i + 1 ≤ l.length := by obtain ⟨hh, _⟩ := hh; omega
  obtain ⟨q, i2, b, hb, a⟩ := q4g hl hi' false
  have hS : Good ⟨7, ⟨#[]⟩, q, [n]⟩ i1 i2 := Good.of (Small.sole _ _ _ hn.1) (by decide)
  have A : ∀ r, q0a (fun k => q0b.l1 k x l (i2 : Int) b 7 ⟨#[]⟩ q [n]) r → q0a (fun k => q0b.l1 (k + 1) x l (i : Int) false n.f0 n.f1 n.f2 n.f3) r := by
   intro r h
   simp only [q0b.l1, q5i hi (by omega) hh, Option.bind_some, if_true, q4I]
   exact q0a.bind (g := fun k (aK : Int × Int × Bool) => q0b.l1 k x l aK.2.1 aK.2.2 7 ⟨#[]⟩ aK.1 [n]) a h
  clear a
  cases b with
  | true =>
   obtain ⟨n1, i3, p1⟩ := q8k l x i2 ⟨7, ⟨#[]⟩, q, [n]⟩ (by omega) (fun k => absurd k (show (7 : Int) ≠ 5 by decide))
   exact .inl ⟨n1, i3, A _ p1⟩
  | false => exact (hp i2 (by omega) hb.2 x j i1 ⟨7, ⟨#[]⟩, q, [n]⟩ hx hS (by omega)).map (by omega) A
 ·simp only [q0b.l1, q4R hi (by omega) hh, Option.bind_some, Bool.false_eq_true, if_false, q4I]
  by_cases h5 : n.f0 = 5
  ·have h6 := (hn.2 h5).1
   exact (hs (x ++ n.f3) j (row_app hx hn h1 h5)).map (Nat.le_refl _) (fun _ h => q0a.ite_pos h5 (q0a.ite_pos (by omega) h))
  ·exact (hs (x ++ [n]) j (row_add hx hn h1 h5)).map (Nat.le_refl _) (fun _ h => q0a.ite_neg h5 (q0a.ite_pos (by omega) h))
theorem q8c {l : List S36} (hl : l.length ≤ 1000000) {i : Nat} (hi : i ≤ l.length) (h0 : i < l.length → PartT l i) (hp : ∀ j, i < j → j ≤ l.length → PowT l j) : SeqT l i := by
 intro x j hx
 have hg := q8a hx (by omega)
 have hx1 := hx.1
 by_cases h : i < l.length
 ·have A := fun n ok (i1 : Nat) b r (hF : q0a (fun k => q0o.f k l (i : Int) false) (q5q n ok i1 b)) (h : q0a (fun k => if ok = true then q0b.j1 k x b l (i1 : Int) b n.f0 n.f1 n.f2 n.f3 else q0b.j1 k x true l (i1 : Int) b n.f0 n.f1 n.f2 n.f3) r) => (show q0a (fun k => q0b.l0 k x l (i : Int) false) r from q0a.succ (by simp only [q0b.l0]; exact q0a.bind hF h))
  rcases h0 h with (⟨n, i1, a⟩ | ⟨n, i', h, hl, hl', a⟩) | ⟨n, a⟩
  ·exact .inl ⟨_, _, A _ _ _ _ _ a (q0a.ite_pos rfl (q4j l x i1 true _ _ _ _))⟩
  ·refine (hp i' hl hl' x j i n hx h hl).map (by omega) (fun r hr => A _ _ _ _ _ a (q0a.ite_pos rfl (q0a.succ ?_)))
   simp only [q0b.j1]
   exact q0a.ite_neg (show ¬ (false = true) by decide) hr
  ·exact .inr ⟨one x, i, hg, Nat.le_refl _, hi, A _ _ _ _ _ a (q0a.ite_neg (show ¬ (false = true) by decide) (q4j l x i false _ _ _ _))⟩
 ·obtain rfl : i = l.length := by omega
  refine .inr ⟨one x, l.length, hg, Nat.le_refl _, Nat.le_refl _, q0a.succ ?_⟩
  simp only [q0b.l0]
  exact q0a.bind (q8m l hl) (q0a.ite_neg (show ¬ (false = true) by decide) (q4j l x l.length false _ _ _ _))
theorem q3d {l : List S36} {i : Nat} {q : Int} {s : ByteArray} (hq : q ≠ 5) (hi : i + 1 ≤ l.length) (ha : ∀ k, q0o.f (k + 1) l (i : Int) false = some (q, s, 0, [], true, ((i + 1 : Nat) : Int), false)) : PartT l i := by
 refine .inl (T7.succ ?_)
 simp only [ha]
 exact .inr ⟨⟨q, s, 0, []⟩, i + 1, Good.of (Small.leaf _ _ _) hq, by omega, hi, q0a.const _⟩
theorem q7M {l : List S36} (hl : l.length ≤ 1000000) {i : Nat} (h : i < l.length) (hs : ∀ j, i < j → j ≤ l.length → SeqT l j) (ha : ∀ j, i < j → j ≤ l.length → AltT l j) : PartT l i := by
 have hn := q2M l i h
 have hw := q2L (show i ≤ 1000000 by omega)
 by_cases h1 : l[i].f0 = 1
 ·by_cases hu : l[i].f1.toList = ([117] : List UInt8)
  ·exact q3d (by decide) h (fun k => m_one hn hw h1 hu)
  by_cases hx : l[i].f1.toList = ([120] : List UInt8)
  ·exact q3d (by decide) h (fun k => m_any hn hw h1 hx)
  by_cases hh : Hit l (i + 1) ⟨#[123]⟩
  ·have hi2 : i + 1 + 1 ≤ l.length := by obtain ⟨hh, _⟩ := hh; omega
   refine .inl (T7.succ ?_)
   simp only [m_bound hn hw h1 hu hx (q5i h (by omega) hh)]
   exact shut hl ⟨#[125]⟩ (fun n => ⟨12, l[i].f1, 0, [n]⟩) (fun n hn => Small.sole _ _ _ hn) (fun n => show (12 : Int) ≠ 5 by decide) (show i < i + 1 + 1 by omega) (hs (i + 1 + 1) (by omega) hi2).start (fun k n i1 b => by simp only [q3k, q4I])
  ·exact q3d (by decide) h (fun k => m_name hn hw h1 hu hx (q4R h (by omega) hh))
 have hk : ∀ v : UInt8, l[i].f0 = 4 → l[i].f1.toList = [v] → ∀ u : UInt8, q0g.f l (i : Int) false ⟨#[u]⟩ = some (if u = v then (true, ((i + 1 : Nat) : Int), false) else (false, (i : Int), false)) := by
  intro v h4 ht u
  by_cases huv : u = v
  ·rw [if_pos huv, q5i (by omega) (by omega) ⟨h, h4, by rw [ht, tl1, huv]⟩]
  ·rw [if_neg huv, q4R (by omega) (by omega) (fun k => huv (by have := k.2.2; rw [ht, tl1] at this; simpa using this.symm))]
 by_cases h4 : l[i].f0 = 4
 ·by_cases t1 : l[i].f1.toList = ([45] : List UInt8)
  ·exact q3d (by decide) h (fun k => q7q hn h1 (.inl ⟨rfl, rfl⟩) (hk _ h4 t1))
  by_cases t2 : l[i].f1.toList = ([58] : List UInt8)
  ·exact q3d (by decide) h (fun k => q7q hn h1 (.inr (.inl ⟨rfl, rfl⟩)) (hk _ h4 t2))
  by_cases t3 : l[i].f1.toList = ([126] : List UInt8)
  ·exact q3d (by decide) h (fun k => q7q hn h1 (.inr (.inr ⟨rfl, rfl⟩)) (hk _ h4 t3))
  by_cases t4 : l[i].f1.toList = ([64] : List UInt8)
  ·refine .inl (T7.succ ?_)
   simp only [m_at hn h1 (hk _ h4 t4)]
   rcases q4V hl h with ⟨s, e⟩ | ⟨s, hs2, e⟩
   ·simp only [e, Option.bind_some]
    exact .inl ⟨⟨11, s, 0, []⟩, i + 1, q0a.const _⟩
   ·simp only [e, Option.bind_some]
    exact .inr ⟨⟨11, s, 0, []⟩, i + 1 + 1, Good.of (Small.leaf _ _ _) (by decide), by omega, hs2, q0a.const _⟩
  by_cases t5 : l[i].f1.toList = ([91] : List UInt8)
  ·refine .inl (T7.succ ?_)
   simp only [m_box hn h1 (hk _ h4 t5)]
   exact shut hl ⟨#[93]⟩ (fun n => ⟨8, ⟨#[]⟩, 0, [n]⟩) (fun n hn => Small.sole _ _ _ hn) (fun n => show (8 : Int) ≠ 5 by decide) (show i < i + 1 by omega) (hs (i + 1) (by omega) h).start (fun k n i1 b => by simp only [q3k, q4I])
  by_cases t6 : l[i].f1.toList = ([40] : List UInt8)
  ·refine .inl (T7.succ ?_)
   simp only [m_alt hn h1 (hk _ h4 t6)]
   refine (hs (i + 1) (by omega) h).start.then (fun n i1 => ?_) (fun n i' hg hlo hhi => ?_)
   ·simp only [q3k, q4I]; exact q6A l [n] (by simp) i1
   ·simp only [q3k, q4I]; exact ha i' (by omega) hhi [n] i i (by omega) (by simp) (by simp; omega) (fun y hy => by rw [List.mem_singleton.1 hy]; exact hg.1) (fun _ => hg.wide (by omega) (Nat.le_refl _))
  have hno : ∀ u : UInt8, u ∈ ([45, 58, 126, 64, 91, 40] : List UInt8) → l[i].f1.toList ≠ [u] := by
   intro u hu
   simp only [List.mem_cons, List.not_mem_nil, or_false] at hu
   rcases hu with rfl | rfl | rfl | rfl | rfl | rfl <;> assumption
  refine .inr ⟨⟨0, ⟨#[]⟩, 0, []⟩, q0a.succ ?_⟩
  simp only [q8I hn h1 (fun u hu => q4R (by omega) (by omega) (fun k => hno u hu (by rw [k.2.2, tl1])))]; exact q0a.const _
 ·refine .inr ⟨⟨0, ⟨#[]⟩, 0, []⟩, q0a.succ ?_⟩
  simp only [q8I hn h1 (fun u hu => q4R (by omega) (by omega) (fun k => h4 k.2.1))]; exact q0a.const _
theorem q7X {l : List S36} (hl : l.length ≤ 1000000) : ∀ (N i : Nat), i ≤ l.length → l.length - i = N → SeqT l i ∧ PowT l i ∧ AltT l i := by
 intro N
 induction N using Nat.strongRecOn with
 | _ N ih =>
  intro i hi hN
  have I : ∀ j, i < j → j ≤ l.length → SeqT l j ∧ PowT l j ∧ AltT l j := fun j h1 h2 => ih (l.length - j) (by omega) j h2 rfl
  have hA := q8p hl hi (fun j h1 h2 => (I j h1 h2).1) (fun j h1 h2 => (I j h1 h2).2.2)
  have hS := q8c hl hi (fun h => q7M hl h (fun j h1 h2 => (I j h1 h2).1) (fun j h1 h2 => (I j h1 h2).2.2)) (fun j h1 h2 => (I j h1 h2).2.1)
  exact ⟨hS, q7Z hl hi hS (fun j h1 h2 => (I j h1 h2).2.1), hA⟩
theorem q8d {l : List S36} (hl : l.length ≤ 1000000) {i : Nat} (hi : i ≤ l.length) : T6 i i l.length (fun k => q0b.f k l (i : Int) false) := (q7X hl _ i hi rfl).1.start
theorem q8f (l : List S36) (i : Nat) : q0a (fun k => q0b.f k l (i : Int) true) (q3k (one []) i true) := q0a.succ (by simp only [q0b.f]; exact q6o l [] i)
end Go.Proofs.YtmffocankommaaaDoor.L
end
section
namespace Go.Proofs.YtmffocankommaaaDoor.L
open Go.RowKit Go.Proofs.YtmffocankommaaaDoorW.PrintWords Go.Proofs.YtmffocankommaaaDoorW.PrintLast Go.Proofs.YtmffocankommaaaDoorW.PrintMore Go.Proofs.YtmffocankommaaaDoorY
set_option linter.unusedVariables false
/-- Equal q6J, apart from their lines. -/
structure Al (l l' : List S36) : Prop where
 len : l.length = l'.length
 kind : ∀ i, (q1t l i).f0 = (q1t l' i).f0
 text : ∀ i, (q1t l i).f1 = (q1t l' i).f1
section
variable {l l' : List S36} (A : Al l l')
include A
theorem q5a (i : Int) (b : Bool) : (q0u.f l i b = none ∧ q0u.f l' i b = none) ∨ ∃ q s u u', q0u.f l i b = some (q, s, u, i, b) ∧ q0u.f l' i b = some (q, s, u', i, b) := by
 unfold q0u.f
 rw [A.len, A.kind, A.text]
 by_cases h1 : b = true
 ·exact .inr ⟨_, _, _, _, by rw [if_pos h1], by rw [if_pos h1]⟩
 by_cases h2 : i = (l'.length : Int)
 ·exact .inr ⟨_, _, _, _, by rw [if_neg h1, if_pos h2], by rw [if_neg h1, if_pos h2]⟩
 by_cases h3 : 0 ≤ i
 ·by_cases h4 : i < (l'.length : Int)
  ·exact .inr ⟨_, _, _, _, by rw [if_neg h1, if_neg h2, if_pos h3, if_pos h4], by rw [if_neg h1, if_neg h2, if_pos h3, if_pos h4]⟩
  ·exact .inl ⟨by rw [if_neg h1, if_neg h2, if_pos h3, if_neg h4], by rw [if_neg h1, if_neg h2, if_pos h3, if_neg h4]⟩
 ·exact .inl ⟨by rw [if_neg h1, if_neg h2, if_neg h3], by rw [if_neg h1, if_neg h2, if_neg h3]⟩
theorem q4r (i : Int) (b : Bool) (q : Int) (s : ByteArray) : q0T.f l i b q s = q0T.f l' i b q s := by
 unfold q0T.f
 rcases q5a A i b with ⟨h1, h2⟩ | ⟨q, s, u, u', h1, h2⟩ <;> rw [h1, h2] <;> rfl
theorem q3P (i : Int) (b : Bool) (s : ByteArray) : q0g.f l i b s = q0g.f l' i b s := by
 unfold q0g.f
 rw [q4r A]
theorem q3f (i : Int) (b : Bool) (s : ByteArray) : q0t.f l i b s = q0t.f l' i b s := by
 unfold q0t.f
 rw [q3P A]
theorem q5c (i : Int) (b : Bool) (q : Int) : q0U.f l i b q = q0U.f l' i b q := by
 unfold q0U.f
 rcases q5a A i b with ⟨h1, h2⟩ | ⟨q, s, u, u', h1, h2⟩ <;> rw [h1, h2] <;> rfl
theorem q6l (i : Int) (b : Bool) : q1h.f l i b = q1h.f l' i b := by
 unfold q1h.f
 simp only [q4r A, q5c A]
theorem q5z (k : Nat) (i : Int) (b : Bool) : q0X.f k l i b = q0X.f k l' i b := by
 unfold q0X.f
 rw [q5c A]
theorem seq_al : ∀ k, (∀ i b, q0b.f k l i b = q0b.f k l' i b) ∧ (∀ x i b, q0b.l0 k x l i b = q0b.l0 k x l' i b) ∧
  (∀ x z i b q0 q1 q2 q3, q0b.j1 k x z l i b q0 q1 q2 q3 = q0b.j1 k x z l' i b q0 q1 q2 q3) ∧ (∀ x i b q0 q1 q2 q3, q0b.l1 k x l i b q0 q1 q2 q3 = q0b.l1 k x l' i b q0 q1 q2 q3) ∧
  (∀ i b, q0o.f k l i b = q0o.f k l' i b) ∧ ∀ x i b, q0o.l0 k x l i b = q0o.l0 k x l' i b := by
 intro k
 induction k with
 | zero => exact ⟨fun _ _ => rfl, fun _ _ _ => rfl, fun _ _ _ _ _ _ _ _ => rfl, fun _ _ _ _ _ _ _ => rfl, fun _ _ => rfl, fun _ _ _ => rfl⟩
 | succ k ih =>
  obtain ⟨h1, h2, h3, h4, h5, h6⟩ := ih
  refine ⟨fun i b => ?_, fun x i b => ?_, fun x z i b q0 q1 q2 q3 => ?_, fun x i b q0 q1 q2 q3 => ?_, fun i b => ?_, fun x i b => ?_⟩
  ·simp only [q0b.f]; exact h2 _ _ _
  ·simp only [q0b.l0, h5, h3]
  ·simp only [q0b.j1, h4]
  ·simp only [q0b.l1, q3P A, q5z A, h4, h2]
  ·simp only [q0o.f]
   rcases q5a A i b with ⟨e1, e2⟩ | ⟨q, s, u, u', e1, e2⟩
   ·rw [e1, e2]; rfl
   ·rw [e1, e2]
    simp only [Option.bind_some, q3P A, q3f A, q6l A, h1, h6]
  ·simp only [q0o.l0, q3P A, q3f A, h1, h6]
theorem q7W : ∀ k, (∀ z i b m0 m1 m2 m3 m4 m5 m6 m7, q0c.l0 k z l i b m0 m1 m2 m3 m4 m5 m6 m7 = q0c.l0 k z l' i b m0 m1 m2 m3 m4 m5 m6 m7) ∧
  (∀ z y i b m0 m1 m2 m3 m4 m5 m6 m7, q0c.j1 k z y l i b m0 m1 m2 m3 m4 m5 m6 m7 = q0c.j1 k z y l' i b m0 m1 m2 m3 m4 m5 m6 m7) ∧
  (∀ z y i b m0 m1 m2 m3 m4 m5 m6 m7 q s u u', q0c.j2 k z y l i b m0 m1 m2 m3 m4 m5 m6 m7 q s u = q0c.j2 k z y l' i b m0 m1 m2 m3 m4 m5 m6 m7 q s u') ∧
  ∀ z x i b m0 m1 m2 m3 m4 m5 m6 m7, q0c.l1 k z x l i b m0 m1 m2 m3 m4 m5 m6 m7 = q0c.l1 k z x l' i b m0 m1 m2 m3 m4 m5 m6 m7 := by
 intro k
 induction k with
 | zero => exact ⟨fun _ _ _ _ _ _ _ _ _ _ _ => rfl, fun _ _ _ _ _ _ _ _ _ _ _ _ => rfl, fun _ _ _ _ _ _ _ _ _ _ _ _ _ _ _ _ => rfl, fun _ _ _ _ _ _ _ _ _ _ _ _ => rfl⟩
 | succ k ih =>
  obtain ⟨h1, h2, h3, h4⟩ := ih
  have hs := (seq_al A k).1
  refine ⟨fun z i b m0 m1 m2 m3 m4 m5 m6 m7 => ?_, fun z y i b m0 m1 m2 m3 m4 m5 m6 m7 => ?_, fun z y i b m0 m1 m2 m3 m4 m5 m6 m7 q s u u' => ?_, fun z x i b m0 m1 m2 m3 m4 m5 m6 m7 => ?_⟩
  ·simp only [q0c.l0, q4r A, h2]
  ·simp only [q0c.j1]
   rcases q5a A i b with ⟨e1, e2⟩ | ⟨q, s, u, u', e1, e2⟩
   ·rw [e1, e2]; rfl
   ·rw [e1, e2]
    simp only [Option.bind_some, h3 _ _ _ _ _ _ _ _ _ _ _ _ _ _ u u']
  ·simp only [q0c.j2, q6l A, q3f A, q5z A, hs, h1, h4]
  ·simp only [q0c.l1, q4r A, q3f A, q6l A, h1, h4]
end
end Go.Proofs.YtmffocankommaaaDoor.L
end
section
namespace Go.Proofs.YtmffocankommaaaDoor.L
open Go.RowKit Go.Proofs.YtmffocankommaaaDoorW.PrintWords Go.Proofs.YtmffocankommaaaDoorW.PrintLast Go.Proofs.YtmffocankommaaaDoorW.PrintMore Go.Proofs.YtmffocankommaaaDoorY
set_option linter.unusedVariables false
theorem rdS {xs : List ByteArray} {i : Nat} (h : i < xs.length) : rdOf ByteArray.empty xs (i : Int) = xs[i] := by
 show xs.getD i ByteArray.empty = xs[i]
 rw [List.getD_eq_getElem?_getD, List.getElem?_eq_getElem h]
 rfl
theorem q4H (xs : List ByteArray) (hl : xs.length ≤ 1048576) (s : ByteArray) : ∃ b, q0a (fun k => q0M.f k xs s) b := by
 have loop : ∀ (d i : Nat), i + d = xs.length → ∃ q, q0a (fun k => q0A.l0 k xs s (xs.length : Int) (i : Int)) q := by
  intro d
  induction d with
  | zero =>
   intro i hi
   exact ⟨-1, q0a.succ (by simp only [q0A.l0]; exact q0a.ite_neg (by omega) (q0a.const _))⟩
  | succ d IH =>
   intro i hi
   obtain ⟨q, hq⟩ := IH (i + 1) (by omega)
   by_cases h : s.toList = (rdOf ByteArray.empty xs (i : Int)).toList
   ·exact ⟨i, q0a.succ (by simp only [q0A.l0]; exact q0a.ite_pos (by omega) (q0a.ite_pos (by omega) (q0a.ite_pos (by omega) (q0a.ite_pos h (q0a.const _)))))⟩
   ·exact ⟨q, q0a.succ (by simp only [q0A.l0, q2r (show i ≤ 1048576 by omega)]; exact q0a.ite_pos (by omega) (q0a.ite_pos (by omega) (q0a.ite_pos (by omega) (q0a.ite_neg h hq))))⟩
 obtain ⟨q, hq⟩ := loop xs.length 0 (by omega)
 unfold q0M.f q0A.f
 exact ⟨_, q0a.bind hq (q0a.const _)⟩
/-- From (i, b) on to (i', b'). -/
def Go1 (n i : Nat) (b : Bool) (i' : Nat) (b' : Bool) : Prop := b' = false → b = false ∧ i ≤ i' ∧ i' ≤ n
theorem Go1.trans {n i i1 i2 : Nat} {b b1 b2 : Bool} (h : Go1 n i b i1 b1) (k : Go1 n i1 b1 i2 b2) : Go1 n i b i2 b2 := fun e => by
 obtain ⟨e1, k1, k2⟩ := k e
 obtain ⟨e2, h1, h2⟩ := h e1
 exact ⟨e2, by omega, k2⟩
section
variable {l : List S36} (hl : l.length ≤ 1000000)
theorem q5Q (i : Nat) (hi : i ≤ l.length) (s : ByteArray) : q0T.f l (i : Int) false 4 s = some (decide (Hit l i s), (i : Int), false) := by
 unfold q0T.f
 by_cases h : i < l.length
 ·rw [q2M l i h]
  simp only [Option.bind_some]
  by_cases h4 : l[i].f0 = 4
  ·rw [if_pos h4]
   by_cases ht : l[i].f1.toList = s.toList
   ·rw [decide_eq_true (show Hit l i s from ⟨h, h4, ht⟩), ht]; simp
   ·rw [decide_eq_false (show ¬ Hit l i s from fun k => ht k.2.2)]; simp [ht]
  ·rw [if_neg h4, decide_eq_false (show ¬ Hit l i s from fun k => h4 k.2.1)]
 ·obtain rfl : i = l.length := by omega
  rw [q2Y, decide_eq_false (show ¬ Hit l l.length s from fun k => by obtain ⟨k, _⟩ := k; omega)]
  simp
include hl
theorem q4i (i : Nat) (b : Bool) (hi : b = false → i ≤ l.length) : ∃ s i' b', q1h.f l (i : Int) b = some (s, ((i' : Nat) : Int), b') ∧ Go1 l.length i b i' b' ∧ (b' = false → i < i') := by
 cases b with
 | true =>
  refine ⟨⟨#[]⟩, i, true, ?_, fun e => (by cases e), fun e => (by cases e)⟩
  unfold q1h.f q0T.f
  rw [q3H]
  simp [q3H, q3I l i 1 (by decide)]
 | false =>
  rcases q4V hl (hi rfl) with ⟨s, e⟩ | ⟨s, hs, e⟩
  ·exact ⟨s, i, true, e, fun e => (by cases e), fun e => (by cases e)⟩
  ·exact ⟨s, i + 1, false, e, fun _ => ⟨rfl, by omega, hs⟩, fun _ => by omega⟩
theorem q2H (i : Nat) (b : Bool) (hi : b = false → i ≤ l.length) (s : ByteArray) : ∃ i' b', q0t.f l (i : Int) b s = some (((i' : Nat) : Int), b') ∧ Go1 l.length i b i' b' := by
 cases b with
 | true => exact ⟨i, true, q3v l i s, fun e => (by cases e)⟩
 | false =>
  have hi := hi rfl
  by_cases hh : Hit l i s
  ·refine ⟨i + 1, false, q5k hi (by omega) hh, fun _ => ⟨rfl, by omega, ?_⟩⟩
   obtain ⟨hh, _⟩ := hh
   omega
  ·exact ⟨i, true, q6L hi (by omega) hh, fun e => (by cases e)⟩
theorem q4X (i : Nat) (b : Bool) (hi : b = false → i ≤ l.length) : ∃ q i' b', q0a (fun k => q0X.f k l (i : Int) b) (q, ((i' : Nat) : Int), b') ∧ Go1 l.length i b i' b' := by
 cases b with
 | true =>
  obtain ⟨r, ha⟩ := q3h ⟨#[]⟩
  refine ⟨r.1, i, true, ?_, fun e => (by cases e)⟩
  unfold q0X.f
  rw [q3I l i 2 (by decide)]
  simp only [Option.bind_some]
  exact q0a.bind ha (q0a.const _)
 | false =>
  obtain ⟨q, i1, b1, h, hc⟩ := q4g hl (hi rfl) false
  exact ⟨q, i1, b1, hc, fun _ => ⟨rfl, h.1, h.2⟩⟩
theorem q7m (i : Nat) (b : Bool) (hi : b = false → i ≤ l.length) : ∃ n i' b', q0a (fun k => q0b.f k l (i : Int) b) (q3k n i' b') ∧ Go1 l.length i b i' b' ∧ (b' = false → Small n) := by
 cases b with
 | true => exact ⟨_, i, true, q8f l i, fun e => (by cases e), fun e => (by cases e)⟩
 | false =>
  rcases q8d hl (hi rfl) with ⟨n, i1, a⟩ | ⟨n, i1, hg, h1, h2, a⟩
  ·exact ⟨n, i1, true, a, fun e => (by cases e), fun e => (by cases e)⟩
  ·exact ⟨n, i1, false, a, fun _ => ⟨rfl, h1, h2⟩, fun _ => hg.1⟩
end
/-- A metre's lists are no longer than n. -/
structure OkM (n : Nat) (m : S44) : Prop where
 h1 : m.f1.length ≤ n
 h2 : m.f2.length ≤ n
 h3 : m.f3.length ≤ n
 k3 : ∀ x, x ∈ m.f3 → x.length ≤ n
 k1 : ∀ x, x ∈ m.f1 → Small x.f1
 k4 : Small m.f4
theorem OkM.wide {n n' : Nat} {m : S44} (h : OkM n m) (hn : n ≤ n') : OkM n' m := ⟨Nat.le_trans h.h1 hn, Nat.le_trans h.h2 hn, Nat.le_trans h.h3 hn, fun x hx => Nat.le_trans (h.k3 x hx) hn, h.k1, h.k4⟩
def tup (m : S44) (i : Nat) (b : Bool) : ByteArray × List S86 × List S88 × List (List ByteArray) × Int × ByteArray × Int × List S25 × Int × Bool := (m.f0, m.f1, m.f2, m.f3, m.f4.f0, m.f4.f1, m.f4.f2, m.f4.f3, (i : Int), b)
/-- The items come to an end. -/
def ItR (n : Nat) (f : Nat → Option (ByteArray × List S86 × List S88 × List (List ByteArray) × Int × ByteArray × Int × List S25 × Int × Bool)) : Prop := ∃ (m : S44) (i' : Nat) (b' : Bool), q0a f (tup m i' b') ∧ (b' = false → i' ≤ n ∧ OkM n m)
theorem ItR.map {n : Nat} {f f'} (h : ItR n f) (hf : ∀ r, q0a f r → q0a f' r) : ItR n f' := by
 obtain ⟨m, i', b', h, k⟩ := h
 exact ⟨m, i', b', hf _ h, k⟩
def L0 (l : List S36) (z : Bool) (m : S44) (i : Nat) (b : Bool) : Nat → Option (ByteArray × List S86 × List S88 × List (List ByteArray) × Int × ByteArray × Int × List S25 × Int × Bool) := fun k => q0c.l0 k z l (i : Int) b m.f0 m.f1 m.f2 m.f3 m.f4.f0 m.f4.f1 m.f4.f2 m.f4.f3
def L1 (l : List S36) (z : Bool) (x : List ByteArray) (m : S44) (i : Nat) (b : Bool) : Nat → Option (ByteArray × List S86 × List S88 × List (List ByteArray) × Int × ByteArray × Int × List S25 × Int × Bool) := fun k => q0c.l1 k z x l (i : Int) b m.f0 m.f1 m.f2 m.f3 m.f4.f0 m.f4.f1 m.f4.f2 m.f4.f3
def q4O (l : List S36) (i : Nat) : Prop := ∀ z m, OkM i m → ItR l.length (L0 l z m i false)
def q7e (l : List S36) (i : Nat) : Prop := ∀ z x m, OkM i m → x.length ≤ i → ItR l.length (L1 l z x m i false)
theorem q3q (l : List S36) (z : Bool) (m : S44) (i : Nat) : q0a (L0 l z m i true) (tup m i true) := by
 unfold L0
 apply q0a.succ
 simp only [q0c.l0]
 refine q0a.ite_pos trivial (q0a.succ ?_)
 simp only [q0c.j1]
 exact q0a.ite_neg (by decide) (q0a.const _)
/-- On from an item's end. -/
theorem q3u {l : List S36} {i : Nat} (H : ∀ j, i < j → j ≤ l.length → q4O l j) (z : Bool) (m : S44) (j : Nat) (b : Bool) (hm : b = false → OkM j m ∧ i < j ∧ j ≤ l.length) : ItR l.length (L0 l z m j b) := by
 cases b with
 | true => exact ⟨m, j, true, q3q l z m j, fun e => (by cases e)⟩
 | false =>
  obtain ⟨h1, h2, h3⟩ := hm rfl
  exact H j h2 h3 z m h1
section
variable {l : List S36} (hl : l.length ≤ 1000000) {i : Nat} (hi : i ≤ l.length) (H : ∀ j, i < j → j ≤ l.length → q4O l j)
include hl H
/-- A list is put behind the lists. -/
theorem q4h (z : Bool) (x : List ByteArray) (m : S44) (j : Nat) (b : Bool) (hj : b = false → i ≤ j ∧ j < l.length) (hm : b = false → OkM j m ∧ x.length ≤ j) (h3 : m.f3.length ≤ 1000000) :
  ItR l.length (fun k => if m.f3.length < 5864062014805 then ((q0t.f l (j : Int) b (⟨#[59]⟩ : ByteArray)).bind fun t => q0c.l0 k z l t.1 t.2 m.f0 m.f1 m.f2 (m.f3 ++ [x]) m.f4.f0 m.f4.f1 m.f4.f2 m.f4.f3) else none) := by
 obtain ⟨j', b', he, hg⟩ := q2H hl j b (fun e => Nat.le_of_lt (hj e).2) ⟨#[59]⟩
 have K : ItR l.length (L0 l z ⟨m.f0, m.f1, m.f2, m.f3 ++ [x], m.f4⟩ j' b') := by
  cases b with
  | true =>
   cases b' with
   | true => exact ⟨_, j', true, q3q l z _ j', fun e => (by cases e)⟩
   | false => exact absurd (hg rfl).1 (by decide)
  | false =>
   obtain ⟨hO, hx⟩ := hm rfl
   obtain ⟨h1, h2⟩ := hj rfl
   have hOk : ∀ n, j + 1 ≤ n → OkM n ⟨m.f0, m.f1, m.f2, m.f3 ++ [x], m.f4⟩ := fun n hn => by
    refine ⟨Nat.le_trans hO.h1 (by omega), Nat.le_trans hO.h2 (by omega), ?_, fun y hy => ?_, hO.k1, hO.k4⟩
    ·show (m.f3 ++ [x]).length ≤ n
     have := hO.h3
     rw [List.length_append, List.length_singleton]; omega
    ·rcases List.mem_append.1 hy with hy | hy
     ·exact Nat.le_trans (hO.k3 y hy) (by omega)
     ·rw [List.mem_singleton.1 hy]; omega
   by_cases hh : Hit l j ⟨#[59]⟩
   ·rw [q5k (by omega) (by omega) hh] at he
    obtain ⟨e1, e2⟩ := Prod.mk.inj (Option.some.inj he)
    obtain rfl : j' = j + 1 := by omega
    subst e2
    exact H (j + 1) (by omega) (by omega) z _ (hOk _ (Nat.le_refl _))
   ·rw [q6L (by omega) (by omega) hh] at he
    obtain ⟨e1, e2⟩ := Prod.mk.inj (Option.some.inj he)
    subst e2
    exact ⟨_, j', true, q3q l z _ j', fun e => (by cases e)⟩
 refine K.map (fun r hr => q0a.ite_pos (by omega) ?_)
 simp only [he, Option.bind_some]
 exact hr
include hi
theorem q7P (hS : ∀ j, i < j → j ≤ l.length → q7e l j) : q7e l i := by
 intro z x m hm hx
 have h3 := hm.h3
 have bad : ∀ j : Nat, ItR l.length (L1 l z x m j true) := fun j => by
  refine (q4h hl H z x m j true (fun e => (by cases e)) (fun e => (by cases e)) (by omega)).map (fun r hr => q0a.succ ?_)
  simp only [L1, q0c.l1]
  exact q0a.ite_pos trivial hr
 have bad' : ∀ (j : Nat) (y : List ByteArray), ItR l.length (L1 l z y m j true) := fun j y => by
  refine (q4h hl H z y m j true (fun e => (by cases e)) (fun e => (by cases e)) (by omega)).map (fun r hr => q0a.succ ?_)
  simp only [L1, q0c.l1]
  exact q0a.ite_pos trivial hr
 by_cases hh : Hit l i ⟨#[59]⟩
 ·have hlt : i < l.length := by obtain ⟨hh, _⟩ := hh; exact hh
  refine (q4h hl H z x m i false (fun _ => ⟨Nat.le_refl _, hlt⟩) (fun _ => ⟨hm, hx⟩) (by omega)).map (fun r hr => q0a.succ ?_)
  simp only [L1, q0c.l1, q5Q i hi, decide_eq_true hh, Option.bind_some]
  exact q0a.ite_neg (by decide) (q0a.ite_pos trivial hr)
 ·obtain ⟨s, i', b', hn, hg, hp⟩ := q4i hl i false (fun _ => hi)
  have K : ItR l.length (L1 l z (x ++ [s]) m i' b') := by
   cases b' with
   | true => exact bad' i' _
   | false =>
    obtain ⟨_, h1, h2⟩ := hg rfl
    have := hp rfl
    exact hS i' this h2 z (x ++ [s]) m (hm.wide h1) (by rw [List.length_append, List.length_singleton]; omega)
  refine K.map (fun r hr => q0a.succ ?_)
  simp only [L1, q0c.l1, q5Q i hi, decide_eq_false hh, Option.bind_some, hn]
  exact q0a.ite_neg (by decide) (q0a.ite_neg (by decide) (q0a.ite_pos (by omega) hr))
end
end Go.Proofs.YtmffocankommaaaDoor.L
end
section
namespace Go.Proofs.YtmffocankommaaaDoor.L
open Go.RowKit Go.Proofs.YtmffocankommaaaDoorW.PrintWords Go.Proofs.YtmffocankommaaaDoorW.PrintLast Go.Proofs.YtmffocankommaaaDoorW.PrintMore Go.Proofs.YtmffocankommaaaDoorY
set_option linter.unusedVariables false
section
variable {l : List S36} (hl : l.length ≤ 1000000) {i : Nat} (hi : i ≤ l.length) (H : ∀ j, i < j → j ≤ l.length → q4O l j)
include hl H
theorem q8u (z : Bool) (y : List ByteArray) (m : S44) (j : Nat) (h3 : m.f3.length ≤ 1000000) : ItR l.length (L1 l z y m j true) := by
 refine (q4h hl H z y m j true (fun e => (by cases e)) (fun e => (by cases e)) h3).map (fun r hr => q0a.succ ?_)
 simp only [L1, q0c.l1]
 exact q0a.ite_pos trivial hr
theorem q5r (hS : ∀ j, i < j → j ≤ l.length → q7e l j) (z y : Bool) (m : S44) (hm : OkM i m) (hy : y = false → i < l.length) (q : Int) (s : ByteArray) (u : Int) :
  ItR l.length (fun k => q0c.j2 k z y l (i : Int) false m.f0 m.f1 m.f2 m.f3 m.f4.f0 m.f4.f1 m.f4.f2 m.f4.f3 q s u) := by
 have g1 := hm.h1
 have g2 := hm.h2
 have g3 := hm.h3
 cases y with
 | true =>
  refine ⟨m, i, true, q0a.succ ?_, fun e => (by cases e)⟩
  simp only [q0c.j2]
  exact q0a.ite_pos trivial (q0a.const _)
 | false =>
  have hlt := hy rfl
  have hw := q2L (show i ≤ 1000000 by omega)
  have nt : ¬ (false = true) := by decide
  have out : ∀ {j b}, Go1 l.length (i + 1) false j b → b = false → j ≤ l.length := fun g e => (g e).2.2
  by_cases hf : s.toList = ([102, 111, 111, 116] : List UInt8)
  ·obtain ⟨s1, i1, b1, e1, o1, _⟩ := q4i hl (i + 1) false (fun _ => hlt)
   obtain ⟨i2, b2, e2, o2⟩ := q2H hl i1 b1 (out o1) ⟨#[61]⟩
   have o2 := o1.trans o2
   obtain ⟨n, i3, b3, c3, o3, hn⟩ := q7m hl i2 b2 (out o2)
   have o3 := o2.trans o3
   obtain ⟨i4, b4, e4, o4'⟩ := q2H hl i3 b3 (out o3) ⟨#[59]⟩
   have o4 := o3.trans o4'
   refine (q3u H z ⟨m.f0, m.f1 ++ [⟨s1, n⟩], m.f2, m.f3, m.f4⟩ i4 b4 (fun e => ?_)).map (fun r hr => q0a.succ ?_)
   ·obtain ⟨_, h1, h2⟩ := o4 e
    refine ⟨⟨?_, Nat.le_trans g2 (by omega), Nat.le_trans g3 (by omega), fun x hx => Nat.le_trans (hm.k3 x hx) (by omega), fun x hx => ?_, hm.k4⟩, by omega, h2⟩
    ·show (m.f1 ++ [_]).length ≤ i4
     rw [List.length_append, List.length_singleton]; omega
    ·rcases List.mem_append.1 hx with hx | hx
     ·exact hm.k1 x hx
     ·rw [List.mem_singleton.1 hx]; exact hn (o4' e).1
   ·simp only [q0c.j2, hw, e1, e2, Option.bind_some]
    refine q0a.ite_neg nt (q0a.ite_pos hf (q0a.bind c3 ?_))
    simp only [q3k, q4I, e4, Option.bind_some]
    exact q0a.ite_pos (by omega) hr
  by_cases hc : s.toList = ([99, 111, 117, 110, 116] : List UInt8)
  ·obtain ⟨s1, i1, b1, e1, o1, _⟩ := q4i hl (i + 1) false (fun _ => hlt)
   obtain ⟨q2, i2, b2, c2, o2⟩ := q4X hl i1 b1 (out o1)
   have o2 := o1.trans o2
   obtain ⟨q3, i3, b3, c3, o3⟩ := q4X hl i2 b2 (out o2)
   have o3 := o2.trans o3
   obtain ⟨i4, b4, e4, o4⟩ := q2H hl i3 b3 (out o3) ⟨#[59]⟩
   have o4 := o3.trans o4
   refine (q3u H z ⟨m.f0, m.f1, m.f2 ++ [⟨s1, q2, q3⟩], m.f3, m.f4⟩ i4 b4 (fun e => ?_)).map (fun r hr => q0a.succ ?_)
   ·obtain ⟨_, h1, h2⟩ := o4 e
    refine ⟨⟨Nat.le_trans g1 (by omega), ?_, Nat.le_trans g3 (by omega), fun x hx => Nat.le_trans (hm.k3 x hx) (by omega), hm.k1, hm.k4⟩, by omega, h2⟩
    show (m.f2 ++ [_]).length ≤ i4
    rw [List.length_append, List.length_singleton]; omega
   ·simp only [q0c.j2, hw, e1, Option.bind_some]
    refine q0a.ite_neg nt (q0a.ite_neg hf (q0a.ite_pos hc (q0a.bind c2 (q0a.bind c3 ?_))))
    simp only [e4, Option.bind_some]
    exact q0a.ite_pos (by omega) hr
  by_cases ho : s.toList = ([115, 111, 109, 101] : List UInt8)
  ·obtain ⟨s1, i1, b1, e1, o1, _⟩ := q4i hl (i + 1) false (fun _ => hlt)
   have K : ItR l.length (L1 l z [s1] m i1 b1) := by
    cases b1 with
    | true => exact q8u hl H z _ m i1 (by omega)
    | false =>
     obtain ⟨_, h1, h2⟩ := o1 rfl
     exact hS i1 (by omega) h2 z [s1] m (hm.wide (by omega)) (by rw [List.length_singleton]; omega)
   refine K.map (fun r hr => q0a.succ ?_)
   simp only [q0c.j2, hw, e1, Option.bind_some]
   exact q0a.ite_neg nt (q0a.ite_neg hf (q0a.ite_neg hc (q0a.ite_pos ho hr)))
  by_cases hn : s.toList = ([108, 105, 110, 101] : List UInt8)
  ·obtain ⟨i2, b2, e2, o2⟩ := q2H hl (i + 1) false (fun _ => hlt) ⟨#[61]⟩
   obtain ⟨n, i3, b3, c3, o3, hS3⟩ := q7m hl i2 b2 (out o2)
   have o3 := o2.trans o3
   obtain ⟨i4, b4, e4, o4'⟩ := q2H hl i3 b3 (out o3) ⟨#[59]⟩
   have o4 := o3.trans o4'
   refine (q3u H true ⟨m.f0, m.f1, m.f2, m.f3, n⟩ i4 b4 (fun e => ?_)).map (fun r hr => q0a.succ ?_)
   ·obtain ⟨_, h1, h2⟩ := o4 e
    exact ⟨⟨Nat.le_trans g1 (by omega), Nat.le_trans g2 (by omega), Nat.le_trans g3 (by omega), fun x hx => Nat.le_trans (hm.k3 x hx) (by omega), hm.k1, hS3 (o4' e).1⟩, by omega, h2⟩
   ·simp only [q0c.j2, hw, e2, Option.bind_some]
    refine q0a.ite_neg nt (q0a.ite_neg hf (q0a.ite_neg hc (q0a.ite_neg ho (q0a.ite_pos hn (q0a.bind c3 ?_)))))
    simp only [q3k, e4, Option.bind_some]
    exact hr
  ·obtain ⟨i4, b4, e4, o4⟩ := q2H hl (i + 1) false (fun _ => hlt) ⟨#[59]⟩
   refine (q3u H z m i4 b4 (fun e => ?_)).map (fun r hr => q0a.succ ?_)
   ·obtain ⟨_, h1, h2⟩ := o4 e
    exact ⟨hm.wide (by omega), by omega, h2⟩
   ·simp only [q0c.j2, hw, e4, Option.bind_some]
    exact q0a.ite_neg nt (q0a.ite_neg hf (q0a.ite_neg hc (q0a.ite_neg ho (q0a.ite_neg hn hr))))
include hi
theorem q6T (hS : ∀ j, i < j → j ≤ l.length → q7e l j) : q4O l i := by
 intro z m hm
 have J : ∀ y, ItR l.length (fun k => q0c.j1 k z y l (i : Int) false m.f0 m.f1 m.f2 m.f3 m.f4.f0 m.f4.f1 m.f4.f2 m.f4.f3) := by
  intro y
  cases y with
  | false =>
   refine ⟨m, i, false, q0a.succ ?_, fun _ => ⟨hi, hm.wide hi⟩⟩
   simp only [q0c.j1]
   exact q0a.ite_neg (by decide) (q0a.const _)
  | true =>
   by_cases hlt : i < l.length
   ·have hn := q2M l i hlt
    obtain ⟨t, ht⟩ := q4H [(⟨#[102, 111, 111, 116]⟩ : ByteArray), (⟨#[99, 111, 117, 110, 116]⟩ : ByteArray), (⟨#[115, 111, 109, 101]⟩ : ByteArray), (⟨#[108, 105, 110, 101]⟩ : ByteArray)] (by decide) l[i].f1
    have D := fun y => q5r hl H hS z y m hm (fun _ => hlt) l[i].f0 l[i].f1 l[i].f2
    by_cases h1 : l[i].f0 = 1
    ·by_cases hL : l[i].f1.toList = ([108, 105, 110, 101] : List UInt8)
     ·by_cases hz : z = true
      ·refine (D true).map (fun r hr => q0a.succ ?_)
       simp only [q0c.j1, hn, Option.bind_some]
       exact q0a.ite_pos trivial (q0a.ite_pos h1 (q0a.ite_pos hL (q0a.ite_pos hz hr)))
      ·refine (D (!t)).map (fun r hr => q0a.succ ?_)
       simp only [q0c.j1, hn, Option.bind_some]
       exact q0a.ite_pos trivial (q0a.ite_pos h1 (q0a.ite_pos hL (q0a.ite_neg hz (q0a.bind ht hr))))
     ·refine (D (!t)).map (fun r hr => q0a.succ ?_)
      simp only [q0c.j1, hn, Option.bind_some]
      exact q0a.ite_pos trivial (q0a.ite_pos h1 (q0a.ite_neg hL (q0a.bind ht hr)))
    ·refine (D true).map (fun r hr => q0a.succ ?_)
     simp only [q0c.j1, hn, Option.bind_some]
     exact q0a.ite_pos trivial (q0a.ite_neg h1 hr)
   ·obtain rfl : i = l.length := by omega
    refine (q5r hl H hS z true m hm (fun e => (by cases e)) 0 ⟨#[]⟩ 0).map (fun r hr => q0a.succ ?_)
    simp only [q0c.j1, q2Y, Option.bind_some]
    exact q0a.ite_pos trivial (q0a.ite_neg (by decide) hr)
 cases z with
 | true =>
  refine (J (!decide (Hit l i ⟨#[125]⟩))).map (fun r hr => q0a.succ ?_)
  simp only [L0, q0c.l0, q5Q i hi, Option.bind_some]
  exact q0a.ite_neg (by decide) (q0a.ite_pos trivial hr)
 | false =>
  refine (J true).map (fun r hr => q0a.succ ?_)
  simp only [L0, q0c.l0]
  exact q0a.ite_neg (by decide) (q0a.ite_neg (by decide) hr)
end
theorem q7o {l : List S36} (hl : l.length ≤ 1000000) : ∀ (N i : Nat), i ≤ l.length → l.length - i = N → q4O l i ∧ q7e l i := by
 intro N
 induction N using Nat.strongRecOn with
 | _ N ih =>
  intro i hi hN
  have I : ∀ j, i < j → j ≤ l.length → q4O l j ∧ q7e l j := fun j h1 h2 => ih (l.length - j) (by omega) j h2 rfl
  have hH := fun j h1 h2 => (I j h1 h2).1
  have hS := fun j h1 h2 => (I j h1 h2).2
  exact ⟨q6T hl hi hH hS, q7P hl hi hH hS⟩
theorem q7y {l : List S36} (hl : l.length ≤ 1000000) (i : Nat) (b : Bool) (hi : b = false → i ≤ l.length) (s : ByteArray) : ItR l.length (fun k => q0c.f k l (i : Int) b s) := by
 have hO : OkM i ⟨s, [], [], [], ⟨0, ⟨#[]⟩, 0, []⟩⟩ := ⟨Nat.zero_le _, Nat.zero_le _, Nat.zero_le _, fun x hx => (by cases hx), fun x hx => (by cases hx), Small.leaf _ _ _⟩
 unfold q0c.f
 cases b with
 | true => exact ⟨_, i, true, q3q l false ⟨s, [], [], [], ⟨0, ⟨#[]⟩, 0, []⟩⟩ i, fun e => (by cases e)⟩
 | false => exact (q7o hl _ i (hi rfl) rfl).1 false ⟨s, [], [], [], ⟨0, ⟨#[]⟩, 0, []⟩⟩ hO
end Go.Proofs.YtmffocankommaaaDoor.L
end
section
namespace Go.Proofs.YtmffocankommaaaDoor.L
open Go.RowKit Go.Proofs.YtmffocankommaaaDoorW.PrintWords Go.Proofs.YtmffocankommaaaDoorW.PrintLast Go.Proofs.YtmffocankommaaaDoorW.PrintMore Go.Proofs.YtmffocankommaaaDoorY
set_option linter.unusedVariables false
theorem q3C : ∀ (k : Nat) (a : ByteArray) (i : Int), q0F.l0 k a i = q0Y.l0 k a i
 | 0, _, _ => rfl
 | k + 1, a, i => by
  simp only [q0F.l0, q0Y.l0]
  have e : ∀ x, q1z.f x = q1E.f x := fun _ => rfl
  simp only [e, q3C k]
theorem q5D (a : ByteArray) : ∀ (k : Nat) (x i : Int), q0G.l0 k x (q2R a) (a.size : Int) i = q0y.l0 k a x i
 | 0, _, _ => rfl
 | k + 1, x, i => by
  simp only [q0G.l0, q0y.l0, q4S, q2j]
  by_cases h : i < (a.size : Int)
  ·rw [if_pos h, if_pos h, if_pos h, q5D a k]
  ·rw [if_neg h, if_neg h]
theorem q5K (a : ByteArray) : ∃ r, q0a (fun k => q0G.f k a) r ∧ q0a (fun k => q0y.f k a) r := by
 have jt : q0a (fun k => q0G.j0 k a true) (0, false) := q0a.succ (by simp only [q0G.j0]; exact q0a.ite_pos trivial (q0a.const _))
 have jr : q0a (fun k => q0y.j0 k a true) (0, false) := q0a.succ (by simp only [q0y.j0]; exact q0a.ite_pos trivial (q0a.const _))
 unfold q0G.f q0y.f
 by_cases h0 : a.toList = ([] : List UInt8)
 ·exact ⟨_, q0a.ite_pos h0 jt, q0a.ite_pos h0 jr⟩
 by_cases h6 : (a.size : Int) > 6
 ·exact ⟨_, q0a.ite_neg h0 (q0a.ite_pos h6 jt), q0a.ite_neg h0 (q0a.ite_pos h6 jr)⟩
 have hpos : 0 < a.size := by
  rcases Nat.eq_zero_or_pos a.size with h | h
  ·exact absurd (by rw [ByteArray.toList_eq]; exact List.length_eq_zero_iff.1 (by simpa using h)) h0
  ·exact h
 obtain ⟨t, ht⟩ := q4d a (by omega)
 have ht' : q0a (fun k => q0F.f k a) t := by
  unfold q0F.f
  simp only [q3C]
  exact ht
 have loop : ∀ (d i : Nat) (x : Int), i + d = a.size → ∃ r, q0a (fun k => q0y.l0 k a x (i : Int)) r := by
  intro d
  induction d with
  | zero =>
   intro i x hi
   exact ⟨(x, true), q0a.succ (by simp only [q0y.l0]; exact q0a.ite_neg (by omega) (q0a.const _))⟩
  | succ d IH =>
   intro i x hi
   obtain ⟨r, hr⟩ := IH (i + 1) (wrap64 ((wrap64 (10 * x)) + (((bt a i) - 48) % 256))) (by omega)
   refine ⟨r, q0a.succ ?_⟩
   simp only [q0y.l0]
   refine q0a.ite_pos (by omega) (q0a.ite_pos (by omega) ?_)
   rw [q2L (by omega)]
   exact hr
 obtain ⟨r, hr⟩ := loop a.size 0 0 (by omega)
 have jf : q0a (fun k => q0G.j0 k a false) r := by
  apply q0a.succ
  simp only [q0G.j0, Option.bind_some]
  refine q0a.ite_neg (by decide) (q0a.ite_pos (by omega) ?_)
  rw [q2j]
  simp only [q5D]
  exact hr
 have jg : q0a (fun k => q0y.j0 k a false) r := by
  apply q0a.succ
  simp only [q0y.j0]
  exact q0a.ite_neg (by decide) hr
 by_cases hs : t = (a.size : Int)
 ·by_cases h1 : (a.size : Int) > 1
  ·by_cases hb : bt a 0 = 48
   ·refine ⟨(0, false), q0a.ite_neg h0 (q0a.ite_neg h6 (q0a.bind ht (q0a.ite_pos hs (q0a.ite_pos h1 (q0a.ite_pos (by omega) ?_))))), q0a.ite_neg h0 (q0a.ite_neg h6 (q0a.bind ht' (q0a.ite_pos hs (q0a.ite_pos (by omega) (q0a.ite_pos hb ?_)))))⟩
    ·rw [show (bt a 0 == 48) = true from by simpa using hb]; exact jt
    ·rw [show decide ((a.size : Int) > 1) = true from decide_eq_true h1]; exact jr
   ·refine ⟨r, q0a.ite_neg h0 (q0a.ite_neg h6 (q0a.bind ht (q0a.ite_pos hs (q0a.ite_pos h1 (q0a.ite_pos (by omega) ?_))))), q0a.ite_neg h0 (q0a.ite_neg h6 (q0a.bind ht' (q0a.ite_pos hs (q0a.ite_pos (by omega) (q0a.ite_neg hb jg)))))⟩
    rw [show (bt a 0 == 48) = false from by simpa using hb]; exact jf
  ·refine ⟨r, q0a.ite_neg h0 (q0a.ite_neg h6 (q0a.bind ht (q0a.ite_pos hs (q0a.ite_neg h1 jf)))), q0a.ite_neg h0 (q0a.ite_neg h6 (q0a.bind ht' (q0a.ite_pos hs (q0a.ite_pos (by omega) ?_))))⟩
   by_cases hb : bt a 0 = 48
   ·refine q0a.ite_pos hb ?_
    rw [show decide ((a.size : Int) > 1) = false from decide_eq_false h1]; exact jg
   ·exact q0a.ite_neg hb jg
 ·exact ⟨_, q0a.ite_neg h0 (q0a.ite_neg h6 (q0a.bind ht (q0a.ite_neg hs jt))), q0a.ite_neg h0 (q0a.ite_neg h6 (q0a.bind ht' (q0a.ite_neg hs jr)))⟩
theorem q7j {i : Nat} (h : i ≤ 1000000) : wrap64 ((i : Int) + 2) = ((i + 2 : Nat) : Int) := by unfold wrap64; omega
theorem q2v {s : ByteArray} {i j m : Nat} (hj : j ≤ s.size) (h : m < j - i) : bt (s.extract i j) ((m : Nat) : Int) = bt s ((i + m : Nat) : Int) := by
 have h1 : ((m : Nat) : Int).toNat = m := Int.toNat_natCast _
 have h2 : ((i + m : Nat) : Int).toNat = i + m := Int.toNat_natCast _
 unfold bt
 rw [dif_pos (show ((m : Nat) : Int).toNat < (s.extract i j).size by rw [h1, ByteArray.size_extract]; omega), dif_pos (show ((i + m : Nat) : Int).toNat < s.size by rw [h2]; omega)]
 simp only [h1, h2, ByteArray.getElem_extract]
theorem q2c {s : ByteArray} {i j : Nat} (hj : j ≤ s.size) : (s.extract i j).size = j - i := by rw [ByteArray.size_extract]; omega
def Dg (c : Int) : Bool := decide (48 ≤ c) && decide (c ≤ 57)
def Sm (c : Int) : Bool := decide (97 ≤ c) && decide (c ≤ 122)
theorem q2x (c : Int) : q1E.f c = some (Dg c) := by
 unfold q1E.f Dg
 by_cases h : c ≥ 48
 ·rw [if_pos h, decide_eq_true (show (48 : Int) ≤ c from h)]; simp
 ·rw [if_neg h, decide_eq_false (show ¬ (48 : Int) ≤ c from h)]; simp
theorem q2l (c : Int) : q1D.f c = some (Sm c) := by
 unfold q1D.f Sm
 by_cases h : c ≥ 97
 ·rw [if_pos h, decide_eq_true (show (97 : Int) ≤ c from h)]; simp
 ·rw [if_neg h, decide_eq_false (show ¬ (97 : Int) ≤ c from h)]; simp
theorem q6H (c : Int) : q1z.f c = some (Dg c) := q2x c
theorem q5l (c : Int) : q1A.f c = some (Sm c) := q2l c
theorem q5N (s : ByteArray) (hs : s.size ≤ 20000) : ∀ (d i : Nat), i + d = s.size → ∃ t : Nat, i ≤ t ∧ t ≤ s.size ∧ (∀ m, i ≤ m → m < t → Dg (bt s ((m : Nat) : Int)) = true) ∧ (t < s.size → Dg (bt s (t : Int)) = false) ∧ q0a (fun k => q0Y.l0 k s (i : Int)) (t : Int) := by
 intro d
 induction d with
 | zero =>
  intro i hi
  refine ⟨i, Nat.le_refl _, by omega, fun m h1 h2 => by omega, fun h => by omega, q0a.succ ?_⟩
  simp only [q0Y.l0]
  exact q0a.ite_neg (by omega) (q0a.const _)
 | succ d IH =>
  intro i hi
  cases hb : Dg (bt s (i : Int)) with
  | true =>
   obtain ⟨t, h1, h2, h3, h4, h5⟩ := IH (i + 1) (by omega)
   refine ⟨t, by omega, h2, fun m m1 m2 => ?_, h4, q0a.succ ?_⟩
   ·by_cases e : m = i
    ·rw [e]; exact hb
    ·exact h3 m (by omega) m2
   ·simp only [q0Y.l0, q2x, hb, Option.bind_some, if_true, q2L (show i ≤ 1000000 by omega)]
    exact q0a.ite_pos (by omega) (q0a.ite_pos (by omega) h5)
  | false =>
   refine ⟨i, Nat.le_refl _, by omega, fun m h1 h2 => by omega, fun _ => hb, q0a.succ ?_⟩
   simp only [q0Y.l0, q2x, hb, Option.bind_some, Bool.false_eq_true, if_false]
   exact q0a.ite_pos (by omega) (q0a.ite_pos (by omega) (q0a.const _))
theorem q3g (s : ByteArray) (hs : s.size ≤ 20000) : ∃ t : Nat, t ≤ s.size ∧ (∀ m, m < t → Dg (bt s ((m : Nat) : Int)) = true) ∧ (t < s.size → Dg (bt s (t : Int)) = false) ∧ q0a (fun k => q0Y.f k s) (t : Int) ∧ q0a (fun k => q0F.f k s) (t : Int) := by
 obtain ⟨t, h1, h2, h3, h4, h5⟩ := q5N s hs s.size 0 (by omega)
 refine ⟨t, h2, fun m hm => h3 m (Nat.zero_le _) hm, h4, h5, ?_⟩
 unfold q0F.f
 simp only [q3C]
 exact h5
theorem q3t (a : ByteArray) (h1 : 0 < a.size) (h6 : a.size ≤ 6) (hd : ∀ m, m < a.size → Dg (bt a ((m : Nat) : Int)) = true) : ∃ v, q0a (fun k => q0G.f k a) (if 1 < a.size ∧ bt a 0 = 48 then (0, false) else (v, true)) := by
 have h0 : ¬ a.toList = ([] : List UInt8) := by
  rw [ByteArray.toList_eq]
  intro h
  have := congrArg List.length h
  rw [q2J] at this
  have : a.size = 0 := this
  omega
 obtain ⟨t, ht, hm, hn, hc, _⟩ := q3g a (by omega)
 have et : t = a.size := by
  rcases Nat.lt_or_ge t a.size with h | h
  ·have := hn h; rw [hd t h] at this; cases this
  ·omega
 subst et
 have loop : ∀ (d i : Nat) (x : Int), i + d = a.size → ∃ r, q0a (fun k => q0G.l0 k x (q2R a) (a.size : Int) (i : Int)) (r, true) := by
  intro d
  induction d with
  | zero =>
   intro i x hi
   exact ⟨x, q0a.succ (by simp only [q0G.l0]; exact q0a.ite_neg (by omega) (q0a.const _))⟩
  | succ d IH =>
   intro i x hi
   obtain ⟨r, hr⟩ := IH (i + 1) (wrap64 ((wrap64 (10 * x)) + (((rd (q2R a) (i : Int)) - 48) % 256))) (by omega)
   refine ⟨r, q0a.succ ?_⟩
   simp only [q0G.l0, q2j, q2L (show i ≤ 1000000 by omega)]
   exact q0a.ite_pos (by omega) (q0a.ite_pos (by omega) (q0a.ite_pos (by omega) hr))
 obtain ⟨r, hr⟩ := loop a.size 0 0 (by omega)
 have jf : q0a (fun k => q0G.j0 k a false) (r, true) := by
  apply q0a.succ
  simp only [q0G.j0, Option.bind_some]
  refine q0a.ite_neg (by decide) (q0a.ite_pos (by omega) ?_)
  rw [q2j]
  exact hr
 have jt : q0a (fun k => q0G.j0 k a true) (0, false) := q0a.succ (by simp only [q0G.j0]; exact q0a.ite_pos trivial (q0a.const _))
 refine ⟨r, ?_⟩
 unfold q0G.f
 by_cases hs : a.size > 1
 ·by_cases hb : bt a 0 = 48
  ·rw [if_pos ⟨hs, hb⟩]
   refine q0a.ite_neg h0 (q0a.ite_neg (by omega) (q0a.bind hc (q0a.ite_pos rfl (q0a.ite_pos (by omega) (q0a.ite_pos (by omega) ?_)))))
   rw [show (bt a 0 == 48) = true from by simpa using hb]; exact jt
  ·rw [if_neg (fun k => hb k.2)]
   refine q0a.ite_neg h0 (q0a.ite_neg (by omega) (q0a.bind hc (q0a.ite_pos rfl (q0a.ite_pos (by omega) (q0a.ite_pos (by omega) ?_)))))
   rw [show (bt a 0 == 48) = false from by simpa using hb]; exact jf
 ·rw [if_neg (fun k => hs k.1)]
  exact q0a.ite_neg h0 (q0a.ite_neg (by omega) (q0a.bind hc (q0a.ite_pos rfl (q0a.ite_neg (by omega) jf))))
theorem q5p (s : ByteArray) (hs : s.size ≤ 20000) : ∀ (k i : Nat), i ≤ s.size → (q0r.l0 k s (i : Int) = q0C.l0 k s (i : Int)) ∧ (i < s.size → ∀ b, q0r.j2 k s (i : Int) b = q0C.j2 k s (i : Int) (bt s (i : Int)) b)
 | 0, i, hi => ⟨rfl, fun _ _ => rfl⟩
 | k + 1, i, hi => by
  have w1 := q2L (show i ≤ 1000000 by omega)
  have w2 := q7j (show i ≤ 1000000 by omega)
  refine ⟨?_, fun h b => ?_⟩
  ·simp only [q0r.l0, q0C.l0, q2x, q2l, q6H, q5l, Option.bind_some]
   by_cases h : i < s.size
   ·simp only [(q5p s hs k i hi).2 h]
   ·rw [if_neg (by omega), if_neg (by omega)]
  ·simp only [q0r.j2, q0C.j2, q2x, q2l, q6H, q5l, Option.bind_some, w1, w2]
   rw [(q5p s hs k (i + 1) h).1, if_pos (show (0 : Int) ≤ (i : Int) by omega), if_pos (show (i : Int) < (s.size : Int) by omega)]
   by_cases h1 : i + 1 < s.size
   ·rw [(q5p s hs k (i + 2) h1).1, if_neg (show ¬ ((i + 1 : Nat) : Int) = (s.size : Int) by omega)]
    simp only [if_pos (show (0 : Int) ≤ ((i + 1 : Nat) : Int) by omega), if_pos (show ((i + 1 : Nat) : Int) < (s.size : Int) by omega)]
   ·rw [if_pos (show ((i + 1 : Nat) : Int) = (s.size : Int) by omega)]
    simp only [if_neg (show ¬ ((i + 1 : Nat) : Int) < (s.size : Int) by omega)]
theorem q7N (s : ByteArray) (hs : s.size ≤ 20000) : ∀ (d i : Nat), i + d = s.size → ∃ t : Nat, i ≤ t ∧ t ≤ s.size ∧ q0a (fun k => q0C.l0 k s (i : Int)) (t : Int) := by
 intro d
 induction d using Nat.strongRecOn with
 | _ d IH =>
  intro i hi
  have w1 := q2L (show i ≤ 1000000 by omega)
  have w2 := q7j (show i ≤ 1000000 by omega)
  by_cases h : i < s.size
  ·have hj : ∀ b, ∃ t : Nat, i ≤ t ∧ t ≤ s.size ∧ q0a (fun k => q0C.j2 k s (i : Int) (bt s (i : Int)) b) (t : Int) := by
    intro b
    obtain ⟨t1, a1, b1, c1⟩ := IH (d - 1) (by omega) (i + 1) (by omega)
    cases b with
    | true => exact ⟨t1, by omega, b1, q0a.succ (by simp only [q0C.j2, w1]; exact q0a.ite_pos trivial c1)⟩
    | false =>
     by_cases h45 : bt s (i : Int) = 45
     ·by_cases h1 : i + 1 < s.size
      ·obtain ⟨t2, a2, b2, c2⟩ := IH (d - 2) (by omega) (i + 2) (by omega)
       by_cases hx : Sm (bt s ((i + 1 : Nat) : Int)) = true
       ·exact ⟨t2, by omega, b2, q0a.succ (by simp only [q0C.j2, w1, w2, q2l, Option.bind_some]; exact q0a.ite_neg (by decide) (q0a.ite_pos h45 (q0a.ite_pos (by omega) (q0a.ite_pos (by omega) (q0a.ite_pos hx c2)))))⟩
       ·by_cases hy : Dg (bt s ((i + 1 : Nat) : Int)) = true
        ·exact ⟨t2, by omega, b2, q0a.succ (by simp only [q0C.j2, w1, w2, q2l, q2x, Option.bind_some]; exact q0a.ite_neg (by decide) (q0a.ite_pos h45 (q0a.ite_pos (by omega) (q0a.ite_pos (by omega) (q0a.ite_neg hx (q0a.ite_pos hy c2))))))⟩
        ·exact ⟨i, Nat.le_refl _, by omega, q0a.succ (by simp only [q0C.j2, w1, w2, q2l, q2x, Option.bind_some]; exact q0a.ite_neg (by decide) (q0a.ite_pos h45 (q0a.ite_pos (by omega) (q0a.ite_pos (by omega) (q0a.ite_neg hx (q0a.ite_neg hy (q0a.const _)))))))⟩
      ·exact ⟨i, Nat.le_refl _, by omega, q0a.succ (by simp only [q0C.j2, w1]; exact q0a.ite_neg (by decide) (q0a.ite_pos h45 (q0a.ite_neg (by omega) (q0a.const _))))⟩
     ·exact ⟨i, Nat.le_refl _, by omega, q0a.succ (by simp only [q0C.j2]; exact q0a.ite_neg (by decide) (q0a.ite_neg h45 (q0a.const _)))⟩
   by_cases hx : Sm (bt s (i : Int)) = true
   ·obtain ⟨t, a1, b1, c1⟩ := hj true
    exact ⟨t, a1, b1, q0a.succ (by simp only [q0C.l0, q2l, Option.bind_some]; exact q0a.ite_pos (by omega) (q0a.ite_pos (by omega) (q0a.ite_pos hx c1)))⟩
   ·obtain ⟨t, a1, b1, c1⟩ := hj (Dg (bt s (i : Int)))
    exact ⟨t, a1, b1, q0a.succ (by simp only [q0C.l0, q2l, q2x, Option.bind_some]; exact q0a.ite_pos (by omega) (q0a.ite_pos (by omega) (q0a.ite_neg hx c1)))⟩
  ·exact ⟨i, Nat.le_refl _, by omega, q0a.succ (by simp only [q0C.l0]; exact q0a.ite_neg (by omega) (q0a.const _))⟩
theorem q5P (s : ByteArray) (hs : s.size ≤ 20000) (h0 : 0 < s.size) (k : Nat) : q0r.f k s = q0C.f k s := by
 unfold q0r.f q0C.f
 have e : ∀ b, q0r.j0 k s b = q0C.j0 k s b := by
  intro b
  cases k with
  | zero => rfl
  | succ k =>
   simp only [q0r.j0, q0C.j0]
   have := (q5p s hs k 1 h0).1
   rw [show ((1 : Nat) : Int) = 1 from rfl] at this
   rw [this]
 simp only [e, q2l, q5l]
theorem q4s (s : ByteArray) (hs : s.size ≤ 20000) (h0 : 0 < s.size) : (Sm (bt s 0) = true → ∃ t : Nat, 1 ≤ t ∧ t ≤ s.size ∧ q0a (fun k => q0C.f k s) (t : Int)) ∧ (Sm (bt s 0) = false → q0a (fun k => q0C.f k s) 0) := by
 have hn : ¬ s.toList = ([] : List UInt8) := by
  rw [ByteArray.toList_eq]
  intro h
  have := congrArg List.length h
  rw [q2J] at this
  have : s.size = 0 := this
  omega
 unfold q0C.f
 refine ⟨fun hb => ?_, fun hb => ?_⟩
 ·obtain ⟨t, a1, b1, c1⟩ := q7N s hs (s.size - 1) 1 (by omega)
  refine ⟨t, a1, b1, ?_⟩
  simp only [q2l, hb, Option.bind_some]
  exact q0a.ite_neg hn (q0a.ite_pos (by omega) (q0a.succ (by simp only [q0C.j0]; exact q0a.ite_neg (by decide) c1)))
 ·simp only [q2l, hb, Option.bind_some]
  exact q0a.ite_neg hn (q0a.ite_pos (by omega) (q0a.succ (by simp only [q0C.j0]; exact q0a.ite_pos (by decide) (q0a.const _))))
theorem q6h (s : ByteArray) (hs : s.size ≤ 20000) : ∀ (d i : Nat), i + d = s.size → 1 ≤ i →
  (∃ e : Int, e ≠ 0 ∧ q0a (fun k => q0z.l0 k s (i : Int)) (⟨#[]⟩, e) ∧ q0a (fun k => q0l.l0 k s (i : Int)) (0, ⟨#[]⟩, 0, 0, e)) ∨
  ∃ t : Nat, i ≤ t ∧ t < s.size ∧ q0a (fun k => q0z.l0 k s (i : Int)) (s.extract 1 t, 0) ∧ q0a (fun k => q0l.l0 k s (i : Int)) (3, s.extract 1 t, 0, ((t + 1 : Nat) : Int), 0) := by
 intro d
 induction d with
 | zero =>
  intro i hi h1
  refine .inl ⟨2, by decide, q0a.succ ?_, q0a.succ ?_⟩
  ·simp only [q0z.l0]
   exact q0a.ite_neg (by omega) (q0a.succ (by simp only [q0z.j1]; exact q0a.ite_pos (by omega) (q0a.succ (by simp only [q0z.j2]; exact q0a.ite_pos trivial (q0a.const _)))))
  ·simp only [q0l.l0]
   exact q0a.ite_neg (by omega) (q0a.succ (by simp only [q0l.j1]; exact q0a.ite_pos (by omega) (q0a.succ (by simp only [q0l.j2]; exact q0a.ite_pos trivial (q0a.const _)))))
 | succ d IH =>
  intro i hi h1
  have hq : ∃ b, q2q.f (bt s (i : Int)) = some b ∧ q1M.f (bt s (i : Int)) = some b := by
   unfold q2q.f q1M.f
   split
   ·split
    ·exact ⟨_, rfl, rfl⟩
    ·exact ⟨_, rfl, rfl⟩
   ·exact ⟨_, rfl, rfl⟩
  obtain ⟨b, q1, q2⟩ := hq
  have w1 := q2L (show i ≤ 1000000 by omega)
  cases b with
  | true =>
   have S1 : ∀ r, q0a (fun k => q0z.l0 k s ((i + 1 : Nat) : Int)) r → q0a (fun k => q0z.l0 k s (i : Int)) r := fun r h => q0a.succ (by simp only [q0z.l0, q1, Option.bind_some, w1]; exact q0a.ite_pos (by omega) (q0a.ite_pos (by omega) (q0a.ite_pos trivial h)))
   have S2 : ∀ r, q0a (fun k => q0l.l0 k s ((i + 1 : Nat) : Int)) r → q0a (fun k => q0l.l0 k s (i : Int)) r := fun r h => q0a.succ (by simp only [q0l.l0, q2, Option.bind_some, w1]; exact q0a.ite_pos (by omega) (q0a.ite_pos (by omega) (q0a.ite_pos trivial h)))
   rcases IH (i + 1) (by omega) (by omega) with ⟨e, he, a, c⟩ | ⟨t, ht, ht2, a, c⟩
   ·exact .inl ⟨e, he, S1 _ a, S2 _ c⟩
   ·exact .inr ⟨t, by omega, ht2, S1 _ a, S2 _ c⟩
  | false =>
   have S1 : ∀ r, q0a (fun k => q0z.j2 k s (i : Int) (bt s (i : Int) != 34)) r → q0a (fun k => q0z.l0 k s (i : Int)) r := fun r h => q0a.succ (by simp only [q0z.l0, q1, Option.bind_some]; exact q0a.ite_pos (by omega) (q0a.ite_pos (by omega) (q0a.ite_neg (by decide) (q0a.succ (by simp only [q0z.j1]; exact q0a.ite_neg (by omega) (q0a.ite_pos (by omega) (q0a.ite_pos (by omega) h)))))))
   have S2 : ∀ r, q0a (fun k => q0l.j2 k s (i : Int) (bt s (i : Int) != 34)) r → q0a (fun k => q0l.l0 k s (i : Int)) r := fun r h => q0a.succ (by simp only [q0l.l0, q2, Option.bind_some]; exact q0a.ite_pos (by omega) (q0a.ite_pos (by omega) (q0a.ite_neg (by decide) (q0a.succ (by simp only [q0l.j1]; exact q0a.ite_neg (by omega) (q0a.ite_pos (by omega) (q0a.ite_pos (by omega) h)))))))
   have wm : wrap64 ((i : Int) - 1) = ((i - 1 : Nat) : Int) := by unfold wrap64; omega
   have ti : ((i : Nat) : Int).toNat = i := Int.toNat_natCast _
   cases hb : (bt s (i : Int) != 34) with
   | true =>
    refine .inl ⟨2, by decide, S1 _ (q0a.succ ?_), S2 _ (q0a.succ ?_)⟩
    ·simp only [q0z.j2, hb]; exact q0a.ite_pos trivial (q0a.const _)
    ·simp only [q0l.j2, hb]; exact q0a.ite_pos trivial (q0a.const _)
   | false =>
    by_cases h60 : i - 1 > 60
    ·refine .inl ⟨3, by decide, S1 _ (q0a.succ ?_), S2 _ (q0a.succ ?_)⟩
     ·simp only [q0z.j2, hb, wm]; exact q0a.ite_neg (by decide) (q0a.ite_pos (by omega) (q0a.const _))
     ·simp only [q0l.j2, hb, wm]; exact q0a.ite_neg (by decide) (q0a.ite_pos (by omega) (q0a.const _))
    ·refine .inr ⟨i, Nat.le_refl _, by omega, S1 _ (q0a.succ ?_), S2 _ (q0a.succ ?_)⟩
     ·simp only [q0z.j2, hb, wm, ti]; exact q0a.ite_neg (by decide) (q0a.ite_neg (by omega) (q0a.ite_pos (by omega) (q0a.ite_pos (by omega) (q0a.const _))))
     ·simp only [q0l.j2, hb, wm, ti, w1]; exact q0a.ite_neg (by decide) (q0a.ite_neg (by omega) (q0a.ite_pos (by omega) (q0a.ite_pos (by omega) (q0a.const _))))
theorem q8y : ∀ c : Fin 256, q0V.f 30 (c.val : Int) = (q1K.f (⟨#[123, 125, 40, 41, 91, 93, 47, 59, 58, 126, 64, 61, 94, 44, 46, 124, 43, 42, 60, 62, 45]⟩ : ByteArray) (c.val : Int)).bind fun q => some (decide (q ≥ 0)) := by decide +kernel
theorem q3U (c : Int) (h0 : 0 ≤ c) (h1 : c ≤ 255) : ∃ q, q1K.f (⟨#[123, 125, 40, 41, 91, 93, 47, 59, 58, 126, 64, 61, 94, 44, 46, 124, 43, 42, 60, 62, 45]⟩ : ByteArray) c = some q ∧ q0a (fun k => q0V.f k c) (decide (q ≥ 0)) := by
 have h := q8y ⟨c.toNat, by omega⟩
 have e : (((⟨c.toNat, by omega⟩ : Fin 256).val : Nat) : Int) = c := by show ((c.toNat : Nat) : Int) = c; omega
 rw [e] at h
 refine ⟨_, rfl, q0a.mono (fun k => q0V.mono c k) 30 ?_⟩
 rw [h]
 rfl
end Go.Proofs.YtmffocankommaaaDoor.L
end
section
namespace Go.Proofs.YtmffocankommaaaDoor.L
open Go.RowKit Go.Proofs.YtmffocankommaaaDoorW.PrintWords Go.Proofs.YtmffocankommaaaDoorW.PrintLast Go.Proofs.YtmffocankommaaaDoorW.PrintMore Go.Proofs.YtmffocankommaaaDoorY
set_option linter.unusedVariables false
/-- Nodes of these kinds have names. -/
def Nm (a : Int) : Bool := decide (a = 4 ∨ a = 11 ∨ a = 12)
def no5 (x : List S25) : Bool := x.all fun y => decide (y.f0 ≠ 5)
def ShpT (a : Int) (x : List S25) : Bool := if a = 5 then decide (x.length ≠ 1) && no5 x else if a = 6 then decide (2 ≤ x.length) else if a = 7 then decide (x.length = 1) else if a = 8 then decide (x.length = 1) else if a = 12 then decide (x.length = 1) else decide (x.length = 0)
/-- The kind, the fields and the kids of a node fit together. -/
def Shp (a : Int) (b : ByteArray) (c : Int) (x : List S25) : Bool := decide (1 ≤ a) && decide (a ≤ 12) && (Nm a || decide (b.toList = [])) && (decide (a = 7) || decide (c = 0)) && ShpT a x
theorem q5S (a : Int) : q2n.f a = some (Nm a) := by
 unfold q2n.f Nm
 by_cases h4 : a = 4 <;> by_cases h11 : a = 11 <;> by_cases h12 : a = 12 <;> simp_all
theorem q6M {x : List S25} {i : Nat} (h : i < x.length) : no5 (x.drop i) = (decide (x[i].f0 ≠ 5) && no5 (x.drop (i + 1))) := by
 unfold no5
 rw [List.drop_eq_getElem_cons h, List.all_cons]
theorem q8e (x : List S25) (hl : x.length ≤ 1048576) : ∀ (d i : Nat), i + d = x.length → ∃ q : Int, q0a (fun k => q1s.l0 k x (x.length : Int) (i : Int)) q ∧ decide (q ≥ 0) = !(no5 (x.drop i)) := by
 intro d
 induction d with
 | zero =>
  intro i hi
  refine ⟨-1, q0a.succ ?_, ?_⟩
  ·simp only [q1s.l0]
   exact q0a.ite_neg (by omega) (q0a.const _)
  ·rw [List.drop_eq_nil_of_le (by omega)]; rfl
 | succ d IH =>
  intro i hi
  have h : i < x.length := by omega
  obtain ⟨q, hq, e⟩ := IH (i + 1) (by omega)
  by_cases h5 : x[i].f0 = 5
  ·refine ⟨i, q0a.succ ?_, ?_⟩
   ·simp only [q1s.l0, q2y.f, rd25 h, Option.bind_some, h5]
    exact q0a.ite_pos (by omega) (q0a.ite_pos (by omega) (q0a.ite_pos (by omega) (q0a.ite_pos (by decide) (q0a.const _))))
   ·rw [q6M h, decide_eq_true (show ((i : Nat) : Int) ≥ 0 by omega), decide_eq_false (not_not_intro h5)]; rfl
  ·refine ⟨q, q0a.succ ?_, ?_⟩
   ·simp only [q1s.l0, q2y.f, rd25 h, Option.bind_some, q2r (show i ≤ 1048576 by omega)]
    exact q0a.ite_pos (by omega) (q0a.ite_pos (by omega) (q0a.ite_pos (by omega) (q0a.ite_neg (by simpa using h5) hq)))
   ·rw [q6M h, e, decide_eq_true h5, Bool.true_and]
theorem q5I (a : Int) (b : ByteArray) (c : Int) (x : List S25) (hl : x.length ≤ 1048576) : q0a (fun k => q0Q.f k a b c x) (Shp a b c x) := by
 have J2 : q0a (fun k => q0Q.j2 k a b c x) (ShpT a x) := by
  obtain ⟨q, hq, e⟩ := q8e x hl x.length 0 (by omega)
  rw [List.drop_zero] at e
  apply q0a.succ
  unfold ShpT
  simp only [q0Q.j2]
  refine q0a.ite (fun h => ?_) (fun h => ?_)
  ·rw [if_pos h]
   refine q0a.ite (fun h => q0a.val ?_) (fun h => ?_)
   ·rw [decide_eq_false (by omega), Bool.false_and]
   ·rw [decide_eq_true (by omega), Bool.true_and]
    unfold q2k.f q1s.f
    refine q0a.bind (q0a.bind hq (q0a.const _)) (q0a.val ?_)
    rw [e, Bool.not_not]
  rw [if_neg h]
  have e1 : ((x.length : Int) == 1) = decide (x.length = 1) := by
   by_cases k : x.length = 1 <;> simp [k]; omega
  have e0 : ((x.length : Int) == 0) = decide (x.length = 0) := by
   by_cases k : x.length = 0 <;> simp [k]
  rw [e1, e0]
  refine q0a.ite (fun h => q0a.val ?_) (fun h => ?_)
  ·rw [if_pos h]; congr 1; exact propext ⟨fun k => by omega, fun k => by omega⟩
  rw [if_neg h]
  refine q0a.ite (fun h => q0a.val (by rw [if_pos h])) (fun h => ?_)
  rw [if_neg h]
  refine q0a.ite (fun h => q0a.val (by rw [if_pos h])) (fun h => ?_)
  rw [if_neg h]
  refine q0a.ite (fun h => q0a.val (by rw [if_pos h])) (fun h => ?_)
  rw [if_neg h]
  exact q0a.const _
 have J1 : ∀ z, q0a (fun k => q0Q.j1 k z a b c x) (!z && (decide (a = 7) || decide (c = 0)) && ShpT a x) := by
  intro z
  apply q0a.succ
  simp only [q0Q.j1]
  cases z with
  | true => exact q0a.ite_pos rfl (q0a.const _)
  | false =>
   refine q0a.ite_neg (by decide) (q0a.ite (fun h => ?_) (fun h => q0a.ite (fun h' => ?_) (fun h' => q0a.val ?_)))
   ·rw [decide_eq_true h]; simpa using J2
   ·rw [decide_eq_false h, decide_eq_true h']; simpa using J2
   ·rw [decide_eq_false h, decide_eq_false h']; rfl
 have J0 : ∀ z, q0a (fun k => q0Q.j0 k z a b c x) (!z && ((Nm a || decide (b.toList = [])) && ((decide (a = 7) || decide (c = 0)) && ShpT a x))) := by
  intro z
  apply q0a.succ
  simp only [q0Q.j0, q5S, Option.bind_some]
  cases z with
  | true => exact q0a.ite_pos rfl (q0a.const _)
  | false =>
   refine q0a.ite_neg (by decide) (q0a.ite (fun h => ?_) (fun h => ?_))
   ·rw [h]; exact J1 false
   ·rw [Bool.eq_false_iff.2 h]
    by_cases hb : b.toList = []
    ·have := J1 false
     rw [show (b.toList != ([] : List UInt8)) = false from by simpa using hb, decide_eq_true hb]
     exact this
    ·have := J1 true
     rw [show (b.toList != ([] : List UInt8)) = true from by simpa using hb, decide_eq_false hb]
     exact this
 unfold q0Q.f Shp
 refine q0a.ite (fun h => ?_) (fun h => ?_)
 ·rw [decide_eq_false (show ¬ 1 ≤ a by omega)]; exact J0 true
 ·rw [decide_eq_true (show 1 ≤ a by omega)]
  have := J0 (decide (a > 12))
  rw [show (!(decide (a > 12))) = decide (a ≤ 12) from by rw [← decide_not]; congr 1; exact propext ⟨fun k => by omega, fun k => by omega⟩] at this
  simpa only [Bool.true_and, Bool.and_assoc] using this
theorem q4p (s : ByteArray) : ∃ r, q0a (fun k => q1B.f k s) r := by
 unfold q1B.f
 by_cases h0 : s.toList = []
 ·exact ⟨_, q0a.ite_pos h0 (q0a.const _)⟩
 by_cases h20 : (s.size : Int) ≤ 20
 ·have hp : 0 < s.size := by
   rcases Nat.eq_zero_or_pos s.size with h | h
   ·exact absurd (by rw [ByteArray.toList_eq]; exact List.length_eq_zero_iff.1 (by simpa using h)) h0
   ·exact h
  have hc : ∃ t : Int, q0a (fun k => q0C.f k s) t := by
   cases hb : Sm (bt s 0) with
   | true => obtain ⟨t, _, _, h⟩ := (q4s s (by omega) hp).1 hb; exact ⟨_, h⟩
   | false => exact ⟨_, (q4s s (by omega) hp).2 hb⟩
  obtain ⟨t, hc⟩ := hc
  exact ⟨_, q0a.ite_neg h0 (q0a.ite_pos h20 (q0a.bind hc (q0a.const _)))⟩
 ·exact ⟨_, q0a.ite_neg h0 (q0a.ite_neg h20 (q0a.const _))⟩
theorem q3j (s : ByteArray) : ∃ r, q0a (fun k => q1o.f k s) r := by
 obtain ⟨r, h1⟩ := q4p s
 unfold q1o.f
 have : ∃ q : Bool, q0a (fun k => if r = true then (if s.toList = ([117] : List UInt8) then (some false) else (some (s.toList != ([120] : List UInt8)))) else (some false)) q := by
  split
  ·split <;> exact ⟨_, q0a.const _⟩
  ·exact ⟨_, q0a.const _⟩
 obtain ⟨q, hq⟩ := this
 exact ⟨q, q0a.bind h1 hq⟩
theorem q5Z (x : List S25) (hl : x.length ≤ 1048576) (d : Int) (ih : ∀ y, y ∈ x → ∃ e, q0a (fun k => q0R.f k y.f0 y.f1 y.f2 y.f3 (wrap64 (d + 1))) e) :
  ∀ (m i : Nat), i + m = x.length → ∃ e, q0a (fun k => q0R.l0 k d x (x.length : Int) (i : Int)) e := by
 intro m
 induction m with
 | zero =>
  intro i hi
  refine ⟨0, q0a.succ ?_⟩
  simp only [q0R.l0]; exact q0a.ite_neg (by omega) (q0a.const _)
 | succ m IH =>
  intro i hi
  have h : i < x.length := by omega
  obtain ⟨e, h1⟩ := ih _ (List.getElem_mem h)
  obtain ⟨e', h1'⟩ := IH (i + 1) (by omega)
  by_cases he : e = 0
  ·refine ⟨e', q0a.succ ?_⟩
   simp only [q0R.l0, rd25 h, q2r (show i ≤ 1048576 by omega)]
   exact q0a.ite_pos (by omega) (q0a.ite_pos (by omega) (q0a.ite_pos (by omega) (q0a.bind h1 (q0a.ite_pos he h1'))))
  ·refine ⟨e, q0a.succ ?_⟩
   simp only [q0R.l0, rd25 h]
   exact q0a.ite_pos (by omega) (q0a.ite_pos (by omega) (q0a.ite_pos (by omega) (q0a.bind h1 (q0a.ite_neg he (q0a.const _)))))
theorem q4W : ∀ (n : S25), Small n → ∀ d : Int, ∃ e, q0a (fun k => q0R.f k n.f0 n.f1 n.f2 n.f3 d) e
 | ⟨a, b, c, x⟩, hs, d => by
  cases hs with
  | mk _ _ _ _ hl hk =>
  obtain ⟨e, L1⟩ := q5Z x hl d (fun y hy => q4W y (hk y hy) _) x.length 0 (by omega)
  have J : ∀ z : Bool, ∃ q, q0a (fun k => q0R.j0 k d z a b c x) q := by
   intro z
   by_cases hz : z = true
   ·exact ⟨2, q0a.succ (by simp only [q0R.j0]; exact q0a.ite_pos hz (q0a.const _))⟩
   by_cases h0 : c < 0
   ·exact ⟨6, q0a.succ (by simp only [q0R.j0]; exact q0a.ite_neg hz (q0a.ite_pos h0 (q0a.const _)))⟩
   by_cases h9 : c > 9
   ·exact ⟨6, q0a.succ (by simp only [q0R.j0]; exact q0a.ite_neg hz (q0a.ite_neg h0 (q0a.ite_pos h9 (q0a.const _))))⟩
   ·exact ⟨e, q0a.succ (by simp only [q0R.j0]; exact q0a.ite_neg hz (q0a.ite_neg h0 (q0a.ite_neg h9 L1)))⟩
  have s1 := q5I a b c x hl
  obtain ⟨u, u1⟩ := q3j b
  by_cases h12 : d > 12
  ·exact ⟨3, q0a.succ (by simp only [q0R.f]; exact q0a.ite_pos h12 (q0a.const _))⟩
  by_cases hS : Shp a b c x = true
  ·by_cases hn : Nm a = true
   ·obtain ⟨q, q1⟩ := J (!u)
    refine ⟨q, q0a.succ ?_⟩
    simp only [q0R.f, q5S, Option.bind_some]
    exact q0a.ite_neg h12 (q0a.bind s1 (q0a.ite_pos hS (q0a.ite_pos hn (q0a.bind u1 q1))))
   ·obtain ⟨q, q1⟩ := J false
    refine ⟨q, q0a.succ ?_⟩
    simp only [q0R.f, q5S, Option.bind_some]
    exact q0a.ite_neg h12 (q0a.bind s1 (q0a.ite_pos hS (q0a.ite_neg hn q1)))
  ·exact ⟨1, q0a.succ (by simp only [q0R.f]; exact q0a.ite_neg h12 (q0a.bind s1 (q0a.ite_neg hS (q0a.const _))))⟩
 termination_by n => SizeOf.sizeOf n
 decreasing_by
  have := List.sizeOf_lt_of_mem hy
  simp only [S25.mk.sizeOf_spec]
  omega
theorem q7b (x : List S25) (hl : x.length ≤ 1048576) (ih : ∀ y, y ∈ x → ∃ e, q0a (fun k => q1j.f k y.f0 y.f1 y.f2 y.f3) e) :
  ∀ (m i : Nat), i + m = x.length → ∀ v : Int, ∃ e, q0a (fun k => q1j.l0 k v x (x.length : Int) (i : Int)) e := by
 intro m
 induction m with
 | zero =>
  intro i hi v
  refine ⟨v, q0a.succ ?_⟩
  simp only [q1j.l0]; exact q0a.ite_neg (by omega) (q0a.const _)
 | succ m IH =>
  intro i hi v
  have h : i < x.length := by omega
  obtain ⟨e, h1⟩ := ih _ (List.getElem_mem h)
  obtain ⟨e', h1'⟩ := IH (i + 1) (by omega) (wrap64 (v + e))
  refine ⟨e', q0a.succ ?_⟩
  simp only [q1j.l0, rd25 h, q2r (show i ≤ 1048576 by omega)]
  exact q0a.ite_pos (by omega) (q0a.ite_pos (by omega) (q0a.ite_pos (by omega) (q0a.bind h1 h1')))
theorem q3O : ∀ (n : S25), Small n → ∃ e, q0a (fun k => q1j.f k n.f0 n.f1 n.f2 n.f3) e
 | ⟨a, b, c, x⟩, hs => by
  cases hs with
  | mk _ _ _ _ hl hk =>
  obtain ⟨e, L1⟩ := q7b x hl (fun y hy => q3O y (hk y hy)) x.length 0 (by omega) 1
  exact ⟨e, q0a.succ (by simp only [q1j.f]; exact L1)⟩
 termination_by n => SizeOf.sizeOf n
 decreasing_by
  have := List.sizeOf_lt_of_mem hy
  simp only [S25.mk.sizeOf_spec]
  omega
theorem q5t (n : S25) (hs : Small n) : ∃ e, q0a (fun k => q1C.f k n.f0 n.f1 n.f2 n.f3) e := by
 obtain ⟨e, h1⟩ := q4W n hs 1
 obtain ⟨v, s1⟩ := q3O n hs
 unfold q1C.f
 by_cases he : e = 0
 ·by_cases hv : v > 200
  ·exact ⟨3, q0a.bind h1 (q0a.ite_pos he (q0a.bind s1 (q0a.ite_pos hv (q0a.const _))))⟩
  ·exact ⟨0, q0a.bind h1 (q0a.ite_pos he (q0a.bind s1 (q0a.ite_neg hv (q0a.const _))))⟩
 ·exact ⟨e, q0a.bind h1 (q0a.ite_neg he (q0a.const _))⟩
theorem rd86 {xs : List S86} {i : Nat} (h : i < xs.length) : q1p xs (i : Int) = xs[i] := by
 show xs.getD i z86 = xs[i]
 rw [List.getD_eq_getElem?_getD, List.getElem?_eq_getElem h]
 rfl
theorem rdl7 {xs : List (List ByteArray)} {i : Nat} (h : i < xs.length) : q1Y xs (i : Int) = xs[i] := by
 show xs.getD i [] = xs[i]
 rw [List.getD_eq_getElem?_getD, List.getElem?_eq_getElem h]
 rfl
theorem q7f (xs : List ByteArray) (hl : xs.length ≤ 1048576) : ∃ b, q0a (fun k => q0P.f k xs ()) b := by
 have loop : ∀ (d i : Nat), i + d = xs.length → ∃ q, q0a (fun k => q0v.l0 k xs (xs.length : Int) (i : Int)) q := by
  intro d
  induction d with
  | zero =>
   intro i hi
   exact ⟨-1, q0a.succ (by simp only [q0v.l0]; exact q0a.ite_neg (by omega) (q0a.const _))⟩
  | succ d IH =>
   intro i hi
   obtain ⟨q, hq⟩ := IH (i + 1) (by omega)
   obtain ⟨u, hu⟩ := q3j (rdOf ByteArray.empty xs (i : Int))
   have hv : q0a (fun k => q1W.f k (rdOf ByteArray.empty xs (i : Int))) (!u) := by unfold q1W.f; exact q0a.bind hu (q0a.const _)
   by_cases h : (!u) = true
   ·exact ⟨i, q0a.succ (by simp only [q0v.l0]; exact q0a.ite_pos (by omega) (q0a.ite_pos (by omega) (q0a.ite_pos (by omega) (q0a.bind hv (q0a.ite_pos h (q0a.const _))))))⟩
   ·exact ⟨q, q0a.succ (by simp only [q0v.l0, q2r (show i ≤ 1048576 by omega)]; exact q0a.ite_pos (by omega) (q0a.ite_pos (by omega) (q0a.ite_pos (by omega) (q0a.bind hv (q0a.ite_neg h hq)))))⟩
 obtain ⟨q, hq⟩ := loop xs.length 0 (by omega)
 unfold q0P.f q0v.f
 exact ⟨_, q0a.bind hq (q0a.const _)⟩
section
variable {n : Nat} (hn : n ≤ 1000000) (m : S44) (hm : OkM n m)
include hn hm
theorem q8r : ∀ (d i : Nat), i + d = m.f3.length → ∀ v : Int, ∃ e, q0a (fun k => q0D.l2 k v m.f3 (m.f3.length : Int) (i : Int) m.f0 m.f1 m.f2 m.f3 m.f4.f0 m.f4.f1 m.f4.f2 m.f4.f3) e := by
 have h3 := hm.h3
 intro d
 induction d with
 | zero =>
  intro i hi v
  obtain ⟨e, h1⟩ := q5t m.f4 hm.k4
  obtain ⟨u, s1⟩ := q3O m.f4 hm.k4
  by_cases he : e = 0
  ·by_cases hv : (wrap64 (v + u)) > 200
   ·exact ⟨3, q0a.succ (by simp only [q0D.l2]; exact q0a.ite_neg (by omega) (q0a.bind h1 (q0a.ite_pos he (q0a.bind s1 (q0a.ite_pos hv (q0a.const _))))))⟩
   ·exact ⟨0, q0a.succ (by simp only [q0D.l2]; exact q0a.ite_neg (by omega) (q0a.bind h1 (q0a.ite_pos he (q0a.bind s1 (q0a.ite_neg hv (q0a.const _))))))⟩
  ·exact ⟨e, q0a.succ (by simp only [q0D.l2]; exact q0a.ite_neg (by omega) (q0a.bind h1 (q0a.ite_neg he (q0a.const _))))⟩
 | succ d IH =>
  intro i hi v
  have h : i < m.f3.length := by omega
  obtain ⟨e, he⟩ := IH (i + 1) (by omega) v
  have hk := hm.k3 _ (List.getElem_mem h)
  obtain ⟨b, hb⟩ := q7f m.f3[i] (by omega)
  by_cases h0 : (m.f3[i].length : Int) = 0
  ·exact ⟨7, q0a.succ (by simp only [q0D.l2, rdl7 h]; exact q0a.ite_pos (by omega) (q0a.ite_pos (by omega) (q0a.ite_pos (by omega) (q0a.ite_pos h0 (q0a.const _)))))⟩
  by_cases h6 : (m.f3[i].length : Int) > 6
  ·exact ⟨3, q0a.succ (by simp only [q0D.l2, rdl7 h]; exact q0a.ite_pos (by omega) (q0a.ite_pos (by omega) (q0a.ite_pos (by omega) (q0a.ite_neg h0 (q0a.ite_pos h6 (q0a.const _))))))⟩
  by_cases hbt : b = true
  ·exact ⟨2, q0a.succ (by simp only [q0D.l2, rdl7 h]; exact q0a.ite_pos (by omega) (q0a.ite_pos (by omega) (q0a.ite_pos (by omega) (q0a.ite_neg h0 (q0a.ite_neg h6 (q0a.bind hb (q0a.ite_pos hbt (q0a.const _))))))))⟩
  ·exact ⟨e, q0a.succ (by simp only [q0D.l2, rdl7 h, q2r (show i ≤ 1048576 by omega)]; exact q0a.ite_pos (by omega) (q0a.ite_pos (by omega) (q0a.ite_pos (by omega) (q0a.ite_neg h0 (q0a.ite_neg h6 (q0a.bind hb (q0a.ite_neg hbt he)))))))⟩
theorem q7S : ∀ (d i : Nat), i + d = m.f2.length → ∀ v : Int, ∃ e, q0a (fun k => q0D.l1 k v m.f2 (m.f2.length : Int) (i : Int) m.f0 m.f1 m.f2 m.f3 m.f4.f0 m.f4.f1 m.f4.f2 m.f4.f3) e := by
 have h2 := hm.h2
 intro d
 induction d with
 | zero =>
  intro i hi v
  obtain ⟨e, he⟩ := q8r hn m hm m.f3.length 0 (by omega) v
  exact ⟨e, q0a.succ (by simp only [q0D.l1]; exact q0a.ite_neg (by omega) he)⟩
 | succ d IH =>
  intro i hi v
  obtain ⟨e, he⟩ := IH (i + 1) (by omega) v
  obtain ⟨u, hu⟩ := q3j (q1O m.f2 (i : Int)).f0
  by_cases hut : u = true
  ·by_cases a1 : (q1O m.f2 (i : Int)).f1 < 0
   ·exact ⟨6, q0a.succ (by simp only [q0D.l1]; exact q0a.ite_pos (by omega) (q0a.ite_pos (by omega) (q0a.ite_pos (by omega) (q0a.bind hu (q0a.ite_pos hut (q0a.ite_pos a1 (q0a.const _)))))))⟩
   by_cases a2 : (q1O m.f2 (i : Int)).f1 > (q1O m.f2 (i : Int)).f2
   ·exact ⟨6, q0a.succ (by simp only [q0D.l1]; exact q0a.ite_pos (by omega) (q0a.ite_pos (by omega) (q0a.ite_pos (by omega) (q0a.bind hu (q0a.ite_pos hut (q0a.ite_neg a1 (q0a.ite_pos a2 (q0a.const _))))))))⟩
   by_cases a3 : (q1O m.f2 (i : Int)).f2 > 6
   ·exact ⟨6, q0a.succ (by simp only [q0D.l1]; exact q0a.ite_pos (by omega) (q0a.ite_pos (by omega) (q0a.ite_pos (by omega) (q0a.bind hu (q0a.ite_pos hut (q0a.ite_neg a1 (q0a.ite_neg a2 (q0a.ite_pos a3 (q0a.const _)))))))))⟩
   ·exact ⟨e, q0a.succ (by simp only [q0D.l1, q2r (show i ≤ 1048576 by omega)]; exact q0a.ite_pos (by omega) (q0a.ite_pos (by omega) (q0a.ite_pos (by omega) (q0a.bind hu (q0a.ite_pos hut (q0a.ite_neg a1 (q0a.ite_neg a2 (q0a.ite_neg a3 he))))))))⟩
  ·exact ⟨2, q0a.succ (by simp only [q0D.l1]; exact q0a.ite_pos (by omega) (q0a.ite_pos (by omega) (q0a.ite_pos (by omega) (q0a.bind hu (q0a.ite_neg hut (q0a.const _))))))⟩
theorem q8v : ∀ (d i : Nat), i + d = m.f1.length → ∀ v : Int, ∃ e, q0a (fun k => q0D.l0 k v m.f1 (m.f1.length : Int) (i : Int) m.f0 m.f1 m.f2 m.f3 m.f4.f0 m.f4.f1 m.f4.f2 m.f4.f3) e := by
 have h1 := hm.h1
 intro d
 induction d with
 | zero =>
  intro i hi v
  obtain ⟨e, he⟩ := q7S hn m hm m.f2.length 0 (by omega) v
  exact ⟨e, q0a.succ (by simp only [q0D.l0]; exact q0a.ite_neg (by omega) he)⟩
 | succ d IH =>
  intro i hi v
  have h : i < m.f1.length := by omega
  obtain ⟨u, hu⟩ := q3j m.f1[i].f0
  obtain ⟨e, h1⟩ := q5t m.f1[i].f1 (hm.k1 _ (List.getElem_mem h))
  obtain ⟨t, s1⟩ := q3O m.f1[i].f1 (hm.k1 _ (List.getElem_mem h))
  obtain ⟨e', he'⟩ := IH (i + 1) (by omega) (wrap64 (v + t))
  by_cases hut : u = true
  ·by_cases he : e = 0
   ·exact ⟨e', q0a.succ (by simp only [q0D.l0, rd86 h, q2r (show i ≤ 1048576 by omega)]; exact q0a.ite_pos (by omega) (q0a.ite_pos (by omega) (q0a.ite_pos (by omega) (q0a.bind hu (q0a.ite_pos hut (q0a.bind h1 (q0a.ite_pos he (q0a.bind s1 he'))))))))⟩
   ·exact ⟨e, q0a.succ (by simp only [q0D.l0, rd86 h]; exact q0a.ite_pos (by omega) (q0a.ite_pos (by omega) (q0a.ite_pos (by omega) (q0a.bind hu (q0a.ite_pos hut (q0a.bind h1 (q0a.ite_neg he (q0a.const _))))))))⟩
  ·exact ⟨2, q0a.succ (by simp only [q0D.l0, rd86 h]; exact q0a.ite_pos (by omega) (q0a.ite_pos (by omega) (q0a.ite_pos (by omega) (q0a.bind hu (q0a.ite_neg hut (q0a.const _))))))⟩
theorem q6W : ∃ e, q0a (fun k => q0D.f k m.f0 m.f1 m.f2 m.f3 m.f4.f0 m.f4.f1 m.f4.f2 m.f4.f3) e := by
 obtain ⟨e, he⟩ := q8v hn m hm m.f1.length 0 (by omega) 0
 have J : ∀ z, ∃ e, q0a (fun k => q0D.j0 k z m.f0 m.f1 m.f2 m.f3 m.f4.f0 m.f4.f1 m.f4.f2 m.f4.f3) e := by
  intro z
  by_cases hz : z = true
  ·exact ⟨3, q0a.succ (by simp only [q0D.j0]; exact q0a.ite_pos hz (q0a.const _))⟩
  ·exact ⟨e, q0a.succ (by simp only [q0D.j0]; exact q0a.ite_neg hz he)⟩
 obtain ⟨b, hb⟩ := q4p m.f0
 unfold q0D.f
 by_cases hbt : b = true
 ·by_cases a1 : (m.f1.length : Int) > 20
  ·obtain ⟨q, hq⟩ := J true
   exact ⟨q, q0a.bind hb (q0a.ite_pos hbt (q0a.ite_pos a1 hq))⟩
  by_cases a2 : (m.f2.length : Int) > 3
  ·obtain ⟨q, hq⟩ := J true
   exact ⟨q, q0a.bind hb (q0a.ite_pos hbt (q0a.ite_neg a1 (q0a.ite_pos a2 hq)))⟩
  ·obtain ⟨q, hq⟩ := J (decide ((m.f3.length : Int) > 3))
   exact ⟨q, q0a.bind hb (q0a.ite_pos hbt (q0a.ite_neg a1 (q0a.ite_neg a2 hq)))⟩
 ·exact ⟨2, q0a.bind hb (q0a.ite_neg hbt (q0a.const _))⟩
end
end Go.Proofs.YtmffocankommaaaDoor.L
end
section
namespace Go.Proofs.YtmffocankommaaaDoor.L
open Go.RowKit Go.Proofs.YtmffocankommaaaDoorW.PrintWords Go.Proofs.YtmffocankommaaaDoorW.PrintLast Go.Proofs.YtmffocankommaaaDoorW.PrintMore Go.Proofs.YtmffocankommaaaDoorY
set_option linter.unusedVariables false
def ptup (m : S44) (x e : Int) : ByteArray × List S86 × List S88 × List (List ByteArray) × Int × ByteArray × Int × List S25 × Int × Int := (m.f0, m.f1, m.f2, m.f3, m.f4.f0, m.f4.f1, m.f4.f2, m.f4.f3, x, e)
def m0 : S44 := ⟨⟨#[]⟩, [], [], [], ⟨0, ⟨#[]⟩, 0, []⟩⟩
theorem q8B (n : Nat) : OkM n m0 := ⟨Nat.zero_le _, Nat.zero_le _, Nat.zero_le _, fun x hx => (by cases hx), fun x hx => (by cases hx), Small.leaf _ _ _⟩
theorem q7U (l : List S36) (h0 : 0 < l.length) (hl : l.length ≤ 1000000) (p : Nat) : ∃ x, q1c.bad l (p : Int) = some (ptup m0 x 2) := by
 have hw : wrap64 ((l.length : Int) - 1) = (l.length : Int) - 1 := by unfold wrap64; omega
 unfold q1c.bad
 rw [hw, if_pos (show 0 ≤ mn (p : Int) ((l.length : Int) - 1) by unfold mn; omega), if_pos (show mn (p : Int) ((l.length : Int) - 1) < (l.length : Int) by unfold mn; omega)]
 exact ⟨_, rfl⟩
section
variable {l : List S36} (hl : l.length ≤ 1000000)
include hl
theorem q6D (i : Nat) (b : Bool) (hi : b = false → i ≤ l.length) : ∃ s i' b', q0U.f l (i : Int) b 1 = some (s, ((i' : Nat) : Int), b') ∧ Go1 l.length i b i' b' := by
 cases b with
 | true => exact ⟨⟨#[]⟩, i, true, q3I l i 1 (by decide), fun e => (by cases e)⟩
 | false =>
  have hi := hi rfl
  by_cases h : ∃ h : i < l.length, l[i].f0 = 1
  ·obtain ⟨h, h2⟩ := h
   exact ⟨_, i + 1, false, q5X l i 1 h h2 (by omega), fun _ => ⟨rfl, by omega, h⟩⟩
  ·exact ⟨⟨#[]⟩, i, true, q5e l i 1 (by decide) hi (fun k k' => h ⟨k, k'⟩), fun e => (by cases e)⟩
omit hl in
theorem q8x (h0 : 0 < l.length) (s : ByteArray) : ∃ b, q0T.f l 0 false 1 s = some (b, 0, false) := by
 unfold q0T.f
 have hn := q2M l 0 h0
 rw [show ((0 : Nat) : Int) = 0 from rfl] at hn
 rw [hn]
 simp only [Option.bind_some]
 split <;> exact ⟨_, rfl⟩
theorem q8D : ∃ m e, OkM 1000000 m ∧ ∀ a ln l', Al l l' → q0a (fun k => q0n.f k a) (l', ln, 0) → ∃ x, q0a (fun k => q1c.f k a) (ptup m x e) := by
 rcases Nat.eq_zero_or_pos l.length with hz | h0
 ·refine ⟨m0, 2, q8B _, fun a ln l' A ht => ⟨1, ?_⟩⟩
  have hlen := A.len
  unfold q1c.f
  exact q0a.bind ht (q0a.ite_pos rfl (q0a.ite_pos (by show (l'.length : Int) = 0; omega) (q0a.const _)))
 obtain ⟨b, e1⟩ := q8x h0 (⟨#[109, 101, 116, 114, 101]⟩ : ByteArray)
 obtain ⟨s2, i2, b2, e2, o2⟩ := q6D hl 0 (!b) (fun _ => Nat.zero_le _)
 rw [show ((0 : Nat) : Int) = 0 from rfl] at e2
 obtain ⟨s3, i3, b3, e3, o3⟩ := q6D hl i2 b2 (fun e => (o2 e).2.2)
 have o3 := o2.trans o3
 obtain ⟨i4, b4, e4, o4⟩ := q2H hl i3 b3 (fun e => (o3 e).2.2) ⟨#[123]⟩
 have o4 := o3.trans o4
 obtain ⟨m, i5, b5, c5, k5⟩ := q7y hl i4 b4 (fun e => (o4 e).2.2) s3
 obtain ⟨i6, b6, e6, o6⟩ := q2H hl i5 b5 (fun e => (k5 e).1) ⟨#[125]⟩
 have h5 : b5 = false → b4 = false := by
  intro hb
  cases b4 with
  | false => rfl
  | true =>
   have hO := q3q l false ⟨s3, [], [], [], ⟨0, ⟨#[]⟩, 0, []⟩⟩ i4
   have c5' := c5
   unfold q0c.f at c5'
   obtain ⟨K, hK⟩ := hO
   obtain ⟨K', hK'⟩ := c5'
   have q := (hK (max K K') (by omega)).symm.trans (hK' (max K K') (by omega))
   have q := congrArg (fun z => z.2.2.2.2.2.2.2.2.2) (Option.some.inj q)
   exact q.trans hb
 -- what each text comes to
 have go : ∀ a ln l', Al l l' → q0a (fun k => q0n.f k a) (l', ln, 0) → ∀ r, (b = true → q0a (fun k => if b6 = true then q1c.bad l' (i6 : Int) else if (i6 : Int) < (l'.length : Int) then q1c.bad l' (i6 : Int) else (q0D.f k m.f0 m.f1 m.f2 m.f3 m.f4.f0 m.f4.f1 m.f4.f2 m.f4.f3).bind fun e => if e = 0 then some (ptup m 0 0) else some (ptup m0 0 e)) r) →
   (b = false → q0a (fun k => if b6 = true then q1c.bad l' (i6 : Int) else none) r) → q0a (fun k => q1c.f k a) r := by
  intro a ln l' A ht r hT hF
  have hlen := A.len
  have hit : ∀ k, q0c.f k l' (i4 : Int) b4 s3 = q0c.f k l (i4 : Int) b4 s3 := fun k => by
   unfold q0c.f
   exact ((q7W A k).1 _ _ _ _ _ _ _ _ _ _ _).symm
  have f1 := (q4r A 0 false 1 (⟨#[109, 101, 116, 114, 101]⟩ : ByteArray)).symm.trans e1
  have f2 := (q5c A 0 (!b) 1).symm.trans e2
  have f3 := (q5c A (i2 : Int) b2 1).symm.trans e3
  have f4 := (q3f A (i3 : Int) b3 ⟨#[123]⟩).symm.trans e4
  have f6 := (q3f A (i5 : Int) b5 ⟨#[125]⟩).symm.trans e6
  unfold q1c.f
  refine q0a.bind ht (q0a.ite_pos rfl (q0a.ite_neg (by show ¬ (l'.length : Int) = 0; omega) ?_))
  simp only [f1, Option.bind_some]
  cases b with
  | true =>
   refine q0a.ite_pos rfl ?_
   simp only [show (!true) = false from rfl] at f2
   simp only [f2, f3, f4, hit, Option.bind_some]
   refine q0a.bind c5 ?_
   simp only [tup, f6, Option.bind_some]
   exact hT rfl
  | false =>
   refine q0a.ite_neg (by decide) ?_
   simp only [show (!false) = true from rfl] at f2
   simp only [f2, f3, f4, hit, Option.bind_some]
   refine q0a.bind c5 ?_
   simp only [tup, f6, Option.bind_some]
   exact hF rfl
 have bd : ∀ l', Al l l' → ∃ x, q1c.bad l' (i6 : Int) = some (ptup m0 x 2) := fun l' A => q7U l' (by have := A.len; omega) (by have := A.len; omega) i6
 cases b6 with
 | true =>
  refine ⟨m0, 2, q8B _, fun a ln l' A ht => ?_⟩
  obtain ⟨x, hx⟩ := bd l' A
  refine ⟨x, go a ln l' A ht _ (fun _ => q0a.ite_pos rfl ?_) (fun _ => q0a.ite_pos rfl ?_)⟩ <;> rw [hx] <;> exact q0a.const _
 | false =>
  obtain ⟨q5, q6, q7⟩ := o6 rfl
  have q4 := h5 q5
  have qb : b = true := by
   have := (o4 q4).1
   cases b with
   | true => rfl
   | false => cases this
  have hm := (k5 q5).2
  by_cases hi : i6 < l.length
  ·refine ⟨m0, 2, q8B _, fun a ln l' A ht => ?_⟩
   obtain ⟨x, hx⟩ := bd l' A
   have hlen := A.len
   refine ⟨x, go a ln l' A ht _ (fun _ => q0a.ite_neg (by decide) (q0a.ite_pos (by omega) ?_)) (fun e => by rw [qb] at e; cases e)⟩
   rw [hx]
   exact q0a.const _
  ·obtain ⟨e, he⟩ := q6W hl m hm
   by_cases hz : e = 0
   ·exact ⟨m, 0, hm.wide hl, fun a ln l' A ht => ⟨0, go a ln l' A ht _ (fun _ => q0a.ite_neg (by decide) (q0a.ite_neg (by have := A.len; omega) (q0a.bind he (q0a.ite_pos hz (q0a.const _))))) (fun e => by rw [qb] at e; cases e)⟩⟩
   ·exact ⟨m0, e, q8B _, fun a ln l' A ht => ⟨0, go a ln l' A ht _ (fun _ => q0a.ite_neg (by decide) (q0a.ite_neg (by have := A.len; omega) (q0a.bind he (q0a.ite_neg hz (q0a.const _))))) (fun e => by rw [qb] at e; cases e)⟩⟩
end
end Go.Proofs.YtmffocankommaaaDoor.L
end
section
namespace Go.Proofs.YtmffocankommaaaDoor.L
open Go.RowKit Go.Proofs.YtmffocankommaaaDoorW.PrintWords Go.Proofs.YtmffocankommaaaDoorW.PrintLast Go.Proofs.YtmffocankommaaaDoorW.PrintMore Go.Proofs.YtmffocankommaaaDoorY
set_option linter.unusedVariables false
theorem q7F (s : ByteArray) (hs : s.size ≤ 20000) (h0 : 0 < s.size) :
  (∃ r r' : Int × ByteArray × Int × Int × Int, r.2.2.2.2 ≠ 0 ∧ r'.2.2.2.2 = r.2.2.2.2 ∧ q0a (fun k => q1y.f k s) r ∧ q0a (fun k => q1n.f k s) r') ∨
  ∃ (q : Int) (x : ByteArray) (m : Nat), 1 ≤ m ∧ m ≤ s.size ∧ q0a (fun k => q1y.f k s) (q, x, 0, (m : Int), 0) ∧ q0a (fun k => q1n.f k s) (q, x, 0, (m : Int), 0) := by
 have hN := q4s s hs h0
 have hi : (0 : Int) < (s.size : Int) := by omega
 have ti : ∀ t : Nat, ((t : Nat) : Int).toNat = t := Int.toNat_natCast
 cases hb : Sm (bt s 0) with
 | true =>
  obtain ⟨t, t1, t2, hc⟩ := hN.1 hb
  have S1 : ∀ r, q0a (fun k => if (t : Int) > 20 then some (0, (⟨#[]⟩ : ByteArray), (0 : Int), (0 : Int), (3 : Int)) else some (1, s.extract 0 t, 0, (t : Int), 0)) r → q0a (fun k => q1y.f k s) r := by
   intro r h
   unfold q1y.f
   refine q0a.ite_pos hi ?_
   simp only [q2l, hb, Option.bind_some, if_true]
   refine q0a.bind hc ?_
   simpa only [ti, if_pos (show (0 : Int) ≤ (t : Int) by omega), if_pos (show (t : Int) ≤ (s.size : Int) by omega)] using h
  have S2 : ∀ r, q0a (fun k => if (t : Int) > 20 then some (0, (⟨#[]⟩ : ByteArray), (0 : Int), (0 : Int), (3 : Int)) else some (1, s.extract 0 t, 0, (t : Int), 0)) r → q0a (fun k => q1n.f k s) r := by
   intro r h
   unfold q1n.f
   simp only [q5P s hs h0]
   refine q0a.bind hc (q0a.ite_pos (by omega) ?_)
   simpa only [ti, if_pos (show (0 : Int) ≤ (t : Int) by omega), if_pos (show (t : Int) ≤ (s.size : Int) by omega)] using h
  by_cases h20 : (t : Int) > 20
  ·exact .inl ⟨(0, ⟨#[]⟩, 0, 0, 3), (0, ⟨#[]⟩, 0, 0, 3), (by decide), rfl, S1 _ (q0a.ite_pos h20 (q0a.const _)), S2 _ (q0a.ite_pos h20 (q0a.const _))⟩
  ·exact .inr ⟨1, s.extract 0 t, t, t1, t2, S1 _ (q0a.ite_neg h20 (q0a.const _)), S2 _ (q0a.ite_neg h20 (q0a.const _))⟩
 | false =>
  have hc := hN.2 hb
  obtain ⟨t, t2, hd, hn, d1, d2⟩ := q3g s hs
  have R : ∀ r, q0a (fun k => if (t : Int) > 0 then (if (t : Int) > 6 then some (0, (⟨#[]⟩ : ByteArray), (0 : Int), (0 : Int), (3 : Int)) else if bt s 0 = 48 then (if (t : Int) > 1 then some (0, (⟨#[]⟩ : ByteArray), (0 : Int), (0 : Int), (2 : Int)) else some (2, s.extract 0 t, 0, (t : Int), 0)) else some (2, s.extract 0 t, 0, (t : Int), 0)) else if bt s 0 = 34 then ((q0l.f k s).bind fun aD => some (aD.1, aD.2.1, aD.2.2.1, aD.2.2.2.1, aD.2.2.2.2)) else ((q0V.f k (bt s 0)).bind fun aE => if aE = true then some (4, s.extract 0 1, 0, 1, 0) else some (0, (⟨#[]⟩ : ByteArray), 0, 0, 2))) r → q0a (fun k => q1n.f k s) r := by
   intro r h
   unfold q1n.f
   simp only [q5P s hs h0]
   refine q0a.bind hc (q0a.ite_neg (by decide) (q0a.bind d2 ?_))
   simpa only [ti, if_pos (show (0 : Int) ≤ (t : Int) by omega), if_pos (show (t : Int) ≤ (s.size : Int) by omega), if_pos hi, if_pos (show (0 : Nat) ≤ 1 by decide), if_pos (show (1 : Int) ≤ (s.size : Int) by omega)] using h
  cases hg : Dg (bt s 0) with
  | true =>
   have t1 : 1 ≤ t := by
    rcases Nat.eq_zero_or_pos t with h | h
    ·have := hn (by omega)
     rw [h] at this
     rw [show ((0 : Nat) : Int) = 0 from rfl, hg] at this
     cases this
    ·exact h
   have T : ∀ r, q0a (fun k => if (t : Int) > 6 then some (0, (⟨#[]⟩ : ByteArray), (0 : Int), (0 : Int), (3 : Int)) else (q0G.f k (s.extract 0 t)).bind fun aG => if aG.2 = true then some (2, s.extract 0 t, 0, (t : Int), 0) else some (0, (⟨#[]⟩ : ByteArray), 0, 0, 2)) r → q0a (fun k => q1y.f k s) r := by
    intro r h
    unfold q1y.f
    refine q0a.ite_pos hi ?_
    simp only [q2l, q2x, hb, hg, Option.bind_some, if_true, Bool.false_eq_true, if_false]
    refine q0a.bind d1 ?_
    simpa only [ti, if_pos (show (0 : Int) ≤ (t : Int) by omega), if_pos (show (t : Int) ≤ (s.size : Int) by omega)] using h
   by_cases h6 : (t : Int) > 6
   ·exact .inl ⟨(0, ⟨#[]⟩, 0, 0, 3), (0, ⟨#[]⟩, 0, 0, 3), (by decide), rfl, T _ (q0a.ite_pos h6 (q0a.const _)), R _ (q0a.ite_pos (by omega) (q0a.ite_pos h6 (q0a.const _)))⟩
   have he : (s.extract 0 t).size = t := by rw [q2c t2]; omega
   have hbt : ∀ m, m < t → bt (s.extract 0 t) ((m : Nat) : Int) = bt s ((m : Nat) : Int) := fun m hm => by rw [q2v t2 (by omega), Nat.zero_add]
   have hb0 : bt (s.extract 0 t) 0 = bt s 0 := hbt 0 t1
   obtain ⟨v, hv⟩ := q3t (s.extract 0 t) (by omega) (by omega) (fun m hm => by rw [he] at hm; rw [hbt m hm]; exact hd m hm)
   rw [he, hb0] at hv
   by_cases hx : 1 < t ∧ bt s 0 = 48
   ·rw [if_pos hx] at hv
    exact .inl ⟨(0, ⟨#[]⟩, 0, 0, 2), (0, ⟨#[]⟩, 0, 0, 2), (by decide), rfl, T _ (q0a.ite_neg h6 (q0a.bind hv (q0a.ite_neg (by decide) (q0a.const _)))), R _ (q0a.ite_pos (by omega) (q0a.ite_neg h6 (q0a.ite_pos hx.2 (q0a.ite_pos (by omega) (q0a.const _)))))⟩
   ·rw [if_neg hx] at hv
    refine .inr ⟨2, s.extract 0 t, t, t1, t2, T _ (q0a.ite_neg h6 (q0a.bind hv (q0a.ite_pos rfl (q0a.const _)))), R _ (q0a.ite_pos (by omega) (q0a.ite_neg h6 ?_))⟩
    by_cases h48 : bt s 0 = 48
    ·exact q0a.ite_pos h48 (q0a.ite_neg (fun k => hx ⟨by omega, h48⟩) (q0a.const _))
    ·exact q0a.ite_neg h48 (q0a.const _)
  | false =>
   have t0 : t = 0 := by
    rcases Nat.eq_zero_or_pos t with h | h
    ·exact h
    ·have := hd 0 h
     rw [show ((0 : Nat) : Int) = 0 from rfl, hg] at this
     cases this
   have R' := fun r h => R r (q0a.ite_neg (show ¬ ((t : Nat) : Int) > 0 by omega) h)
   clear R
   have T : ∀ r, q0a (fun k => if bt s 0 = 34 then ((q0z.f k s).bind fun aH => some (3, aH.1, 0, wrap64 ((aH.1.size : Int) + 2), aH.2)) else ((q1K.f (⟨#[123, 125, 40, 41, 91, 93, 47, 59, 58, 126, 64, 61, 94, 44, 46, 124, 43, 42, 60, 62, 45]⟩ : ByteArray) (bt s 0)).bind fun aI => if aI ≥ 0 then some (4, s.extract 0 1, 0, 1, 0) else some (0, (⟨#[]⟩ : ByteArray), 0, 0, 2))) r → q0a (fun k => q1y.f k s) r := by
    intro r h
    unfold q1y.f
    refine q0a.ite_pos hi ?_
    simp only [q2l, q2x, hb, hg, Option.bind_some, Bool.false_eq_true, if_false]
    simpa only [if_pos (show (0 : Nat) ≤ 1 by decide), if_pos (show (1 : Int) ≤ (s.size : Int) by omega)] using h
   by_cases h34 : bt s 0 = 34
   ·rcases q6h s hs (s.size - 1) 1 (by omega) (Nat.le_refl _) with ⟨e, e0, a, c⟩ | ⟨u, u1, u2, a, c⟩
    ·exact .inl ⟨(3, ⟨#[]⟩, 0, wrap64 (((⟨#[]⟩ : ByteArray).size : Int) + 2), e), (0, ⟨#[]⟩, 0, 0, e), e0, rfl, T _ (q0a.ite_pos h34 (q0a.bind a (q0a.const _))), R' _ (q0a.ite_pos h34 (q0a.bind c (q0a.const _)))⟩
    ·have hw : wrap64 (((s.extract 1 u).size : Int) + 2) = ((u + 1 : Nat) : Int) := by rw [q2c (by omega), q7j (by omega)]; congr 1; omega
     refine .inr ⟨3, s.extract 1 u, u + 1, by omega, u2, T _ (q0a.ite_pos h34 (q0a.bind a ?_)), R' _ (q0a.ite_pos h34 (q0a.bind c (q0a.const _)))⟩
     simp only [hw]
     exact q0a.const _
   ·obtain ⟨q, e1, c⟩ := q3U (bt s 0) (q3r s 0).1 (q3r s 0).2
    by_cases hq : q ≥ 0
    ·rw [decide_eq_true hq] at c
     refine .inr ⟨4, s.extract 0 1, 1, Nat.le_refl _, h0, T _ (q0a.ite_neg h34 ?_), R' _ (q0a.ite_neg h34 (q0a.bind c (q0a.ite_pos rfl (q0a.const _))))⟩
     simp only [e1, Option.bind_some]
     exact q0a.ite_pos hq (q0a.const _)
    ·rw [decide_eq_false hq] at c
     refine .inl ⟨(0, ⟨#[]⟩, 0, 0, 2), (0, ⟨#[]⟩, 0, 0, 2), (by decide), rfl, T _ (q0a.ite_neg h34 ?_), R' _ (q0a.ite_neg h34 (q0a.bind c (q0a.ite_neg (by decide) (q0a.const _))))⟩
     simp only [e1, Option.bind_some]
     exact q0a.ite_neg hq (q0a.const _)
/-- Line feeds in d bytes from i on. -/
def lfs (a : ByteArray) : Nat → Nat → Nat
 | _, 0 => 0
 | i, d + 1 => (if bt a ((i : Nat) : Int) = 10 then 1 else 0) + lfs a (i + 1) d
theorem q7x (a : ByteArray) : ∀ d i, lfs a i d ≤ d
 | 0, _ => Nat.le_refl _
 | d + 1, i => by
  have := q7x a d (i + 1)
  unfold lfs
  split <;> omega
theorem q6g (a s : ByteArray) (i : Nat) (hs : s.size ≤ 20000) (hb : ∀ m, m < s.size → bt s ((m : Nat) : Int) = bt a ((i + m : Nat) : Int)) : ∀ (d m : Nat) (x : Nat), m + d = s.size → x ≤ 20000 + m → q0a (fun k => q0S.l0 k s (x : Int) (m : Int)) ((x + lfs a (i + m) d : Nat) : Int) := by
 intro d
 induction d with
 | zero =>
  intro m x hm hx
  apply q0a.succ
  simp only [q0S.l0]
  exact q0a.ite_neg (by omega) (q0a.const _)
 | succ d IH =>
  intro m x hm hx
  have h := hb m (by omega)
  apply q0a.succ
  simp only [q0S.l0, q2L (show m ≤ 1000000 by omega), q2L (show x ≤ 1000000 by omega)]
  refine q0a.ite_pos (by omega) (q0a.ite_pos (by omega) ?_)
  by_cases h10 : bt s (m : Int) = 10
  ·have := IH (m + 1) (x + 1) (by omega) (by omega)
   rw [show x + lfs a (i + m) (d + 1) = x + 1 + lfs a (i + (m + 1)) d from by rw [lfs, if_pos (h ▸ h10), Nat.add_assoc i m 1, Nat.add_assoc]]
   exact q0a.ite_pos h10 this
  ·have := IH (m + 1) x (by omega) (by omega)
   rw [show x + lfs a (i + m) (d + 1) = x + lfs a (i + (m + 1)) d from by rw [lfs, if_neg (fun k => h10 (h.trans k)), Nat.add_assoc i m 1, Nat.zero_add]]
   exact q0a.ite_neg h10 this
end Go.Proofs.YtmffocankommaaaDoor.L
end
section
namespace Go.Proofs.YtmffocankommaaaDoor.L
open Go.RowKit Go.Proofs.YtmffocankommaaaDoorW.PrintWords Go.Proofs.YtmffocankommaaaDoorW.PrintLast Go.Proofs.YtmffocankommaaaDoorW.PrintMore Go.Proofs.YtmffocankommaaaDoorY
set_option linter.unusedVariables false
def Wh (c : Int) : Prop := c = 10 ∨ c = 32 ∨ c = 9 ∨ c = 13 ∨ c = 35
/-- s is what a holds from i0 on. -/
def Sl (a : ByteArray) (i0 : Nat) (s : ByteArray) : Prop := s.size + i0 = a.size ∧ ∀ m, m < s.size → bt s ((m : Nat) : Int) = bt a ((i0 + m : Nat) : Int)
def Sk (a : ByteArray) (T : Nat → List S36 → Int → Int → Option ((List S36) × Int × Int)) (S : Nat → ByteArray → Int → Option Int) (i j : Nat) : Prop :=
 i ≤ j ∧ j ≤ a.size ∧ (j < a.size → ¬ Wh (bt a ((j : Nat) : Int))) ∧
 (∀ xs (x : Nat) r, x ≤ i + 1 → q0a (fun k => q0n.l0 k a xs ((x + lfs a i (j - i) : Nat) : Int) (j : Int)) r → q0a (fun k => T k xs (x : Int) (i : Int)) r) ∧
 (∀ s i0 m, i0 + m = i → Sl a i0 s → q0a (fun k => S k s ((m : Nat) : Int)) ((j - i0 : Nat) : Int))
theorem Sk.of {a : ByteArray} {T T' S S'} {i j : Nat} (h : Sk a T S (i + 1) j) (w : Nat) (hw : w = if bt a ((i : Nat) : Int) = 10 then 1 else 0)
  (hT : ∀ xs (x : Nat) r, x ≤ i + 1 → q0a (fun k => T k xs ((x + w : Nat) : Int) ((i + 1 : Nat) : Int)) r → q0a (fun k => T' k xs (x : Int) (i : Int)) r)
  (hS : ∀ s i0 m r, i0 + m = i → Sl a i0 s → q0a (fun k => S k s ((m + 1 : Nat) : Int)) r → q0a (fun k => S' k s ((m : Nat) : Int)) r) : Sk a T' S' i j := by
 obtain ⟨h1, h2, h3, h4, h5⟩ := h
 refine ⟨by omega, h2, h3, fun xs x r hx hr => hT xs x r hx (h4 xs (x + w) r (by rw [hw]; split <;> omega) ?_), fun s i0 m hm hs => hS s i0 m _ hm hs (h5 s i0 (m + 1) (by omega) hs)⟩
 have e : lfs a i (j - i) = w + lfs a (i + 1) (j - (i + 1)) := by
  rw [show j - i = j - (i + 1) + 1 by omega, lfs, ← hw]
 rw [e, ← Nat.add_assoc] at hr
 exact hr
section
variable (a : ByteArray) (ha : a.size ≤ 20000)
include ha
theorem q7B {i i0 m : Nat} {s : ByteArray} {r : Int} (h : i < a.size) (hm : i0 + m = i) (hs : Sl a i0 s) (hc : bt a ((i : Nat) : Int) = 10 ∨ bt a ((i : Nat) : Int) = 32 ∨ bt a ((i : Nat) : Int) = 9 ∨ bt a ((i : Nat) : Int) = 13) (hr : q0a (fun k => q0m.l0 k s ((m + 1 : Nat) : Int)) r) : q0a (fun k => q0m.l0 k s ((m : Nat) : Int)) r := by
 have hz := hs.1
 have e := hs.2 m (by omega)
 rw [hm] at e
 have hj : ∀ c, q0a (fun k => q0m.j1 k s ((m : Nat) : Int) c true) r := fun c => q0a.succ (by simp only [q0m.j1, q2L (show m ≤ 1000000 by omega)]; exact q0a.ite_pos trivial hr)
 apply q0a.succ
 simp only [q0m.l0, e]
 refine q0a.ite_pos (by omega) (q0a.ite_pos (by omega) ?_)
 rcases hc with hc | hc | hc | hc <;> rw [hc]
 ·exact q0a.ite_neg (by decide) (q0a.ite_neg (by decide) (q0a.ite_pos rfl (hj 10)))
 ·exact q0a.ite_pos rfl (hj 32)
 ·exact q0a.ite_neg (by decide) (q0a.ite_pos rfl (hj 9))
 ·exact q0a.ite_neg (by decide) (q0a.ite_neg (by decide) (q0a.ite_neg (by decide) (hj 13)))
omit ha in
theorem q7v {i i0 m : Nat} {s : ByteArray} {r : Int} (h : i < a.size) (hm : i0 + m = i) (hs : Sl a i0 s) (hc : ¬ (bt a ((i : Nat) : Int) = 10 ∨ bt a ((i : Nat) : Int) = 32 ∨ bt a ((i : Nat) : Int) = 9 ∨ bt a ((i : Nat) : Int) = 13)) (hr : q0a (fun k => if bt a ((i : Nat) : Int) = 35 then q0m.l1 k s ((m : Nat) : Int) else some ((m : Nat) : Int)) r) : q0a (fun k => q0m.l0 k s ((m : Nat) : Int)) r := by
 have hz := hs.1
 have e := hs.2 m (by omega)
 rw [hm] at e
 apply q0a.succ
 simp only [q0m.l0, e]
 refine q0a.ite_pos (by omega) (q0a.ite_pos (by omega) (q0a.ite_neg (fun k => hc (.inr (.inl k))) (q0a.ite_neg (fun k => hc (.inr (.inr (.inl k)))) (q0a.ite_neg (fun k => hc (.inl k)) (q0a.succ ?_)))))
 simp only [q0m.j1]
 exact q0a.ite_neg (by simpa using fun k => hc (.inr (.inr (.inr k)))) hr
omit ha in
theorem q3A {i : Nat} {xs : List S36} {x : Int} {r} (h : i < a.size) (hc : ¬ (bt a ((i : Nat) : Int) = 10 ∨ bt a ((i : Nat) : Int) = 32 ∨ bt a ((i : Nat) : Int) = 9 ∨ bt a ((i : Nat) : Int) = 13)) (hr : q0a (fun k => q0n.j1 k a xs x (i : Int) (bt a ((i : Nat) : Int)) false) r) : q0a (fun k => q0n.l0 k a xs x (i : Int)) r := by
 apply q0a.succ
 simp only [q0n.l0]
 refine q0a.ite_pos (by omega) (q0a.ite_pos (by omega) (q0a.ite_neg (fun k => hc (.inl k)) (q0a.ite_neg (fun k => hc (.inr (.inl k))) (q0a.ite_neg (fun k => hc (.inr (.inr (.inl k)))) ?_))))
 rw [show (bt a ((i : Nat) : Int) == 13) = false from by simpa using fun k => hc (.inr (.inr (.inr k)))]
 exact hr
theorem q4D {i : Nat} {xs : List S36} {x : Int} {r} (h : i < a.size) (hc : bt a ((i : Nat) : Int) = 32 ∨ bt a ((i : Nat) : Int) = 9 ∨ bt a ((i : Nat) : Int) = 13) (hr : q0a (fun k => q0n.l0 k a xs x ((i + 1 : Nat) : Int)) r) : q0a (fun k => q0n.l0 k a xs x (i : Int)) r := by
 have hj : ∀ c, q0a (fun k => q0n.j1 k a xs x (i : Int) c true) r := fun c => q0a.succ (by simp only [q0n.j1, q2L (show i ≤ 1000000 by omega)]; exact q0a.ite_pos trivial hr)
 apply q0a.succ
 simp only [q0n.l0]
 refine q0a.ite_pos (by omega) (q0a.ite_pos (by omega) ?_)
 rcases hc with hc | hc | hc <;> rw [hc]
 ·exact q0a.ite_neg (by decide) (q0a.ite_pos rfl (hj 32))
 ·exact q0a.ite_neg (by decide) (q0a.ite_neg (by decide) (q0a.ite_pos rfl (hj 9)))
 ·exact q0a.ite_neg (by decide) (q0a.ite_neg (by decide) (q0a.ite_neg (by decide) (hj 13)))
theorem skips : ∀ (d i : Nat), i + d = a.size → (∃ j, Sk a (fun k => q0n.l0 k a) q0m.l0 i j) ∧ ∃ j, Sk a (fun k => q0n.l1 k a) q0m.l1 i j := by
 intro d
 induction d with
 | zero =>
  intro i hi
  have hi : i = a.size := by omega
  have hx : ∀ x : Nat, x + lfs a i (i - i) = x := fun x => by rw [Nat.sub_self]; rfl
  have hW : Sk a (fun k => q0n.l0 k a) q0m.l0 i i := by
   refine ⟨Nat.le_refl _, by omega, fun h => by omega, fun xs x r _ hr => by rw [hx] at hr; exact hr, fun s i0 m hm hs => q0a.succ ?_⟩
   have hz := hs.1
   simp only [q0m.l0, show i - i0 = m by omega]
   exact q0a.ite_neg (by omega) (q0a.const _)
  refine ⟨⟨i, hW⟩, i, hW.1, hW.2.1, hW.2.2.1, fun xs x r h1 hr => q0a.succ ?_, fun s i0 m hm hs => q0a.succ ?_⟩
  ·simp only [q0n.l1]
   exact q0a.ite_neg (by omega) (hW.2.2.2.1 xs x r h1 hr)
  ·have hz := hs.1
   simp only [q0m.l1]
   exact q0a.ite_neg (by omega) (hW.2.2.2.2 s i0 m hm hs)
 | succ d IH =>
  intro i hi
  have h : i < a.size := by omega
  obtain ⟨⟨j, hj⟩, ⟨j', hj'⟩⟩ := IH (i + 1) (by omega)
  have w1 := q2L (show i ≤ 1000000 by omega)
  have hC : bt a ((i : Nat) : Int) ≠ 10 → Sk a (fun k => q0n.l1 k a) q0m.l1 i j' := by
   intro h10
   refine hj'.of 0 (by rw [if_neg h10]) (fun xs x r hx hr => q0a.succ ?_) (fun s i0 m r hm hs hr => q0a.succ ?_)
   ·simp only [q0n.l1, w1]
    exact q0a.ite_pos (by omega) (q0a.ite_pos (by omega) (q0a.ite_neg h10 hr))
   ·have hz := hs.1
    have e := hs.2 m (by omega)
    rw [hm] at e
    simp only [q0m.l1, e, q2L (show m ≤ 1000000 by omega)]
    exact q0a.ite_pos (by omega) (q0a.ite_pos (by omega) (q0a.ite_neg h10 hr))
  have hW : ∃ j, Sk a (fun k => q0n.l0 k a) q0m.l0 i j := by
   by_cases h10 : bt a ((i : Nat) : Int) = 10
   ·refine ⟨j, hj.of 1 (by rw [if_pos h10]) (fun xs x r hx hr => q0a.succ ?_) (fun s i0 m r hm hs hr => q7B a ha h hm hs (.inl h10) hr)⟩
    simp only [q0n.l0, w1, q2L (show x ≤ 1000000 by omega)]
    exact q0a.ite_pos (by omega) (q0a.ite_pos (by omega) (q0a.ite_pos h10 hr))
   by_cases hw : bt a ((i : Nat) : Int) = 32 ∨ bt a ((i : Nat) : Int) = 9 ∨ bt a ((i : Nat) : Int) = 13
   ·exact ⟨j, hj.of 0 (by rw [if_neg h10]) (fun xs x r hx hr => q4D a ha h hw hr) (fun s i0 m r hm hs hr => q7B a ha h hm hs (.inr hw) hr)⟩
   have hn : ¬ (bt a ((i : Nat) : Int) = 10 ∨ bt a ((i : Nat) : Int) = 32 ∨ bt a ((i : Nat) : Int) = 9 ∨ bt a ((i : Nat) : Int) = 13) := fun k => k.elim h10 hw
   by_cases h35 : bt a ((i : Nat) : Int) = 35
   ·have hk := hC h10
    refine ⟨j', hk.1, hk.2.1, hk.2.2.1, fun xs x r h1 hr => q3A a h hn (q0a.succ ?_), fun s i0 m hm hs => q7v a h hm hs hn (q0a.ite_pos h35 (hk.2.2.2.2 s i0 m hm hs))⟩
    simp only [q0n.j1]
    exact q0a.ite_neg (by decide) (q0a.ite_pos h35 (hk.2.2.2.1 xs x r h1 hr))
   ·refine ⟨i, Nat.le_refl _, by omega, fun _ k => ?_, fun xs x r _ hr => by rw [Nat.sub_self] at hr; exact hr, fun s i0 m hm hs => q7v a h hm hs hn (q0a.ite_neg h35 ?_)⟩
    ·rcases k with k | k | k | k | k
     ·exact h10 k
     ·exact hw (.inl k)
     ·exact hw (.inr (.inl k))
     ·exact hw (.inr (.inr k))
     ·exact h35 k
    ·rw [show i - i0 = m by omega]; exact q0a.const _
  refine ⟨hW, ?_⟩
  by_cases h10 : bt a ((i : Nat) : Int) = 10
  ·obtain ⟨j, hk⟩ := hW
   refine ⟨j, hk.1, hk.2.1, hk.2.2.1, fun xs x r h1 hr => q0a.succ ?_, fun s i0 m hm hs => q0a.succ ?_⟩
   ·simp only [q0n.l1]
    exact q0a.ite_pos (by omega) (q0a.ite_pos (by omega) (q0a.ite_pos h10 (hk.2.2.2.1 xs x r h1 hr)))
   ·have hz := hs.1
    have e := hs.2 m (by omega)
    rw [hm] at e
    simp only [q0m.l1, e]
    exact q0a.ite_pos (by omega) (q0a.ite_pos (by omega) (q0a.ite_pos h10 (hk.2.2.2.2 s i0 m hm hs)))
  ·exact ⟨j', hC h10⟩
end
theorem q7n {a : ByteArray} {xs : List S36} {x c m c2 q : Int} {j : Nat} {y : ByteArray} {r} (hj : c.toNat = j) (h0 : 0 ≤ c) (h1 : c ≤ (a.size : Int)) (hw : wrap64 (c + m) = c2) (hl : xs.length < 4398046511104) (h35 : bt a c ≠ 35) (hn : q0a (fun k => q1y.f k (a.extract j a.size)) (q, y, 0, m, 0)) (h : q0a (fun k => q0n.l0 k a (xs ++ [⟨q, y, x⟩]) x c2) r) : q0a (fun k => q0n.j1 k a xs x c (bt a c) false) r := by
 subst hj hw
 apply q0a.succ
 simp only [q0n.j1]
 exact q0a.ite_neg (by decide) (q0a.ite_neg h35 (q0a.ite_pos h0 (q0a.ite_pos h1 (q0a.bind hn (q0a.ite_pos rfl (q0a.ite_pos hl h))))))
theorem q8S {a : ByteArray} {xs : List S36} {x c : Int} {j : Nat} {e} (hj : c.toNat = j) (h0 : 0 ≤ c) (h1 : c ≤ (a.size : Int)) (h35 : bt a c ≠ 35) (he : e.2.2.2.2 ≠ 0) (hn : q0a (fun k => q1y.f k (a.extract j a.size)) e) : q0a (fun k => q0n.j1 k a xs x c (bt a c) false) ([], x, e.2.2.2.2) := by
 subst hj
 apply q0a.succ
 simp only [q0n.j1]
 exact q0a.ite_neg (by decide) (q0a.ite_neg h35 (q0a.ite_pos h0 (q0a.ite_pos h1 (q0a.bind hn (q0a.ite_neg he (q0a.const _))))))
theorem r_open {a : ByteArray} {xs : List S36} {x x7 c d c1 f : Int} {i j : Nat} {r} (hi : c.toNat = i) (hj : c1.toNat = j) (hw : wrap64 (c + d) = c1) (hf : wrap64 (x + f) = x7) (h0 : 0 ≤ c) (h1 : c ≤ (a.size : Int)) (h2 : c ≤ c1) (h3 : c1 ≤ (a.size : Int)) (hs : q0a (fun k => q0m.f k (a.extract i a.size)) d) (hc : q0a (fun k => q0S.f k (a.extract i j)) f)
  (h : q0a (fun k => if c1 = (a.size : Int) then some (xs, (0 : Int), (0 : Int)) else if 0 ≤ c1 then ((q1n.f k (a.extract j a.size)).bind fun aD => if aD.2.2.2.2 = 0 then (if xs.length < 4398046511104 then q0O.l0 k a (xs ++ [(⟨aD.1, aD.2.1, x7⟩ : S36)]) x7 (wrap64 (c1 + aD.2.2.2.1)) else none) else some (([] : List S36), x7, aD.2.2.2.2)) else none) r) : q0a (fun k => q0O.l0 k a xs x c) r := by
 subst hi hj hw hf
 apply q0a.succ
 simp only [q0O.l0]
 exact q0a.ite_pos h0 (q0a.ite_pos h1 (q0a.bind hs (q0a.ite_pos h2 (q0a.ite_pos h3 (q0a.bind hc h)))))
theorem r_next {a : ByteArray} {xs : List S36} {x7 c1 m c2 q : Int} {j : Nat} {y : ByteArray} {r} (h : c1 < (a.size : Int)) (h0 : 0 ≤ c1) (hw : wrap64 (c1 + m) = c2) (hl : xs.length < 4398046511104) (hn : q0a (fun k => q1n.f k (a.extract j a.size)) (q, y, 0, m, 0)) (hr : q0a (fun k => q0O.l0 k a (xs ++ [⟨q, y, x7⟩]) x7 c2) r) :
  q0a (fun k => if c1 = (a.size : Int) then some (xs, (0 : Int), (0 : Int)) else if 0 ≤ c1 then ((q1n.f k (a.extract j a.size)).bind fun aD => if aD.2.2.2.2 = 0 then (if xs.length < 4398046511104 then q0O.l0 k a (xs ++ [(⟨aD.1, aD.2.1, x7⟩ : S36)]) x7 (wrap64 (c1 + aD.2.2.2.1)) else none) else some (([] : List S36), x7, aD.2.2.2.2)) else none) r := by
 subst hw
 exact q0a.ite_neg (by omega) (q0a.ite_pos h0 (q0a.bind hn (q0a.ite_pos rfl (q0a.ite_pos hl hr))))
set_option maxHeartbeats 1000000 in
theorem q6q (a : ByteArray) (ha : a.size ≤ 20000) : ∀ (d i : Nat), i + d = a.size → ∀ (xs : List S36) (x : Nat), xs.length ≤ i → x ≤ i + 1 →
  ∃ r : List S36 × Int × Int, r.1.length ≤ a.size ∧ q0a (fun k => q0n.l0 k a xs (x : Int) (i : Int)) r ∧ q0a (fun k => q0O.l0 k a xs (x : Int) (i : Int)) r := by
 intro d
 induction d using Nat.strongRecOn with
 | _ d IH =>
  intro i hi xs x hx h1
  obtain ⟨⟨j, j1, j2, j3, j4, j5⟩, _⟩ := skips a ha d i hi
  have tn : ∀ n : Nat, ((n : Nat) : Int).toNat = n := Int.toNat_natCast
  have hsl : Sl a i (a.extract i a.size) := ⟨by rw [q2c (Nat.le_refl _)]; omega, fun m hm => by rw [q2c (Nat.le_refl _)] at hm; exact q2v (Nat.le_refl _) hm⟩
  have hsp : q0a (fun k => q0m.f k (a.extract i a.size)) ((j - i : Nat) : Int) := j5 _ i 0 rfl hsl
  have hz : (a.extract i j).size = j - i := q2c j2
  have hfd : q0a (fun k => q0S.f k (a.extract i j)) ((lfs a i (j - i) : Nat) : Int) := by
   have := q6g a (a.extract i j) i (by omega) (fun m hm => by rw [hz] at hm; exact q2v j2 hm) (j - i) 0 0 (by omega) (by omega)
   rw [Nat.zero_add, Nat.add_zero] at this
   exact this
  have hlf := q7x a (j - i) i
  have ho := fun r h => r_open (a := a) (xs := xs) (x := (x : Int)) (c := (i : Int)) (c1 := (j : Int)) (x7 := ((x + lfs a i (j - i) : Nat) : Int)) (r := r) (tn i) (tn j) (by unfold wrap64; omega) (by unfold wrap64; omega) (by omega) (by omega) (by omega) (by omega) hsp hfd h
  have c0 : (0 : Int) ≤ (j : Int) := Int.natCast_nonneg j
  have c1 : (j : Int) ≤ (a.size : Int) := by omega
  have cl : xs.length < 4398046511104 := by omega
  by_cases hj : j < a.size
  ·have cj : (j : Int) < (a.size : Int) := by omega
   have cn : ¬ ((j : Int) = (a.size : Int)) := by omega
   have hn := j3 hj
   have hn1 : ¬ (bt a ((j : Nat) : Int) = 10 ∨ bt a ((j : Nat) : Int) = 32 ∨ bt a ((j : Nat) : Int) = 9 ∨ bt a ((j : Nat) : Int) = 13) := by
    intro k
    rcases k with k | k | k | k
    ·exact hn (.inl k)
    ·exact hn (.inr (.inl k))
    ·exact hn (.inr (.inr (.inl k)))
    ·exact hn (.inr (.inr (.inr (.inl k))))
   have hn2 : bt a ((j : Nat) : Int) ≠ 35 := fun k => hn (.inr (.inr (.inr (.inr k))))
   have he : (a.extract j a.size).size = a.size - j := q2c (Nat.le_refl _)
   rcases q7F (a.extract j a.size) (by omega) (by omega) with ⟨r, r', e1, e2, n1, n2⟩ | ⟨q, y, m, m1, m2, n1, n2⟩
   ·refine ⟨([], ((x + lfs a i (j - i) : Nat) : Int), r.2.2.2.2), Nat.zero_le _, j4 xs x _ h1 (q3A a hj hn1 (q8S (tn j) c0 c1 hn2 e1 n1)), ho _ ?_⟩
    rw [← e2] at e1 ⊢
    exact q0a.ite_neg cn (q0a.ite_pos c0 (q0a.bind n2 (q0a.ite_neg e1 (q0a.const _))))
   ·obtain ⟨r, r1, r2, r3⟩ := IH (d - (j + m - i)) (by omega) (j + m) (by omega) (xs ++ [⟨q, y, ((x + lfs a i (j - i) : Nat) : Int)⟩]) (x + lfs a i (j - i)) (by rw [List.length_append, List.length_singleton]; omega) (by omega)
    have hw : wrap64 ((j : Int) + (m : Int)) = ((j + m : Nat) : Int) := by unfold wrap64; omega
    exact ⟨r, r1, j4 xs x _ h1 (q3A a hj hn1 (q7n (tn j) c0 c1 hw cl hn2 n1 r2)), ho _ (r_next cj c0 hw cl n2 r3)⟩
  ·refine ⟨(xs, 0, 0), by show xs.length ≤ _; omega, j4 xs x _ h1 (q0a.succ ?_), ho _ (q0a.ite_pos (by omega) (q0a.const _))⟩
   simp only [q0n.l0]
   exact q0a.ite_neg (by omega) (q0a.const _)
theorem q6J (a : ByteArray) : ∃ r : List S36 × Int × Int, r.1.length ≤ 20000 ∧ q0a (fun k => q0n.f k a) r ∧ q0a (fun k => q0O.f k a) r := by
 unfold q0n.f q0O.f
 by_cases h : (a.size : Int) > 20000
 ·exact ⟨([], 0, 3), Nat.zero_le _, q0a.ite_pos h (q0a.const _), q0a.ite_pos h (q0a.const _)⟩
 ·obtain ⟨r, h1, h2, h3⟩ := q6q a (by omega) a.size 0 (by omega) [] 1 (Nat.le_refl _) (by omega)
  exact ⟨r, by omega, q0a.ite_neg h h2, q0a.ite_neg h h3⟩
end Go.Proofs.YtmffocankommaaaDoor.L
end
section
namespace Go.Proofs.YtmffocankommaaaDoor.L
open Go.RowKit Go.Proofs.YtmffocankommaaaDoorW.PrintWords Go.Proofs.YtmffocankommaaaDoorW.PrintLast Go.Proofs.YtmffocankommaaaDoorW.PrintMore Go.Proofs.YtmffocankommaaaDoorY
set_option linter.unusedVariables false
theorem q0a.uniq {α : Type} {f : Nat → Option α} {r r' : α} (h : q0a f r) (h' : q0a f r') : r = r' := by
 obtain ⟨K, h⟩ := h
 obtain ⟨K', h'⟩ := h'
 exact Option.some.inj ((h (max K K') (by omega)).symm.trans (h' (max K K') (by omega)))
theorem byte_eq {s s' : ByteArray} {i j : Nat} (hi : i < s.size) (hj : j < s'.size) (h : bt s ((i : Nat) : Int) = bt s' ((j : Nat) : Int)) : s[i] = s'[j] := by
 have h1 := q2b s ((i : Nat) : Int) (by rw [Int.toNat_natCast]; exact hi)
 have h2 := q2b s' ((j : Nat) : Int) (by rw [Int.toNat_natCast]; exact hj)
 simp only [Int.toNat_natCast] at h1 h2
 have : s[i].toNat = s'[j].toNat := by omega
 exact UInt8.toNat_inj.1 this
theorem q5u {s s' : ByteArray} (hz : s.size = s'.size) (h : ∀ j : Nat, j < s.size → bt s ((j : Nat) : Int) = bt s' ((j : Nat) : Int)) : s = s' := by
 have : s.data = s'.data := by
  apply Array.ext
  ·exact hz
  ·intro i h1 h2
   exact byte_eq (s := s) (s' := s') h1 h2 (h i h1)
 cases s
 cases s'
 exact congrArg _ this
theorem q6G {s s' : ByteArray} {i j : Nat} (h1 : j ≤ s.size) (h2 : j ≤ s'.size) (h : ∀ m, i ≤ m → m < j → bt s' ((m : Nat) : Int) = bt s ((m : Nat) : Int)) : s'.extract i j = s.extract i j := by
 apply q5u
 ·rw [q2c h1, q2c h2]
 ·intro m hm
  rw [q2c h2] at hm
  rw [q2v h2 hm, q2v h1 hm]
  exact h (i + m) (by omega) (by omega)
def Al1 (c : Int) : Bool := Sm c || Dg c
def Ins (c : Int) : Bool := decide (32 ≤ c) && decide (c ≤ 126) && decide (c ≠ 34)
theorem q4Y (c : Int) : q2q.f c = some (Ins c) := by
 unfold q2q.f Ins
 by_cases h1 : c ≥ 32
 ·by_cases h2 : c ≤ 126
  ·rw [if_pos h1, if_pos h2, decide_eq_true (show 32 ≤ c from h1), decide_eq_true h2]
   by_cases h3 : c = 34 <;> simp [h3]
  ·rw [if_pos h1, if_neg h2, decide_eq_false h2]; simp
 ·rw [if_neg h1, decide_eq_false (show ¬ 32 ≤ c from h1)]; simp
/-- From i on a name runs to t. -/
inductive NRun (s : ByteArray) : Nat → Nat → Prop
 | stop (i : Nat) (hi : i ≤ s.size) (h : i < s.size → Al1 (bt s ((i : Nat) : Int)) = false ∧ ¬ (bt s ((i : Nat) : Int) = 45 ∧ i + 1 < s.size ∧ Al1 (bt s ((i + 1 : Nat) : Int)) = true)) : NRun s i i
 | one (i t : Nat) (hi : i < s.size) (h : Al1 (bt s ((i : Nat) : Int)) = true) (r : NRun s (i + 1) t) : NRun s i t
 | two (i t : Nat) (hi : i + 1 < s.size) (h : bt s ((i : Nat) : Int) = 45) (h' : Al1 (bt s ((i + 1 : Nat) : Int)) = true) (r : NRun s (i + 2) t) : NRun s i t
theorem NRun.le {s : ByteArray} {i t : Nat} (h : NRun s i t) : i ≤ t ∧ t ≤ s.size := by
 induction h with
 | stop i hi h => exact ⟨Nat.le_refl _, hi⟩
 | one i t hi h r ih => omega
 | two i t hi h h' r ih => omega
theorem NRun.ex (s : ByteArray) : ∀ (d i : Nat), i + d = s.size → ∃ t, NRun s i t := by
 intro d
 induction d using Nat.strongRecOn with
 | _ d IH =>
  intro i hi
  by_cases h : i < s.size
  ·cases ha : Al1 (bt s ((i : Nat) : Int)) with
   | true =>
    obtain ⟨t, ht⟩ := IH (d - 1) (by omega) (i + 1) (by omega)
    exact ⟨t, .one i t h ha ht⟩
   | false =>
    by_cases h2 : bt s ((i : Nat) : Int) = 45 ∧ i + 1 < s.size ∧ Al1 (bt s ((i + 1 : Nat) : Int)) = true
    ·obtain ⟨t, ht⟩ := IH (d - 2) (by omega) (i + 2) (by omega)
     exact ⟨t, .two i t h2.2.1 h2.1 h2.2.2 ht⟩
    ·exact ⟨i, .stop i (by omega) (fun _ => ⟨ha, h2⟩)⟩
  ·exact ⟨i, .stop i (by omega) (fun k => absurd k h)⟩
theorem q4k {c : Int} {b : Bool} (h : Al1 c = b) : (b = true → Sm c = true ∨ (¬ Sm c = true ∧ Dg c = true)) ∧ (b = false → ¬ Sm c = true ∧ Dg c = false) := by
 unfold Al1 at h
 cases h1 : Sm c <;> cases h2 : Dg c <;> simp_all
theorem NRun.comes {s : ByteArray} (hs : s.size ≤ 20000) {i t : Nat} (h : NRun s i t) : q0a (fun k => q0C.l0 k s ((i : Nat) : Int)) (t : Int) := by
 induction h with
 | stop i hi h =>
  have w1 := q2L (show i ≤ 1000000 by omega)
  by_cases hlt : i < s.size
  ·obtain ⟨ha, h2⟩ := h hlt
   obtain ⟨a1, a2⟩ := (q4k ha).2 rfl
   have J : q0a (fun k => q0C.j2 k s ((i : Nat) : Int) (bt s ((i : Nat) : Int)) (Dg (bt s ((i : Nat) : Int)))) (i : Int) := by
    rw [a2]
    apply q0a.succ
    simp only [q0C.j2, w1]
    refine q0a.ite_neg (by decide) (q0a.ite (fun h45 => q0a.ite (fun h3 => q0a.ite_pos (by omega) ?_) (fun _ => q0a.const _)) (fun _ => q0a.const _))
    simp only [q2l, q2x, Option.bind_some]
    have hb : Al1 (bt s ((i + 1 : Nat) : Int)) = false := by
     cases hb : Al1 (bt s ((i + 1 : Nat) : Int)) with
     | false => rfl
     | true => exact absurd ⟨h45, by omega, hb⟩ h2
    obtain ⟨b1, b2⟩ := (q4k hb).2 rfl
    exact q0a.ite_neg b1 (q0a.ite_neg (by rw [b2]; decide) (q0a.const _))
   apply q0a.succ
   simp only [q0C.l0, q2l, q2x, Option.bind_some]
   exact q0a.ite_pos (by omega) (q0a.ite_pos (by omega) (q0a.ite_neg a1 J))
  ·apply q0a.succ
   simp only [q0C.l0]
   exact q0a.ite_neg (by omega) (q0a.const _)
 | one i t hi h r ih =>
  have w1 := q2L (show i ≤ 1000000 by omega)
  have J : q0a (fun k => q0C.j2 k s ((i : Nat) : Int) (bt s ((i : Nat) : Int)) true) (t : Int) := q0a.succ (by simp only [q0C.j2, w1]; exact q0a.ite_pos trivial ih)
  apply q0a.succ
  simp only [q0C.l0, q2l, q2x, Option.bind_some]
  refine q0a.ite_pos (by omega) (q0a.ite_pos (by omega) ?_)
  rcases (q4k h).1 rfl with a | ⟨a, b⟩
  ·exact q0a.ite_pos a J
  ·rw [b]; exact q0a.ite_neg a J
 | two i t hi h h' r ih =>
  have w1 := q2L (show i ≤ 1000000 by omega)
  have w2 := q7j (show i ≤ 1000000 by omega)
  have e1 : ¬ Sm (bt s ((i : Nat) : Int)) = true := by rw [h]; decide
  have e2 : Dg (bt s ((i : Nat) : Int)) = false := by rw [h]; decide
  have J : q0a (fun k => q0C.j2 k s ((i : Nat) : Int) (bt s ((i : Nat) : Int)) false) (t : Int) := by
   apply q0a.succ
   simp only [q0C.j2, w1, w2, q2l, q2x, Option.bind_some]
   refine q0a.ite_neg (by decide) (q0a.ite_pos h (q0a.ite_pos (by omega) (q0a.ite_pos (by omega) ?_)))
   rcases (q4k h').1 rfl with a | ⟨a, b⟩
   ·exact q0a.ite_pos a ih
   ·exact q0a.ite_neg a (q0a.ite_pos b ih)
  apply q0a.succ
  simp only [q0C.l0, q2l, q2x, Option.bind_some]
  refine q0a.ite_pos (by omega) (q0a.ite_pos (by omega) (q0a.ite_neg e1 ?_))
  rw [e2]
  exact J
/-- s' begins like s, up to m. -/
def Agr (s s' : ByteArray) (m : Nat) : Prop := m ≤ s.size ∧ m ≤ s'.size ∧ ∀ j : Nat, j < m → bt s' ((j : Nat) : Int) = bt s ((j : Nat) : Int)
/-- At m it ends, or white space follows. -/
def Stp (s : ByteArray) (m : Nat) : Prop := m < s.size → bt s ((m : Nat) : Int) = 32 ∨ bt s ((m : Nat) : Int) = 10 ∨ bt s ((m : Nat) : Int) = 9
theorem NRun.same {s s' : ByteArray} {i t : Nat} (h : NRun s i t) (ha : Agr s s' t) (hp : Stp s' t) : NRun s' i t := by
 induction h with
 | stop i hi h =>
  refine .stop i ha.2.1 (fun hlt => ?_)
  rcases hp hlt with e | e | e <;> rw [e] <;> exact ⟨by decide, fun k => absurd k.1 (by decide)⟩
 | one i t hi h r ih =>
  have hl := r.le
  exact .one i t (by have := ha.2.1; omega) (by rw [ha.2.2 i (by omega)]; exact h) (ih ha hp)
 | two i t hi h h' r ih =>
  have hl := r.le
  exact .two i t (by have := ha.2.1; omega) (by rw [ha.2.2 i (by omega)]; exact h) (by rw [ha.2.2 (i + 1) (by omega)]; exact h') (ih ha hp)
def LexN (s : ByteArray) (m : Nat) : Prop := Sm (bt s ((0 : Nat) : Int)) = true ∧ 1 ≤ m ∧ m ≤ 20 ∧ m ≤ s.size ∧ NRun s 1 m
def LexD (s : ByteArray) (m : Nat) : Prop := Sm (bt s ((0 : Nat) : Int)) = false ∧ 1 ≤ m ∧ m ≤ 6 ∧ m ≤ s.size ∧ (∀ j : Nat, j < m → Dg (bt s ((j : Nat) : Int)) = true) ∧ (m < s.size → Dg (bt s ((m : Nat) : Int)) = false) ∧ ¬ (1 < m ∧ bt s ((0 : Nat) : Int) = 48)
def LexQ (s : ByteArray) (t : Nat) : Prop := bt s ((0 : Nat) : Int) = 34 ∧ 1 ≤ t ∧ t < s.size ∧ t ≤ 61 ∧ (∀ j : Nat, 1 ≤ j → j < t → Ins (bt s ((j : Nat) : Int)) = true) ∧ bt s ((t : Nat) : Int) = 34
def SGN : ByteArray := ⟨#[123, 125, 40, 41, 91, 93, 47, 59, 58, 126, 64, 61, 94, 44, 46, 124, 43, 42, 60, 62, 45]⟩
def LexS (s : ByteArray) : Prop := 0 < s.size ∧ Sm (bt s ((0 : Nat) : Int)) = false ∧ Dg (bt s ((0 : Nat) : Int)) = false ∧ bt s ((0 : Nat) : Int) ≠ 34 ∧ ∃ q, q1K.f SGN (bt s ((0 : Nat) : Int)) = some q ∧ q ≥ 0
/-- s begins with this token, of m letters. -/
inductive Lx (s : ByteArray) : Int → ByteArray → Nat → Prop
 | name (m : Nat) (h : LexN s m) : Lx s 1 (s.extract 0 m) m
 | num (m : Nat) (h : LexD s m) : Lx s 2 (s.extract 0 m) m
 | quot (t : Nat) (h : LexQ s t) : Lx s 3 (s.extract 1 t) (t + 1)
 | sign (h : LexS s) : Lx s 4 (s.extract 0 1) 1
theorem Lx.same {s s' : ByteArray} {q : Int} {y : ByteArray} {m : Nat} (h : Lx s q y m) (ha : Agr s s' m) (hp : Stp s' m) : Lx s' q y m := by
 obtain ⟨h1, h2, h3⟩ := ha
 cases h with
 | name m h =>
  obtain ⟨a, b, c, d, e⟩ := h
  rw [← q6G h1 h2 (fun j _ hj => h3 j hj)]
  exact .name m ⟨by rw [h3 0 (by omega)]; exact a, b, c, h2, e.same ⟨h1, h2, h3⟩ hp⟩
 | num m h =>
  obtain ⟨a, b, c, d, e, f, g⟩ := h
  rw [← q6G h1 h2 (fun j _ hj => h3 j hj)]
  refine .num m ⟨by rw [h3 0 (by omega)]; exact a, b, c, h2, fun j hj => by rw [h3 j hj]; exact e j hj, fun hlt => ?_, by rw [h3 0 (by omega)]; exact g⟩
  rcases hp hlt with k | k | k <;> rw [k] <;> decide
 | quot t h =>
  obtain ⟨a, b, c, d, e, f⟩ := h
  rw [← q6G (show t ≤ s.size by omega) (show t ≤ s'.size by omega) (fun j _ hj => h3 j (by omega))]
  exact .quot t ⟨by rw [h3 0 (by omega)]; exact a, b, by omega, d, fun j h1 h2 => by rw [h3 j (by omega)]; exact e j h1 h2, by rw [h3 t (by omega)]; exact f⟩
 | sign h =>
  obtain ⟨a, b, c, d, e⟩ := h
  rw [← q6G h1 h2 (fun j _ hj => h3 j hj)]
  exact .sign ⟨by omega, by rw [h3 0 (by omega)]; exact b, by rw [h3 0 (by omega)]; exact c, by rw [h3 0 (by omega)]; exact d, by rw [h3 0 (by omega)]; exact e⟩
end Go.Proofs.YtmffocankommaaaDoor.L
end
section
namespace Go.Proofs.YtmffocankommaaaDoor.L
open Go.RowKit Go.Proofs.YtmffocankommaaaDoorW.PrintWords Go.Proofs.YtmffocankommaaaDoorW.PrintLast Go.Proofs.YtmffocankommaaaDoorW.PrintMore Go.Proofs.YtmffocankommaaaDoorY
set_option linter.unusedVariables false
theorem q8O {s : ByteArray} (h0 : 0 < s.size) : ¬ s.toList = ([] : List UInt8) := by
 rw [ByteArray.toList_eq]
 intro h
 have := congrArg List.length h
 rw [q2J] at this
 have : s.size = 0 := this
 omega
theorem q6n {s : ByteArray} (hs : s.size ≤ 20000) (h0 : 0 < s.size) {m : Nat} (hb : Sm (bt s ((0 : Nat) : Int)) = true) (h : NRun s 1 m) : q0a (fun k => q0C.f k s) (m : Int) := by
 have hb : Sm (bt s 0) = true := hb
 unfold q0C.f
 simp only [q2l, hb, Option.bind_some]
 exact q0a.ite_neg (q8O h0) (q0a.ite_pos (by omega) (q0a.succ (by simp only [q0C.j0]; exact q0a.ite_neg (by decide) (h.comes hs))))
theorem q7D {s : ByteArray} (hs : s.size ≤ 20000) {m : Nat} (hm : m ≤ s.size) (h1 : ∀ j : Nat, j < m → Dg (bt s ((j : Nat) : Int)) = true) (h2 : m < s.size → Dg (bt s ((m : Nat) : Int)) = false) : q0a (fun k => q0Y.f k s) (m : Int) := by
 obtain ⟨t, t2, hd, hn, d1, d2⟩ := q3g s hs
 obtain rfl : t = m := by
  rcases Nat.lt_trichotomy t m with h | h | h
  ·have a := hn (by omega)
   rw [h1 t h] at a
   cases a
  ·exact h
  ·have a := hd m h
   rw [h2 (by omega)] at a
   cases a
 exact d1
theorem q5F {s : ByteArray} (hs : s.size ≤ 20000) {t : Nat} (ht : t ≤ s.size) (hE : t < s.size → Ins (bt s ((t : Nat) : Int)) = false) (r : ByteArray × Int) (hr : q0a (fun k => q0z.j1 k s ((t : Nat) : Int)) r) :
  ∀ (d i : Nat), i + d = t → (∀ j, i ≤ j → j < t → Ins (bt s ((j : Nat) : Int)) = true) → q0a (fun k => q0z.l0 k s ((i : Nat) : Int)) r := by
 intro d
 induction d with
 | zero =>
  intro i hi _
  obtain rfl : i = t := by omega
  apply q0a.succ
  simp only [q0z.l0, q4Y, Option.bind_some]
  by_cases h : i < s.size
  ·exact q0a.ite_pos (by omega) (q0a.ite_pos (by omega) (q0a.ite_neg (by rw [hE h]; decide) hr))
  ·exact q0a.ite_neg (by omega) hr
 | succ d IH =>
  intro i hi hI
  apply q0a.succ
  simp only [q0z.l0, q4Y, Option.bind_some, q2L (show i ≤ 1000000 by omega)]
  exact q0a.ite_pos (by omega) (q0a.ite_pos (by omega) (q0a.ite_pos (hI i (Nat.le_refl _) (by omega)) (IH (i + 1) (by omega) (fun j h1 h2 => hI j (by omega) h2))))
theorem q6S (s : ByteArray) : ∀ (d i : Nat), i + d = s.size → ∃ t, i ≤ t ∧ t ≤ s.size ∧ (∀ j, i ≤ j → j < t → Ins (bt s ((j : Nat) : Int)) = true) ∧ (t < s.size → Ins (bt s ((t : Nat) : Int)) = false) := by
 intro d
 induction d with
 | zero => intro i hi; exact ⟨i, Nat.le_refl _, by omega, fun j h1 h2 => by omega, fun h => by omega⟩
 | succ d IH =>
  intro i hi
  cases hI : Ins (bt s ((i : Nat) : Int)) with
  | false => exact ⟨i, Nat.le_refl _, by omega, fun j h1 h2 => by omega, fun _ => hI⟩
  | true =>
   obtain ⟨t, h1, h2, h3, h4⟩ := IH (i + 1) (by omega)
   refine ⟨t, by omega, h2, fun j h5 h6 => ?_, h4⟩
   rcases Nat.eq_or_lt_of_le h5 with rfl | h7
   ·exact hI
   ·exact h3 j h7 h6
theorem q7H {s : ByteArray} (hs : s.size ≤ 20000) {t : Nat} (h : LexQ s t) : q0a (fun k => q0z.f k s) (s.extract 1 t, 0) := by
 obtain ⟨a, b, c, d, e, f⟩ := h
 have wm : wrap64 ((t : Int) - 1) = ((t - 1 : Nat) : Int) := by unfold wrap64; omega
 have ti : ((t : Nat) : Int).toNat = t := Int.toNat_natCast _
 unfold q0z.f
 refine q5F hs (by omega) (fun _ => by rw [f]; decide) _ (q0a.succ ?_) (t - 1) 1 (by omega) e
 simp only [q0z.j1]
 refine q0a.ite_neg (by omega) (q0a.ite_pos (by omega) (q0a.ite_pos (by omega) (q0a.succ ?_)))
 simp only [q0z.j2, f, wm, ti]
 exact q0a.ite_neg (by decide) (q0a.ite_neg (by omega) (q0a.ite_pos (by omega) (q0a.ite_pos (by omega) (q0a.const _))))
theorem Lx.comes {s : ByteArray} (hs : s.size ≤ 20000) {q : Int} {y : ByteArray} {m : Nat} (h : Lx s q y m) : q0a (fun k => q1y.f k s) (q, y, 0, (m : Int), 0) := by
 have ti : ∀ t : Nat, ((t : Nat) : Int).toNat = t := Int.toNat_natCast
 unfold q1y.f
 cases h with
 | name m h =>
  obtain ⟨a, b, c, d, e⟩ := h
  have a' : Sm (bt s 0) = true := a
  refine q0a.ite_pos (by omega) ?_
  simp only [q2l, a', Option.bind_some]
  refine q0a.ite_pos trivial (q0a.bind (q6n hs (by omega) a e) ?_)
  simp only [ti]
  exact q0a.ite_neg (by omega) (q0a.ite_pos (by omega) (q0a.ite_pos (by omega) (q0a.const _)))
 | num m h =>
  obtain ⟨a, b, c, d, e, f, g⟩ := h
  have a' : Sm (bt s 0) = false := a
  have e0 : Dg (bt s 0) = true := e 0 (by omega)
  have he : (s.extract 0 m).size = m := by rw [q2c d]; omega
  have hbt : ∀ j, j < m → bt (s.extract 0 m) ((j : Nat) : Int) = bt s ((j : Nat) : Int) := fun j hj => by rw [q2v d (by omega), Nat.zero_add]
  obtain ⟨v, hv⟩ := q3t (s.extract 0 m) (by omega) (by omega) (fun j hj => by rw [he] at hj; rw [hbt j hj]; exact e j hj)
  have hb0 : bt (s.extract 0 m) 0 = bt s ((0 : Nat) : Int) := hbt 0 (by omega)
  rw [he, hb0, if_neg g] at hv
  refine q0a.ite_pos (by omega) ?_
  simp only [q2l, q2x, a', e0, Option.bind_some]
  refine q0a.ite_neg (by decide) (q0a.ite_pos trivial (q0a.bind (q7D hs d e f) ?_))
  simp only [ti]
  exact q0a.ite_neg (by omega) (q0a.ite_pos (by omega) (q0a.ite_pos (by omega) (q0a.bind hv (q0a.ite_pos rfl (q0a.const _)))))
 | quot t h =>
  have hq := q7H hs h
  obtain ⟨a, b, c, d, e, f⟩ := h
  have a' : bt s 0 = 34 := a
  have hw : wrap64 (((s.extract 1 t).size : Int) + 2) = ((t + 1 : Nat) : Int) := by rw [q2c (by omega), q7j (by omega)]; congr 1; omega
  refine q0a.ite_pos (by omega) ?_
  simp only [q2l, q2x, a', Option.bind_some]
  refine q0a.ite_neg (by decide) (q0a.ite_neg (by decide) (q0a.ite_pos trivial (q0a.bind hq ?_)))
  simp only [hw]
  exact q0a.const _
 | sign h =>
  obtain ⟨z, a, b, c, q, e1, e2⟩ := h
  have a' : Sm (bt s 0) = false := a
  have b' : Dg (bt s 0) = false := b
  have e1' : q1K.f (⟨#[123, 125, 40, 41, 91, 93, 47, 59, 58, 126, 64, 61, 94, 44, 46, 124, 43, 42, 60, 62, 45]⟩ : ByteArray) (bt s 0) = some q := e1
  refine q0a.ite_pos (by omega) ?_
  simp only [q2l, q2x, a', b', e1', Option.bind_some]
  exact q0a.ite_neg (by decide) (q0a.ite_neg (by decide) (q0a.ite_neg c (q0a.ite_pos e2 (q0a.ite_pos (by decide) (q0a.ite_pos (by omega) (q0a.const _))))))
/-- Each text that is not empty begins with a token, or with an error. -/
theorem lex_ex {s : ByteArray} (hs : s.size ≤ 20000) (h0 : 0 < s.size) : (∃ r : Int × ByteArray × Int × Int × Int, r.2.2.2.2 ≠ 0 ∧ q0a (fun k => q1y.f k s) r) ∨ ∃ q y m, Lx s q y m := by
 have ti : ∀ t : Nat, ((t : Nat) : Int).toNat = t := Int.toNat_natCast
 have hz : bt s ((0 : Nat) : Int) = bt s 0 := rfl
 cases hb : Sm (bt s ((0 : Nat) : Int)) with
 | true =>
  obtain ⟨t, ht⟩ := NRun.ex s (s.size - 1) 1 (by omega)
  have hl := ht.le
  by_cases h20 : t ≤ 20
  ·exact .inr ⟨_, _, _, .name t ⟨hb, hl.1, h20, hl.2, ht⟩⟩
  ·refine .inl ⟨(0, ⟨#[]⟩, 0, 0, 3), by decide, ?_⟩
   rw [hz] at hb
   unfold q1y.f
   refine q0a.ite_pos (by omega) ?_
   simp only [q2l, hb, Option.bind_some]
   exact q0a.ite_pos trivial (q0a.bind (q6n hs h0 hb ht) (q0a.ite_pos (by omega) (q0a.const _)))
 | false =>
  cases hg : Dg (bt s ((0 : Nat) : Int)) with
  | true =>
   obtain ⟨t, t2, hd, hn, d1, _⟩ := q3g s hs
   have t1 : 1 ≤ t := by
    rcases Nat.eq_zero_or_pos t with h | h
    ·have a := hn (by omega)
     rw [h, hg] at a
     cases a
    ·exact h
   have err : ∀ e : Int, e ≠ 0 → q0a (fun k => if (t : Int) > 6 then some ((0 : Int), (⟨#[]⟩ : ByteArray), (0 : Int), (0 : Int), (3 : Int)) else (q0G.f k (s.extract 0 t)).bind fun aG => if aG.2 = true then some (2, s.extract 0 t, 0, (t : Int), 0) else some (0, (⟨#[]⟩ : ByteArray), 0, 0, 2)) (0, ⟨#[]⟩, 0, 0, e) →
     ∃ r : Int × ByteArray × Int × Int × Int, r.2.2.2.2 ≠ 0 ∧ q0a (fun k => q1y.f k s) r := by
    intro e he h
    refine ⟨(0, ⟨#[]⟩, 0, 0, e), he, ?_⟩
    rw [hz] at hb hg
    unfold q1y.f
    refine q0a.ite_pos (by omega) ?_
    simp only [q2l, q2x, hb, hg, Option.bind_some]
    refine q0a.ite_neg (by decide) (q0a.ite_pos trivial (q0a.bind d1 ?_))
    simpa only [ti, if_pos (show (0 : Int) ≤ (t : Int) by omega), if_pos (show (t : Int) ≤ (s.size : Int) by omega)] using h
   by_cases h6 : t ≤ 6
   ·by_cases hx : 1 < t ∧ bt s ((0 : Nat) : Int) = 48
    ·have he : (s.extract 0 t).size = t := by rw [q2c t2]; omega
     have hbt : ∀ j, j < t → bt (s.extract 0 t) ((j : Nat) : Int) = bt s ((j : Nat) : Int) := fun j hj => by rw [q2v t2 (by omega), Nat.zero_add]
     obtain ⟨v, hv⟩ := q3t (s.extract 0 t) (by omega) (by omega) (fun j hj => by rw [he] at hj; rw [hbt j hj]; exact hd j hj)
     have hb0 : bt (s.extract 0 t) 0 = bt s ((0 : Nat) : Int) := hbt 0 (by omega)
     rw [he, hb0, if_pos hx] at hv
     exact .inl (err 2 (by decide) (q0a.ite_neg (by omega) (q0a.bind hv (q0a.ite_neg (by decide) (q0a.const _)))))
    ·exact .inr ⟨_, _, _, .num t ⟨hb, t1, h6, t2, hd, hn, hx⟩⟩
   ·exact .inl (err 3 (by decide) (q0a.ite_pos (by omega) (q0a.const _)))
  | false =>
   by_cases h34 : bt s ((0 : Nat) : Int) = 34
   ·obtain ⟨t, t1, t2, hI, hE⟩ := q6S s (s.size - 1) 1 (by omega)
    have err : ∀ e : Int, e ≠ 0 → q0a (fun k => q0z.j1 k s ((t : Nat) : Int)) (⟨#[]⟩, e) → ∃ r : Int × ByteArray × Int × Int × Int, r.2.2.2.2 ≠ 0 ∧ q0a (fun k => q1y.f k s) r := by
     intro e he h
     have hq : q0a (fun k => q0z.f k s) (⟨#[]⟩, e) := by
      unfold q0z.f
      exact q5F hs t2 hE _ h (t - 1) 1 (by omega) hI
     refine ⟨(3, ⟨#[]⟩, 0, wrap64 (((⟨#[]⟩ : ByteArray).size : Int) + 2), e), he, ?_⟩
     rw [hz] at h34
     unfold q1y.f
     refine q0a.ite_pos (by omega) ?_
     simp only [q2l, q2x, h34, Option.bind_some]
     exact q0a.ite_neg (by decide) (q0a.ite_neg (by decide) (q0a.ite_pos trivial (q0a.bind hq (q0a.const _))))
    have wm : wrap64 ((t : Int) - 1) = ((t - 1 : Nat) : Int) := by unfold wrap64; omega
    by_cases hlt : t < s.size
    ·by_cases hq : bt s ((t : Nat) : Int) = 34
     ·by_cases h61 : t ≤ 61
      ·exact .inr ⟨_, _, _, .quot t ⟨h34, t1, hlt, h61, hI, hq⟩⟩
      ·refine .inl (err 3 (by decide) (q0a.succ ?_))
       simp only [q0z.j1]
       refine q0a.ite_neg (by omega) (q0a.ite_pos (by omega) (q0a.ite_pos (by omega) (q0a.succ ?_)))
       simp only [q0z.j2, hq, wm]
       exact q0a.ite_neg (by decide) (q0a.ite_pos (by omega) (q0a.const _))
     ·refine .inl (err 2 (by decide) (q0a.succ ?_))
      simp only [q0z.j1]
      refine q0a.ite_neg (by omega) (q0a.ite_pos (by omega) (q0a.ite_pos (by omega) (q0a.succ ?_)))
      simp only [q0z.j2, show (bt s ((t : Nat) : Int) != 34) = true from by simpa using hq]
      exact q0a.ite_pos trivial (q0a.const _)
    ·refine .inl (err 2 (by decide) (q0a.succ ?_))
     simp only [q0z.j1]
     refine q0a.ite_pos (by omega) (q0a.succ ?_)
     simp only [q0z.j2]
     exact q0a.ite_pos trivial (q0a.const _)
   ·obtain ⟨q, e1, _⟩ := q3U (bt s 0) (q3r s 0).1 (q3r s 0).2
    by_cases hq : q ≥ 0
    ·exact .inr ⟨_, _, _, .sign ⟨h0, hb, hg, h34, q, e1, hq⟩⟩
    ·refine .inl ⟨(0, ⟨#[]⟩, 0, 0, 2), by decide, ?_⟩
     rw [hz] at hb hg h34
     unfold q1y.f
     refine q0a.ite_pos (by omega) ?_
     simp only [q2l, q2x, hb, hg, e1, Option.bind_some]
     exact q0a.ite_neg (by decide) (q0a.ite_neg (by decide) (q0a.ite_neg h34 (q0a.ite_neg hq (q0a.const _))))
theorem Lx.size {s : ByteArray} {q : Int} {y : ByteArray} {m : Nat} (h : Lx s q y m) : 1 ≤ m ∧ m ≤ s.size ∧ m ≤ 62 := by
 cases h with
 | name m h => exact ⟨h.2.1, h.2.2.2.1, by have := h.2.2.1; omega⟩
 | num m h => exact ⟨h.2.1, h.2.2.2.1, by have := h.2.2.1; omega⟩
 | quot t h => exact ⟨by omega, by have := h.2.2.1; omega, by have := h.2.2.2.1; omega⟩
 | sign h => exact ⟨Nat.le_refl _, h.1, by decide⟩
/-- It begins with no white space and no comment. -/
theorem Lx.head {s : ByteArray} {q : Int} {y : ByteArray} {m : Nat} (h : Lx s q y m) : ¬ Wh (bt s ((0 : Nat) : Int)) := by
 have key : ∀ c : Int, Wh c → Sm c = false ∧ Dg c = false ∧ c ≠ 34 ∧ ∀ q, q1K.f SGN c = some q → ¬ q ≥ 0 := by
  intro c hc
  have e : ∀ c ∈ ([10, 32, 9, 13, 35] : List Int), q1K.f SGN c = some (-1) ∧ Sm c = false ∧ Dg c = false ∧ c ≠ 34 := by decide +kernel
  obtain ⟨e1, e2, e3, e4⟩ := e c (by rcases hc with rfl | rfl | rfl | rfl | rfl <;> decide)
  exact ⟨e2, e3, e4, fun q hq k => by rw [← Option.some.inj (e1.symm.trans hq)] at k; exact absurd k (by decide)⟩
 intro hw
 obtain ⟨k1, k2, k3, k4⟩ := key _ hw
 cases h with
 | name m h => rw [h.1] at k1; cases k1
 | num m h => have := h.2.2.2.2.1 0 h.2.1; rw [k2] at this; cases this
 | quot t h => exact k3 h.1
 | sign h =>
  obtain ⟨_, _, _, _, q, e1, e2⟩ := h
  exact k4 q e1 e2
end Go.Proofs.YtmffocankommaaaDoor.L
end
section
namespace Go.Proofs.YtmffocankommaaaDoor.L
open Go.RowKit Go.Proofs.YtmffocankommaaaDoorW.PrintWords Go.Proofs.YtmffocankommaaaDoorW.PrintLast Go.Proofs.YtmffocankommaaaDoorW.PrintMore Go.Proofs.YtmffocankommaaaDoorY
set_option linter.unusedVariables false
theorem q4q {a b : ByteArray} {j : Nat} (h : j < a.size) : bt (a ++ b) ((j : Nat) : Int) = bt a ((j : Nat) : Int) := by
 have h2 : j < (a ++ b).size := by rw [ByteArray.size_append]; omega
 have e1 := q2b (a ++ b) ((j : Nat) : Int) (by rw [Int.toNat_natCast]; exact h2)
 have e2 := q2b a ((j : Nat) : Int) (by rw [Int.toNat_natCast]; exact h)
 simp only [Int.toNat_natCast] at e1 e2
 rw [← e1, ← e2, ByteArray.getElem_append_left h]
theorem q3M {a b : ByteArray} {j : Nat} (h : j < b.size) : bt (a ++ b) ((a.size + j : Nat) : Int) = bt b ((j : Nat) : Int) := by
 have h2 : a.size + j < (a ++ b).size := by rw [ByteArray.size_append]; omega
 have e1 := q2b (a ++ b) ((a.size + j : Nat) : Int) (by rw [Int.toNat_natCast]; exact h2)
 have e2 := q2b b ((j : Nat) : Int) (by rw [Int.toNat_natCast]; exact h)
 simp only [Int.toNat_natCast] at e1 e2
 rw [← e1, ← e2, ByteArray.getElem_append_right (by omega)]
 simp
theorem bt_one (c : UInt8) : bt (⟨#[c]⟩ : ByteArray) ((0 : Nat) : Int) = (c.toNat : Int) := rfl
theorem q4l {s : ByteArray} {m : Nat} (hm : m ≤ s.size) : Agr s (s.extract 0 m) m := ⟨hm, by rw [q2c hm]; omega, fun j hj => by rw [q2v hm (by omega), Nat.zero_add]⟩
theorem q8n (c : Int) : q1M.f c = some (Ins c) := q4Y c
theorem q6m {s : ByteArray} (hs : s.size ≤ 20000) {q : Int} {y : ByteArray} {m : Nat} (h : Lx s q y m) (u : Int) : q0a (fun k => q1G.f k q y u) true := by
 unfold q1G.f
 cases h with
 | name m h =>
  obtain ⟨a, b, c, d, e⟩ := h
  have hz : (s.extract 0 m).size = m := by rw [q2c d]; omega
  have hA := q4l d
  have hb : Sm (bt (s.extract 0 m) ((0 : Nat) : Int)) = true := by rw [hA.2.2 0 (by omega)]; exact a
  have hn := q6n (s := s.extract 0 m) (by omega) (by omega) hb (e.same hA (fun k => by omega))
  refine q0a.ite_pos rfl (q0a.bind ?_ (q0a.const _))
  unfold q1H.f
  simp only [q5P (s.extract 0 m) (by omega) (by omega)]
  exact q0a.ite_neg (q8O (by omega)) (q0a.ite_pos (by omega) (q0a.bind hn (q0a.val (by rw [hz]; exact beq_self_eq_true _))))
 | num m h =>
  obtain ⟨a, b, c, d, e, f, g⟩ := h
  have hz : (s.extract 0 m).size = m := by rw [q2c d]; omega
  have hA := q4l d
  obtain ⟨v, hv⟩ := q3t (s.extract 0 m) (by omega) (by omega) (fun j hj => by rw [hz] at hj; rw [hA.2.2 j hj]; exact e j hj)
  rw [hz, show bt (s.extract 0 m) 0 = bt s ((0 : Nat) : Int) from hA.2.2 0 (by omega), if_neg g] at hv
  obtain ⟨r, r1, r2⟩ := q5K (s.extract 0 m)
  obtain rfl := r1.uniq hv
  exact q0a.ite_neg (by decide) (q0a.ite_pos rfl (q0a.bind r2 (q0a.const _)))
 | quot t h =>
  obtain ⟨a, b, c, d, e, f⟩ := h
  have hz : (s.extract 1 t).size = t - 1 := q2c (by omega)
  have loop : ∀ (n i : Nat), i + n = t - 1 → ∃ w, q0a (fun k => q1b.l0 k (s.extract 1 t) ((i : Nat) : Int)) (w, 0) := by
   intro n
   induction n with
   | zero =>
    intro i hi
    refine ⟨((⟨#[34]⟩ : ByteArray) ++ s.extract 1 t) ++ (⟨#[34]⟩ : ByteArray), q0a.succ ?_⟩
    simp only [q1b.l0]
    exact q0a.ite_neg (by omega) (q0a.ite_pos (by omega) (q0a.ite_pos (by rw [ByteArray.size_append, bs1]; omega) (q0a.const _)))
   | succ n IH =>
    intro i hi
    obtain ⟨w, hw⟩ := IH (i + 1) (by omega)
    refine ⟨w, q0a.succ ?_⟩
    have hI : Ins (bt (s.extract 1 t) ((i : Nat) : Int)) = true := by rw [q2v (by omega) (by omega)]; exact e (1 + i) (by omega) (by omega)
    simp only [q1b.l0, q8n, Option.bind_some, q2L (show i ≤ 1000000 by omega)]
    exact q0a.ite_pos (by omega) (q0a.ite_pos (by omega) (q0a.ite_pos hI hw))
  obtain ⟨w, hw⟩ := loop (t - 1) 0 (by omega)
  refine q0a.ite_neg (by decide) (q0a.ite_neg (by decide) (q0a.ite_pos rfl ?_))
  unfold q1b.f
  exact q0a.bind (q0a.ite_neg (by omega) hw) (q0a.const _)
 | sign h =>
  obtain ⟨z, a, b, c, q, e1, e2⟩ := h
  have hz : (s.extract 0 1).size = 1 := by rw [q2c z]
  have hb : bt (s.extract 0 1) 0 = bt s 0 := (q4l z).2.2 0 (by omega)
  obtain ⟨q', e1', hc⟩ := q3U (bt s 0) (q3r s 0).1 (q3r s 0).2
  obtain rfl : q' = q := Option.some.inj (e1'.symm.trans e1)
  rw [decide_eq_true e2] at hc
  refine q0a.ite_neg (by decide) (q0a.ite_neg (by decide) (q0a.ite_neg (by decide) (q0a.ite_pos rfl (q0a.ite_pos (by omega) (q0a.ite_pos (by omega) ?_)))))
  rw [hb]
  exact q0a.bind hc (q0a.const _)
theorem q6x {s : ByteArray} (hs : s.size ≤ 20000) {q : Int} {y : ByteArray} {m : Nat} (h : Lx s q y m) (u : Int) : q0a (fun k => q0x.f k [⟨q, y, u⟩]) (s.extract 0 m, 0) := by
 have hR := q6m hs h u
 have hsz := h.size
 have w1 : wrap64 ((0 : Int) + 1) = 1 := by unfold wrap64; omega
 have hwz : (s.extract 0 m).size = m := by rw [q2c hsz.2.1]; omega
 have hE : q0a (fun k => q0x.l1 k [(⟨q, y, u⟩ : S36)] (s.extract 0 m) 1) (s.extract 0 m, 0) := by
  apply q0a.succ
  simp only [q0x.l1]
  refine q0a.ite_neg (by simp) (q0a.succ ?_)
  simp only [q0x.j2]
  exact q0a.ite_neg (by decide) (q0a.ite_neg (by omega) (q0a.const _))
 have hy : y.size ≤ m := by
  cases h with
  | name m h => omega
  | num m h => omega
  | quot t h => rw [q2c (by have := h.2.2.1; omega)]; omega
  | sign h => omega
 have hW : (q = 3 → ((⟨#[]⟩ ++ ⟨#[34]⟩) ++ y) ++ ⟨#[34]⟩ = s.extract 0 m) ∧ (q ≠ 3 → (⟨#[]⟩ : ByteArray) ++ y = s.extract 0 m) := by
  have he : ∀ z : ByteArray, (⟨#[]⟩ : ByteArray) ++ z = z := fun z => ByteArray.empty_append
  refine ⟨fun e3 => ?_, fun e3 => ?_⟩
  ·cases h with
   | name m h => exact absurd e3 (by decide)
   | num m h => exact absurd e3 (by decide)
   | sign h => exact absurd e3 (by decide)
   | quot t h =>
    obtain ⟨a, b, c, d, e, f⟩ := h
    have hz : (s.extract 1 t).size = t - 1 := q2c (by omega)
    rw [he]
    apply q5u
    ·rw [ByteArray.size_append, ByteArray.size_append, hz, q2c (by omega)]
     show 1 + (t - 1) + 1 = _
     omega
    ·intro j hj
     have hj : j < 1 + (t - 1) + 1 := by rw [ByteArray.size_append, ByteArray.size_append, hz] at hj; exact hj
     have h1 : (((⟨#[34]⟩ : ByteArray) ++ s.extract 1 t)).size = 1 + (t - 1) := by rw [ByteArray.size_append, hz]; rfl
     rw [q2v (by omega) (by omega), Nat.zero_add]
     rcases Nat.lt_or_ge j (1 + (t - 1)) with k | k
     ·rw [q4q (by omega)]
      rcases Nat.eq_zero_or_pos j with rfl | k0
      ·rw [q4q (show 0 < (⟨#[34]⟩ : ByteArray).size by decide), a]; rfl
      ·obtain ⟨i, rfl⟩ : ∃ i, j = 1 + i := ⟨j - 1, by omega⟩
       have := q3M (a := (⟨#[34]⟩ : ByteArray)) (b := s.extract 1 t) (j := i) (by omega)
       rw [show (⟨#[34]⟩ : ByteArray).size = 1 from rfl] at this
       rw [this, q2v (by omega) (by omega)]
     ·obtain rfl : j = 1 + (t - 1) := by omega
      have := q3M (a := (⟨#[34]⟩ : ByteArray) ++ s.extract 1 t) (b := (⟨#[34]⟩ : ByteArray)) (j := 0) (by decide)
      rw [h1, Nat.add_zero] at this
      rw [this, show 1 + (t - 1) = t by omega, f]; rfl
  ·rw [he]
   cases h with
   | name m h => rfl
   | num m h => rfl
   | sign h => rfl
   | quot t h => exact absurd rfl e3
 unfold q0x.f
 apply q0a.succ
 simp only [q0x.l0, w1]
 refine q0a.ite_pos (by simp) (q0a.ite_pos (by decide) (q0a.bind hR (q0a.ite_pos rfl (q0a.succ ?_))))
 simp only [q0x.l0]
 refine q0a.ite_neg (by simp) (q0a.succ ?_)
 simp only [q0x.l1]
 refine q0a.ite_pos (by simp) (q0a.succ ?_)
 simp only [q0x.j2, w1]
 refine q0a.ite_pos (by decide) (q0a.ite_neg (by decide) (q0a.ite_pos (by decide) (q0a.ite_pos (by simp) ?_)))
 have hzs : (⟨#[]⟩ : ByteArray).size = 0 := rfl
 by_cases e3 : q = 3
 ·rw [show (q1t [(⟨q, y, u⟩ : S36)] 0).f1 = y from rfl, hW.1 e3]
  exact q0a.ite_pos e3 (q0a.ite_pos (by rw [hzs]; omega) (q0a.ite_pos (by rw [ByteArray.size_append, hzs, bs1]; omega) (q0a.ite_pos (by rw [ByteArray.size_append, ByteArray.size_append, hzs, bs1]; omega) hE)))
 ·rw [show (q1t [(⟨q, y, u⟩ : S36)] 0).f1 = y from rfl, hW.2 e3]
  exact q0a.ite_neg e3 (q0a.ite_pos (by rw [hzs]; omega) hE)
end Go.Proofs.YtmffocankommaaaDoor.L
end
section
namespace Go.Proofs.YtmffocankommaaaDoor.L
open Go.RowKit Go.Proofs.YtmffocankommaaaDoorW.PrintWords Go.Proofs.YtmffocankommaaaDoorW.PrintLast Go.Proofs.YtmffocankommaaaDoorW.PrintMore Go.Proofs.YtmffocankommaaaDoorY
set_option linter.unusedVariables false
/-- u is how this token stood. -/
def Wd (t : S36) (u : ByteArray) : Prop := ∃ s m, s.size ≤ 20000 ∧ Lx s t.f0 t.f1 m ∧ u = s.extract 0 m
inductive Wds : List S36 → List ByteArray → Prop
 | nil : Wds [] []
 | cons (t : S36) (u : ByteArray) (l : List S36) (us : List ByteArray) (h : Wd t u) (r : Wds l us) : Wds (t :: l) (u :: us)
def tot : List ByteArray → Nat
 | [] => 0
 | u :: us => u.size + tot us
/-- Together no more than n letters. -/
def q6Q (us : List ByteArray) (n : Nat) : Prop := tot us ≤ n
theorem Wds.snoc {l : List S36} {us : List ByteArray} (h : Wds l us) {t : S36} {u : ByteArray} (hw : Wd t u) : Wds (l ++ [t]) (us ++ [u]) := by
 induction h with
 | nil => exact .cons _ _ _ _ hw .nil
 | cons t' u' l us h r ih => exact .cons _ _ _ _ h ih
theorem q8o (us : List ByteArray) (u : ByteArray) : tot (us ++ [u]) = tot us + u.size := by
 induction us with
 | nil => show u.size + 0 = 0 + u.size; omega
 | cons v us ih => show v.size + tot (us ++ [u]) = v.size + tot us + u.size; omega
theorem q6Q.snoc {us : List ByteArray} {i j m : Nat} (h : q6Q us i) (hi : i ≤ j) {u : ByteArray} (hu : u.size ≤ m) : q6Q (us ++ [u]) (j + m) := by
 unfold q6Q at h ⊢
 rw [q8o]
 exact Nat.add_le_add (Nat.le_trans h hi) hu
theorem Wd.size {t : S36} {u : ByteArray} (h : Wd t u) : 1 ≤ u.size ∧ u.size ≤ 62 := by
 obtain ⟨s, m, hs, hl, rfl⟩ := h
 have := hl.size
 rw [q2c this.2.1]
 omega
theorem q7d (a : ByteArray) (ha : a.size ≤ 20000) : ∀ (d i : Nat), i + d = a.size → ∀ (xs : List S36) (us : List ByteArray) (x : Nat), Wds xs us → q6Q us i → xs.length ≤ i → x ≤ i + 1 →
  ∃ r : List S36 × Int × Int, q0a (fun k => q0n.l0 k a xs (x : Int) (i : Int)) r ∧ (r.2.2 = 0 → r.1.length ≤ a.size ∧ r.2.1 = 0 ∧ ∃ vs, Wds r.1 vs ∧ q6Q vs a.size) := by
 intro d
 induction d using Nat.strongRecOn with
 | _ d IH =>
  intro i hi xs us x hW hT hx h1
  obtain ⟨⟨j, j1, j2, j3, j4, j5⟩, _⟩ := skips a ha d i hi
  have tn : ∀ n : Nat, ((n : Nat) : Int).toNat = n := Int.toNat_natCast
  have hlf := q7x a (j - i) i
  have c0 : (0 : Int) ≤ (j : Int) := Int.natCast_nonneg j
  have c1 : (j : Int) ≤ (a.size : Int) := by omega
  have cl : xs.length < 4398046511104 := by omega
  by_cases hj : j < a.size
  ·have hn := j3 hj
   have hn1 : ¬ (bt a ((j : Nat) : Int) = 10 ∨ bt a ((j : Nat) : Int) = 32 ∨ bt a ((j : Nat) : Int) = 9 ∨ bt a ((j : Nat) : Int) = 13) := by
    intro k
    rcases k with k | k | k | k
    ·exact hn (.inl k)
    ·exact hn (.inr (.inl k))
    ·exact hn (.inr (.inr (.inl k)))
    ·exact hn (.inr (.inr (.inr (.inl k))))
   have hn2 : bt a ((j : Nat) : Int) ≠ 35 := fun k => hn (.inr (.inr (.inr (.inr k))))
   have he : (a.extract j a.size).size = a.size - j := q2c (Nat.le_refl _)
   rcases lex_ex (s := a.extract j a.size) (by omega) (by omega) with ⟨r, e1, n1⟩ | ⟨q, y, m, hL⟩
   ·exact ⟨([], ((x + lfs a i (j - i) : Nat) : Int), r.2.2.2.2), j4 xs x _ h1 (q3A a hj hn1 (q8S (tn j) c0 c1 hn2 e1 n1)), fun e => absurd e e1⟩
   ·have hz := hL.size
    have n1 := hL.comes (by omega)
    obtain ⟨r, r1, r2⟩ := IH (d - (j + m - i)) (by omega) (j + m) (by omega) (xs ++ [⟨q, y, ((x + lfs a i (j - i) : Nat) : Int)⟩]) (us ++ [(a.extract j a.size).extract 0 m]) (x + lfs a i (j - i))
     (hW.snoc ⟨_, m, by omega, hL, rfl⟩) (hT.snoc j1 (Nat.le_of_eq (by rw [q2c hz.2.1]; exact Nat.sub_zero m))) (by rw [List.length_append, List.length_singleton]; omega) (by omega)
    have hw : wrap64 ((j : Int) + (m : Int)) = ((j + m : Nat) : Int) := by unfold wrap64; omega
    exact ⟨r, j4 xs x _ h1 (q3A a hj hn1 (q7n (tn j) c0 c1 hw cl hn2 n1 r1)), r2⟩
  ·refine ⟨(xs, 0, 0), j4 xs x _ h1 (q0a.succ ?_), fun _ => ⟨by show xs.length ≤ _; omega, rfl, us, hW, Nat.le_trans hT (by omega)⟩⟩
   simp only [q0n.l0]
   exact q0a.ite_neg (by omega) (q0a.const _)
/-- What may stand behind a token. -/
def Sep (p : ByteArray) : Prop := p = ⟨#[32]⟩ ∨ p = ⟨#[10]⟩ ∨ p = ⟨#[32, 35, 32, 117, 59, 10]⟩ ∨ p = ⟨#[9, 32]⟩
def cat : List ByteArray → List ByteArray → ByteArray
 | u :: us, p :: ps => (u ++ p) ++ cat us ps
 | _, _ => ⟨#[]⟩
theorem Sep.size {p : ByteArray} (h : Sep p) : 1 ≤ p.size ∧ p.size ≤ 6 := by
 rcases h with rfl | rfl | rfl | rfl <;> decide
theorem Sep.head {p : ByteArray} (h : Sep p) : bt p ((0 : Nat) : Int) = 32 ∨ bt p ((0 : Nat) : Int) = 10 ∨ bt p ((0 : Nat) : Int) = 9 := by
 rcases h with rfl | rfl | rfl | rfl <;> decide
theorem q8w {b : ByteArray} (hb : b.size ≤ 20000) {p : ByteArray} (hp : Sep p) (c : Nat) (hc : c + p.size ≤ b.size) (hB : ∀ j : Nat, j < p.size → bt b ((c + j : Nat) : Int) = bt p ((j : Nat) : Int)) (xs : List S36) (x : Nat) (hx : x ≤ 30000) :
  ∃ x' : Nat, x' ≤ x + 1 ∧ ∀ r, q0a (fun k => q0n.l0 k b xs (x' : Int) ((c + p.size : Nat) : Int)) r → q0a (fun k => q0n.l0 k b xs (x : Int) (c : Int)) r := by
 have feed : ∀ (i y : Nat) r, i < b.size → y ≤ 30000 → bt b ((i : Nat) : Int) = 10 → q0a (fun k => q0n.l0 k b xs ((y + 1 : Nat) : Int) ((i + 1 : Nat) : Int)) r → q0a (fun k => q0n.l0 k b xs (y : Int) (i : Int)) r := by
  intro i y r hi hy h hr
  apply q0a.succ
  simp only [q0n.l0, q2L (show i ≤ 1000000 by omega), q2L (show y ≤ 1000000 by omega)]
  exact q0a.ite_pos (by omega) (q0a.ite_pos (by omega) (q0a.ite_pos h hr))
 have stay : ∀ (i y : Nat) r, i < b.size → bt b ((i : Nat) : Int) ≠ 10 → q0a (fun k => q0n.l1 k b xs (y : Int) ((i + 1 : Nat) : Int)) r → q0a (fun k => q0n.l1 k b xs (y : Int) (i : Int)) r := by
  intro i y r hi h hr
  apply q0a.succ
  simp only [q0n.l1, q2L (show i ≤ 1000000 by omega)]
  exact q0a.ite_pos (by omega) (q0a.ite_pos (by omega) (q0a.ite_neg h hr))
 rcases hp with rfl | rfl | rfl | rfl
 ·have b0 := hB 0 (by decide)
  rw [Nat.add_zero] at b0
  have hz : (⟨#[32]⟩ : ByteArray).size = 1 := rfl
  rw [hz] at hc
  refine ⟨x, by omega, fun r hr => ?_⟩
  rw [hz] at hr
  exact q4D b hb (show c < b.size by omega) (.inl (b0.trans rfl)) hr
 ·have b0 := hB 0 (by decide)
  rw [Nat.add_zero] at b0
  have hz : (⟨#[10]⟩ : ByteArray).size = 1 := rfl
  rw [hz] at hc
  refine ⟨x + 1, by omega, fun r hr => ?_⟩
  rw [hz] at hr
  exact feed c x r (by omega) hx (b0.trans rfl) hr
 ·have b0 := hB 0 (by decide)
  have b1 := hB 1 (by decide)
  have b2 := hB 2 (by decide)
  have b3 := hB 3 (by decide)
  have b4 := hB 4 (by decide)
  have b5 := hB 5 (by decide)
  rw [Nat.add_zero] at b0
  have hz : (⟨#[32, 35, 32, 117, 59, 10]⟩ : ByteArray).size = 6 := rfl
  rw [hz] at hc
  refine ⟨x + 1, by omega, fun r hr => ?_⟩
  rw [hz] at hr
  have v1 : bt b ((c + 1 : Nat) : Int) = 35 := b1.trans rfl
  have v2 : bt b ((c + 2 : Nat) : Int) ≠ 10 := by rw [b2]; decide
  have v3 : bt b ((c + 3 : Nat) : Int) ≠ 10 := by rw [b3]; decide
  have v4 : bt b ((c + 4 : Nat) : Int) ≠ 10 := by rw [b4]; decide
  have v5 : bt b ((c + 5 : Nat) : Int) = 10 := b5.trans rfl
  refine q4D b hb (show c < b.size by omega) (.inl (b0.trans rfl)) (q3A b (show c + 1 < b.size by omega) (by rw [v1]; decide) (q0a.succ ?_))
  simp only [q0n.j1]
  refine q0a.ite_neg (by decide) (q0a.ite_pos v1 ?_)
  refine stay (c + 1) x r (by omega) (by rw [v1]; decide) (stay (c + 2) x r (by omega) v2 (stay (c + 3) x r (by omega) v3 (stay (c + 4) x r (by omega) v4 (q0a.succ ?_))))
  simp only [q0n.l1]
  exact q0a.ite_pos (by omega) (q0a.ite_pos (by omega) (q0a.ite_pos v5 (feed (c + 5) x r (by omega) hx v5 hr)))
 ·have b0 := hB 0 (by decide)
  have b1 := hB 1 (by decide)
  rw [Nat.add_zero] at b0
  have hz : (⟨#[9, 32]⟩ : ByteArray).size = 2 := rfl
  rw [hz] at hc
  refine ⟨x, by omega, fun r hr => ?_⟩
  rw [hz] at hr
  exact q4D b hb (show c < b.size by omega) (.inr (.inl (b0.trans rfl))) (q4D b hb (show c + 1 < b.size by omega) (.inl (b1.trans rfl)) hr)
/-- Equal q6J, apart from lines, in order. -/
def Like (l l' : List S36) : Prop := l.map (fun t => (t.f0, t.f1)) = l'.map (fun t => (t.f0, t.f1))
theorem relex {l : List S36} {us : List ByteArray} (hW : Wds l us) : ∀ (ps : List ByteArray), ps.length = us.length → (∀ p, p ∈ ps → Sep p) → ∀ (b pre : ByteArray), b = pre ++ cat us ps → b.size ≤ 20000 → ∀ (xs : List S36) (x : Nat), xs.length ≤ pre.size → x ≤ pre.size + 1 →
  ∃ l', Like l l' ∧ q0a (fun k => q0n.l0 k b xs (x : Int) ((pre.size : Nat) : Int)) (xs ++ l', 0, 0) := by
 induction hW with
 | nil =>
  intro ps hl hS b pre hb hz xs x hxs hx
  have hbz : b.size = pre.size := by
   rw [hb, ByteArray.size_append]
   rfl
  refine ⟨[], rfl, q0a.succ ?_⟩
  simp only [q0n.l0, List.append_nil]
  exact q0a.ite_neg (by omega) (q0a.const _)
 | cons t u l us h r ih =>
  intro ps hl hS b pre hb hz xs x hxs hx
  match ps, hl with
  | p :: ps, hl =>
  have hp := hS p (List.mem_cons_self ..)
  have hps := hp.size
  have hus := h.size
  obtain ⟨s, m, hs, hL, rfl⟩ := h
  have hm := hL.size
  have hue : (s.extract 0 m).size = m := by rw [q2c hm.2.1]; omega
  have hb2 : b = (pre ++ (s.extract 0 m ++ p)) ++ cat us ps := by rw [hb, ByteArray.append_assoc]; rfl
  have hpz : (pre ++ (s.extract 0 m ++ p)).size = pre.size + (m + p.size) := by rw [ByteArray.size_append, ByteArray.size_append, hue]
  have a1 : (xs ++ [(⟨t.f0, t.f1, (x : Int)⟩ : S36)]).length ≤ (pre ++ (s.extract 0 m ++ p)).size := by rw [List.length_append, List.length_singleton, hpz]; omega
  have a2 : ∀ x', x' ≤ x + 1 → x' ≤ (pre ++ (s.extract 0 m ++ p)).size + 1 := fun x' hx' => by rw [hpz]; omega
  have hbz : b.size = pre.size + (m + p.size) + (cat us ps).size := by rw [hb2, ByteArray.size_append, hpz]
  -- the letters of b from here on
  have g1 : ∀ j : Nat, j < m → bt b ((pre.size + j : Nat) : Int) = bt s ((j : Nat) : Int) := by
   intro j hj
   rw [hb2, q4q (by omega), q3M (by rw [ByteArray.size_append]; omega), q4q (by omega)]
   exact (q4l hm.2.1).2.2 j hj
  have g2 : ∀ j : Nat, j < p.size → bt b ((pre.size + m + j : Nat) : Int) = bt p ((j : Nat) : Int) := by
   intro j hj
   rw [hb2, q4q (by omega), show pre.size + m + j = pre.size + (m + j) by omega, q3M (by rw [ByteArray.size_append]; omega)]
   have := q3M (a := s.extract 0 m) (b := p) hj
   rw [hue] at this
   exact this
  have hw := hL.head
  have hlt : pre.size < b.size := by omega
  have g0 := g1 0 (by omega)
  rw [Nat.add_zero] at g0
  have hn1 : ¬ (bt b ((pre.size : Nat) : Int) = 10 ∨ bt b ((pre.size : Nat) : Int) = 32 ∨ bt b ((pre.size : Nat) : Int) = 9 ∨ bt b ((pre.size : Nat) : Int) = 13) := by
   rw [g0]
   intro k
   rcases k with k | k | k | k
   ·exact hw (.inl k)
   ·exact hw (.inr (.inl k))
   ·exact hw (.inr (.inr (.inl k)))
   ·exact hw (.inr (.inr (.inr (.inl k))))
  have hn2 : bt b ((pre.size : Nat) : Int) ≠ 35 := by rw [g0]; exact fun k => hw (.inr (.inr (.inr (.inr k))))
  have hez : (b.extract pre.size b.size).size = b.size - pre.size := q2c (Nat.le_refl _)
  have gx : ∀ j : Nat, j < b.size - pre.size → bt (b.extract pre.size b.size) ((j : Nat) : Int) = bt b ((pre.size + j : Nat) : Int) := fun j hj => q2v (Nat.le_refl _) hj
  have hL' : Lx (b.extract pre.size b.size) t.f0 t.f1 m := by
   refine hL.same ⟨hm.2.1, by omega, fun j hj => by rw [gx j (by omega)]; exact g1 j hj⟩ (fun hlt => ?_)
   have := g2 0 (by omega)
   rw [gx m (by omega), show pre.size + m = pre.size + m + 0 from rfl, this]
   exact hp.head
  have tn : ((pre.size : Nat) : Int).toNat = pre.size := Int.toNat_natCast _
  have hwr : wrap64 (((pre.size : Nat) : Int) + (m : Int)) = ((pre.size + m : Nat) : Int) := by unfold wrap64; omega
  have c0 : (0 : Int) ≤ ((pre.size : Nat) : Int) := Int.natCast_nonneg _
  have c1 : ((pre.size : Nat) : Int) ≤ (b.size : Int) := by omega
  have cl : xs.length < 4398046511104 := by omega
  obtain ⟨x', hx', hsk⟩ := q8w hz hp (pre.size + m) (by omega) g2 (xs ++ [⟨t.f0, t.f1, (x : Int)⟩]) x (by omega)
  obtain ⟨l', hk, hc⟩ := ih ps (by simpa using hl) (fun p' hp' => hS p' (List.mem_cons_of_mem _ hp')) b (pre ++ (s.extract 0 m ++ p)) hb2 hz (xs ++ [⟨t.f0, t.f1, (x : Int)⟩]) x' a1 (a2 x' hx')
  refine ⟨⟨t.f0, t.f1, (x : Int)⟩ :: l', ?_, ?_⟩
  ·unfold Like at hk ⊢
   simp only [List.map_cons, hk]
  ·refine q3A b hlt hn1 (q7n tn c0 c1 hwr cl hn2 (hL'.comes (by omega)) (hsk _ ?_))
   rw [hpz, ← Nat.add_assoc, List.append_assoc] at hc
   exact hc
theorem Like.al {l l' : List S36} (h : Like l l') : Al l l' := by
 have hl : l.length = l'.length := by
  have := congrArg List.length h
  simpa using this
 have key : ∀ i : Int, ((q1t l i).f0, (q1t l i).f1) = ((q1t l' i).f0, (q1t l' i).f1) := by
  intro i
  by_cases hi : i.toNat < l.length
  ·have e1 : q1t l i = l[i.toNat] := by
    show l.getD i.toNat z36 = _
    rw [List.getD_eq_getElem?_getD, List.getElem?_eq_getElem hi]
    rfl
   have e2 : q1t l' i = l'[i.toNat]'(by omega) := by
    show l'.getD i.toNat z36 = _
    rw [List.getD_eq_getElem?_getD, List.getElem?_eq_getElem (by omega)]
    rfl
   have := congrArg (fun z => z[i.toNat]?) h
   simp only [List.getElem?_map, List.getElem?_eq_getElem hi, List.getElem?_eq_getElem (show i.toNat < l'.length by omega), Option.map_some, Option.some.injEq] at this
   rw [e1, e2]
   exact this
  ·have e1 : q1t l i = z36 := by
    show l.getD i.toNat z36 = _
    rw [List.getD_eq_getElem?_getD, List.getElem?_eq_none (by omega)]
    rfl
   have e2 : q1t l' i = z36 := by
    show l'.getD i.toNat z36 = _
    rw [List.getD_eq_getElem?_getD, List.getElem?_eq_none (by omega)]
    rfl
   rw [e1, e2]
 exact ⟨hl, fun i => (Prod.mk.inj (key i)).1, fun i => (Prod.mk.inj (key i)).2⟩
theorem Al.refl (l : List S36) : Al l l := ⟨rfl, fun _ => rfl, fun _ => rfl⟩
end Go.Proofs.YtmffocankommaaaDoor.L
end
section
namespace Go.Proofs.YtmffocankommaaaDoor.L
open Go.RowKit Go.Proofs.YtmffocankommaaaDoorW.PrintWords Go.Proofs.YtmffocankommaaaDoorW.PrintLast Go.Proofs.YtmffocankommaaaDoorW.PrintMore Go.Proofs.YtmffocankommaaaDoorY
set_option linter.unusedVariables false
theorem q7R (x : List S25) (hl : x.length ≤ 1048576) (a : Int) (b : ByteArray) (c : Int) (ih : ∀ y, y ∈ x → q0a (fun k => q0h.f k y.f0 y.f1 y.f2 y.f3 y.f0 y.f1 y.f2 y.f3) true) :
  ∀ (m i : Nat), i + m = x.length → q0a (fun k => q0h.l0 k (i : Int) a b c x a b c x) true := by
 intro m
 induction m with
 | zero =>
  intro i hi
  apply q0a.succ
  simp only [q0h.l0]
  exact q0a.ite_neg (by omega) (q0a.const _)
 | succ m IH =>
  intro i hi
  have h : i < x.length := by omega
  apply q0a.succ
  simp only [q0h.l0, rd25 h, q2r (show i ≤ 1048576 by omega)]
  exact q0a.ite_pos (by omega) (q0a.ite_pos (by omega) (q0a.ite_pos (by omega) (q0a.bind (ih _ (List.getElem_mem h)) (q0a.ite_pos rfl (IH (i + 1) (by omega))))))
theorem q3S : ∀ (n : S25), Small n → q0a (fun k => q0h.f k n.f0 n.f1 n.f2 n.f3 n.f0 n.f1 n.f2 n.f3) true
 | ⟨a, b, c, x⟩, hs => by
  cases hs with
  | mk _ _ _ _ hl hk =>
  apply q0a.succ
  simp only [q0h.f]
  refine q0a.ite_pos trivial (q0a.ite_pos trivial (q0a.ite_pos trivial (q0a.succ ?_)))
  simp only [q0h.j0]
  exact q0a.ite_neg (by simp) (q7R x hl a b c (fun y hy => q3S y (hk y hy)) x.length 0 (by omega))
 termination_by n => SizeOf.sizeOf n
 decreasing_by
  have := List.sizeOf_lt_of_mem hy
  simp only [S25.mk.sizeOf_spec]
  omega
theorem q7K (x : List ByteArray) (hl : x.length ≤ 1048576) : q0a (fun k => q0N.f k x x) true := by
 have loop : ∀ (m i : Nat), i + m = x.length → q0a (fun k => q0N.l0 k x x (i : Int)) true := by
  intro m
  induction m with
  | zero =>
   intro i hi
   apply q0a.succ
   simp only [q0N.l0]
   exact q0a.ite_neg (by omega) (q0a.const _)
  | succ m IH =>
   intro i hi
   apply q0a.succ
   simp only [q0N.l0, q2r (show i ≤ 1048576 by omega)]
   exact q0a.ite_pos (by omega) (q0a.ite_pos (by omega) (q0a.ite_pos (by omega) (q0a.ite_pos trivial (IH (i + 1) (by omega)))))
 unfold q0N.f
 exact q0a.ite_pos rfl (loop x.length 0 (by omega))
section
variable {n : Nat} (hn : n ≤ 1000000) (m : S44) (hm : OkM n m)
include hn hm
theorem same_l2 : ∀ (d i : Nat), i + d = m.f3.length → q0a (fun k => q0f.l2 k (i : Int) m.f0 m.f1 m.f2 m.f3 m.f4.f0 m.f4.f1 m.f4.f2 m.f4.f3 m.f0 m.f1 m.f2 m.f3 m.f4.f0 m.f4.f1 m.f4.f2 m.f4.f3) true := by
 have h3 := hm.h3
 intro d
 induction d with
 | zero =>
  intro i hi
  apply q0a.succ
  simp only [q0f.l2]
  exact q0a.ite_neg (by omega) (q0a.const _)
 | succ d IH =>
  intro i hi
  have h : i < m.f3.length := by omega
  have hk := hm.k3 _ (List.getElem_mem h)
  apply q0a.succ
  simp only [q0f.l2, rdl7 h, q2r (show i ≤ 1048576 by omega)]
  exact q0a.ite_pos (by omega) (q0a.ite_pos (by omega) (q0a.ite_pos (by omega) (q0a.bind (q7K _ (by omega)) (q0a.ite_pos rfl (IH (i + 1) (by omega))))))
theorem same_l1 : ∀ (d i : Nat), i + d = m.f2.length → q0a (fun k => q0f.l1 k (i : Int) m.f0 m.f1 m.f2 m.f3 m.f4.f0 m.f4.f1 m.f4.f2 m.f4.f3 m.f0 m.f1 m.f2 m.f3 m.f4.f0 m.f4.f1 m.f4.f2 m.f4.f3) true := by
 have h2 := hm.h2
 intro d
 induction d with
 | zero =>
  intro i hi
  apply q0a.succ
  simp only [q0f.l1]
  exact q0a.ite_neg (by omega) (same_l2 hn m hm m.f3.length 0 (by omega))
 | succ d IH =>
  intro i hi
  apply q0a.succ
  simp only [q0f.l1, q2r (show i ≤ 1048576 by omega)]
  exact q0a.ite_pos (by omega) (q0a.ite_pos (by omega) (q0a.ite_pos (by omega) (q0a.ite_neg (by simp) (IH (i + 1) (by omega)))))
theorem same_l0 : ∀ (d i : Nat), i + d = m.f1.length → q0a (fun k => q0f.l0 k (i : Int) m.f0 m.f1 m.f2 m.f3 m.f4.f0 m.f4.f1 m.f4.f2 m.f4.f3 m.f0 m.f1 m.f2 m.f3 m.f4.f0 m.f4.f1 m.f4.f2 m.f4.f3) true := by
 have h1 := hm.h1
 intro d
 induction d with
 | zero =>
  intro i hi
  apply q0a.succ
  simp only [q0f.l0]
  exact q0a.ite_neg (by omega) (same_l1 hn m hm m.f2.length 0 (by omega))
 | succ d IH =>
  intro i hi
  have h : i < m.f1.length := by omega
  apply q0a.succ
  simp only [q0f.l0, rd86 h, q2r (show i ≤ 1048576 by omega)]
  exact q0a.ite_pos (by omega) (q0a.ite_pos (by omega) (q0a.ite_pos (by omega) (q0a.ite_pos trivial (q0a.bind (q3S _ (hm.k1 _ (List.getElem_mem h))) (q0a.ite_pos rfl (IH (i + 1) (by omega)))))))
theorem q7t : q0a (fun k => q0f.f k m.f0 m.f1 m.f2 m.f3 m.f4.f0 m.f4.f1 m.f4.f2 m.f4.f3 m.f0 m.f1 m.f2 m.f3 m.f4.f0 m.f4.f1 m.f4.f2 m.f4.f3) true := by
 unfold q0f.f
 refine q0a.ite_pos rfl (q0a.ite_pos rfl (q0a.ite_pos rfl (q0a.ite_pos rfl (q0a.bind (q3S m.f4 hm.k4) (q0a.succ ?_)))))
 simp only [q0f.j0]
 exact q0a.ite_neg (by decide) (same_l0 hn m hm m.f1.length 0 (by omega))
end
set_option maxRecDepth 100000 in
theorem q7k : q1w.f 100 = some true := by decide +kernel
theorem q4y : q0a (fun k => q1w.f k) true := q0a.mono (fun k => q1w.mono k) 100 q7k
theorem Wds.get {l : List S36} {us : List ByteArray} (h : Wds l us) : l.length = us.length ∧ ∀ i (h1 : i < l.length) (h2 : i < us.length), Wd l[i] us[i] := by
 induction h with
 | nil => exact ⟨rfl, fun i h1 _ => absurd h1 (by simp)⟩
 | cons t u l us h r ih =>
  refine ⟨by simp [ih.1], fun i h1 h2 => ?_⟩
  cases i with
  | zero => exact h
  | succ i => exact ih.2 i (by simpa using h1) (by simpa using h2)
def SEPS : List ByteArray := [(⟨#[32]⟩ : ByteArray), (⟨#[10]⟩ : ByteArray), (⟨#[32, 35, 32, 117, 59, 10]⟩ : ByteArray), (⟨#[9, 32]⟩ : ByteArray)]
def q5s (c : List Int) (i : Nat) : Int := Int.tmod (rd c (Int.tmod (i : Int) (c.length : Int))) 4
def q6e (c : List Int) (i : Nat) : ByteArray := rdOf ByteArray.empty SEPS (q5s c i)
def seps (c : List Int) : Nat → Nat → List ByteArray
 | _, 0 => []
 | i, d + 1 => q6e c i :: seps c (i + 1) d
theorem q4n (c : List Int) : ∀ d i, (seps c i d).length = d
 | 0, i => rfl
 | d + 1, i => by show (seps c (i + 1) d).length + 1 = d + 1; rw [q4n c d]
theorem q4f {c : List Int} (hc : ∀ x, x ∈ c → 0 ≤ x) (i : Nat) : 0 ≤ q5s c i ∧ q5s c i < 4 := by
 have hv : 0 ≤ rd c (Int.tmod (i : Int) (c.length : Int)) := by
  unfold rd
  rw [List.getD_eq_getElem?_getD]
  cases h : c[(Int.tmod (i : Int) (c.length : Int)).toNat]? with
  | none => exact Int.le_refl _
  | some v => exact hc v (List.mem_of_getElem? h)
 unfold q5s
 rw [Int.tmod_eq_emod_of_nonneg hv]
 omega
theorem q5w {c : List Int} (hc : ∀ x, x ∈ c → 0 ≤ x) (i : Nat) : Sep (q6e c i) := by
 have h := q4f hc i
 unfold q6e
 generalize q5s c i = v at h
 have hv : v = 0 ∨ v = 1 ∨ v = 2 ∨ v = 3 := by omega
 rcases hv with rfl | rfl | rfl | rfl
 ·exact .inl rfl
 ·exact .inr (.inl rfl)
 ·exact .inr (.inr (.inl rfl))
 ·exact .inr (.inr (.inr rfl))
theorem q6E {c : List Int} (hc : ∀ x, x ∈ c → 0 ≤ x) : ∀ d i p, p ∈ seps c i d → Sep p
 | 0, i, p, h => by cases h
 | d + 1, i, p, h => by
  rcases List.mem_cons.1 h with h | h
  ·rw [h]; exact q5w hc i
  ·exact q6E hc d (i + 1) p h
theorem q6y : ∀ (us ps : List ByteArray), (∀ p, p ∈ ps → Sep p) → (cat us ps).size ≤ tot us + 6 * us.length
 | [], ps, _ => by show (⟨#[]⟩ : ByteArray).size ≤ _; exact Nat.zero_le _
 | u :: us, [], _ => Nat.zero_le _
 | u :: us, p :: ps, h => by
  have h1 := (h p (List.mem_cons_self ..)).size
  have h2 := q6y us ps (fun q hq => h q (List.mem_cons_of_mem _ hq))
  show ((u ++ p) ++ cat us ps).size ≤ u.size + tot us + 6 * (us.length + 1)
  rw [ByteArray.size_append, ByteArray.size_append]
  omega
/-- Both texts are read, and compared. -/
def After (a b : ByteArray) (k : Nat) : Option Bool := (q1c.f k a).bind fun bt785 => (q1c.f k b).bind fun bt804 => (if bt785.2.2.2.2.2.2.2.2.2 = bt804.2.2.2.2.2.2.2.2.2 then ((q0f.f k bt785.1 bt785.2.1 bt785.2.2.1 bt785.2.2.2.1 bt785.2.2.2.2.1 bt785.2.2.2.2.2.1 bt785.2.2.2.2.2.2.1 bt785.2.2.2.2.2.2.2.1 bt804.1 bt804.2.1 bt804.2.2.1 bt804.2.2.2.1 bt804.2.2.2.2.1 bt804.2.2.2.2.2.1 bt804.2.2.2.2.2.2.1 bt804.2.2.2.2.2.2.2.1).bind fun t823 => (some t823)) else (some false))
theorem q5R (a : ByteArray) {c : List Int} (hc : ∀ x, x ∈ c → 0 ≤ x) (h0 : 0 < c.length) {l : List S36} {us : List ByteArray} (hW : Wds l us) (hl : l.length ≤ 1500) : ∀ (d i : Nat), i + d = l.length → ∀ (x : ByteArray) (r : Bool), x.size ≤ 68 * i →
  q0a (After a (x ++ cat (us.drop i) (seps c i d))) r → q0a (fun k => q0H.l0 k a c x l (l.length : Int) (i : Int)) r := by
 obtain ⟨hlen, hWd⟩ := hW.get
 intro d
 induction d with
 | zero =>
  intro i hi x r hx hr
  have e : us.drop i = [] := List.drop_eq_nil_of_le (by omega)
  rw [e, show cat [] (seps c i 0) = ByteArray.empty from rfl, ByteArray.append_empty] at hr
  apply q0a.succ
  simp only [q0H.l0]
  exact q0a.ite_neg (by omega) hr
 | succ d IH =>
  intro i hi x r hx hr
  have h : i < l.length := by omega
  have hu : i < us.length := by omega
  have hd := hWd i h hu
  have hus := hd.size
  obtain ⟨s, m, hs, hL, hue⟩ := hd
  have hwr := q6x hs hL l[i].f2
  rw [← hue] at hwr
  have hsp := (q5w hc i).size
  have hch := q4f hc i
  have t1 : 0 ≤ Int.tmod (i : Int) (c.length : Int) := by rw [Int.tmod_eq_emod_of_nonneg (by omega)]; exact Int.emod_nonneg _ (by omega)
  have t2 : Int.tmod (i : Int) (c.length : Int) < (c.length : Int) := by rw [Int.tmod_eq_emod_of_nonneg (by omega)]; exact Int.emod_lt_of_pos _ (by omega)
  have z1 : us[i].size + (q6e c i).size ≤ 9223372036854775807 := by omega
  have z2 : x.size + (us[i] ++ q6e c i).size ≤ 9223372036854775807 := by rw [ByteArray.size_append]; omega
  have z3 : (x ++ (us[i] ++ q6e c i)).size ≤ 68 * (i + 1) := by rw [ByteArray.size_append, ByteArray.size_append]; omega
  have hnext := IH (i + 1) (by omega) (x ++ (us[i] ++ q6e c i)) r z3 (by
   rw [List.drop_eq_getElem_cons hu] at hr
   rw [ByteArray.append_assoc]
   exact hr)
  apply q0a.succ
  simp only [q0H.l0, rd36 h, q2L (show i ≤ 1000000 by omega), Option.bind_some]
  exact q0a.ite_pos (by omega) (q0a.ite_pos (by omega) (q0a.ite_pos (by omega) (q0a.bind hwr (q0a.ite_pos rfl (q0a.ite_neg (by omega) (q0a.ite_pos t1 (q0a.ite_pos t2 (q0a.ite_pos hch.1 (q0a.ite_pos hch.2 (q0a.ite_pos z1 (q0a.ite_pos z2 hnext)))))))))))
theorem q3V (a : ByteArray) (c : List Int) (hc : ∀ x, x ∈ c → 0 ≤ x) : q0a (fun k => q0H.f k a c) true := by
 have hJt : q0a (fun k => q0H.j0 k a c true) true := q0a.succ (by simp only [q0H.j0]; exact q0a.ite_pos trivial (q0a.bind q4y (q0a.const _)))
 unfold q0H.f
 refine q0a.bind q4y (q0a.ite_pos rfl (q0a.ite (fun _ => hJt) (fun hz => ?_)))
 by_cases h0 : c.length = 0
 ·rw [show ((c.length : Int) == 0) = true from by simp [h0]]; exact hJt
 rw [show ((c.length : Int) == 0) = false from by simp [h0]]
 obtain ⟨r, hr, t1, t2⟩ := q6J a
 obtain ⟨r', q1, q2⟩ := q7d a (by omega) a.size 0 (by omega) [] [] 1 .nil (Nat.le_refl _) (Nat.le_refl _) (by omega)
 have t1' : q0a (fun k => q0n.f k a) r' := by
  unfold q0n.f
  exact q0a.ite_neg (by omega) q1
 obtain rfl := t1.uniq t1'
 apply q0a.succ
 simp only [q0H.j0]
 refine q0a.ite_neg (by decide) (q0a.bind t2 ?_)
 by_cases he : r.2.2 = 0
 ·obtain ⟨p1, p2, us, hW, hT⟩ := q2 he
  refine q0a.ite_pos he (q5R a hc (by omega) hW (by omega) r.1.length 0 (by omega) ⟨#[]⟩ true (Nat.zero_le _) ?_)
  have hlen := hW.get.1
  have hS := fun p hp => q6E hc r.1.length 0 p hp
  have hcs := q6y us (seps c 0 r.1.length) hS
  have hbz : ((⟨#[]⟩ : ByteArray) ++ cat (us.drop 0) (seps c 0 r.1.length)).size ≤ 20000 := by
   rw [ByteArray.size_append, List.drop_zero]
   have hT' : tot us ≤ a.size := hT
   show 0 + (cat us (seps c 0 r.1.length)).size ≤ 20000
   omega
  obtain ⟨l', hk, hcm⟩ := relex hW (seps c 0 r.1.length) (by rw [q4n, hlen]) hS ((⟨#[]⟩ : ByteArray) ++ cat (us.drop 0) (seps c 0 r.1.length)) ⟨#[]⟩ (by rw [List.drop_zero]) hbz [] 1 (Nat.le_refl _) (by decide)
  have tb : q0a (fun k => q0n.f k ((⟨#[]⟩ : ByteArray) ++ cat (us.drop 0) (seps c 0 r.1.length))) (l', 0, 0) := by
   unfold q0n.f
   exact q0a.ite_neg (by omega) hcm
  obtain ⟨m, e, hm, hp⟩ := q8D (l := r.1) (by omega)
  have tr : q0a (fun k => q0n.f k a) (r.1, r.2.1, 0) := by rw [← he]; exact t1
  obtain ⟨x1, hx1⟩ := hp a r.2.1 r.1 (Al.refl _) tr
  obtain ⟨x2, hx2⟩ := hp _ 0 l' hk.al tb
  exact q0a.bind hx1 (q0a.bind hx2 (q0a.ite_pos rfl (q0a.bind (q7t (Nat.le_refl _) m hm) (q0a.const _))))
 ·exact q0a.ite_neg he (q0a.const _)
end Go.Proofs.YtmffocankommaaaDoor.L
end
section
namespace Go.Proofs.YtmffocankommaaaDoor.WitL
open Go.ChangeShapes Go.WideShapes Go.ChangeAt Go.RowKit
/-- The values of a table's datum. -/
def vals (d : DataW Unit) : Array Value :=
 match d with
 | .agg l => (l.map fun
  | .lit (.int .u8 n) => Value.int .u8 n
  | .lit (.int .u64 n) => Value.int .u64 n
  | _ => .bool false).toArray
 | _ => #[]
def held (v : Array Value) : Obj → Obj
 | .cells _ t frozen => .cells v t frozen
 | o => o
noncomputable def laidWorld (os : Os) : World :=
 { World.holding Tryd.prog os ⟨#[], #[], []⟩ with heap := (((World.holding Tryd.prog os ⟨#[], #[], []⟩).heap.modify 1 (held (vals Rows.laid_internal_strconv_uint64pow10))).modify 2 (held (vals Rows.laid_math_bits_deBruijn32tab))).modify 3 (held (vals Rows.laid_math_bits_deBruijn64tab)) }
theorem laid_met (os : Os) : laidMet Tryd.prog Rows.metreLayoutRow.laid ((laidWorld os).forCall (fun _ _ => 0) ⟨#[], #[.string ByteArray.empty, .slice none 0 0], []⟩).memory :=
 laidMet_of_run' 8 (by kernel_rfl) (by kernel_rfl)
theorem reads (os : Os) {H : Type} (enc : TypeId × Value → H) : ∃ ds places, DataW.whole enc Tryd.prog ((laidWorld os).forCall (fun _ _ => 0) ⟨#[], #[.string ByteArray.empty, .slice none 0 0], []⟩).memory Tryd.f4.params.toList Rows.metreLayoutSpec.vars false #[.string ByteArray.empty, .slice none 0 0].toList 8 = some (ds, [], places) := by
 have h : (match DataW.whole enc Tryd.prog ((laidWorld os).forCall (fun _ _ => 0) ⟨#[], #[.string ByteArray.empty, .slice none 0 0], []⟩).memory Tryd.f4.params.toList Rows.metreLayoutSpec.vars false #[.string ByteArray.empty, .slice none 0 0].toList 8 with
  | some (ds, [], _) => true
  | _ => false) = true := by kernel_rfl
 split at h
 ·rename_i ds p he
  exact ⟨ds, p, he⟩
 ·cases h
end Go.Proofs.YtmffocankommaaaDoor.WitL
end
