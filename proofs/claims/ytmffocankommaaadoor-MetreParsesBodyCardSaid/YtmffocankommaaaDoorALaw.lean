/- The plain law: what the walks' functions compute answers as the statement says; the opening of the arguments; the witness's world. No program in sight but its types. Conditions: the lists within the arguments are no longer than the row's bulk. -/
import Derived.Test.YtmffocankommaaaDoorAx26
import Derived.Test.YtmffocankommaaaDoorRows
import Derived.WalkKit
import Derived.ProofKit
import Derived.OpenShut
import Derived.Deep.DeepHandedRow
import Derived.Lib.LaidTab
section
namespace Go.Proofs.YtmffocankommaaaDoor.U
open Go.RowKit Go.Proofs.YtmffocankommaaaDoorW.PrintWords Go.Proofs.YtmffocankommaaaDoorW.PrintLast Go.Proofs.YtmffocankommaaaDoorW.PrintMore Go.Proofs.YtmffocankommaaaDoorY
set_option linter.unusedVariables false
theorem rd36 {xs : List S36} {i : Nat} (h : i < xs.length) : q1d xs (i : Int) = xs[i] := by
 show xs.getD i z36 = xs[i]
 rw [List.getD_eq_getElem?_getD, List.getElem?_eq_getElem h]
 rfl
theorem q3x {i : Nat} (h : i ≤ 1000000) : wrap64 ((i : Int) + 1) = ((i + 1 : Nat) : Int) := by unfold wrap64; omega
/-- Token i is this sign. -/
def Hit (l : List S36) (i : Nat) (s : ByteArray) : Prop := ∃ h : i < l.length, l[i].f0 = 4 ∧ l[i].f1.toList = s.toList
instance (l : List S36) (i : Nat) (s : ByteArray) : Decidable (Hit l i s) := by unfold Hit; exact inferInstance
section
variable (l : List S36) (i : Nat) (s : ByteArray)
theorem q3T : q0z.f l (i : Int) true = some (0, ⟨#[]⟩, 0, (i : Int), true) := by simp [q0z.f]
theorem q3k : q0z.f l (l.length : Int) false = some (0, ⟨#[]⟩, 0, (l.length : Int), false) := by simp [q0z.f]
theorem q2Y (h : i < l.length) : q0z.f l (i : Int) false = some (l[i].f0, l[i].f1, l[i].f2, (i : Int), false) := by
 unfold q0z.f
 rw [if_neg (by decide), if_neg (by omega), if_pos (by omega), if_pos (by omega), rd36 h]
theorem q3o : q0j.f l (i : Int) true s = some (false, (i : Int), true) := by
 unfold q0j.f q1h.f
 rw [q3T]
 simp
theorem q3W (hi : i ≤ l.length) (hs : i ≤ 1000000) : q0j.f l (i : Int) false s = some (if Hit l i s then (true, ((i + 1 : Nat) : Int), false) else (false, (i : Int), false)) := by
 unfold q0j.f q1h.f
 by_cases h : i < l.length
 ·rw [q2Y l i h]
  simp only [Option.bind_some]
  by_cases h4 : l[i].f0 = 4
  ·rw [if_pos h4]
   simp only [Option.bind_some]
   by_cases ht : l[i].f1.toList = s.toList
   ·rw [if_pos (show Hit l i s from ⟨h, h4, ht⟩), if_pos (by rw [ht]; exact beq_self_eq_true _), q3x hs]
   ·rw [if_neg (show ¬ Hit l i s from fun k => ht k.2.2), if_neg (by simpa using ht)]
  ·rw [if_neg h4, if_neg (show ¬ Hit l i s from fun k => h4 k.2.1)]
   simp
 ·obtain rfl : i = l.length := by omega
  rw [q3k, if_neg (show ¬ Hit l l.length s from fun k => by obtain ⟨k, _⟩ := k; omega)]
  simp
theorem q5f : q0R.f l (i : Int) true s = some (false, (i : Int), true) := by simp [q0R.f]
theorem is_ok (hi : i ≤ l.length) : q0R.f l (i : Int) false s = some (decide (Hit l i s), (i : Int), false) := by
 unfold q0R.f
 rw [if_neg (by decide)]
 by_cases h : i < l.length
 ·rw [if_pos (by omega), if_pos (by omega), rd36 h]
  by_cases h4 : l[i].f0 = 4
  ·rw [if_pos h4]
   by_cases ht : l[i].f1.toList = s.toList
   ·rw [decide_eq_true (show Hit l i s from ⟨h, h4, ht⟩), ht]; simp
   ·rw [decide_eq_false (show ¬ Hit l i s from fun k => ht k.2.2)]; simp [ht]
  ·rw [if_neg h4, decide_eq_false (show ¬ Hit l i s from fun k => h4 k.2.1)]
 ·rw [if_neg (by omega), decide_eq_false (show ¬ Hit l i s from fun k => h k.1)]
theorem q4a : q0D.f l (i : Int) true s = some ((i : Int), true) := by
 unfold q0D.f; rw [q3o]; simp
theorem q5j (hi : i ≤ l.length) (hs : i ≤ 1000000) : q0D.f l (i : Int) false s = some (if Hit l i s then (((i + 1 : Nat) : Int), false) else ((i : Int), true)) := by
 unfold q0D.f
 rw [q3W l i s hi hs]
 by_cases h : Hit l i s
 ·rw [if_pos h, if_pos h]; simp
 ·rw [if_neg h, if_neg h]; simp
theorem q4X : q0X.f l (i : Int) true s = some ((i : Int), true) := by
 unfold q0X.f; rw [q5f]; simp
theorem q6H (hi : i ≤ l.length) (hs : i ≤ 1000000) : q0X.f l (i : Int) false s = some (if Hit l i s then (((i + 1 : Nat) : Int), false) else ((i : Int), true)) := by
 unfold q0X.f
 rw [is_ok l i s hi]
 by_cases h : Hit l i s
 ·rw [if_pos h, decide_eq_true h]; simp [q3x hs]
 ·rw [if_neg h, decide_eq_false h]; simp
/-- Token i has this kind. -/
def HitK (l : List S36) (i : Nat) (q : Int) : Prop := ∃ h : i < l.length, l[i].f0 = q
theorem q3P (q : Int) (hq : q ≠ 0) : q1f.f l (i : Int) true q = some (⟨#[]⟩, (i : Int), true) := by
 unfold q1f.f; rw [q3T]; simp [hq.symm]
theorem q4Q (q : Int) : q0K.f l (i : Int) true q = some (⟨#[]⟩, (i : Int), true) := by simp [q0K.f]
theorem q4q (q : Int) (hq : q ≠ 0) (hi : i ≤ l.length) (hs : i ≤ 1000000) (b : Bool) : q0K.f l (i : Int) b q = q1f.f l (i : Int) b q := by
 cases b with
 | true => rw [q4Q, q3P l i q hq]
 | false =>
  unfold q0K.f q1f.f
  rw [if_neg (by decide)]
  by_cases h : i < l.length
  ·rw [q2Y l i h, if_neg (by omega), if_pos (by omega), if_pos (by omega), rd36 h]
   simp only [Option.bind_some]
   by_cases h4 : l[i].f0 = q
   ·have e : wrap64 (wrap64 ((i : Int) + 1) - 1) = (i : Int) := by unfold wrap64; omega
    rw [if_pos h4, if_pos h4, e, if_pos (by omega), if_pos (by omega), rd36 h]
   ·rw [if_neg h4, if_neg h4]
  ·obtain rfl : i = l.length := by omega
   rw [if_pos rfl, q3k]
   simp [hq.symm]
theorem q6K (q : Int) (h : i < l.length) (hk : l[i].f0 = q) (hs : i ≤ 1000000) : q1f.f l (i : Int) false q = some (l[i].f1, ((i + 1 : Nat) : Int), false) := by
 unfold q1f.f
 rw [q2Y l i h]
 simp only [Option.bind_some]
 rw [if_pos hk, q3x hs]
theorem q4T (q : Int) (hq : q ≠ 0) (hi : i ≤ l.length) (hk : ∀ h : i < l.length, l[i].f0 ≠ q) : q1f.f l (i : Int) false q = some (⟨#[]⟩, (i : Int), true) := by
 unfold q1f.f
 by_cases h : i < l.length
 ·rw [q2Y l i h]
  simp only [Option.bind_some]
  rw [if_neg (hk h)]
 ·obtain rfl : i = l.length := by omega
  rw [q3k]
  simp [hq.symm]
theorem q6V (hi : i ≤ l.length) (hs : i ≤ 1000000) (b : Bool) : q1L.f l (i : Int) b = q1y.f l (i : Int) b := by
 cases b with
 | true =>
  unfold q1L.f q1y.f q1h.f
  rw [if_pos rfl, q4Q, q3T]
  simp [q3T, q3P l i 1 (by decide)]
 | false =>
  unfold q1L.f q1y.f q1h.f
  rw [if_neg (by decide)]
  by_cases h : i < l.length
  ·rw [if_pos (by omega), if_pos (by omega), rd36 h, q2Y l i h, q4Q, q4q l i 1 (by decide) hi hs]
   simp only [Option.bind_some]
   by_cases h1 : l[i].f0 = 1
   ·rw [if_pos h1]
    by_cases hu : l[i].f1.toList = ([117] : List UInt8)
    ·rw [if_pos hu]
     simp [hu, q3P l i 1 (by decide)]
    ·rw [if_neg hu]
     have hu' : (l[i].f1.toList == ([117] : List UInt8)) = false := by simpa using hu
     by_cases hx : l[i].f1.toList = ([120] : List UInt8)
     ·rw [if_pos hx]
      simp [hx, h1, q2Y l i h, q3P l i 1 (by decide)]
     ·rw [if_neg hx]
      have hx' : (l[i].f1.toList == ([120] : List UInt8)) = false := by simpa using hx
      simp [hu, hx, h1, q2Y l i h]
   ·have ht := q4T l i 1 (by decide) hi (fun _ => h1)
    rw [if_neg h1]
    simp only [Option.bind_some, q2Y l i h, h1, if_false, ht]
    split
    ·simp
    ·split <;> simp
  ·obtain rfl : i = l.length := by omega
   rw [if_neg (by omega), q3k, q4q l l.length 1 (by decide) (by omega) hs]
   simp [q3k]
end
end Go.Proofs.YtmffocankommaaaDoor.U
end
section
namespace Go.Proofs.YtmffocankommaaaDoor.U
open Go.RowKit Go.Proofs.YtmffocankommaaaDoorW.PrintWords Go.Proofs.YtmffocankommaaaDoorW.PrintLast Go.Proofs.YtmffocankommaaaDoorW.PrintMore Go.Proofs.YtmffocankommaaaDoorY
set_option linter.unusedVariables false
/-- From some number of rounds on, f comes to r. -/
def q0b {α : Type} (f : Nat → Option α) (r : α) : Prop := ∃ K, ∀ k, K ≤ k → f k = some r
theorem q0b.bind {α β : Type} {f : Nat → Option α} {g : Nat → α → Option β} {x : α} {r : β} (h : q0b f x) (hg : q0b (fun k => g k x) r) : q0b (fun k => (f k).bind (g k)) r := by
 obtain ⟨K, h⟩ := h
 obtain ⟨L, hg⟩ := hg
 exact ⟨max K L, fun k hk => by
  show (f k).bind (g k) = some r
  rw [h k (by omega)]
  exact hg k (by omega)⟩
theorem q0b.const {α : Type} (r : α) : q0b (fun _ => some r) r := ⟨0, fun _ _ => rfl⟩
theorem q0b.succ {α : Type} {f : Nat → Option α} {r : α} (h : q0b (fun k => f (k + 1)) r) : q0b f r := by
 obtain ⟨K, h⟩ := h
 exact ⟨K + 1, fun k hk => by
  obtain ⟨j, rfl⟩ : ∃ j, k = j + 1 := ⟨k - 1, by omega⟩
  exact h j (by omega)⟩
theorem q0b.ite_pos {α : Type} {c : Prop} [Decidable c] {f g : Nat → Option α} {r : α} (hc : c) (h : q0b f r) : q0b (fun k => if c then f k else g k) r := by simpa only [if_pos hc] using h
theorem q0b.ite_neg {α : Type} {c : Prop} [Decidable c] {f g : Nat → Option α} {r : α} (hc : ¬ c) (h : q0b g r) : q0b (fun k => if c then f k else g k) r := by simpa only [if_neg hc] using h
/-- Lists within a node are no longer than 2^20. -/
inductive Small : S25 → Prop
 | mk (a : Int) (b : ByteArray) (c : Int) (l : List S25) (hl : l.length ≤ 1048576) (hk : ∀ x, x ∈ l → Small x) : Small ⟨a, b, c, l⟩
theorem q3f {i : Nat} (h : i ≤ 1048576) : wrap64 ((i : Int) + 1) = ((i + 1 : Nat) : Int) := by unfold wrap64; omega
theorem rd25 {xs : List S25} {i : Nat} (h : i < xs.length) : q0v xs (i : Int) = xs[i] := by
 show xs.getD i z25 = xs[i]
 rw [List.getD_eq_getElem?_getD, List.getElem?_eq_getElem h]
 rfl
theorem q3M : ∀ (k : Nat) (a : ByteArray) (i : Int), q0I.l0 k a i = q1b.l0 k a i
 | 0, _, _ => rfl
 | k + 1, a, i => by
  simp only [q0I.l0, q1b.l0]
  have e : ∀ x, q1P.f x = q1R.f x := fun _ => rfl
  simp only [e, q3M k]
theorem q5k (a : ByteArray) (ha : a.size ≤ 1000) : ∃ t, q0b (fun k => q1b.f k a) t := by
 have loop : ∀ (d i : Nat), i + d = a.size → ∃ t, q0b (fun k => q1b.l0 k a (i : Int)) t := by
  intro d
  induction d with
  | zero =>
   intro i hi
   exact ⟨(i : Int), q0b.succ (by simp only [q1b.l0]; exact q0b.ite_neg (by omega) (q0b.const _))⟩
  | succ d IH =>
   intro i hi
   obtain ⟨t, ht⟩ := IH (i + 1) (by omega)
   have hd : ∃ b, q1R.f (bt a (i : Int)) = some b := by unfold q1R.f; split <;> exact ⟨_, rfl⟩
   obtain ⟨b, hb⟩ := hd
   cases b with
   | true =>
    refine ⟨t, q0b.succ ?_⟩
    simp only [q1b.l0, hb, Option.bind_some]
    refine q0b.ite_pos (by omega) (q0b.ite_pos (by omega) (q0b.ite_pos trivial ?_))
    rw [q3x (by omega)]
    exact ht
   | false =>
    refine ⟨(i : Int), q0b.succ ?_⟩
    simp only [q1b.l0, hb, Option.bind_some]
    exact q0b.ite_pos (by omega) (q0b.ite_pos (by omega) (q0b.ite_neg (by decide) (q0b.const _)))
 exact loop a.size 0 (by omega)
theorem q5n (a : ByteArray) : ∀ (k : Nat) (x i : Int), q0Q.l0 k x (q3p a) (a.size : Int) i = q0B.l0 k a x i
 | 0, _, _ => rfl
 | k + 1, x, i => by
  simp only [q0Q.l0, q0B.l0, q6t, q2A]
  by_cases h : i < (a.size : Int)
  ·rw [if_pos h, if_pos h, if_pos h, q5n a k]
  ·rw [if_neg h, if_neg h]
theorem q4e (a : ByteArray) : ∃ r, q0b (fun k => q0Q.f k a) r ∧ q0b (fun k => q0B.f k a) r := by
 have jt : q0b (fun k => q0Q.j0 k a true) (0, false) := q0b.succ (by simp only [q0Q.j0]; exact q0b.ite_pos trivial (q0b.const _))
 have jr : q0b (fun k => q0B.j0 k a true) (0, false) := q0b.succ (by simp only [q0B.j0]; exact q0b.ite_pos trivial (q0b.const _))
 unfold q0Q.f q0B.f
 by_cases h0 : a.toList = ([] : List UInt8)
 ·exact ⟨_, q0b.ite_pos h0 jt, q0b.ite_pos h0 jr⟩
 by_cases h6 : (a.size : Int) > 6
 ·exact ⟨_, q0b.ite_neg h0 (q0b.ite_pos h6 jt), q0b.ite_neg h0 (q0b.ite_pos h6 jr)⟩
 have hpos : 0 < a.size := by
  rcases Nat.eq_zero_or_pos a.size with h | h
  ·exact absurd (by rw [ByteArray.toList_eq]; exact List.length_eq_zero_iff.1 (by simpa using h)) h0
  ·exact h
 obtain ⟨t, ht⟩ := q5k a (by omega)
 have ht' : q0b (fun k => q0I.f k a) t := by
  unfold q0I.f
  simp only [q3M]
  exact ht
 have loop : ∀ (d i : Nat) (x : Int), i + d = a.size → ∃ r, q0b (fun k => q0B.l0 k a x (i : Int)) r := by
  intro d
  induction d with
  | zero =>
   intro i x hi
   exact ⟨(x, true), q0b.succ (by simp only [q0B.l0]; exact q0b.ite_neg (by omega) (q0b.const _))⟩
  | succ d IH =>
   intro i x hi
   obtain ⟨r, hr⟩ := IH (i + 1) (wrap64 ((wrap64 (10 * x)) + (((bt a i) - 48) % 256))) (by omega)
   refine ⟨r, q0b.succ ?_⟩
   simp only [q0B.l0]
   refine q0b.ite_pos (by omega) (q0b.ite_pos (by omega) ?_)
   rw [q3x (by omega)]
   exact hr
 obtain ⟨r, hr⟩ := loop a.size 0 0 (by omega)
 have jf : q0b (fun k => q0Q.j0 k a false) r := by
  apply q0b.succ
  simp only [q0Q.j0, Option.bind_some]
  refine q0b.ite_neg (by decide) (q0b.ite_pos (by omega) ?_)
  rw [q2A]
  simp only [q5n]
  exact hr
 have jg : q0b (fun k => q0B.j0 k a false) r := by
  apply q0b.succ
  simp only [q0B.j0]
  exact q0b.ite_neg (by decide) hr
 by_cases hs : t = (a.size : Int)
 ·by_cases h1 : (a.size : Int) > 1
  ·by_cases hb : bt a 0 = 48
   ·refine ⟨(0, false), q0b.ite_neg h0 (q0b.ite_neg h6 (q0b.bind ht (q0b.ite_pos hs (q0b.ite_pos h1 (q0b.ite_pos (by omega) ?_))))), q0b.ite_neg h0 (q0b.ite_neg h6 (q0b.bind ht' (q0b.ite_pos hs (q0b.ite_pos (by omega) (q0b.ite_pos hb ?_)))))⟩
    ·rw [show (bt a 0 == 48) = true from by simpa using hb]; exact jt
    ·rw [show decide ((a.size : Int) > 1) = true from decide_eq_true h1]; exact jr
   ·refine ⟨r, q0b.ite_neg h0 (q0b.ite_neg h6 (q0b.bind ht (q0b.ite_pos hs (q0b.ite_pos h1 (q0b.ite_pos (by omega) ?_))))), q0b.ite_neg h0 (q0b.ite_neg h6 (q0b.bind ht' (q0b.ite_pos hs (q0b.ite_pos (by omega) (q0b.ite_neg hb jg)))))⟩
    rw [show (bt a 0 == 48) = false from by simpa using hb]; exact jf
  ·refine ⟨r, q0b.ite_neg h0 (q0b.ite_neg h6 (q0b.bind ht (q0b.ite_pos hs (q0b.ite_neg h1 jf)))), q0b.ite_neg h0 (q0b.ite_neg h6 (q0b.bind ht' (q0b.ite_pos hs (q0b.ite_pos (by omega) ?_))))⟩
   by_cases hb : bt a 0 = 48
   ·refine q0b.ite_pos hb ?_
    rw [show decide ((a.size : Int) > 1) = false from decide_eq_false h1]; exact jg
   ·exact q0b.ite_neg hb jg
 ·exact ⟨_, q0b.ite_neg h0 (q0b.ite_neg h6 (q0b.bind ht (q0b.ite_neg hs jt))), q0b.ite_neg h0 (q0b.ite_neg h6 (q0b.bind ht' (q0b.ite_neg hs jr)))⟩
/-- A node with where the reader stands. -/
def q3d (n : S25) (i : Nat) (b : Bool) : Int × ByteArray × Int × (List S25) × Int × Bool := (n.f0, n.f1, n.f2, n.f3, (i : Int), b)
def q3S (n : S25) (ok : Bool) (i : Nat) (b : Bool) : Int × ByteArray × Int × (List S25) × Bool × Int × Bool := (n.f0, n.f1, n.f2, n.f3, ok, (i : Int), b)
def one (x : List S25) : S25 := if x.length = 1 then q0v x 0 else ⟨5, ⟨#[]⟩, 0, x⟩
theorem one_f (x : List S25) : q2s.f x = some ((one x).f0, (one x).f1, (one x).f2, (one x).f3) := by
 unfold q2s.f one
 by_cases h : x.length = 1
 ·rw [if_pos (by omega), if_pos (by omega), if_pos h]
 ·rw [if_neg (by omega), if_neg h]
theorem q7u (l : List S36) (i : Nat) : q0b (fun k => q0t.f k l (i : Int) true) (q3S ⟨0, ⟨#[]⟩, 0, []⟩ false i true) := by
 apply q0b.succ
 simp only [q0t.f, q3T, q3o, Option.bind_some]
 exact q0b.const _
theorem q7p (l : List S36) (hl : l.length ≤ 1000000) : q0b (fun k => q0t.f k l (l.length : Int) false) (q3S ⟨0, ⟨#[]⟩, 0, []⟩ false l.length false) := by
 have h : ∀ s, ¬ Hit l l.length s := fun s k => by obtain ⟨k, _⟩ := k; omega
 apply q0b.succ
 simp only [q0t.f, q3k, q3W l l.length _ (Nat.le_refl _) hl, if_neg (h _), Option.bind_some]
 exact q0b.const _
theorem q4i (l : List S36) (x : List S25) (i : Nat) (b : Bool) (q0 : Int) (q1 : ByteArray) (q2 : Int) (q3 : List S25) : q0b (fun k => q0c.j1 k x true l (i : Int) b q0 q1 q2 q3) (q3d (one x) i b) := by
 apply q0b.succ
 simp only [q0c.j1]
 refine q0b.ite_pos trivial ?_
 unfold one
 by_cases h : x.length = 1
 ·rw [if_pos h]
  exact q0b.ite_pos (by omega) (q0b.ite_pos (by omega) (q0b.const _))
 ·rw [if_neg h]
  exact q0b.ite_neg (by omega) (q0b.const _)
theorem q6M (l : List S36) (x : List S25) (i : Nat) : q0b (fun k => q0c.l0 k x l (i : Int) true) (q3d (one x) i true) := by
 apply q0b.succ
 simp only [q0c.l0]
 refine q0b.bind (q7u l i) ?_
 exact q0b.ite_neg (show ¬ (false = true) by decide) (q4i l x i true _ _ _ _)
theorem q6g (l : List S36) (x : List S25) (i : Nat) : q0b (fun k => q0a.l0 k x l (i : Int) true) (q3d (one x) i true) := by
 apply q0b.succ
 simp only [q0a.l0]
 refine q0b.ite_pos trivial (q0b.succ ?_)
 simp only [q0a.j1, one_f, Option.bind_some]
 exact q0b.ite_neg (by decide) (q0b.const _)
end Go.Proofs.YtmffocankommaaaDoor.U
end
section
namespace Go.Proofs.YtmffocankommaaaDoor.U
open Go.RowKit Go.Proofs.YtmffocankommaaaDoorW.PrintWords Go.Proofs.YtmffocankommaaaDoorW.PrintLast Go.Proofs.YtmffocankommaaaDoorW.PrintMore Go.Proofs.YtmffocankommaaaDoorY
set_option linter.unusedVariables false
theorem tl1 (c : UInt8) : (⟨#[c]⟩ : ByteArray).toList = [c] := by rw [ByteArray.toList_eq]
theorem Small.size : ∀ {n : S25}, Small n → n.f3.length ≤ 1048576
 | _, .mk _ _ _ _ hl _ => hl
theorem Small.kids : ∀ {n : S25}, Small n → ∀ x, x ∈ n.f3 → Small x
 | _, .mk _ _ _ _ _ hk => hk
theorem Small.leaf (a : Int) (b : ByteArray) (c : Int) : Small ⟨a, b, c, []⟩ := .mk _ _ _ _ (by simp) (fun x h => by cases h)
theorem Small.sole (a : Int) (b : ByteArray) (c : Int) {n : S25} (h : Small n) : Small ⟨a, b, c, [n]⟩ := .mk _ _ _ _ (by simp) (fun x hx => by rw [List.mem_singleton.1 hx]; exact h)
/-- What a reader may give that went from i to i'. -/
def Cnt (n : S25) (i i' : Nat) : Prop := n.f0 = 5 → n.f3.length + i ≤ i' ∧ ∀ y, y ∈ n.f3 → y.f0 ≠ 5
def Good (n : S25) (i i' : Nat) : Prop := Small n ∧ Cnt n i i'
def Wor (x : List S25) (i i' : Nat) : Prop := x.length + i ≤ i' ∧ ∀ y, y ∈ x → y.f0 ≠ 5
def Row (x : List S25) (i i' : Nat) : Prop := x.length + i ≤ i' ∧ ∀ y, y ∈ x → Small y ∧ y.f0 ≠ 5
theorem Good.of {a : Int} {b : ByteArray} {c : Int} {l : List S25} {i i' : Nat} (h : Small ⟨a, b, c, l⟩) (ha : a ≠ 5) : Good ⟨a, b, c, l⟩ i i' := ⟨h, fun k => absurd k ha⟩
theorem Good.wide {n : S25} {i i' j j' : Nat} (h : Good n i i') (hj : j ≤ i) (hk : i' ≤ j') : Good n j j' := ⟨h.1, fun k => ⟨by have := (h.2 k).1; omega, (h.2 k).2⟩⟩
theorem q6m {x : List S25} (h : 0 < x.length) : q0v x 0 ∈ x := by
 have e : q0v x 0 = x[0] := rd25 h
 exact e ▸ List.getElem_mem h
theorem Cnt.wide {n : S25} {i i' j j' : Nat} (h : Cnt n i i') (hj : j ≤ i) (hk : i' ≤ j') : Cnt n j j' := fun k => ⟨by have := (h k).1; omega, (h k).2⟩
theorem Row.wor {x : List S25} {i i' : Nat} (h : Row x i i') : Wor x i i' := ⟨h.1, fun y hy => (h.2 y hy).2⟩
theorem q5K {x : List S25} {i i' : Nat} (h : Wor x i i') : Cnt (one x) i i' := by
 unfold one
 by_cases h1 : x.length = 1
 ·rw [if_pos h1]
  exact fun k => absurd k (h.2 _ (q6m (by omega : 0 < x.length)))
 ·rw [if_neg h1]
  exact fun _ => h
theorem q7B {x : List S25} {i i' : Nat} (h : Row x i i') (hi : i' ≤ 1000000) : Good (one x) i i' := by
 refine ⟨?_, q5K h.wor⟩
 unfold one
 by_cases h1 : x.length = 1
 ·rw [if_pos h1]
  exact (h.2 _ (q6m (by omega : 0 < x.length))).1
 ·rw [if_neg h1]
  exact .mk _ _ _ _ (by have := h.1; omega) (fun y hy => (h.2 y hy).1)
section
variable {l : List S36} {i : Nat} {s : ByteArray}
theorem q4I (hi : i ≤ l.length) (hs : i ≤ 1000000) (h : ¬ Hit l i s) : q0j.f l (i : Int) false s = some (false, (i : Int), false) := by rw [q3W l i s hi hs, if_neg h]
theorem q4O (hi : i ≤ l.length) (hs : i ≤ 1000000) (h : Hit l i s) : q0j.f l (i : Int) false s = some (true, ((i + 1 : Nat) : Int), false) := by rw [q3W l i s hi hs, if_pos h]
theorem is_no (hi : i ≤ l.length) (h : ¬ Hit l i s) : q0R.f l (i : Int) false s = some (false, (i : Int), false) := by rw [is_ok l i s hi, decide_eq_false h]
theorem q7f (hi : i ≤ l.length) (h : Hit l i s) : q0R.f l (i : Int) false s = some (true, (i : Int), false) := by rw [is_ok l i s hi, decide_eq_true h]
theorem q7P (hi : i ≤ l.length) (hs : i ≤ 1000000) (h : ¬ Hit l i s) : q0D.f l (i : Int) false s = some ((i : Int), true) := by rw [q5j l i s hi hs, if_neg h]
theorem q6U (hi : i ≤ l.length) (hs : i ≤ 1000000) (h : Hit l i s) : q0D.f l (i : Int) false s = some (((i + 1 : Nat) : Int), false) := by rw [q5j l i s hi hs, if_pos h]
theorem q7L (hi : i ≤ l.length) (hs : i ≤ 1000000) (h : ¬ Hit l i s) : q0X.f l (i : Int) false s = some ((i : Int), true) := by rw [q6H l i s hi hs, if_neg h]
theorem q6Y (hi : i ≤ l.length) (hs : i ≤ 1000000) (h : Hit l i s) : q0X.f l (i : Int) false s = some (((i + 1 : Nat) : Int), false) := by rw [q6H l i s hi hs, if_pos h]
end
theorem q3J (n : S25) : (⟨n.f0, n.f1, n.f2, n.f3⟩ : S25) = n := by cases n; rfl
/-- Both come to the same part, or both fail. -/
def B7 (j i len : Nat) (f g : Nat → Option (Int × ByteArray × Int × (List S25) × Bool × Int × Bool)) : Prop :=
 (∃ n m i1 i2, i < i2 ∧ i2 ≤ len ∧ Cnt m j i2 ∧ q0b f (q3S n true i1 true) ∧ q0b g (q3S m true i2 true)) ∨
 (∃ n i', Good n j i' ∧ i < i' ∧ i' ≤ len ∧ q0b f (q3S n true i' false) ∧ q0b g (q3S n true i' false))
def B6 (j i len : Nat) (f g : Nat → Option (Int × ByteArray × Int × (List S25) × Int × Bool)) : Prop :=
 (∃ n m i1 i2, i ≤ i2 ∧ i2 ≤ len ∧ Cnt m j i2 ∧ q0b f (q3d n i1 true) ∧ q0b g (q3d m i2 true)) ∨
 (∃ n i', Good n j i' ∧ i ≤ i' ∧ i' ≤ len ∧ q0b f (q3d n i' false) ∧ q0b g (q3d n i' false))
theorem B7.map {j i i0 len : Nat} {f g f' g'} (h : B7 j i0 len f g) (hi : i ≤ i0) (hf : ∀ r, q0b f r → q0b f' r) (hg : ∀ r, q0b g r → q0b g' r) : B7 j i len f' g' := by
 rcases h with ⟨n, m, i1, i2, h0, hl, h, a, b⟩ | ⟨n, i', h, hl, hl', a, b⟩
 ·exact .inl ⟨n, m, i1, i2, by omega, hl, h, hf _ a, hg _ b⟩
 ·exact .inr ⟨n, i', h, by omega, hl', hf _ a, hg _ b⟩
theorem B6.map {j i i0 len : Nat} {f g f' g'} (h : B6 j i0 len f g) (hi : i ≤ i0) (hf : ∀ r, q0b f r → q0b f' r) (hg : ∀ r, q0b g r → q0b g' r) : B6 j i len f' g' := by
 rcases h with ⟨n, m, i1, i2, h0, hl, h, a, b⟩ | ⟨n, i', h, hl, hl', a, b⟩
 ·exact .inl ⟨n, m, i1, i2, by omega, hl, h, hf _ a, hg _ b⟩
 ·exact .inr ⟨n, i', h, by omega, hl', hf _ a, hg _ b⟩
/-- From a sequence on. -/
theorem B6.then {j i0 j' i len : Nat} {f g : Nat → Option (Int × ByteArray × Int × (List S25) × Int × Bool)} {F G : Nat → Int × ByteArray × Int × (List S25) × Int × Bool → Option (Int × ByteArray × Int × (List S25) × Bool × Int × Bool)} (h : B6 j i0 len f g)
  (hi : i < i0) (hF : ∀ n i1, ∃ n' i', q0b (fun k => F k (q3d n i1 true)) (q3S n' true i' true)) (hG : ∀ n i1, i0 ≤ i1 → Cnt n j i1 → ∃ n', Cnt n' j' i1 ∧ q0b (fun k => G k (q3d n i1 true)) (q3S n' true i1 true))
  (hok : ∀ n i', Good n j i' → i0 ≤ i' → i' ≤ len → B7 j' i len (fun k => F k (q3d n i' false)) (fun k => G k (q3d n i' false))) :
  B7 j' i len (fun k => (f k).bind (F k)) (fun k => (g k).bind (G k)) := by
 rcases h with ⟨n, m, i1, i2, h0, hl, h, a, b⟩ | ⟨n, i', h, hl, hl', a, b⟩
 ·obtain ⟨n', i', hF⟩ := hF n i1
  obtain ⟨m', hc, hG⟩ := hG m i2 h0 h
  exact .inl ⟨n', m', i', i2, by omega, hl, hc, q0b.bind a hF, q0b.bind b hG⟩
 ·exact (hok n i' h hl hl').map (Nat.le_refl _) (fun _ => q0b.bind a) (fun _ => q0b.bind b)
theorem B7.succ {j i len : Nat} {f g} (h : B7 j i len (fun k => f (k + 1)) (fun k => g (k + 1))) : B7 j i len f g := h.map (Nat.le_refl _) (fun _ => q0b.succ) (fun _ => q0b.succ)
theorem B6.succ {j i len : Nat} {f g} (h : B6 j i len (fun k => f (k + 1)) (fun k => g (k + 1))) : B6 j i len f g := h.map (Nat.le_refl _) (fun _ => q0b.succ) (fun _ => q0b.succ)
/-- A q6W pair: sequence, then the closing sign. -/
theorem q6W {l : List S36} (hl : l.length ≤ 1000000) (s : ByteArray) (mk : S25 → S25) (hmk : ∀ n, Small n → Small (mk n)) (h5 : ∀ n, (mk n).f0 ≠ 5) {j j' i : Nat}
  {f g : Nat → Option (Int × ByteArray × Int × (List S25) × Int × Bool)} {i0 : Nat} (hi : i < i0) (h : B6 j i0 l.length f g)
  {F G : Nat → Int × ByteArray × Int × (List S25) × Int × Bool → Option (Int × ByteArray × Int × (List S25) × Bool × Int × Bool)}
  (hF : ∀ k n (i1 : Nat) b, F k (q3d n i1 b) = (q0D.f l (i1 : Int) b s).bind fun q => some ((mk n).f0, (mk n).f1, (mk n).f2, (mk n).f3, true, q.1, q.2))
  (hG : ∀ k n (i1 : Nat) b, G k (q3d n i1 b) = (q0X.f l (i1 : Int) b s).bind fun q => some ((mk n).f0, (mk n).f1, (mk n).f2, (mk n).f3, true, q.1, q.2)) :
  B7 j' i l.length (fun k => (f k).bind (F k)) (fun k => (g k).bind (G k)) := by
 have hc : ∀ n i', Cnt (mk n) j' i' := fun n i' k => absurd k (h5 n)
 refine h.then hi (fun n i1 => ⟨mk n, i1, ?_⟩) (fun n i1 _ _ => ⟨mk n, hc n i1, ?_⟩) (fun n i' hg hl0 hl1 => ?_)
 ·simp only [hF, q4a, Option.bind_some]; exact q0b.const _
 ·simp only [hG, q4X, Option.bind_some]; exact q0b.const _
 ·simp only [hF, hG]
  by_cases hh : Hit l i' s
  ·simp only [q6U hl1 (by omega) hh, q6Y hl1 (by omega) hh, Option.bind_some]
   refine .inr ⟨mk n, i' + 1, ⟨hmk n hg.1, hc n _⟩, by omega, ?_, q0b.const _, q0b.const _⟩
   obtain ⟨hh, _⟩ := hh
   omega
  ·simp only [q7P hl1 (by omega) hh, q7L hl1 (by omega) hh, Option.bind_some]
   exact .inl ⟨mk n, mk n, i', i', by omega, hl1, hc n _, q0b.const _, q0b.const _⟩
theorem q6q {l : List S36} (hl : l.length ≤ 1000000) {i : Nat} (hi : i ≤ l.length) : (∃ s, q1y.f l (i : Int) false = some (s, (i : Int), true)) ∨ (∃ s, i + 1 ≤ l.length ∧ q1y.f l (i : Int) false = some (s, ((i + 1 : Nat) : Int), false)) := by
 have ht : (∃ s, q1f.f l (i : Int) false 1 = some (s, (i : Int), true)) ∨ (∃ s, i + 1 ≤ l.length ∧ q1f.f l (i : Int) false 1 = some (s, ((i + 1 : Nat) : Int), false)) := by
  by_cases h : ∃ h : i < l.length, l[i].f0 = 1
  ·obtain ⟨h, h1⟩ := h
   exact .inr ⟨_, h, q6K l i 1 h h1 (by omega)⟩
  ·exact .inl ⟨_, q4T l i 1 (by decide) hi (fun k k' => h ⟨k, k'⟩)⟩
 have hb := q3P l i 1 (by decide)
 unfold q1y.f q1h.f
 by_cases h : i < l.length
 ·rw [q2Y l i h]
  simp only [Option.bind_some]
  by_cases h1 : l[i].f0 = 1
  ·by_cases hu : l[i].f1.toList = ([117] : List UInt8)
   ·exact .inl ⟨_, by simp [h1, hu, hb]; rfl⟩
   ·by_cases hx : l[i].f1.toList = ([120] : List UInt8)
    ·exact .inl ⟨_, by simp [h1, hx, hb, q2Y l i h]; rfl⟩
    ·rcases ht with ⟨s, e⟩ | ⟨s, hs, e⟩
     ·exact .inl ⟨s, by simp [h1, hu, hx, q2Y l i h, e]⟩
     ·exact .inr ⟨s, hs, by simp [h1, hu, hx, q2Y l i h, e]⟩
  ·rcases ht with ⟨s, e⟩ | ⟨s, hs, e⟩
   ·exact .inl ⟨s, by simp [h1, q2Y l i h, e]⟩
   ·exact .inr ⟨s, hs, by simp [h1, q2Y l i h, e]⟩
 ·obtain rfl : i = l.length := by omega
  rw [q3k]
  rcases ht with ⟨s, e⟩ | ⟨s, hs, e⟩
  ·exact .inl ⟨s, by simp [q3k, e]⟩
  ·exact .inr ⟨s, hs, by simp [q3k, e]⟩
theorem q5Q {l : List S36} (hl : l.length ≤ 1000000) {i : Nat} (hi : i ≤ l.length) : ∃ (q : Int) (i1 : Nat) (b : Bool), (i ≤ i1 ∧ i1 ≤ l.length) ∧ q0b (fun k => q1J.f k l (i : Int) false) (q, (i1 : Int), b) ∧ q0b (fun k => q1j.f k l (i : Int) false) (q, (i1 : Int), b) := by
 unfold q1J.f q1j.f
 rw [q4q l i 2 (by decide) hi (by omega)]
 by_cases h : ∃ h : i < l.length, l[i].f0 = 2
 ·obtain ⟨h, h2⟩ := h
  obtain ⟨r, ha, hb⟩ := q4e l[i].f1
  rw [q6K l i 2 h h2 (by omega)]
  simp only [Option.bind_some]
  exact ⟨r.1, i + 1, false, ⟨by omega, h⟩, q0b.bind ha (q0b.const _), q0b.bind hb (q0b.const _)⟩
 ·obtain ⟨r, ha, hb⟩ := q4e ⟨#[]⟩
  rw [q4T l i 2 (by decide) hi (fun k k' => h ⟨k, k'⟩)]
  simp only [Option.bind_some]
  exact ⟨r.1, i, true, ⟨Nat.le_refl _, hi⟩, q0b.bind ha (q0b.const _), q0b.bind hb (q0b.const _)⟩
end Go.Proofs.YtmffocankommaaaDoor.U
end
section
namespace Go.Proofs.YtmffocankommaaaDoor.U
open Go.RowKit Go.Proofs.YtmffocankommaaaDoorW.PrintWords Go.Proofs.YtmffocankommaaaDoorW.PrintLast Go.Proofs.YtmffocankommaaaDoorW.PrintMore Go.Proofs.YtmffocankommaaaDoorY
set_option linter.unusedVariables false
def SeqP (l : List S36) (i : Nat) : Prop := ∀ x j, Row x j i → B6 j i l.length (fun k => q0c.l0 k x l (i : Int) false) (fun k => q0a.l0 k x l (i : Int) false)
def PowP (l : List S36) (i : Nat) : Prop := ∀ x j i1 n, Row x j i1 → Good n i1 i → i1 < i → B6 j i l.length (fun k => q0c.l1 k x l (i : Int) false n.f0 n.f1 n.f2 n.f3) (fun k => q0a.l1 k x l (i : Int) false n.f0 n.f1 n.f2 n.f3)
def AltP (l : List S36) (i : Nat) : Prop := ∀ x j i0, i0 < i → 0 < x.length → x.length ≤ i → (∀ y, y ∈ x → Small y) → (x.length = 1 → Good (q0v x 0) j i) → B7 j i0 l.length (fun k => q0t.l0 k x l (i : Int) false) (fun k => q0e.l0 k x l (i : Int) false)
def PartP (l : List S36) (i : Nat) : Prop := B7 i i l.length (fun k => q0t.f k l (i : Int) false) (fun k => q0e.f k l (i : Int) false) ∨
 ∃ n m, q0b (fun k => q0t.f k l (i : Int) false) (q3S n false i false) ∧ q0b (fun k => q0e.f k l (i : Int) false) (q3S m false i false)
theorem SeqP.start {l : List S36} {i : Nat} (h : SeqP l i) : B6 i i l.length (fun k => q0c.f k l (i : Int) false) (fun k => q0a.f k l (i : Int) false) := by
 refine (h [] i ⟨by simp, fun y hy => by cases hy⟩).map (Nat.le_refl _) (fun r hr => q0b.succ ?_) (fun r hr => q0b.succ ?_)
 ·simpa only [q0c.f] using hr
 ·simpa only [q0a.f] using hr
theorem q6k (l : List S36) (x : List S25) (hx : 0 < x.length) (i : Nat) : ∃ n i', q0b (fun k => q0t.l0 k x l (i : Int) true) (q3S n true i' true) := by
 by_cases h : x.length = 1
 ·refine ⟨q0v x 0, i, q0b.succ ?_⟩
  simp only [q0t.l0, q3o, q4a, Option.bind_some]
  exact q0b.ite_neg (show ¬ (false = true) by decide) (q0b.ite_pos (by omega) (q0b.ite_pos (by omega) (q0b.const _)))
 ·refine ⟨⟨6, ⟨#[]⟩, 0, x⟩, i, q0b.succ ?_⟩
  simp only [q0t.l0, q3o, q4a, Option.bind_some]
  exact q0b.ite_neg (show ¬ (false = true) by decide) (q0b.ite_neg (by omega) (q0b.const _))
theorem q6c (l : List S36) (x : List S25) (hx : 0 < x.length) (i j : Nat) (hc : x.length = 1 → Cnt (q0v x 0) j i) : ∃ n, Cnt n j i ∧ q0b (fun k => q0e.l0 k x l (i : Int) true) (q3S n true i true) := by
 by_cases h : x.length = 1
 ·refine ⟨q0v x 0, hc h, q0b.succ ?_⟩
  simp only [q0e.l0, q5f, q4X, Option.bind_some]
  exact q0b.ite_neg (show ¬ (false = true) by decide) (q0b.ite_pos (by omega) (q0b.ite_pos (by omega) (q0b.const _)))
 ·refine ⟨⟨6, ⟨#[]⟩, 0, x⟩, fun k => absurd k (show (6 : Int) ≠ 5 by decide), q0b.succ ?_⟩
  simp only [q0e.l0, q5f, q4X, Option.bind_some]
  exact q0b.ite_neg (show ¬ (false = true) by decide) (q0b.ite_neg (by omega) (q0b.const _))
theorem q7o {l : List S36} (hl : l.length ≤ 1000000) {i : Nat} (hi : i ≤ l.length) (hs : ∀ j, i < j → j ≤ l.length → SeqP l j) (ha : ∀ j, i < j → j ≤ l.length → AltP l j) : AltP l i := by
 intro x j i0 hi0 h0 hx hk h1
 apply B7.succ
 simp only [q0t.l0, q0e.l0]
 by_cases hh : Hit l i ⟨#[47]⟩
 ·simp only [q4O hi (by omega) hh, q7f hi hh, Option.bind_some, if_true, q3x (show i ≤ 1000000 by omega)]
  have hi' : i + 1 ≤ l.length := by obtain ⟨hh, _⟩ := hh; omega
  have hle : ∀ n : S25, (x ++ [n]).length = x.length + 1 := fun n => by simp
  refine (hs (i + 1) (by omega) hi').start.then (by omega) (fun n i1 => ?_) (fun n i1 h8 h9 => ?_) (fun n i' hg hlo hhi => ?_)
  ·obtain ⟨n', i', h⟩ := q6k l (x ++ [n]) (by simp) i1
   simp only [q3d, q3J]
   exact ⟨n', i', q0b.ite_pos (by omega) h⟩
  ·obtain ⟨n', hc, h⟩ := q6c l (x ++ [n]) (by simp) i1 j (fun h => by rw [hle] at h; omega)
   simp only [q3d, q3J]
   exact ⟨n', hc, q0b.ite_pos (by omega) h⟩
  ·simp only [q3d, q3J]
   refine (ha i' (by omega) hhi (x ++ [n]) j i0 (by omega) (by simp) (by rw [hle]; omega) (fun y hy => ?_) (fun h => by rw [hle] at h; omega)).map (by omega) (fun _ => q0b.ite_pos (by omega)) (fun _ => q0b.ite_pos (by omega))
   rcases List.mem_append.1 hy with hy | hy
   ·exact hk y hy
   ·rw [List.mem_singleton.1 hy]; exact hg.1
 ·simp only [q4I hi (by omega) hh, is_no hi hh, Option.bind_some, Bool.false_eq_true, if_false]
  by_cases hc : Hit l i ⟨#[41]⟩
  ·simp only [q6U hi (by omega) hc, q6Y hi (by omega) hc, Option.bind_some]
   have hi' : i + 1 ≤ l.length := by obtain ⟨hc, _⟩ := hc; omega
   by_cases hx1 : x.length = 1
   ·exact .inr ⟨q0v x 0, i + 1, (h1 hx1).wide (Nat.le_refl _) (by omega), by omega, hi', q0b.ite_pos (by omega) (q0b.ite_pos (by omega) (q0b.const _)), q0b.ite_pos (by omega) (q0b.ite_pos (by omega) (q0b.const _))⟩
   ·exact .inr ⟨⟨6, ⟨#[]⟩, 0, x⟩, i + 1, Good.of (.mk _ _ _ _ (by omega) hk) (by decide), by omega, hi', q0b.ite_neg (by omega) (q0b.const _), q0b.ite_neg (by omega) (q0b.const _)⟩
  ·simp only [q7P hi (by omega) hc, q7L hi (by omega) hc, Option.bind_some]
   by_cases hx1 : x.length = 1
   ·exact .inl ⟨q0v x 0, q0v x 0, i, i, hi0, hi, (h1 hx1).2, q0b.ite_pos (by omega) (q0b.ite_pos (by omega) (q0b.const _)), q0b.ite_pos (by omega) (q0b.ite_pos (by omega) (q0b.const _))⟩
   ·exact .inl ⟨⟨6, ⟨#[]⟩, 0, x⟩, ⟨6, ⟨#[]⟩, 0, x⟩, i, i, hi0, hi, fun k => absurd k (show (6 : Int) ≠ 5 by decide), q0b.ite_neg (by omega) (q0b.const _), q0b.ite_neg (by omega) (q0b.const _)⟩
theorem q6D {x : List S25} {n : S25} {j i1 i : Nat} (h : Wor x j i1) (hn : Cnt n i1 i) (hi : i1 < i) (h5 : n.f0 = 5) : Wor (x ++ n.f3) j i := by
 have h6 := hn h5
 have h7 := h.1
 refine ⟨by rw [List.length_append]; omega, fun y hy => ?_⟩
 rcases List.mem_append.1 hy with hy | hy
 ·exact h.2 y hy
 ·exact h6.2 y hy
theorem q7g {x : List S25} {n : S25} {j i1 i : Nat} (h : Wor x j i1) (hi : i1 < i) (h5 : n.f0 ≠ 5) : Wor (x ++ [n]) j i := by
 have h7 := h.1
 refine ⟨by rw [List.length_append, List.length_singleton]; omega, fun y hy => ?_⟩
 rcases List.mem_append.1 hy with hy | hy
 ·exact h.2 y hy
 ·rw [List.mem_singleton.1 hy]; exact h5
theorem q7K (l : List S36) (x : List S25) (i : Nat) (n : S25) (h1 : x.length ≤ 1000000) (h2 : n.f0 = 5 → n.f3.length ≤ 1000000) : ∃ n' i', q0b (fun k => q0c.l1 k x l (i : Int) true n.f0 n.f1 n.f2 n.f3) (q3d n' i' true) := by
 by_cases h : n.f0 = 5
 ·have h2 := h2 h
  refine ⟨one (x ++ n.f3), i, q0b.succ ?_⟩
  simp only [q0c.l1, q3o, Option.bind_some]
  exact q0b.ite_neg (show ¬ (false = true) by decide) (q0b.ite_pos h (q0b.ite_pos (by omega) (q6M _ _ _)))
 ·refine ⟨one (x ++ [n]), i, q0b.succ ?_⟩
  simp only [q0c.l1, q3o, Option.bind_some, q3J]
  exact q0b.ite_neg (show ¬ (false = true) by decide) (q0b.ite_neg h (q0b.ite_pos (by omega) (q6M _ _ _)))
theorem q6j (l : List S36) (x : List S25) {i j i1 : Nat} (n : S25) (hx : Wor x j i1) (hn : Cnt n i1 i) (h1 : i1 < i) (h2 : i ≤ 1000000) : ∃ n', Cnt n' j i ∧ q0b (fun k => q0a.l1 k x l (i : Int) true n.f0 n.f1 n.f2 n.f3) (q3d n' i true) := by
 have h7 := hx.1
 by_cases h : n.f0 = 5
 ·have h6 := (hn h).1
  refine ⟨one (x ++ n.f3), q5K (q6D hx hn h1 h), q0b.succ ?_⟩
  simp only [q0a.l1, q5f, Option.bind_some]
  exact q0b.ite_neg (show ¬ (false = true) by decide) (q0b.ite_pos h (q0b.ite_pos (by omega) (q6g _ _ _)))
 ·refine ⟨one (x ++ [n]), q5K (q7g hx h1 h), q0b.succ ?_⟩
  simp only [q0a.l1, q5f, Option.bind_some, q3J]
  exact q0b.ite_neg (show ¬ (false = true) by decide) (q0b.ite_neg h (q0b.ite_pos (by omega) (q6g _ _ _)))
theorem row_app {x : List S25} {n : S25} {j i1 i : Nat} (h : Row x j i1) (hn : Good n i1 i) (hi : i1 < i) (h5 : n.f0 = 5) : Row (x ++ n.f3) j i := by
 have hw := q6D h.wor hn.2 hi h5
 refine ⟨hw.1, fun y hy => ⟨?_, hw.2 y hy⟩⟩
 rcases List.mem_append.1 hy with hy | hy
 ·exact (h.2 y hy).1
 ·exact hn.1.kids y hy
theorem row_add {x : List S25} {n : S25} {j i1 i : Nat} (h : Row x j i1) (hn : Good n i1 i) (hi : i1 < i) (h5 : n.f0 ≠ 5) : Row (x ++ [n]) j i := by
 have hw := q7g h.wor hi h5
 refine ⟨hw.1, fun y hy => ⟨?_, hw.2 y hy⟩⟩
 rcases List.mem_append.1 hy with hy | hy
 ·exact (h.2 y hy).1
 ·rw [List.mem_singleton.1 hy]; exact hn.1
theorem q7J (k : Nat) (x : List S25) (l : List S36) (c j : Int) (n : S25) (hj : wrap64 (c + 1) = j) (h : q0R.f l c false ⟨#[94]⟩ = some (true, c, false)) : q0a.l1 (k + 1) x l c false n.f0 n.f1 n.f2 n.f3 = (q1j.f k l j false).bind fun aK => q0a.l1 k x l aK.2.1 aK.2.2 7 ⟨#[]⟩ aK.1 [n] := by
 subst hj
 simp only [q0a.l1, h, Option.bind_some, if_true, q3J]
theorem pow_hit {l : List S36} (hl : l.length ≤ 1000000) {i : Nat} (hi : i ≤ l.length) (hp : ∀ j, i < j → j ≤ l.length → PowP l j) (hh : Hit l i ⟨#[94]⟩) {x : List S25} {j i1 : Nat} {n : S25} (hx : Row x j i1) (hn : Good n i1 i) (h1 : i1 < i) : B6 j i l.length (fun k => q0c.l1 (k + 1) x l (i : Int) false n.f0 n.f1 n.f2 n.f3) (fun k => q0a.l1 (k + 1) x l (i : Int) false n.f0 n.f1 n.f2 n.f3) := by
 have hx1 := hx.1
 have hi' : i + 1 ≤ l.length := by obtain ⟨hh, _⟩ := hh; omega
 obtain ⟨q, i2, b, hb, a, c⟩ := q5Q hl hi'
 have hS : Good ⟨7, ⟨#[]⟩, q, [n]⟩ i1 i2 := Good.of (Small.sole _ _ _ hn.1) (by decide)
 have A : ∀ r, q0b (fun k => q0c.l1 k x l (i2 : Int) b 7 ⟨#[]⟩ q [n]) r → q0b (fun k => q0c.l1 (k + 1) x l (i : Int) false n.f0 n.f1 n.f2 n.f3) r := by
  intro r h
  simp only [q0c.l1, q4O hi (by omega) hh, Option.bind_some, if_true, q3J]
  exact q0b.bind (g := fun k (aK : Int × Int × Bool) => q0c.l1 k x l aK.2.1 aK.2.2 7 ⟨#[]⟩ aK.1 [n]) a h
 have C : ∀ r, q0b (fun k => q0a.l1 k x l (i2 : Int) b 7 ⟨#[]⟩ q [n]) r → q0b (fun k => q0a.l1 (k + 1) x l (i : Int) false n.f0 n.f1 n.f2 n.f3) r := by
  intro r h
  simp only [q7J _ x l (i : Int) ((i + 1 : Nat) : Int) n (q3x (by omega)) (q7f hi hh)]
  exact q0b.bind (g := fun k (aK : Int × Int × Bool) => q0a.l1 k x l aK.2.1 aK.2.2 7 ⟨#[]⟩ aK.1 [n]) c h
 clear a c
 cases b with
 | true =>
  obtain ⟨n1, i3, p1⟩ := q7K l x i2 ⟨7, ⟨#[]⟩, q, [n]⟩ (by omega) (fun k => absurd k (show (7 : Int) ≠ 5 by decide))
  obtain ⟨n2, hc, p2⟩ := q6j l x ⟨7, ⟨#[]⟩, q, [n]⟩ hx.wor hS.2 (show i1 < i2 by omega) (by omega)
  exact .inl ⟨n1, n2, i3, i2, by omega, hb.2, hc, A _ p1, C _ p2⟩
 | false => exact (hp i2 (by omega) hb.2 x j i1 ⟨7, ⟨#[]⟩, q, [n]⟩ hx hS (by omega)).map (by omega) A C
theorem q7G {l : List S36} (hl : l.length ≤ 1000000) {i : Nat} (hi : i ≤ l.length) (hs : SeqP l i) (hp : ∀ j, i < j → j ≤ l.length → PowP l j) : PowP l i := by
 intro x j i1 n hx hn h1
 have hx1 := hx.1
 apply B6.succ
 by_cases hh : Hit l i ⟨#[94]⟩
 ·exact pow_hit hl hi hp hh hx hn h1
 ·simp only [q0c.l1, q0a.l1, q4I hi (by omega) hh, is_no hi hh, Option.bind_some, Bool.false_eq_true, if_false, q3J]
  by_cases h5 : n.f0 = 5
  ·have h6 := (hn.2 h5).1
   exact (hs (x ++ n.f3) j (row_app hx hn h1 h5)).map (Nat.le_refl _) (fun _ h => q0b.ite_pos h5 (q0b.ite_pos (by omega) h)) (fun _ h => q0b.ite_pos h5 (q0b.ite_pos (by omega) h))
  ·exact (hs (x ++ [n]) j (row_add hx hn h1 h5)).map (Nat.le_refl _) (fun _ h => q0b.ite_neg h5 (q0b.ite_pos (by omega) h)) (fun _ h => q0b.ite_neg h5 (q0b.ite_pos (by omega) h))
theorem q7A {l : List S36} (hl : l.length ≤ 1000000) {i : Nat} (hi : i ≤ l.length) (h0 : i < l.length → PartP l i) (hp : ∀ j, i < j → j ≤ l.length → PowP l j) : SeqP l i := by
 intro x j hx
 have hg := q7B hx (by omega)
 have hx1 := hx.1
 by_cases h : i < l.length
 ·have hd : decide ((i : Int) < (l.length : Int)) = true := decide_eq_true (by omega)
  have A := fun n ok (i1 : Nat) b r (hF : q0b (fun k => q0t.f k l (i : Int) false) (q3S n ok i1 b)) (h : q0b (fun k => if ok = true then q0c.j1 k x b l (i1 : Int) b n.f0 n.f1 n.f2 n.f3 else q0c.j1 k x true l (i1 : Int) b n.f0 n.f1 n.f2 n.f3) r) => (show q0b (fun k => q0c.l0 k x l (i : Int) false) r from q0b.succ (by simp only [q0c.l0]; exact q0b.bind hF h))
  have C := fun n ok (i1 : Nat) b r (hF : q0b (fun k => q0e.f k l (i : Int) false) (q3S n ok i1 b)) (h : q0b (fun k => if ok = true then q0a.l1 k x l (i1 : Int) b n.f0 n.f1 n.f2 n.f3 else some (q3d (one x) i1 b)) r) => (show q0b (fun k => q0a.l0 k x l (i : Int) false) r from q0b.succ (by
   simp only [q0a.l0, hd]
   refine q0b.ite_neg (show ¬ (false = true) by decide) (q0b.succ ?_)
   simp only [q0a.j1, if_true, one_f, Option.bind_some]
   exact q0b.bind hF h))
  rcases h0 h with (⟨n, m, i1, i2, hl, hl', hm, a, b⟩ | ⟨n, i', h, hl, hl', a, b⟩) | ⟨n, m, a, b⟩
  ·obtain ⟨n', hc, p⟩ := q6j l x m hx.wor hm hl (by omega)
   exact .inl ⟨_, _, _, _, by omega, hl', hc, A _ _ _ _ _ a (q0b.ite_pos rfl (q4i l x i1 true _ _ _ _)), C _ _ _ _ _ b (q0b.ite_pos rfl p)⟩
  ·refine (hp i' hl hl' x j i n hx h hl).map (by omega) (fun r hr => A _ _ _ _ _ a (q0b.ite_pos rfl (q0b.succ ?_))) (fun r hr => C _ _ _ _ _ b (q0b.ite_pos rfl hr))
   simp only [q0c.j1]
   exact q0b.ite_neg (show ¬ (false = true) by decide) hr
  ·exact .inr ⟨one x, i, hg, Nat.le_refl _, hi, A _ _ _ _ _ a (q0b.ite_neg (show ¬ (false = true) by decide) (q4i l x i false _ _ _ _)), C _ _ _ _ _ b (q0b.ite_neg (show ¬ (false = true) by decide) (q0b.const _))⟩
 ·obtain rfl : i = l.length := by omega
  refine .inr ⟨one x, l.length, hg, Nat.le_refl _, Nat.le_refl _, q0b.succ ?_, q0b.succ ?_⟩
  ·simp only [q0c.l0]
   exact q0b.bind (q7p l hl) (q0b.ite_neg (show ¬ (false = true) by decide) (q4i l x l.length false _ _ _ _))
  ·simp only [q0a.l0, show decide ((l.length : Int) < (l.length : Int)) = false from decide_eq_false (by omega)]
   refine q0b.ite_neg (show ¬ (false = true) by decide) (q0b.succ ?_)
   simp only [q0a.j1, one_f, Option.bind_some]
   exact q0b.ite_neg (show ¬ (false = true) by decide) (q0b.const _)
end Go.Proofs.YtmffocankommaaaDoor.U
end
section
namespace Go.Proofs.YtmffocankommaaaDoor.U
open Go.RowKit Go.Proofs.YtmffocankommaaaDoorW.PrintWords Go.Proofs.YtmffocankommaaaDoorW.PrintLast Go.Proofs.YtmffocankommaaaDoorW.PrintMore Go.Proofs.YtmffocankommaaaDoorY
set_option linter.unusedVariables false
section
variable {l : List S36} {c c1 c2 : Int} {t : S36} {k : Nat} (hn : q0z.f l c false = some (t.f0, t.f1, t.f2, c, false)) (hw : wrap64 (c + 1) = c1) (hr : q1d l c = t) (h0 : 0 ≤ c) (hl : c < (l.length : Int))
include hn in
theorem q8b (h1 : t.f0 ≠ 1) (ha : ∀ u : UInt8, u ∈ ([45, 58, 126, 64, 91, 40] : List UInt8) → q0j.f l c false ⟨#[u]⟩ = some (false, c, false)) : q0t.f (k + 1) l c false = some (0, ⟨#[]⟩, 0, [], false, c, false) := by
 simp only [q0t.f, hn, Option.bind_some, if_neg h1, ha 45 (by decide), ha 58 (by decide), ha 126 (by decide), ha 64 (by decide), ha 91 (by decide), ha 40 (by decide), Bool.false_eq_true, if_false]
include hn in
theorem q6X (h1 : t.f0 ≠ 1) {v : UInt8} {q : Int} (hv : v = 45 ∧ q = 2 ∨ v = 58 ∧ q = 9 ∨ v = 126 ∧ q = 10) (ha : ∀ u : UInt8, q0j.f l c false ⟨#[u]⟩ = some (if u = v then (true, c1, false) else (false, c, false))) : q0t.f (k + 1) l c false = some (q, ⟨#[]⟩, 0, [], true, c1, false) := by
 rcases hv with ⟨rfl, rfl⟩ | ⟨rfl, rfl⟩ | ⟨rfl, rfl⟩ <;> simp [q0t.f, hn, h1, ha]
include hn in
theorem m_at (h1 : t.f0 ≠ 1) (ha : ∀ u : UInt8, q0j.f l c false ⟨#[u]⟩ = some (if u = 64 then (true, c1, false) else (false, c, false))) : q0t.f (k + 1) l c false = (q1y.f l c1 false).bind fun aT => some (11, aT.1, 0, [], true, aT.2.1, aT.2.2) := by
 simp [q0t.f, hn, h1, ha]
include hn in
theorem m_box (h1 : t.f0 ≠ 1) (ha : ∀ u : UInt8, q0j.f l c false ⟨#[u]⟩ = some (if u = 91 then (true, c1, false) else (false, c, false))) : q0t.f (k + 1) l c false = (q0c.f k l c1 false).bind fun aW => (q0D.f l aW.2.2.2.2.1 aW.2.2.2.2.2 ⟨#[93]⟩).bind fun aX => some (8, ⟨#[]⟩, 0, [⟨aW.1, aW.2.1, aW.2.2.1, aW.2.2.2.1⟩], true, aX.1, aX.2) := by
 simp [q0t.f, hn, h1, ha]
include hn in
theorem m_alt (h1 : t.f0 ≠ 1) (ha : ∀ u : UInt8, q0j.f l c false ⟨#[u]⟩ = some (if u = 40 then (true, c1, false) else (false, c, false))) : q0t.f (k + 1) l c false = (q0c.f k l c1 false).bind fun aZ => q0t.l0 k [⟨aZ.1, aZ.2.1, aZ.2.2.1, aZ.2.2.2.1⟩] l aZ.2.2.2.2.1 aZ.2.2.2.2.2 := by
 simp [q0t.f, hn, h1, ha]
include hn hw in
theorem m_one (h1 : t.f0 = 1) (hu : t.f1.toList = ([117] : List UInt8)) : q0t.f (k + 1) l c false = some (1, ⟨#[]⟩, 0, [], true, c1, false) := by
 simp [q0t.f, hn, h1, hu, hw]
include hn hw in
theorem m_any (h1 : t.f0 = 1) (hu : t.f1.toList = ([120] : List UInt8)) : q0t.f (k + 1) l c false = some (3, ⟨#[]⟩, 0, [], true, c1, false) := by
 simp [q0t.f, hn, h1, hu, hw]
include hn hw in
theorem m_name (h1 : t.f0 = 1) (hu : t.f1.toList ≠ ([117] : List UInt8)) (hx : t.f1.toList ≠ ([120] : List UInt8)) (ha : q0j.f l c1 false ⟨#[123]⟩ = some (false, c1, false)) : q0t.f (k + 1) l c false = some (4, t.f1, 0, [], true, c1, false) := by
 simp [q0t.f, hn, h1, hu, hx, hw, ha]
include hn hw in
theorem m_bound (h1 : t.f0 = 1) (hu : t.f1.toList ≠ ([117] : List UInt8)) (hx : t.f1.toList ≠ ([120] : List UInt8)) (ha : q0j.f l c1 false ⟨#[123]⟩ = some (true, c2, false)) : q0t.f (k + 1) l c false = (q0c.f k l c2 false).bind fun aH => (q0D.f l aH.2.2.2.2.1 aH.2.2.2.2.2 ⟨#[125]⟩).bind fun aI => some (12, t.f1, 0, [⟨aH.1, aH.2.1, aH.2.2.1, aH.2.2.2.1⟩], true, aI.1, aI.2) := by
 simp [q0t.f, hn, h1, hu, hx, hw, ha]
include hw hr h0 hl
theorem q7T (h1 : t.f0 ≠ 1) (hb : wrap64 (c1 - 1) = c) (ht : t.f0 = 4 → ∀ u : UInt8, u ∈ ([45, 58, 126, 64, 91, 40] : List UInt8) → t.f1.toList ≠ [u]) : q0e.f (k + 1) l c false = some (0, ⟨#[]⟩, 0, [], false, c, false) := by
 by_cases h4 : t.f0 = 4
 ·have ht := ht h4
  simp [q0e.f, hr, h0, hl, hw, hb, h4, ht 45 (by decide), ht 58 (by decide), ht 126 (by decide), ht 64 (by decide), ht 91 (by decide), ht 40 (by decide)]
 ·simp [q0e.f, hr, h0, hl, h1, h4]
theorem q6P (h4 : t.f0 = 4) {v : UInt8} {q : Int} (hv : v = 45 ∧ q = 2 ∨ v = 58 ∧ q = 9 ∨ v = 126 ∧ q = 10) (ht : t.f1.toList = [v]) : q0e.f (k + 1) l c false = some (q, ⟨#[]⟩, 0, [], true, c1, false) := by
 rcases hv with ⟨rfl, rfl⟩ | ⟨rfl, rfl⟩ | ⟨rfl, rfl⟩ <;> simp [q0e.f, hr, h0, hl, h4, ht, hw]
theorem r_at (h4 : t.f0 = 4) (ht : t.f1.toList = ([64] : List UInt8)) : q0e.f (k + 1) l c false = (q1L.f l c1 false).bind fun aT => some (11, aT.1, 0, [], true, aT.2.1, aT.2.2) := by
 simp [q0e.f, hr, h0, hl, h4, ht, hw]
theorem r_box (h4 : t.f0 = 4) (ht : t.f1.toList = ([91] : List UInt8)) : q0e.f (k + 1) l c false = (q0a.f k l c1 false).bind fun aW => (q0X.f l aW.2.2.2.2.1 aW.2.2.2.2.2 ⟨#[93]⟩).bind fun aX => some (8, ⟨#[]⟩, 0, [⟨aW.1, aW.2.1, aW.2.2.1, aW.2.2.2.1⟩], true, aX.1, aX.2) := by
 simp [q0e.f, hr, h0, hl, h4, ht, hw]
theorem r_alt (h4 : t.f0 = 4) (ht : t.f1.toList = ([40] : List UInt8)) : q0e.f (k + 1) l c false = (q0a.f k l c1 false).bind fun aZ => q0e.l0 k [⟨aZ.1, aZ.2.1, aZ.2.2.1, aZ.2.2.2.1⟩] l aZ.2.2.2.2.1 aZ.2.2.2.2.2 := by
 simp [q0e.f, hr, h0, hl, h4, ht, hw]
theorem r_one (h1 : t.f0 = 1) (hu : t.f1.toList = ([117] : List UInt8)) : q0e.f (k + 1) l c false = some (1, ⟨#[]⟩, 0, [], true, c1, false) := by
 simp [q0e.f, hr, h0, hl, h1, hu, hw]
theorem r_any (h1 : t.f0 = 1) (hu : t.f1.toList = ([120] : List UInt8)) : q0e.f (k + 1) l c false = some (3, ⟨#[]⟩, 0, [], true, c1, false) := by
 simp [q0e.f, hr, h0, hl, h1, hu, hw]
theorem r_name (h1 : t.f0 = 1) (hu : t.f1.toList ≠ ([117] : List UInt8)) (hx : t.f1.toList ≠ ([120] : List UInt8)) (ha : q0R.f l c1 false ⟨#[123]⟩ = some (false, c1, false)) : q0e.f (k + 1) l c false = some (4, t.f1, 0, [], true, c1, false) := by
 simp [q0e.f, hr, h0, hl, h1, hu, hx, hw, ha]
theorem r_bound (h1 : t.f0 = 1) (hu : t.f1.toList ≠ ([117] : List UInt8)) (hx : t.f1.toList ≠ ([120] : List UInt8)) (ha : q0R.f l c1 false ⟨#[123]⟩ = some (true, c1, false)) (hw2 : wrap64 (c1 + 1) = c2) : q0e.f (k + 1) l c false = (q0a.f k l c2 false).bind fun aH => (q0X.f l aH.2.2.2.2.1 aH.2.2.2.2.2 ⟨#[125]⟩).bind fun aI => some (12, t.f1, 0, [⟨aH.1, aH.2.1, aH.2.2.1, aH.2.2.2.1⟩], true, aI.1, aI.2) := by
 simp [q0e.f, hr, h0, hl, h1, hu, hx, hw, ha, hw2]
end
theorem q3y {l : List S36} {i : Nat} {q : Int} {s : ByteArray} (hq : q ≠ 5) (hi : i + 1 ≤ l.length) (ha : ∀ k, q0t.f (k + 1) l (i : Int) false = some (q, s, 0, [], true, ((i + 1 : Nat) : Int), false)) (hb : ∀ k, q0e.f (k + 1) l (i : Int) false = some (q, s, 0, [], true, ((i + 1 : Nat) : Int), false)) : PartP l i := by
 refine .inl (B7.succ ?_)
 simp only [ha, hb]
 exact .inr ⟨⟨q, s, 0, []⟩, i + 1, Good.of (Small.leaf _ _ _) hq, by omega, hi, q0b.const _, q0b.const _⟩
theorem q6S {l : List S36} (hl : l.length ≤ 1000000) {i : Nat} (h : i < l.length) (hs : ∀ j, i < j → j ≤ l.length → SeqP l j) (ha : ∀ j, i < j → j ≤ l.length → AltP l j) : PartP l i := by
 have hn := q2Y l i h
 have hw := q3x (show i ≤ 1000000 by omega)
 have hr := rd36 h
 have h0 : (0 : Int) ≤ (i : Int) := by omega
 have hlt : (i : Int) < (l.length : Int) := by omega
 have hb : wrap64 (((i + 1 : Nat) : Int) - 1) = (i : Int) := by unfold wrap64; omega
 by_cases h1 : l[i].f0 = 1
 ·by_cases hu : l[i].f1.toList = ([117] : List UInt8)
  ·exact q3y (by decide) h (fun k => m_one hn hw h1 hu) (fun k => r_one hw hr h0 hlt h1 hu)
  by_cases hx : l[i].f1.toList = ([120] : List UInt8)
  ·exact q3y (by decide) h (fun k => m_any hn hw h1 hx) (fun k => r_any hw hr h0 hlt h1 hx)
  by_cases hh : Hit l (i + 1) ⟨#[123]⟩
  ·have hi2 : i + 1 + 1 ≤ l.length := by obtain ⟨hh, _⟩ := hh; omega
   have hw2 := q3x (show i + 1 ≤ 1000000 by omega)
   refine .inl (B7.succ ?_)
   simp only [m_bound hn hw h1 hu hx (q4O h (by omega) hh), r_bound hw hr h0 hlt h1 hu hx (q7f h hh) hw2]
   exact q6W hl ⟨#[125]⟩ (fun n => ⟨12, l[i].f1, 0, [n]⟩) (fun n hn => Small.sole _ _ _ hn) (fun n => show (12 : Int) ≠ 5 by decide) (show i < i + 1 + 1 by omega) (hs (i + 1 + 1) (by omega) hi2).start (fun k n i1 b => by simp only [q3d, q3J]) (fun k n i1 b => by simp only [q3d, q3J])
  ·exact q3y (by decide) h (fun k => m_name hn hw h1 hu hx (q4I h (by omega) hh)) (fun k => r_name hw hr h0 hlt h1 hu hx (is_no h hh))
 have hk : ∀ v : UInt8, l[i].f0 = 4 → l[i].f1.toList = [v] → ∀ u : UInt8, q0j.f l (i : Int) false ⟨#[u]⟩ = some (if u = v then (true, ((i + 1 : Nat) : Int), false) else (false, (i : Int), false)) := by
  intro v h4 ht u
  by_cases huv : u = v
  ·rw [if_pos huv, q4O (by omega) (by omega) ⟨h, h4, by rw [ht, tl1, huv]⟩]
  ·rw [if_neg huv, q4I (by omega) (by omega) (fun k => huv (by have := k.2.2; rw [ht, tl1] at this; simpa using this.symm))]
 by_cases h4 : l[i].f0 = 4
 ·by_cases t1 : l[i].f1.toList = ([45] : List UInt8)
  ·exact q3y (by decide) h (fun k => q6X hn h1 (.inl ⟨rfl, rfl⟩) (hk _ h4 t1)) (fun k => q6P hw hr h0 hlt h4 (.inl ⟨rfl, rfl⟩) t1)
  by_cases t2 : l[i].f1.toList = ([58] : List UInt8)
  ·exact q3y (by decide) h (fun k => q6X hn h1 (.inr (.inl ⟨rfl, rfl⟩)) (hk _ h4 t2)) (fun k => q6P hw hr h0 hlt h4 (.inr (.inl ⟨rfl, rfl⟩)) t2)
  by_cases t3 : l[i].f1.toList = ([126] : List UInt8)
  ·exact q3y (by decide) h (fun k => q6X hn h1 (.inr (.inr ⟨rfl, rfl⟩)) (hk _ h4 t3)) (fun k => q6P hw hr h0 hlt h4 (.inr (.inr ⟨rfl, rfl⟩)) t3)
  by_cases t4 : l[i].f1.toList = ([64] : List UInt8)
  ·refine .inl (B7.succ ?_)
   simp only [m_at hn h1 (hk _ h4 t4), r_at hw hr h0 hlt h4 t4, q6V l (i + 1) h (by omega)]
   rcases q6q hl h with ⟨s, e⟩ | ⟨s, hs2, e⟩
   ·simp only [e, Option.bind_some]
    exact .inl ⟨⟨11, s, 0, []⟩, ⟨11, s, 0, []⟩, i + 1, i + 1, by omega, h, fun k => absurd k (show (11 : Int) ≠ 5 by decide), q0b.const _, q0b.const _⟩
   ·simp only [e, Option.bind_some]
    exact .inr ⟨⟨11, s, 0, []⟩, i + 1 + 1, Good.of (Small.leaf _ _ _) (by decide), by omega, hs2, q0b.const _, q0b.const _⟩
  by_cases t5 : l[i].f1.toList = ([91] : List UInt8)
  ·refine .inl (B7.succ ?_)
   simp only [m_box hn h1 (hk _ h4 t5), r_box hw hr h0 hlt h4 t5]
   exact q6W hl ⟨#[93]⟩ (fun n => ⟨8, ⟨#[]⟩, 0, [n]⟩) (fun n hn => Small.sole _ _ _ hn) (fun n => show (8 : Int) ≠ 5 by decide) (show i < i + 1 by omega) (hs (i + 1) (by omega) h).start (fun k n i1 b => by simp only [q3d, q3J]) (fun k n i1 b => by simp only [q3d, q3J])
  by_cases t6 : l[i].f1.toList = ([40] : List UInt8)
  ·refine .inl (B7.succ ?_)
   simp only [m_alt hn h1 (hk _ h4 t6), r_alt hw hr h0 hlt h4 t6]
   refine (hs (i + 1) (by omega) h).start.then (by omega) (fun n i1 => ?_) (fun n i1 h8 h9 => ?_) (fun n i' hg hlo hhi => ?_)
   ·simp only [q3d, q3J]; exact q6k l [n] (by simp) i1
   ·simp only [q3d, q3J]; exact q6c l [n] (by simp) i1 i (fun _ => h9.wide (by omega) (Nat.le_refl _))
   ·simp only [q3d, q3J]; exact ha i' (by omega) hhi [n] i i (by omega) (by simp) (by simp; omega) (fun y hy => by rw [List.mem_singleton.1 hy]; exact hg.1) (fun _ => hg.wide (by omega) (Nat.le_refl _))
  have hno : ∀ u : UInt8, u ∈ ([45, 58, 126, 64, 91, 40] : List UInt8) → l[i].f1.toList ≠ [u] := by
   intro u hu
   simp only [List.mem_cons, List.not_mem_nil, or_false] at hu
   rcases hu with rfl | rfl | rfl | rfl | rfl | rfl <;> assumption
  refine .inr ⟨⟨0, ⟨#[]⟩, 0, []⟩, ⟨0, ⟨#[]⟩, 0, []⟩, q0b.succ ?_, q0b.succ ?_⟩
  ·simp only [q8b hn h1 (fun u hu => q4I (by omega) (by omega) (fun k => hno u hu (by rw [k.2.2, tl1])))]; exact q0b.const _
  ·simp only [q7T hw hr h0 hlt h1 hb (fun _ => hno)]; exact q0b.const _
 ·refine .inr ⟨⟨0, ⟨#[]⟩, 0, []⟩, ⟨0, ⟨#[]⟩, 0, []⟩, q0b.succ ?_, q0b.succ ?_⟩
  ·simp only [q8b hn h1 (fun u hu => q4I (by omega) (by omega) (fun k => h4 k.2.1))]; exact q0b.const _
  ·simp only [q7T hw hr h0 hlt h1 hb (fun k => absurd k h4)]; exact q0b.const _
theorem q7s {l : List S36} (hl : l.length ≤ 1000000) : ∀ (N i : Nat), i ≤ l.length → l.length - i = N → SeqP l i ∧ PowP l i ∧ AltP l i := by
 intro N
 induction N using Nat.strongRecOn with
 | _ N ih =>
  intro i hi hN
  have I : ∀ j, i < j → j ≤ l.length → SeqP l j ∧ PowP l j ∧ AltP l j := fun j h1 h2 => ih (l.length - j) (by omega) j h2 rfl
  have hA := q7o hl hi (fun j h1 h2 => (I j h1 h2).1) (fun j h1 h2 => (I j h1 h2).2.2)
  have hS := q7A hl hi (fun h => q6S hl h (fun j h1 h2 => (I j h1 h2).1) (fun j h1 h2 => (I j h1 h2).2.2)) (fun j h1 h2 => (I j h1 h2).2.1)
  exact ⟨hS, q7G hl hi hS (fun j h1 h2 => (I j h1 h2).2.1), hA⟩
/-- Both readers, from the first token on. -/
theorem bodies {l : List S36} (hl : l.length ≤ 1000000) : B6 0 0 l.length (fun k => q0c.f k l 0 false) (fun k => q0a.f k l 0 false) :=
 (q7s hl _ 0 (Nat.zero_le _) rfl).1.start
end Go.Proofs.YtmffocankommaaaDoor.U
end
section
namespace Go.Proofs.YtmffocankommaaaDoor.U
open Go.RowKit Go.Proofs.YtmffocankommaaaDoorW.PrintWords Go.Proofs.YtmffocankommaaaDoorW.PrintLast Go.Proofs.YtmffocankommaaaDoorW.PrintMore Go.Proofs.YtmffocankommaaaDoorY
set_option linter.unusedVariables false
theorem q0b.mono {α : Type} {f : Nat → Option α} {r : α} (h : ∀ k, LeO (f k) (f (k + 1))) (k : Nat) (hk : f k = some r) : q0b f r := by
 refine ⟨k, fun j hj => ?_⟩
 obtain ⟨d, rfl⟩ : ∃ d, j = k + d := ⟨j - k, by omega⟩
 clear hj
 induction d with
 | zero => exact hk
 | succ d ih => exact h _ _ ih
theorem wrap2 {i : Nat} (h : i ≤ 1000000) : wrap64 ((i : Int) + 2) = ((i + 2 : Nat) : Int) := by unfold wrap64; omega
theorem q4c {s : ByteArray} {i j m : Nat} (hj : j ≤ s.size) (h : m < j - i) : bt (s.extract i j) ((m : Nat) : Int) = bt s ((i + m : Nat) : Int) := by
 have h1 : ((m : Nat) : Int).toNat = m := Int.toNat_natCast _
 have h2 : ((i + m : Nat) : Int).toNat = i + m := Int.toNat_natCast _
 unfold bt
 rw [dif_pos (show ((m : Nat) : Int).toNat < (s.extract i j).size by rw [h1, ByteArray.size_extract]; omega), dif_pos (show ((i + m : Nat) : Int).toNat < s.size by rw [h2]; omega)]
 simp only [h1, h2, ByteArray.getElem_extract]
theorem q3G {s : ByteArray} {i j : Nat} (hj : j ≤ s.size) : (s.extract i j).size = j - i := by rw [ByteArray.size_extract]; omega
def Dg (c : Int) : Bool := decide (48 ≤ c) && decide (c ≤ 57)
def Sm (c : Int) : Bool := decide (97 ≤ c) && decide (c ≤ 122)
theorem q3t (c : Int) : q1R.f c = some (Dg c) := by
 unfold q1R.f Dg
 by_cases h : c ≥ 48
 ·rw [if_pos h, decide_eq_true (show (48 : Int) ≤ c from h)]; simp
 ·rw [if_neg h, decide_eq_false (show ¬ (48 : Int) ≤ c from h)]; simp
theorem q3a (c : Int) : q1Q.f c = some (Sm c) := by
 unfold q1Q.f Sm
 by_cases h : c ≥ 97
 ·rw [if_pos h, decide_eq_true (show (97 : Int) ≤ c from h)]; simp
 ·rw [if_neg h, decide_eq_false (show ¬ (97 : Int) ≤ c from h)]; simp
theorem q6d (c : Int) : q1P.f c = some (Dg c) := q3t c
theorem q4W (c : Int) : q1M.f c = some (Sm c) := q3a c
theorem q6a (s : ByteArray) (hs : s.size ≤ 20000) : ∀ (d i : Nat), i + d = s.size → ∃ t : Nat, i ≤ t ∧ t ≤ s.size ∧ (∀ m, i ≤ m → m < t → Dg (bt s ((m : Nat) : Int)) = true) ∧ (t < s.size → Dg (bt s (t : Int)) = false) ∧ q0b (fun k => q1b.l0 k s (i : Int)) (t : Int) := by
 intro d
 induction d with
 | zero =>
  intro i hi
  refine ⟨i, Nat.le_refl _, by omega, fun m h1 h2 => by omega, fun h => by omega, q0b.succ ?_⟩
  simp only [q1b.l0]
  exact q0b.ite_neg (by omega) (q0b.const _)
 | succ d IH =>
  intro i hi
  cases hb : Dg (bt s (i : Int)) with
  | true =>
   obtain ⟨t, h1, h2, h3, h4, h5⟩ := IH (i + 1) (by omega)
   refine ⟨t, by omega, h2, fun m m1 m2 => ?_, h4, q0b.succ ?_⟩
   ·by_cases e : m = i
    ·rw [e]; exact hb
    ·exact h3 m (by omega) m2
   ·simp only [q1b.l0, q3t, hb, Option.bind_some, if_true, q3x (show i ≤ 1000000 by omega)]
    exact q0b.ite_pos (by omega) (q0b.ite_pos (by omega) h5)
  | false =>
   refine ⟨i, Nat.le_refl _, by omega, fun m h1 h2 => by omega, fun _ => hb, q0b.succ ?_⟩
   simp only [q1b.l0, q3t, hb, Option.bind_some, Bool.false_eq_true, if_false]
   exact q0b.ite_pos (by omega) (q0b.ite_pos (by omega) (q0b.const _))
theorem q4m (s : ByteArray) (hs : s.size ≤ 20000) : ∃ t : Nat, t ≤ s.size ∧ (∀ m, m < t → Dg (bt s ((m : Nat) : Int)) = true) ∧ (t < s.size → Dg (bt s (t : Int)) = false) ∧ q0b (fun k => q1b.f k s) (t : Int) ∧ q0b (fun k => q0I.f k s) (t : Int) := by
 obtain ⟨t, h1, h2, h3, h4, h5⟩ := q6a s hs s.size 0 (by omega)
 refine ⟨t, h2, fun m hm => h3 m (Nat.zero_le _) hm, h4, h5, ?_⟩
 unfold q0I.f
 simp only [q3M]
 exact h5
theorem q6y (a : ByteArray) (h1 : 0 < a.size) (h6 : a.size ≤ 6) (hd : ∀ m, m < a.size → Dg (bt a ((m : Nat) : Int)) = true) : ∃ v, q0b (fun k => q0Q.f k a) (if 1 < a.size ∧ bt a 0 = 48 then (0, false) else (v, true)) := by
 have h0 : ¬ a.toList = ([] : List UInt8) := by
  rw [ByteArray.toList_eq]
  intro h
  have := congrArg List.length h
  rw [q3e] at this
  have : a.size = 0 := this
  omega
 obtain ⟨t, ht, hm, hn, hc, _⟩ := q4m a (by omega)
 have et : t = a.size := by
  rcases Nat.lt_or_ge t a.size with h | h
  ·have := hn h; rw [hd t h] at this; cases this
  ·omega
 subst et
 have loop : ∀ (d i : Nat) (x : Int), i + d = a.size → ∃ r, q0b (fun k => q0Q.l0 k x (q3p a) (a.size : Int) (i : Int)) (r, true) := by
  intro d
  induction d with
  | zero =>
   intro i x hi
   exact ⟨x, q0b.succ (by simp only [q0Q.l0]; exact q0b.ite_neg (by omega) (q0b.const _))⟩
  | succ d IH =>
   intro i x hi
   obtain ⟨r, hr⟩ := IH (i + 1) (wrap64 ((wrap64 (10 * x)) + (((rd (q3p a) (i : Int)) - 48) % 256))) (by omega)
   refine ⟨r, q0b.succ ?_⟩
   simp only [q0Q.l0, q2A, q3x (show i ≤ 1000000 by omega)]
   exact q0b.ite_pos (by omega) (q0b.ite_pos (by omega) (q0b.ite_pos (by omega) hr))
 obtain ⟨r, hr⟩ := loop a.size 0 0 (by omega)
 have jf : q0b (fun k => q0Q.j0 k a false) (r, true) := by
  apply q0b.succ
  simp only [q0Q.j0, Option.bind_some]
  refine q0b.ite_neg (by decide) (q0b.ite_pos (by omega) ?_)
  rw [q2A]
  exact hr
 have jt : q0b (fun k => q0Q.j0 k a true) (0, false) := q0b.succ (by simp only [q0Q.j0]; exact q0b.ite_pos trivial (q0b.const _))
 refine ⟨r, ?_⟩
 unfold q0Q.f
 by_cases hs : a.size > 1
 ·by_cases hb : bt a 0 = 48
  ·rw [if_pos ⟨hs, hb⟩]
   refine q0b.ite_neg h0 (q0b.ite_neg (by omega) (q0b.bind hc (q0b.ite_pos rfl (q0b.ite_pos (by omega) (q0b.ite_pos (by omega) ?_)))))
   rw [show (bt a 0 == 48) = true from by simpa using hb]; exact jt
  ·rw [if_neg (fun k => hb k.2)]
   refine q0b.ite_neg h0 (q0b.ite_neg (by omega) (q0b.bind hc (q0b.ite_pos rfl (q0b.ite_pos (by omega) (q0b.ite_pos (by omega) ?_)))))
   rw [show (bt a 0 == 48) = false from by simpa using hb]; exact jf
 ·rw [if_neg (fun k => hs k.1)]
  exact q0b.ite_neg h0 (q0b.ite_neg (by omega) (q0b.bind hc (q0b.ite_pos rfl (q0b.ite_neg (by omega) jf))))
theorem q4P (s : ByteArray) (hs : s.size ≤ 20000) : ∀ (k i : Nat), i ≤ s.size → (q0r.l0 k s (i : Int) = q0O.l0 k s (i : Int)) ∧ (i < s.size → ∀ b, q0r.j2 k s (i : Int) b = q0O.j2 k s (i : Int) (bt s (i : Int)) b)
 | 0, i, hi => ⟨rfl, fun _ _ => rfl⟩
 | k + 1, i, hi => by
  have w1 := q3x (show i ≤ 1000000 by omega)
  have w2 := wrap2 (show i ≤ 1000000 by omega)
  refine ⟨?_, fun h b => ?_⟩
  ·simp only [q0r.l0, q0O.l0, q3t, q3a, q6d, q4W, Option.bind_some]
   by_cases h : i < s.size
   ·simp only [(q4P s hs k i hi).2 h]
   ·rw [if_neg (by omega), if_neg (by omega)]
  ·simp only [q0r.j2, q0O.j2, q3t, q3a, q6d, q4W, Option.bind_some, w1, w2]
   rw [(q4P s hs k (i + 1) h).1, if_pos (show (0 : Int) ≤ (i : Int) by omega), if_pos (show (i : Int) < (s.size : Int) by omega)]
   by_cases h1 : i + 1 < s.size
   ·rw [(q4P s hs k (i + 2) h1).1, if_neg (show ¬ ((i + 1 : Nat) : Int) = (s.size : Int) by omega)]
    simp only [if_pos (show (0 : Int) ≤ ((i + 1 : Nat) : Int) by omega), if_pos (show ((i + 1 : Nat) : Int) < (s.size : Int) by omega)]
   ·rw [if_pos (show ((i + 1 : Nat) : Int) = (s.size : Int) by omega)]
    simp only [if_neg (show ¬ ((i + 1 : Nat) : Int) < (s.size : Int) by omega)]
theorem q6L (s : ByteArray) (hs : s.size ≤ 20000) : ∀ (d i : Nat), i + d = s.size → ∃ t : Nat, i ≤ t ∧ t ≤ s.size ∧ q0b (fun k => q0O.l0 k s (i : Int)) (t : Int) := by
 intro d
 induction d using Nat.strongRecOn with
 | _ d IH =>
  intro i hi
  have w1 := q3x (show i ≤ 1000000 by omega)
  have w2 := wrap2 (show i ≤ 1000000 by omega)
  by_cases h : i < s.size
  ·have hj : ∀ b, ∃ t : Nat, i ≤ t ∧ t ≤ s.size ∧ q0b (fun k => q0O.j2 k s (i : Int) (bt s (i : Int)) b) (t : Int) := by
    intro b
    obtain ⟨t1, a1, b1, c1⟩ := IH (d - 1) (by omega) (i + 1) (by omega)
    cases b with
    | true => exact ⟨t1, by omega, b1, q0b.succ (by simp only [q0O.j2, w1]; exact q0b.ite_pos trivial c1)⟩
    | false =>
     by_cases h45 : bt s (i : Int) = 45
     ·by_cases h1 : i + 1 < s.size
      ·obtain ⟨t2, a2, b2, c2⟩ := IH (d - 2) (by omega) (i + 2) (by omega)
       by_cases hx : Sm (bt s ((i + 1 : Nat) : Int)) = true
       ·exact ⟨t2, by omega, b2, q0b.succ (by simp only [q0O.j2, w1, w2, q3a, Option.bind_some]; exact q0b.ite_neg (by decide) (q0b.ite_pos h45 (q0b.ite_pos (by omega) (q0b.ite_pos (by omega) (q0b.ite_pos hx c2)))))⟩
       ·by_cases hy : Dg (bt s ((i + 1 : Nat) : Int)) = true
        ·exact ⟨t2, by omega, b2, q0b.succ (by simp only [q0O.j2, w1, w2, q3a, q3t, Option.bind_some]; exact q0b.ite_neg (by decide) (q0b.ite_pos h45 (q0b.ite_pos (by omega) (q0b.ite_pos (by omega) (q0b.ite_neg hx (q0b.ite_pos hy c2))))))⟩
        ·exact ⟨i, Nat.le_refl _, by omega, q0b.succ (by simp only [q0O.j2, w1, w2, q3a, q3t, Option.bind_some]; exact q0b.ite_neg (by decide) (q0b.ite_pos h45 (q0b.ite_pos (by omega) (q0b.ite_pos (by omega) (q0b.ite_neg hx (q0b.ite_neg hy (q0b.const _)))))))⟩
      ·exact ⟨i, Nat.le_refl _, by omega, q0b.succ (by simp only [q0O.j2, w1]; exact q0b.ite_neg (by decide) (q0b.ite_pos h45 (q0b.ite_neg (by omega) (q0b.const _))))⟩
     ·exact ⟨i, Nat.le_refl _, by omega, q0b.succ (by simp only [q0O.j2]; exact q0b.ite_neg (by decide) (q0b.ite_neg h45 (q0b.const _)))⟩
   by_cases hx : Sm (bt s (i : Int)) = true
   ·obtain ⟨t, a1, b1, c1⟩ := hj true
    exact ⟨t, a1, b1, q0b.succ (by simp only [q0O.l0, q3a, Option.bind_some]; exact q0b.ite_pos (by omega) (q0b.ite_pos (by omega) (q0b.ite_pos hx c1)))⟩
   ·obtain ⟨t, a1, b1, c1⟩ := hj (Dg (bt s (i : Int)))
    exact ⟨t, a1, b1, q0b.succ (by simp only [q0O.l0, q3a, q3t, Option.bind_some]; exact q0b.ite_pos (by omega) (q0b.ite_pos (by omega) (q0b.ite_neg hx c1)))⟩
  ·exact ⟨i, Nat.le_refl _, by omega, q0b.succ (by simp only [q0O.l0]; exact q0b.ite_neg (by omega) (q0b.const _))⟩
theorem q5Z (s : ByteArray) (hs : s.size ≤ 20000) (h0 : 0 < s.size) (k : Nat) : q0r.f k s = q0O.f k s := by
 unfold q0r.f q0O.f
 have e : ∀ b, q0r.j0 k s b = q0O.j0 k s b := by
  intro b
  cases k with
  | zero => rfl
  | succ k =>
   simp only [q0r.j0, q0O.j0]
   have := (q4P s hs k 1 h0).1
   rw [show ((1 : Nat) : Int) = 1 from rfl] at this
   rw [this]
 simp only [e, q3a, q4W]
theorem q4s (s : ByteArray) (hs : s.size ≤ 20000) (h0 : 0 < s.size) : (Sm (bt s 0) = true → ∃ t : Nat, 1 ≤ t ∧ t ≤ s.size ∧ q0b (fun k => q0O.f k s) (t : Int)) ∧ (Sm (bt s 0) = false → q0b (fun k => q0O.f k s) 0) := by
 have hn : ¬ s.toList = ([] : List UInt8) := by
  rw [ByteArray.toList_eq]
  intro h
  have := congrArg List.length h
  rw [q3e] at this
  have : s.size = 0 := this
  omega
 unfold q0O.f
 refine ⟨fun hb => ?_, fun hb => ?_⟩
 ·obtain ⟨t, a1, b1, c1⟩ := q6L s hs (s.size - 1) 1 (by omega)
  refine ⟨t, a1, b1, ?_⟩
  simp only [q3a, hb, Option.bind_some]
  exact q0b.ite_neg hn (q0b.ite_pos (by omega) (q0b.succ (by simp only [q0O.j0]; exact q0b.ite_neg (by decide) c1)))
 ·simp only [q3a, hb, Option.bind_some]
  exact q0b.ite_neg hn (q0b.ite_pos (by omega) (q0b.succ (by simp only [q0O.j0]; exact q0b.ite_pos (by decide) (q0b.const _))))
theorem q5L (s : ByteArray) (hs : s.size ≤ 20000) : ∀ (d i : Nat), i + d = s.size → 1 ≤ i →
  (∃ e : Int, e ≠ 0 ∧ q0b (fun k => q0P.l0 k s (i : Int)) (⟨#[]⟩, e) ∧ q0b (fun k => q0n.l0 k s (i : Int)) (0, ⟨#[]⟩, 0, 0, e)) ∨
  ∃ t : Nat, i ≤ t ∧ t < s.size ∧ q0b (fun k => q0P.l0 k s (i : Int)) (s.extract 1 t, 0) ∧ q0b (fun k => q0n.l0 k s (i : Int)) (3, s.extract 1 t, 0, ((t + 1 : Nat) : Int), 0) := by
 intro d
 induction d with
 | zero =>
  intro i hi h1
  refine .inl ⟨2, by decide, q0b.succ ?_, q0b.succ ?_⟩
  ·simp only [q0P.l0]
   exact q0b.ite_neg (by omega) (q0b.succ (by simp only [q0P.j1]; exact q0b.ite_pos (by omega) (q0b.succ (by simp only [q0P.j2]; exact q0b.ite_pos trivial (q0b.const _)))))
  ·simp only [q0n.l0]
   exact q0b.ite_neg (by omega) (q0b.succ (by simp only [q0n.j1]; exact q0b.ite_pos (by omega) (q0b.succ (by simp only [q0n.j2]; exact q0b.ite_pos trivial (q0b.const _)))))
 | succ d IH =>
  intro i hi h1
  have hq : ∃ b, q2K.f (bt s (i : Int)) = some b ∧ q2m.f (bt s (i : Int)) = some b := by
   unfold q2K.f q2m.f
   split
   ·split
    ·exact ⟨_, rfl, rfl⟩
    ·exact ⟨_, rfl, rfl⟩
   ·exact ⟨_, rfl, rfl⟩
  obtain ⟨b, q1, q2⟩ := hq
  have w1 := q3x (show i ≤ 1000000 by omega)
  cases b with
  | true =>
   have S1 : ∀ r, q0b (fun k => q0P.l0 k s ((i + 1 : Nat) : Int)) r → q0b (fun k => q0P.l0 k s (i : Int)) r := fun r h => q0b.succ (by simp only [q0P.l0, q1, Option.bind_some, w1]; exact q0b.ite_pos (by omega) (q0b.ite_pos (by omega) (q0b.ite_pos trivial h)))
   have S2 : ∀ r, q0b (fun k => q0n.l0 k s ((i + 1 : Nat) : Int)) r → q0b (fun k => q0n.l0 k s (i : Int)) r := fun r h => q0b.succ (by simp only [q0n.l0, q2, Option.bind_some, w1]; exact q0b.ite_pos (by omega) (q0b.ite_pos (by omega) (q0b.ite_pos trivial h)))
   rcases IH (i + 1) (by omega) (by omega) with ⟨e, he, a, c⟩ | ⟨t, ht, ht2, a, c⟩
   ·exact .inl ⟨e, he, S1 _ a, S2 _ c⟩
   ·exact .inr ⟨t, by omega, ht2, S1 _ a, S2 _ c⟩
  | false =>
   have S1 : ∀ r, q0b (fun k => q0P.j2 k s (i : Int) (bt s (i : Int) != 34)) r → q0b (fun k => q0P.l0 k s (i : Int)) r := fun r h => q0b.succ (by simp only [q0P.l0, q1, Option.bind_some]; exact q0b.ite_pos (by omega) (q0b.ite_pos (by omega) (q0b.ite_neg (by decide) (q0b.succ (by simp only [q0P.j1]; exact q0b.ite_neg (by omega) (q0b.ite_pos (by omega) (q0b.ite_pos (by omega) h)))))))
   have S2 : ∀ r, q0b (fun k => q0n.j2 k s (i : Int) (bt s (i : Int) != 34)) r → q0b (fun k => q0n.l0 k s (i : Int)) r := fun r h => q0b.succ (by simp only [q0n.l0, q2, Option.bind_some]; exact q0b.ite_pos (by omega) (q0b.ite_pos (by omega) (q0b.ite_neg (by decide) (q0b.succ (by simp only [q0n.j1]; exact q0b.ite_neg (by omega) (q0b.ite_pos (by omega) (q0b.ite_pos (by omega) h)))))))
   have wm : wrap64 ((i : Int) - 1) = ((i - 1 : Nat) : Int) := by unfold wrap64; omega
   have ti : ((i : Nat) : Int).toNat = i := Int.toNat_natCast _
   cases hb : (bt s (i : Int) != 34) with
   | true =>
    refine .inl ⟨2, by decide, S1 _ (q0b.succ ?_), S2 _ (q0b.succ ?_)⟩
    ·simp only [q0P.j2, hb]; exact q0b.ite_pos trivial (q0b.const _)
    ·simp only [q0n.j2, hb]; exact q0b.ite_pos trivial (q0b.const _)
   | false =>
    by_cases h60 : i - 1 > 60
    ·refine .inl ⟨3, by decide, S1 _ (q0b.succ ?_), S2 _ (q0b.succ ?_)⟩
     ·simp only [q0P.j2, hb, wm]; exact q0b.ite_neg (by decide) (q0b.ite_pos (by omega) (q0b.const _))
     ·simp only [q0n.j2, hb, wm]; exact q0b.ite_neg (by decide) (q0b.ite_pos (by omega) (q0b.const _))
    ·refine .inr ⟨i, Nat.le_refl _, by omega, S1 _ (q0b.succ ?_), S2 _ (q0b.succ ?_)⟩
     ·simp only [q0P.j2, hb, wm, ti]; exact q0b.ite_neg (by decide) (q0b.ite_neg (by omega) (q0b.ite_pos (by omega) (q0b.ite_pos (by omega) (q0b.const _))))
     ·simp only [q0n.j2, hb, wm, ti, w1]; exact q0b.ite_neg (by decide) (q0b.ite_neg (by omega) (q0b.ite_pos (by omega) (q0b.ite_pos (by omega) (q0b.const _))))
theorem q7q : ∀ c : Fin 256, q1e.f 30 (c.val : Int) = (q2q.f (⟨#[123, 125, 40, 41, 91, 93, 47, 59, 58, 126, 64, 61, 94, 44, 46, 124, 43, 42, 60, 62, 45]⟩ : ByteArray) (c.val : Int)).bind fun q => some (decide (q ≥ 0)) := by decide +kernel
theorem q6s (c : Int) (h0 : 0 ≤ c) (h1 : c ≤ 255) : ∃ q, q2q.f (⟨#[123, 125, 40, 41, 91, 93, 47, 59, 58, 126, 64, 61, 94, 44, 46, 124, 43, 42, 60, 62, 45]⟩ : ByteArray) c = some q ∧ q0b (fun k => q1e.f k c) (decide (q ≥ 0)) := by
 have h := q7q ⟨c.toNat, by omega⟩
 have e : (((⟨c.toNat, by omega⟩ : Fin 256).val : Nat) : Int) = c := by show ((c.toNat : Nat) : Int) = c; omega
 rw [e] at h
 refine ⟨_, rfl, q0b.mono (fun k => q1e.mono c k) 30 ?_⟩
 rw [h]
 rfl
end Go.Proofs.YtmffocankommaaaDoor.U
end
section
namespace Go.Proofs.YtmffocankommaaaDoor.U
open Go.RowKit Go.Proofs.YtmffocankommaaaDoorW.PrintWords Go.Proofs.YtmffocankommaaaDoorW.PrintLast Go.Proofs.YtmffocankommaaaDoorW.PrintMore Go.Proofs.YtmffocankommaaaDoorY
set_option linter.unusedVariables false
theorem q6Q (s : ByteArray) (hs : s.size ≤ 20000) (h0 : 0 < s.size) :
  (∃ r r' : Int × ByteArray × Int × Int × Int, r.2.2.2.2 ≠ 0 ∧ r'.2.2.2.2 = r.2.2.2.2 ∧ q0b (fun k => q2e.f k s) r ∧ q0b (fun k => q1q.f k s) r') ∨
  ∃ (q : Int) (x : ByteArray) (m : Nat), 1 ≤ m ∧ m ≤ s.size ∧ q0b (fun k => q2e.f k s) (q, x, 0, (m : Int), 0) ∧ q0b (fun k => q1q.f k s) (q, x, 0, (m : Int), 0) := by
 have hN := q4s s hs h0
 have hi : (0 : Int) < (s.size : Int) := by omega
 have ti : ∀ t : Nat, ((t : Nat) : Int).toNat = t := Int.toNat_natCast
 cases hb : Sm (bt s 0) with
 | true =>
  obtain ⟨t, t1, t2, hc⟩ := hN.1 hb
  have S1 : ∀ r, q0b (fun k => if (t : Int) > 20 then some (0, (⟨#[]⟩ : ByteArray), (0 : Int), (0 : Int), (3 : Int)) else some (1, s.extract 0 t, 0, (t : Int), 0)) r → q0b (fun k => q2e.f k s) r := by
   intro r h
   unfold q2e.f
   refine q0b.ite_pos hi ?_
   simp only [q3a, hb, Option.bind_some, if_true]
   refine q0b.bind hc ?_
   simpa only [ti, if_pos (show (0 : Int) ≤ (t : Int) by omega), if_pos (show (t : Int) ≤ (s.size : Int) by omega)] using h
  have S2 : ∀ r, q0b (fun k => if (t : Int) > 20 then some (0, (⟨#[]⟩ : ByteArray), (0 : Int), (0 : Int), (3 : Int)) else some (1, s.extract 0 t, 0, (t : Int), 0)) r → q0b (fun k => q1q.f k s) r := by
   intro r h
   unfold q1q.f
   simp only [q5Z s hs h0]
   refine q0b.bind hc (q0b.ite_pos (by omega) ?_)
   simpa only [ti, if_pos (show (0 : Int) ≤ (t : Int) by omega), if_pos (show (t : Int) ≤ (s.size : Int) by omega)] using h
  by_cases h20 : (t : Int) > 20
  ·exact .inl ⟨(0, ⟨#[]⟩, 0, 0, 3), (0, ⟨#[]⟩, 0, 0, 3), (by decide), rfl, S1 _ (q0b.ite_pos h20 (q0b.const _)), S2 _ (q0b.ite_pos h20 (q0b.const _))⟩
  ·exact .inr ⟨1, s.extract 0 t, t, t1, t2, S1 _ (q0b.ite_neg h20 (q0b.const _)), S2 _ (q0b.ite_neg h20 (q0b.const _))⟩
 | false =>
  have hc := hN.2 hb
  obtain ⟨t, t2, hd, hn, d1, d2⟩ := q4m s hs
  have R : ∀ r, q0b (fun k => if (t : Int) > 0 then (if (t : Int) > 6 then some (0, (⟨#[]⟩ : ByteArray), (0 : Int), (0 : Int), (3 : Int)) else if bt s 0 = 48 then (if (t : Int) > 1 then some (0, (⟨#[]⟩ : ByteArray), (0 : Int), (0 : Int), (2 : Int)) else some (2, s.extract 0 t, 0, (t : Int), 0)) else some (2, s.extract 0 t, 0, (t : Int), 0)) else if bt s 0 = 34 then ((q0n.f k s).bind fun aD => some (aD.1, aD.2.1, aD.2.2.1, aD.2.2.2.1, aD.2.2.2.2)) else ((q1e.f k (bt s 0)).bind fun aE => if aE = true then some (4, s.extract 0 1, 0, 1, 0) else some (0, (⟨#[]⟩ : ByteArray), 0, 0, 2))) r → q0b (fun k => q1q.f k s) r := by
   intro r h
   unfold q1q.f
   simp only [q5Z s hs h0]
   refine q0b.bind hc (q0b.ite_neg (by decide) (q0b.bind d2 ?_))
   simpa only [ti, if_pos (show (0 : Int) ≤ (t : Int) by omega), if_pos (show (t : Int) ≤ (s.size : Int) by omega), if_pos hi, if_pos (show (0 : Nat) ≤ 1 by decide), if_pos (show (1 : Int) ≤ (s.size : Int) by omega)] using h
  cases hg : Dg (bt s 0) with
  | true =>
   have t1 : 1 ≤ t := by
    rcases Nat.eq_zero_or_pos t with h | h
    ·have := hn (by omega)
     rw [h] at this
     rw [show ((0 : Nat) : Int) = 0 from rfl, hg] at this
     cases this
    ·exact h
   have T : ∀ r, q0b (fun k => if (t : Int) > 6 then some (0, (⟨#[]⟩ : ByteArray), (0 : Int), (0 : Int), (3 : Int)) else (q0Q.f k (s.extract 0 t)).bind fun aG => if aG.2 = true then some (2, s.extract 0 t, 0, (t : Int), 0) else some (0, (⟨#[]⟩ : ByteArray), 0, 0, 2)) r → q0b (fun k => q2e.f k s) r := by
    intro r h
    unfold q2e.f
    refine q0b.ite_pos hi ?_
    simp only [q3a, q3t, hb, hg, Option.bind_some, if_true, Bool.false_eq_true, if_false]
    refine q0b.bind d1 ?_
    simpa only [ti, if_pos (show (0 : Int) ≤ (t : Int) by omega), if_pos (show (t : Int) ≤ (s.size : Int) by omega)] using h
   by_cases h6 : (t : Int) > 6
   ·exact .inl ⟨(0, ⟨#[]⟩, 0, 0, 3), (0, ⟨#[]⟩, 0, 0, 3), (by decide), rfl, T _ (q0b.ite_pos h6 (q0b.const _)), R _ (q0b.ite_pos (by omega) (q0b.ite_pos h6 (q0b.const _)))⟩
   have he : (s.extract 0 t).size = t := by rw [q3G t2]; omega
   have hbt : ∀ m, m < t → bt (s.extract 0 t) ((m : Nat) : Int) = bt s ((m : Nat) : Int) := fun m hm => by rw [q4c t2 (by omega), Nat.zero_add]
   have hb0 : bt (s.extract 0 t) 0 = bt s 0 := hbt 0 t1
   obtain ⟨v, hv⟩ := q6y (s.extract 0 t) (by omega) (by omega) (fun m hm => by rw [he] at hm; rw [hbt m hm]; exact hd m hm)
   rw [he, hb0] at hv
   by_cases hx : 1 < t ∧ bt s 0 = 48
   ·rw [if_pos hx] at hv
    exact .inl ⟨(0, ⟨#[]⟩, 0, 0, 2), (0, ⟨#[]⟩, 0, 0, 2), (by decide), rfl, T _ (q0b.ite_neg h6 (q0b.bind hv (q0b.ite_neg (by decide) (q0b.const _)))), R _ (q0b.ite_pos (by omega) (q0b.ite_neg h6 (q0b.ite_pos hx.2 (q0b.ite_pos (by omega) (q0b.const _)))))⟩
   ·rw [if_neg hx] at hv
    refine .inr ⟨2, s.extract 0 t, t, t1, t2, T _ (q0b.ite_neg h6 (q0b.bind hv (q0b.ite_pos rfl (q0b.const _)))), R _ (q0b.ite_pos (by omega) (q0b.ite_neg h6 ?_))⟩
    by_cases h48 : bt s 0 = 48
    ·exact q0b.ite_pos h48 (q0b.ite_neg (fun k => hx ⟨by omega, h48⟩) (q0b.const _))
    ·exact q0b.ite_neg h48 (q0b.const _)
  | false =>
   have t0 : t = 0 := by
    rcases Nat.eq_zero_or_pos t with h | h
    ·exact h
    ·have := hd 0 h
     rw [show ((0 : Nat) : Int) = 0 from rfl, hg] at this
     cases this
   have R' := fun r h => R r (q0b.ite_neg (show ¬ ((t : Nat) : Int) > 0 by omega) h)
   clear R
   have T : ∀ r, q0b (fun k => if bt s 0 = 34 then ((q0P.f k s).bind fun aH => some (3, aH.1, 0, wrap64 ((aH.1.size : Int) + 2), aH.2)) else ((q2q.f (⟨#[123, 125, 40, 41, 91, 93, 47, 59, 58, 126, 64, 61, 94, 44, 46, 124, 43, 42, 60, 62, 45]⟩ : ByteArray) (bt s 0)).bind fun aI => if aI ≥ 0 then some (4, s.extract 0 1, 0, 1, 0) else some (0, (⟨#[]⟩ : ByteArray), 0, 0, 2))) r → q0b (fun k => q2e.f k s) r := by
    intro r h
    unfold q2e.f
    refine q0b.ite_pos hi ?_
    simp only [q3a, q3t, hb, hg, Option.bind_some, Bool.false_eq_true, if_false]
    simpa only [if_pos (show (0 : Nat) ≤ 1 by decide), if_pos (show (1 : Int) ≤ (s.size : Int) by omega)] using h
   by_cases h34 : bt s 0 = 34
   ·rcases q5L s hs (s.size - 1) 1 (by omega) (Nat.le_refl _) with ⟨e, e0, a, c⟩ | ⟨u, u1, u2, a, c⟩
    ·exact .inl ⟨(3, ⟨#[]⟩, 0, wrap64 (((⟨#[]⟩ : ByteArray).size : Int) + 2), e), (0, ⟨#[]⟩, 0, 0, e), e0, rfl, T _ (q0b.ite_pos h34 (q0b.bind a (q0b.const _))), R' _ (q0b.ite_pos h34 (q0b.bind c (q0b.const _)))⟩
    ·have hw : wrap64 (((s.extract 1 u).size : Int) + 2) = ((u + 1 : Nat) : Int) := by rw [q3G (by omega), wrap2 (by omega)]; congr 1; omega
     refine .inr ⟨3, s.extract 1 u, u + 1, by omega, u2, T _ (q0b.ite_pos h34 (q0b.bind a ?_)), R' _ (q0b.ite_pos h34 (q0b.bind c (q0b.const _)))⟩
     simp only [hw]
     exact q0b.const _
   ·obtain ⟨q, e1, c⟩ := q6s (bt s 0) (q6l s 0).1 (q6l s 0).2
    by_cases hq : q ≥ 0
    ·rw [decide_eq_true hq] at c
     refine .inr ⟨4, s.extract 0 1, 1, Nat.le_refl _, h0, T _ (q0b.ite_neg h34 ?_), R' _ (q0b.ite_neg h34 (q0b.bind c (q0b.ite_pos rfl (q0b.const _))))⟩
     simp only [e1, Option.bind_some]
     exact q0b.ite_pos hq (q0b.const _)
    ·rw [decide_eq_false hq] at c
     refine .inl ⟨(0, ⟨#[]⟩, 0, 0, 2), (0, ⟨#[]⟩, 0, 0, 2), (by decide), rfl, T _ (q0b.ite_neg h34 ?_), R' _ (q0b.ite_neg h34 (q0b.bind c (q0b.ite_neg (by decide) (q0b.const _))))⟩
     simp only [e1, Option.bind_some]
     exact q0b.ite_neg hq (q0b.const _)
/-- Line feeds in d bytes from i on. -/
def lfs (a : ByteArray) : Nat → Nat → Nat
 | _, 0 => 0
 | i, d + 1 => (if bt a ((i : Nat) : Int) = 10 then 1 else 0) + lfs a (i + 1) d
theorem q8e (a : ByteArray) : ∀ d i, lfs a i d ≤ d
 | 0, _ => Nat.le_refl _
 | d + 1, i => by
  have := q8e a d (i + 1)
  unfold lfs
  split <;> omega
theorem q5Y (a s : ByteArray) (i : Nat) (hs : s.size ≤ 20000) (hb : ∀ m, m < s.size → bt s ((m : Nat) : Int) = bt a ((i + m : Nat) : Int)) : ∀ (d m : Nat) (x : Nat), m + d = s.size → x ≤ 20000 + m → q0b (fun k => q0W.l0 k s (x : Int) (m : Int)) ((x + lfs a (i + m) d : Nat) : Int) := by
 intro d
 induction d with
 | zero =>
  intro m x hm hx
  apply q0b.succ
  simp only [q0W.l0]
  exact q0b.ite_neg (by omega) (q0b.const _)
 | succ d IH =>
  intro m x hm hx
  have h := hb m (by omega)
  apply q0b.succ
  simp only [q0W.l0, q3x (show m ≤ 1000000 by omega), q3x (show x ≤ 1000000 by omega)]
  refine q0b.ite_pos (by omega) (q0b.ite_pos (by omega) ?_)
  by_cases h10 : bt s (m : Int) = 10
  ·have := IH (m + 1) (x + 1) (by omega) (by omega)
   rw [show x + lfs a (i + m) (d + 1) = x + 1 + lfs a (i + (m + 1)) d from by rw [lfs, if_pos (h ▸ h10), Nat.add_assoc i m 1, Nat.add_assoc]]
   exact q0b.ite_pos h10 this
  ·have := IH (m + 1) x (by omega) (by omega)
   rw [show x + lfs a (i + m) (d + 1) = x + lfs a (i + (m + 1)) d from by rw [lfs, if_neg (fun k => h10 (h.trans k)), Nat.add_assoc i m 1, Nat.zero_add]]
   exact q0b.ite_neg h10 this
end Go.Proofs.YtmffocankommaaaDoor.U
end
section
namespace Go.Proofs.YtmffocankommaaaDoor.U
open Go.RowKit Go.Proofs.YtmffocankommaaaDoorW.PrintWords Go.Proofs.YtmffocankommaaaDoorW.PrintLast Go.Proofs.YtmffocankommaaaDoorW.PrintMore Go.Proofs.YtmffocankommaaaDoorY
set_option linter.unusedVariables false
def Wh (c : Int) : Prop := c = 10 ∨ c = 32 ∨ c = 9 ∨ c = 13 ∨ c = 35
/-- s is what a holds from i0 on. -/
def Sl (a : ByteArray) (i0 : Nat) (s : ByteArray) : Prop := s.size + i0 = a.size ∧ ∀ m, m < s.size → bt s ((m : Nat) : Int) = bt a ((i0 + m : Nat) : Int)
def Sk (a : ByteArray) (T : Nat → List S36 → Int → Int → Option ((List S36) × Int × Int)) (S : Nat → ByteArray → Int → Option Int) (i j : Nat) : Prop :=
 i ≤ j ∧ j ≤ a.size ∧ (j < a.size → ¬ Wh (bt a ((j : Nat) : Int))) ∧
 (∀ xs (x : Nat) r, x ≤ i + 1 → q0b (fun k => q0y.l0 k a xs ((x + lfs a i (j - i) : Nat) : Int) (j : Int)) r → q0b (fun k => T k xs (x : Int) (i : Int)) r) ∧
 (∀ s i0 m, i0 + m = i → Sl a i0 s → q0b (fun k => S k s ((m : Nat) : Int)) ((j - i0 : Nat) : Int))
theorem Sk.of {a : ByteArray} {T T' S S'} {i j : Nat} (h : Sk a T S (i + 1) j) (w : Nat) (hw : w = if bt a ((i : Nat) : Int) = 10 then 1 else 0)
  (hT : ∀ xs (x : Nat) r, x ≤ i + 1 → q0b (fun k => T k xs ((x + w : Nat) : Int) ((i + 1 : Nat) : Int)) r → q0b (fun k => T' k xs (x : Int) (i : Int)) r)
  (hS : ∀ s i0 m r, i0 + m = i → Sl a i0 s → q0b (fun k => S k s ((m + 1 : Nat) : Int)) r → q0b (fun k => S' k s ((m : Nat) : Int)) r) : Sk a T' S' i j := by
 obtain ⟨h1, h2, h3, h4, h5⟩ := h
 refine ⟨by omega, h2, h3, fun xs x r hx hr => hT xs x r hx (h4 xs (x + w) r (by rw [hw]; split <;> omega) ?_), fun s i0 m hm hs => hS s i0 m _ hm hs (h5 s i0 (m + 1) (by omega) hs)⟩
 have e : lfs a i (j - i) = w + lfs a (i + 1) (j - (i + 1)) := by
  rw [show j - i = j - (i + 1) + 1 by omega, lfs, ← hw]
 rw [e, ← Nat.add_assoc] at hr
 exact hr
section
variable (a : ByteArray) (ha : a.size ≤ 20000)
include ha
theorem q6N {i i0 m : Nat} {s : ByteArray} {r : Int} (h : i < a.size) (hm : i0 + m = i) (hs : Sl a i0 s) (hc : bt a ((i : Nat) : Int) = 10 ∨ bt a ((i : Nat) : Int) = 32 ∨ bt a ((i : Nat) : Int) = 9 ∨ bt a ((i : Nat) : Int) = 13) (hr : q0b (fun k => q0p.l0 k s ((m + 1 : Nat) : Int)) r) : q0b (fun k => q0p.l0 k s ((m : Nat) : Int)) r := by
 have hz := hs.1
 have e := hs.2 m (by omega)
 rw [hm] at e
 have hj : ∀ c, q0b (fun k => q0p.j1 k s ((m : Nat) : Int) c true) r := fun c => q0b.succ (by simp only [q0p.j1, q3x (show m ≤ 1000000 by omega)]; exact q0b.ite_pos trivial hr)
 apply q0b.succ
 simp only [q0p.l0, e]
 refine q0b.ite_pos (by omega) (q0b.ite_pos (by omega) ?_)
 rcases hc with hc | hc | hc | hc <;> rw [hc]
 ·exact q0b.ite_neg (by decide) (q0b.ite_neg (by decide) (q0b.ite_pos rfl (hj 10)))
 ·exact q0b.ite_pos rfl (hj 32)
 ·exact q0b.ite_neg (by decide) (q0b.ite_pos rfl (hj 9))
 ·exact q0b.ite_neg (by decide) (q0b.ite_neg (by decide) (q0b.ite_neg (by decide) (hj 13)))
omit ha in
theorem q7l {i i0 m : Nat} {s : ByteArray} {r : Int} (h : i < a.size) (hm : i0 + m = i) (hs : Sl a i0 s) (hc : ¬ (bt a ((i : Nat) : Int) = 10 ∨ bt a ((i : Nat) : Int) = 32 ∨ bt a ((i : Nat) : Int) = 9 ∨ bt a ((i : Nat) : Int) = 13)) (hr : q0b (fun k => if bt a ((i : Nat) : Int) = 35 then q0p.l1 k s ((m : Nat) : Int) else some ((m : Nat) : Int)) r) : q0b (fun k => q0p.l0 k s ((m : Nat) : Int)) r := by
 have hz := hs.1
 have e := hs.2 m (by omega)
 rw [hm] at e
 apply q0b.succ
 simp only [q0p.l0, e]
 refine q0b.ite_pos (by omega) (q0b.ite_pos (by omega) (q0b.ite_neg (fun k => hc (.inr (.inl k))) (q0b.ite_neg (fun k => hc (.inr (.inr (.inl k)))) (q0b.ite_neg (fun k => hc (.inl k)) (q0b.succ ?_)))))
 simp only [q0p.j1]
 exact q0b.ite_neg (by simpa using fun k => hc (.inr (.inr (.inr k)))) hr
omit ha in
theorem q5S {i : Nat} {xs : List S36} {x : Int} {r} (h : i < a.size) (hc : ¬ (bt a ((i : Nat) : Int) = 10 ∨ bt a ((i : Nat) : Int) = 32 ∨ bt a ((i : Nat) : Int) = 9 ∨ bt a ((i : Nat) : Int) = 13)) (hr : q0b (fun k => q0y.j1 k a xs x (i : Int) (bt a ((i : Nat) : Int)) false) r) : q0b (fun k => q0y.l0 k a xs x (i : Int)) r := by
 apply q0b.succ
 simp only [q0y.l0]
 refine q0b.ite_pos (by omega) (q0b.ite_pos (by omega) (q0b.ite_neg (fun k => hc (.inl k)) (q0b.ite_neg (fun k => hc (.inr (.inl k))) (q0b.ite_neg (fun k => hc (.inr (.inr (.inl k)))) ?_))))
 rw [show (bt a ((i : Nat) : Int) == 13) = false from by simpa using fun k => hc (.inr (.inr (.inr k)))]
 exact hr
theorem t_white {i : Nat} {xs : List S36} {x : Int} {r} (h : i < a.size) (hc : bt a ((i : Nat) : Int) = 32 ∨ bt a ((i : Nat) : Int) = 9 ∨ bt a ((i : Nat) : Int) = 13) (hr : q0b (fun k => q0y.l0 k a xs x ((i + 1 : Nat) : Int)) r) : q0b (fun k => q0y.l0 k a xs x (i : Int)) r := by
 have hj : ∀ c, q0b (fun k => q0y.j1 k a xs x (i : Int) c true) r := fun c => q0b.succ (by simp only [q0y.j1, q3x (show i ≤ 1000000 by omega)]; exact q0b.ite_pos trivial hr)
 apply q0b.succ
 simp only [q0y.l0]
 refine q0b.ite_pos (by omega) (q0b.ite_pos (by omega) ?_)
 rcases hc with hc | hc | hc <;> rw [hc]
 ·exact q0b.ite_neg (by decide) (q0b.ite_pos rfl (hj 32))
 ·exact q0b.ite_neg (by decide) (q0b.ite_neg (by decide) (q0b.ite_pos rfl (hj 9)))
 ·exact q0b.ite_neg (by decide) (q0b.ite_neg (by decide) (q0b.ite_neg (by decide) (hj 13)))
theorem skips : ∀ (d i : Nat), i + d = a.size → (∃ j, Sk a (fun k => q0y.l0 k a) q0p.l0 i j) ∧ ∃ j, Sk a (fun k => q0y.l1 k a) q0p.l1 i j := by
 intro d
 induction d with
 | zero =>
  intro i hi
  have hi : i = a.size := by omega
  have hx : ∀ x : Nat, x + lfs a i (i - i) = x := fun x => by rw [Nat.sub_self]; rfl
  have hW : Sk a (fun k => q0y.l0 k a) q0p.l0 i i := by
   refine ⟨Nat.le_refl _, by omega, fun h => by omega, fun xs x r _ hr => by rw [hx] at hr; exact hr, fun s i0 m hm hs => q0b.succ ?_⟩
   have hz := hs.1
   simp only [q0p.l0, show i - i0 = m by omega]
   exact q0b.ite_neg (by omega) (q0b.const _)
  refine ⟨⟨i, hW⟩, i, hW.1, hW.2.1, hW.2.2.1, fun xs x r h1 hr => q0b.succ ?_, fun s i0 m hm hs => q0b.succ ?_⟩
  ·simp only [q0y.l1]
   exact q0b.ite_neg (by omega) (hW.2.2.2.1 xs x r h1 hr)
  ·have hz := hs.1
   simp only [q0p.l1]
   exact q0b.ite_neg (by omega) (hW.2.2.2.2 s i0 m hm hs)
 | succ d IH =>
  intro i hi
  have h : i < a.size := by omega
  obtain ⟨⟨j, hj⟩, ⟨j', hj'⟩⟩ := IH (i + 1) (by omega)
  have w1 := q3x (show i ≤ 1000000 by omega)
  have hC : bt a ((i : Nat) : Int) ≠ 10 → Sk a (fun k => q0y.l1 k a) q0p.l1 i j' := by
   intro h10
   refine hj'.of 0 (by rw [if_neg h10]) (fun xs x r hx hr => q0b.succ ?_) (fun s i0 m r hm hs hr => q0b.succ ?_)
   ·simp only [q0y.l1, w1]
    exact q0b.ite_pos (by omega) (q0b.ite_pos (by omega) (q0b.ite_neg h10 hr))
   ·have hz := hs.1
    have e := hs.2 m (by omega)
    rw [hm] at e
    simp only [q0p.l1, e, q3x (show m ≤ 1000000 by omega)]
    exact q0b.ite_pos (by omega) (q0b.ite_pos (by omega) (q0b.ite_neg h10 hr))
  have hW : ∃ j, Sk a (fun k => q0y.l0 k a) q0p.l0 i j := by
   by_cases h10 : bt a ((i : Nat) : Int) = 10
   ·refine ⟨j, hj.of 1 (by rw [if_pos h10]) (fun xs x r hx hr => q0b.succ ?_) (fun s i0 m r hm hs hr => q6N a ha h hm hs (.inl h10) hr)⟩
    simp only [q0y.l0, w1, q3x (show x ≤ 1000000 by omega)]
    exact q0b.ite_pos (by omega) (q0b.ite_pos (by omega) (q0b.ite_pos h10 hr))
   by_cases hw : bt a ((i : Nat) : Int) = 32 ∨ bt a ((i : Nat) : Int) = 9 ∨ bt a ((i : Nat) : Int) = 13
   ·exact ⟨j, hj.of 0 (by rw [if_neg h10]) (fun xs x r hx hr => t_white a ha h hw hr) (fun s i0 m r hm hs hr => q6N a ha h hm hs (.inr hw) hr)⟩
   have hn : ¬ (bt a ((i : Nat) : Int) = 10 ∨ bt a ((i : Nat) : Int) = 32 ∨ bt a ((i : Nat) : Int) = 9 ∨ bt a ((i : Nat) : Int) = 13) := fun k => k.elim h10 hw
   by_cases h35 : bt a ((i : Nat) : Int) = 35
   ·have hk := hC h10
    refine ⟨j', hk.1, hk.2.1, hk.2.2.1, fun xs x r h1 hr => q5S a h hn (q0b.succ ?_), fun s i0 m hm hs => q7l a h hm hs hn (q0b.ite_pos h35 (hk.2.2.2.2 s i0 m hm hs))⟩
    simp only [q0y.j1]
    exact q0b.ite_neg (by decide) (q0b.ite_pos h35 (hk.2.2.2.1 xs x r h1 hr))
   ·refine ⟨i, Nat.le_refl _, by omega, fun _ k => ?_, fun xs x r _ hr => by rw [Nat.sub_self] at hr; exact hr, fun s i0 m hm hs => q7l a h hm hs hn (q0b.ite_neg h35 ?_)⟩
    ·rcases k with k | k | k | k | k
     ·exact h10 k
     ·exact hw (.inl k)
     ·exact hw (.inr (.inl k))
     ·exact hw (.inr (.inr k))
     ·exact h35 k
    ·rw [show i - i0 = m by omega]; exact q0b.const _
  refine ⟨hW, ?_⟩
  by_cases h10 : bt a ((i : Nat) : Int) = 10
  ·obtain ⟨j, hk⟩ := hW
   refine ⟨j, hk.1, hk.2.1, hk.2.2.1, fun xs x r h1 hr => q0b.succ ?_, fun s i0 m hm hs => q0b.succ ?_⟩
   ·simp only [q0y.l1]
    exact q0b.ite_pos (by omega) (q0b.ite_pos (by omega) (q0b.ite_pos h10 (hk.2.2.2.1 xs x r h1 hr)))
   ·have hz := hs.1
    have e := hs.2 m (by omega)
    rw [hm] at e
    simp only [q0p.l1, e]
    exact q0b.ite_pos (by omega) (q0b.ite_pos (by omega) (q0b.ite_pos h10 (hk.2.2.2.2 s i0 m hm hs)))
  ·exact ⟨j', hC h10⟩
end
theorem t_next {a : ByteArray} {xs : List S36} {x c m c2 q : Int} {j : Nat} {y : ByteArray} {r} (hj : c.toNat = j) (h0 : 0 ≤ c) (h1 : c ≤ (a.size : Int)) (hw : wrap64 (c + m) = c2) (hl : xs.length < 4398046511104) (h35 : bt a c ≠ 35) (hn : q0b (fun k => q2e.f k (a.extract j a.size)) (q, y, 0, m, 0)) (h : q0b (fun k => q0y.l0 k a (xs ++ [⟨q, y, x⟩]) x c2) r) : q0b (fun k => q0y.j1 k a xs x c (bt a c) false) r := by
 subst hj hw
 apply q0b.succ
 simp only [q0y.j1]
 exact q0b.ite_neg (by decide) (q0b.ite_neg h35 (q0b.ite_pos h0 (q0b.ite_pos h1 (q0b.bind hn (q0b.ite_pos rfl (q0b.ite_pos hl h))))))
theorem t_fail {a : ByteArray} {xs : List S36} {x c : Int} {j : Nat} {e} (hj : c.toNat = j) (h0 : 0 ≤ c) (h1 : c ≤ (a.size : Int)) (h35 : bt a c ≠ 35) (he : e.2.2.2.2 ≠ 0) (hn : q0b (fun k => q2e.f k (a.extract j a.size)) e) : q0b (fun k => q0y.j1 k a xs x c (bt a c) false) ([], x, e.2.2.2.2) := by
 subst hj
 apply q0b.succ
 simp only [q0y.j1]
 exact q0b.ite_neg (by decide) (q0b.ite_neg h35 (q0b.ite_pos h0 (q0b.ite_pos h1 (q0b.bind hn (q0b.ite_neg he (q0b.const _))))))
theorem r_open {a : ByteArray} {xs : List S36} {x x7 c d c1 f : Int} {i j : Nat} {r} (hi : c.toNat = i) (hj : c1.toNat = j) (hw : wrap64 (c + d) = c1) (hf : wrap64 (x + f) = x7) (h0 : 0 ≤ c) (h1 : c ≤ (a.size : Int)) (h2 : c ≤ c1) (h3 : c1 ≤ (a.size : Int)) (hs : q0b (fun k => q0p.f k (a.extract i a.size)) d) (hc : q0b (fun k => q0W.f k (a.extract i j)) f)
  (h : q0b (fun k => if c1 = (a.size : Int) then some (xs, (0 : Int), (0 : Int)) else if 0 ≤ c1 then ((q1q.f k (a.extract j a.size)).bind fun aD => if aD.2.2.2.2 = 0 then (if xs.length < 4398046511104 then q0N.l0 k a (xs ++ [(⟨aD.1, aD.2.1, x7⟩ : S36)]) x7 (wrap64 (c1 + aD.2.2.2.1)) else none) else some (([] : List S36), x7, aD.2.2.2.2)) else none) r) : q0b (fun k => q0N.l0 k a xs x c) r := by
 subst hi hj hw hf
 apply q0b.succ
 simp only [q0N.l0]
 exact q0b.ite_pos h0 (q0b.ite_pos h1 (q0b.bind hs (q0b.ite_pos h2 (q0b.ite_pos h3 (q0b.bind hc h)))))
theorem r_next {a : ByteArray} {xs : List S36} {x7 c1 m c2 q : Int} {j : Nat} {y : ByteArray} {r} (h : c1 < (a.size : Int)) (h0 : 0 ≤ c1) (hw : wrap64 (c1 + m) = c2) (hl : xs.length < 4398046511104) (hn : q0b (fun k => q1q.f k (a.extract j a.size)) (q, y, 0, m, 0)) (hr : q0b (fun k => q0N.l0 k a (xs ++ [⟨q, y, x7⟩]) x7 c2) r) :
  q0b (fun k => if c1 = (a.size : Int) then some (xs, (0 : Int), (0 : Int)) else if 0 ≤ c1 then ((q1q.f k (a.extract j a.size)).bind fun aD => if aD.2.2.2.2 = 0 then (if xs.length < 4398046511104 then q0N.l0 k a (xs ++ [(⟨aD.1, aD.2.1, x7⟩ : S36)]) x7 (wrap64 (c1 + aD.2.2.2.1)) else none) else some (([] : List S36), x7, aD.2.2.2.2)) else none) r := by
 subst hw
 exact q0b.ite_neg (by omega) (q0b.ite_pos h0 (q0b.bind hn (q0b.ite_pos rfl (q0b.ite_pos hl hr))))
set_option maxHeartbeats 1000000 in
theorem q5V (a : ByteArray) (ha : a.size ≤ 20000) : ∀ (d i : Nat), i + d = a.size → ∀ (xs : List S36) (x : Nat), xs.length ≤ i → x ≤ i + 1 →
  ∃ r : List S36 × Int × Int, r.1.length ≤ a.size ∧ q0b (fun k => q0y.l0 k a xs (x : Int) (i : Int)) r ∧ q0b (fun k => q0N.l0 k a xs (x : Int) (i : Int)) r := by
 intro d
 induction d using Nat.strongRecOn with
 | _ d IH =>
  intro i hi xs x hx h1
  obtain ⟨⟨j, j1, j2, j3, j4, j5⟩, _⟩ := skips a ha d i hi
  have tn : ∀ n : Nat, ((n : Nat) : Int).toNat = n := Int.toNat_natCast
  have hsl : Sl a i (a.extract i a.size) := ⟨by rw [q3G (Nat.le_refl _)]; omega, fun m hm => by rw [q3G (Nat.le_refl _)] at hm; exact q4c (Nat.le_refl _) hm⟩
  have hsp : q0b (fun k => q0p.f k (a.extract i a.size)) ((j - i : Nat) : Int) := j5 _ i 0 rfl hsl
  have hz : (a.extract i j).size = j - i := q3G j2
  have hfd : q0b (fun k => q0W.f k (a.extract i j)) ((lfs a i (j - i) : Nat) : Int) := by
   have := q5Y a (a.extract i j) i (by omega) (fun m hm => by rw [hz] at hm; exact q4c j2 hm) (j - i) 0 0 (by omega) (by omega)
   rw [Nat.zero_add, Nat.add_zero] at this
   exact this
  have hlf := q8e a (j - i) i
  have ho := fun r h => r_open (a := a) (xs := xs) (x := (x : Int)) (c := (i : Int)) (c1 := (j : Int)) (x7 := ((x + lfs a i (j - i) : Nat) : Int)) (r := r) (tn i) (tn j) (by unfold wrap64; omega) (by unfold wrap64; omega) (by omega) (by omega) (by omega) (by omega) hsp hfd h
  have c0 : (0 : Int) ≤ (j : Int) := Int.natCast_nonneg j
  have c1 : (j : Int) ≤ (a.size : Int) := by omega
  have cl : xs.length < 4398046511104 := by omega
  by_cases hj : j < a.size
  ·have cj : (j : Int) < (a.size : Int) := by omega
   have cn : ¬ ((j : Int) = (a.size : Int)) := by omega
   have hn := j3 hj
   have hn1 : ¬ (bt a ((j : Nat) : Int) = 10 ∨ bt a ((j : Nat) : Int) = 32 ∨ bt a ((j : Nat) : Int) = 9 ∨ bt a ((j : Nat) : Int) = 13) := by
    intro k
    rcases k with k | k | k | k
    ·exact hn (.inl k)
    ·exact hn (.inr (.inl k))
    ·exact hn (.inr (.inr (.inl k)))
    ·exact hn (.inr (.inr (.inr (.inl k))))
   have hn2 : bt a ((j : Nat) : Int) ≠ 35 := fun k => hn (.inr (.inr (.inr (.inr k))))
   have he : (a.extract j a.size).size = a.size - j := q3G (Nat.le_refl _)
   rcases q6Q (a.extract j a.size) (by omega) (by omega) with ⟨r, r', e1, e2, n1, n2⟩ | ⟨q, y, m, m1, m2, n1, n2⟩
   ·refine ⟨([], ((x + lfs a i (j - i) : Nat) : Int), r.2.2.2.2), Nat.zero_le _, j4 xs x _ h1 (q5S a hj hn1 (t_fail (tn j) c0 c1 hn2 e1 n1)), ho _ ?_⟩
    rw [← e2] at e1 ⊢
    exact q0b.ite_neg cn (q0b.ite_pos c0 (q0b.bind n2 (q0b.ite_neg e1 (q0b.const _))))
   ·obtain ⟨r, r1, r2, r3⟩ := IH (d - (j + m - i)) (by omega) (j + m) (by omega) (xs ++ [⟨q, y, ((x + lfs a i (j - i) : Nat) : Int)⟩]) (x + lfs a i (j - i)) (by rw [List.length_append, List.length_singleton]; omega) (by omega)
    have hw : wrap64 ((j : Int) + (m : Int)) = ((j + m : Nat) : Int) := by unfold wrap64; omega
    exact ⟨r, r1, j4 xs x _ h1 (q5S a hj hn1 (t_next (tn j) c0 c1 hw cl hn2 n1 r2)), ho _ (r_next cj c0 hw cl n2 r3)⟩
  ·refine ⟨(xs, 0, 0), by show xs.length ≤ _; omega, j4 xs x _ h1 (q0b.succ ?_), ho _ (q0b.ite_pos (by omega) (q0b.const _))⟩
   simp only [q0y.l0]
   exact q0b.ite_neg (by omega) (q0b.const _)
theorem tokens (a : ByteArray) : ∃ r : List S36 × Int × Int, r.1.length ≤ 20000 ∧ q0b (fun k => q0y.f k a) r ∧ q0b (fun k => q0N.f k a) r := by
 unfold q0y.f q0N.f
 by_cases h : (a.size : Int) > 20000
 ·exact ⟨([], 0, 3), Nat.zero_le _, q0b.ite_pos h (q0b.const _), q0b.ite_pos h (q0b.const _)⟩
 ·obtain ⟨r, h1, h2, h3⟩ := q5V a (by omega) a.size 0 (by omega) [] 1 (Nat.le_refl _) (by omega)
  exact ⟨r, by omega, q0b.ite_neg h h2, q0b.ite_neg h h3⟩
end Go.Proofs.YtmffocankommaaaDoor.U
end
section
namespace Go.Proofs.YtmffocankommaaaDoor.U
open Go.RowKit Go.Proofs.YtmffocankommaaaDoorW.PrintWords Go.Proofs.YtmffocankommaaaDoorW.PrintLast Go.Proofs.YtmffocankommaaaDoorW.PrintMore Go.Proofs.YtmffocankommaaaDoorY
set_option linter.unusedVariables false
theorem q0b.ite {α : Type} {c : Prop} [Decidable c] {f g : Nat → Option α} {r : α} (hf : c → q0b f r) (hg : ¬ c → q0b g r) : q0b (fun k => if c then f k else g k) r := by
 by_cases h : c
 ·exact q0b.ite_pos h (hf h)
 ·exact q0b.ite_neg h (hg h)
theorem q0b.val {α : Type} {x r : α} (h : x = r) : q0b (fun _ => some x) r := h ▸ q0b.const _
/-- Nodes of these kinds have names. -/
def Nm (a : Int) : Bool := decide (a = 4 ∨ a = 11 ∨ a = 12)
def no5 (x : List S25) : Bool := x.all fun y => decide (y.f0 ≠ 5)
def ShpT (a : Int) (x : List S25) : Bool := if a = 5 then decide (x.length ≠ 1) && no5 x else if a = 6 then decide (2 ≤ x.length) else if a = 7 then decide (x.length = 1) else if a = 8 then decide (x.length = 1) else if a = 12 then decide (x.length = 1) else decide (x.length = 0)
/-- The kind, the fields and the kids of a node fit together. -/
def Shp (a : Int) (b : ByteArray) (c : Int) (x : List S25) : Bool := decide (1 ≤ a) && decide (a ≤ 12) && (Nm a || decide (b.toList = [])) && (decide (a = 7) || decide (c = 0)) && ShpT a x
theorem q5C (a : Int) : q2z.f a = some (Nm a) := by
 unfold q2z.f Nm
 by_cases h4 : a = 4 <;> by_cases h11 : a = 11 <;> by_cases h12 : a = 12 <;> simp_all
theorem q4g {x : List S25} {i : Nat} (h : i < x.length) : no5 (x.drop i) = (decide (x[i].f0 ≠ 5) && no5 (x.drop (i + 1))) := by
 unfold no5
 rw [List.drop_eq_getElem_cons h, List.all_cons]
theorem q7x (x : List S25) (hl : x.length ≤ 1048576) : ∀ (d i : Nat), i + d = x.length → ∃ q : Int, q0b (fun k => q1w.l0 k x (x.length : Int) (i : Int)) q ∧ decide (q ≥ 0) = !(no5 (x.drop i)) := by
 intro d
 induction d with
 | zero =>
  intro i hi
  refine ⟨-1, q0b.succ ?_, ?_⟩
  ·simp only [q1w.l0]
   exact q0b.ite_neg (by omega) (q0b.const _)
  ·rw [List.drop_eq_nil_of_le (by omega)]; rfl
 | succ d IH =>
  intro i hi
  have h : i < x.length := by omega
  obtain ⟨q, hq, e⟩ := IH (i + 1) (by omega)
  by_cases h5 : x[i].f0 = 5
  ·refine ⟨i, q0b.succ ?_, ?_⟩
   ·simp only [q1w.l0, q2H.f, rd25 h, Option.bind_some, h5]
    exact q0b.ite_pos (by omega) (q0b.ite_pos (by omega) (q0b.ite_pos (by omega) (q0b.ite_pos (by decide) (q0b.const _))))
   ·rw [q4g h, decide_eq_true (show ((i : Nat) : Int) ≥ 0 by omega), decide_eq_false (not_not_intro h5)]; rfl
  ·refine ⟨q, q0b.succ ?_, ?_⟩
   ·simp only [q1w.l0, q2H.f, rd25 h, Option.bind_some, q3f (show i ≤ 1048576 by omega)]
    exact q0b.ite_pos (by omega) (q0b.ite_pos (by omega) (q0b.ite_pos (by omega) (q0b.ite_neg (by simpa using h5) hq)))
   ·rw [q4g h, e, decide_eq_true h5, Bool.true_and]
theorem q5p (a : Int) (b : ByteArray) (c : Int) (x : List S25) (hl : x.length ≤ 1048576) : q0b (fun k => q0S.f k a b c x) (Shp a b c x) := by
 have J2 : q0b (fun k => q0S.j2 k a b c x) (ShpT a x) := by
  obtain ⟨q, hq, e⟩ := q7x x hl x.length 0 (by omega)
  rw [List.drop_zero] at e
  apply q0b.succ
  unfold ShpT
  simp only [q0S.j2]
  refine q0b.ite (fun h => ?_) (fun h => ?_)
  ·rw [if_pos h]
   refine q0b.ite (fun h => q0b.val ?_) (fun h => ?_)
   ·rw [decide_eq_false (by omega), Bool.false_and]
   ·rw [decide_eq_true (by omega), Bool.true_and]
    unfold q2t.f q1w.f
    refine q0b.bind (q0b.bind hq (q0b.const _)) (q0b.val ?_)
    rw [e, Bool.not_not]
  rw [if_neg h]
  have e1 : ((x.length : Int) == 1) = decide (x.length = 1) := by
   by_cases k : x.length = 1 <;> simp [k]; omega
  have e0 : ((x.length : Int) == 0) = decide (x.length = 0) := by
   by_cases k : x.length = 0 <;> simp [k]
  rw [e1, e0]
  refine q0b.ite (fun h => q0b.val ?_) (fun h => ?_)
  ·rw [if_pos h]; congr 1; exact propext ⟨fun k => by omega, fun k => by omega⟩
  rw [if_neg h]
  refine q0b.ite (fun h => q0b.val (by rw [if_pos h])) (fun h => ?_)
  rw [if_neg h]
  refine q0b.ite (fun h => q0b.val (by rw [if_pos h])) (fun h => ?_)
  rw [if_neg h]
  refine q0b.ite (fun h => q0b.val (by rw [if_pos h])) (fun h => ?_)
  rw [if_neg h]
  exact q0b.const _
 have J1 : ∀ z, q0b (fun k => q0S.j1 k z a b c x) (!z && (decide (a = 7) || decide (c = 0)) && ShpT a x) := by
  intro z
  apply q0b.succ
  simp only [q0S.j1]
  cases z with
  | true => exact q0b.ite_pos rfl (q0b.const _)
  | false =>
   refine q0b.ite_neg (by decide) (q0b.ite (fun h => ?_) (fun h => q0b.ite (fun h' => ?_) (fun h' => q0b.val ?_)))
   ·rw [decide_eq_true h]; simpa using J2
   ·rw [decide_eq_false h, decide_eq_true h']; simpa using J2
   ·rw [decide_eq_false h, decide_eq_false h']; rfl
 have J0 : ∀ z, q0b (fun k => q0S.j0 k z a b c x) (!z && ((Nm a || decide (b.toList = [])) && ((decide (a = 7) || decide (c = 0)) && ShpT a x))) := by
  intro z
  apply q0b.succ
  simp only [q0S.j0, q5C, Option.bind_some]
  cases z with
  | true => exact q0b.ite_pos rfl (q0b.const _)
  | false =>
   refine q0b.ite_neg (by decide) (q0b.ite (fun h => ?_) (fun h => ?_))
   ·rw [h]; exact J1 false
   ·rw [Bool.eq_false_iff.2 h]
    by_cases hb : b.toList = []
    ·have := J1 false
     rw [show (b.toList != ([] : List UInt8)) = false from by simpa using hb, decide_eq_true hb]
     exact this
    ·have := J1 true
     rw [show (b.toList != ([] : List UInt8)) = true from by simpa using hb, decide_eq_false hb]
     exact this
 unfold q0S.f Shp
 refine q0b.ite (fun h => ?_) (fun h => ?_)
 ·rw [decide_eq_false (show ¬ 1 ≤ a by omega)]; exact J0 true
 ·rw [decide_eq_true (show 1 ≤ a by omega)]
  have := J0 (decide (a > 12))
  rw [show (!(decide (a > 12))) = decide (a ≤ 12) from by rw [← decide_not]; congr 1; exact propext ⟨fun k => by omega, fun k => by omega⟩] at this
  simpa only [Bool.true_and, Bool.and_assoc] using this
theorem q5M (a : Int) (b : ByteArray) (c : Int) (x : List S25) (hl : x.length ≤ 1048576) : ∀ (d i : Nat), i + d = x.length → q0b (fun k => q0s.l0 k (i : Int) a b c x) (decide (x.length ≠ 1) && no5 (x.drop i)) := by
 intro d
 induction d with
 | zero =>
  intro i hi
  apply q0b.succ
  simp only [q0s.l0]
  refine q0b.ite_neg (by omega) (q0b.val ?_)
  rw [List.drop_eq_nil_of_le (by omega)]
  by_cases k : x.length = 1 <;> simp [k, no5]; omega
 | succ d IH =>
  intro i hi
  have h : i < x.length := by omega
  apply q0b.succ
  simp only [q0s.l0, rd25 h, q3f (show i ≤ 1048576 by omega)]
  refine q0b.ite_pos (by omega) (q0b.ite_pos (by omega) (q0b.ite (fun h5 => q0b.val ?_) (fun h5 => ?_)))
  ·rw [q4g h, decide_eq_false (not_not_intro h5), Bool.false_and, Bool.and_false]
  ·have := IH (i + 1) (by omega)
   rw [q4g h, decide_eq_true h5, Bool.true_and]
   exact this
theorem q5u (a : Int) (b : ByteArray) (c : Int) (x : List S25) (hl : x.length ≤ 1048576) : q0b (fun k => q0s.f k a b c x) (Shp a b c x) := by
 have J1 : ∀ z, q0b (fun k => q0s.j1 k z a b c x) (!z && ShpT a x) := by
  intro z
  apply q0b.succ
  simp only [q0s.j1]
  cases z with
  | true => exact q0b.ite_pos rfl (q0b.const _)
  | false =>
   unfold ShpT
   rw [Bool.not_false, Bool.true_and]
   have e1 : ((x.length : Int) == 1) = decide (x.length = 1) := by
    by_cases k : x.length = 1 <;> simp [k]; omega
   have e0 : ((x.length : Int) == 0) = decide (x.length = 0) := by
    by_cases k : x.length = 0 <;> simp [k]
   rw [e1, e0]
   refine q0b.ite_neg (by decide) (q0b.ite (fun h => ?_) (fun h => ?_))
   ·rw [if_pos h]
    have := q5M a b c x hl x.length 0 (by omega)
    rw [List.drop_zero] at this
    exact this
   rw [if_neg h]
   refine q0b.ite (fun h => q0b.val ?_) (fun h => ?_)
   ·rw [if_pos h]; congr 1; exact propext ⟨fun k => by omega, fun k => by omega⟩
   rw [if_neg h]
   refine q0b.ite (fun h => q0b.val (by rw [if_pos h])) (fun h => ?_)
   rw [if_neg h]
   refine q0b.ite (fun h => q0b.val (by rw [if_pos h])) (fun h => ?_)
   rw [if_neg h]
   refine q0b.ite (fun h => q0b.val (by rw [if_pos h])) (fun h => ?_)
   rw [if_neg h]
   exact q0b.const _
 have hc : (c != 0) = !decide (c = 0) := by by_cases k : c = 0 <;> simp [k]
 have J0 : ∀ z, q0b (fun k => q0s.j0 k z a b c x) (decide (1 ≤ a) && decide (a ≤ 12) && (z || decide (b.toList = [])) && (decide (a = 7) || decide (c = 0)) && ShpT a x) := by
  intro z
  apply q0b.succ
  simp only [q0s.j0]
  refine q0b.ite (fun h => ?_) (fun h => q0b.ite (fun h' => ?_) (fun h' => ?_))
  ·rw [decide_eq_false (show ¬ 1 ≤ a by omega)]; exact J1 true
  ·rw [decide_eq_false (show ¬ a ≤ 12 by omega), Bool.and_false]; exact J1 true
  rw [decide_eq_true (show 1 ≤ a by omega), decide_eq_true (show a ≤ 12 by omega)]
  have A : q0b (fun k => if a = 7 then q0s.j1 k false a b c x else q0s.j1 k (c != 0) a b c x) ((decide (a = 7) || decide (c = 0)) && ShpT a x) := by
   refine q0b.ite (fun h => ?_) (fun h => ?_)
   ·rw [decide_eq_true h]; exact J1 false
   ·rw [decide_eq_false h, Bool.false_or]
    have := J1 (c != 0)
    rw [hc, Bool.not_not, ← hc] at this
    exact this
  refine q0b.ite (fun h => ?_) (fun h => ?_)
  ·rw [h]; exact A
  rw [Bool.eq_false_iff.2 h]
  refine q0b.ite (fun h => ?_) (fun h => ?_)
  ·rw [decide_eq_true h]; exact A
  ·rw [decide_eq_false h]; exact J1 true
 unfold q0s.f Shp Nm
 refine q0b.ite (fun h => ?_) (fun h => q0b.ite (fun h' => ?_) (fun h' => ?_))
 ·rw [decide_eq_true (show a = 4 ∨ a = 11 ∨ a = 12 from .inl h)]; exact J0 true
 ·rw [decide_eq_true (show a = 4 ∨ a = 11 ∨ a = 12 from .inr (.inl h'))]; exact J0 true
 ·have := J0 (a == 12)
  rw [show decide (a = 4 ∨ a = 11 ∨ a = 12) = (a == 12) from by by_cases k : a = 12 <;> simp [h, h', k]]
  exact this
theorem q5T (s : ByteArray) : ∃ r, q0b (fun k => q1S.f k s) r ∧ q0b (fun k => q1B.f k s) r := by
 unfold q1S.f q1B.f
 by_cases h0 : s.toList = []
 ·exact ⟨_, q0b.ite_pos h0 (q0b.const _), q0b.ite_pos h0 (q0b.const _)⟩
 by_cases h20 : (s.size : Int) ≤ 20
 ·have hp : 0 < s.size := by
   rcases Nat.eq_zero_or_pos s.size with h | h
   ·exact absurd (by rw [ByteArray.toList_eq]; exact List.length_eq_zero_iff.1 (by simpa using h)) h0
   ·exact h
  have hr := q5Z s (by omega) hp
  have hc : ∃ t : Int, q0b (fun k => q0O.f k s) t := by
   cases hb : Sm (bt s 0) with
   | true => obtain ⟨t, _, _, h⟩ := (q4s s (by omega) hp).1 hb; exact ⟨_, h⟩
   | false => exact ⟨_, (q4s s (by omega) hp).2 hb⟩
  obtain ⟨t, hc⟩ := hc
  refine ⟨_, q0b.ite_neg h0 (q0b.ite_pos h20 (q0b.bind hc (q0b.const _))), q0b.ite_neg h0 (q0b.ite_pos h20 (q0b.bind ?_ (q0b.const _)))⟩
  simpa only [hr] using hc
 ·exact ⟨_, q0b.ite_neg h0 (q0b.ite_neg h20 (q0b.const _)), q0b.ite_neg h0 (q0b.ite_neg h20 (q0b.const _))⟩
theorem q5D (s : ByteArray) : ∃ r, q0b (fun k => q1I.f k s) r ∧ q0b (fun k => q1G.f k s) r := by
 obtain ⟨r, h1, h2⟩ := q5T s
 unfold q1I.f q1G.f
 have : ∃ q : Bool, q0b (fun k => if r = true then (if s.toList = ([117] : List UInt8) then (some false) else (some (s.toList != ([120] : List UInt8)))) else (some false)) q := by
  split
  ·split <;> exact ⟨_, q0b.const _⟩
  ·exact ⟨_, q0b.const _⟩
 obtain ⟨q, hq⟩ := this
 exact ⟨q, q0b.bind h1 hq, q0b.bind h2 hq⟩
theorem q6v (x : List S25) (hl : x.length ≤ 1048576) (a : Int) (b : ByteArray) (c : Int) (d : Int) (ih : ∀ y, y ∈ x → ∃ e, q0b (fun k => q0U.f k y.f0 y.f1 y.f2 y.f3 (wrap64 (d + 1))) e ∧ q0b (fun k => q0o.f k y.f0 y.f1 y.f2 y.f3 (wrap64 (d + 1))) e) :
  ∀ (m i : Nat), i + m = x.length → ∃ e, q0b (fun k => q0U.l0 k d x (x.length : Int) (i : Int)) e ∧ q0b (fun k => q0o.l0 k d (i : Int) a b c x) e := by
 intro m
 induction m with
 | zero =>
  intro i hi
  refine ⟨0, q0b.succ ?_, q0b.succ ?_⟩
  ·simp only [q0U.l0]; exact q0b.ite_neg (by omega) (q0b.const _)
  ·simp only [q0o.l0]; exact q0b.ite_neg (by omega) (q0b.const _)
 | succ m IH =>
  intro i hi
  have h : i < x.length := by omega
  obtain ⟨e, h1, h2⟩ := ih _ (List.getElem_mem h)
  obtain ⟨e', h1', h2'⟩ := IH (i + 1) (by omega)
  by_cases he : e = 0
  ·refine ⟨e', q0b.succ ?_, q0b.succ ?_⟩
   ·simp only [q0U.l0, rd25 h, q3f (show i ≤ 1048576 by omega)]
    exact q0b.ite_pos (by omega) (q0b.ite_pos (by omega) (q0b.ite_pos (by omega) (q0b.bind h1 (q0b.ite_pos he h1'))))
   ·simp only [q0o.l0, rd25 h, q3f (show i ≤ 1048576 by omega)]
    exact q0b.ite_pos (by omega) (q0b.ite_pos (by omega) (q0b.bind h2 (q0b.ite_pos he h2')))
  ·refine ⟨e, q0b.succ ?_, q0b.succ ?_⟩
   ·simp only [q0U.l0, rd25 h]
    exact q0b.ite_pos (by omega) (q0b.ite_pos (by omega) (q0b.ite_pos (by omega) (q0b.bind h1 (q0b.ite_neg he (q0b.const _)))))
   ·simp only [q0o.l0, rd25 h]
    exact q0b.ite_pos (by omega) (q0b.ite_pos (by omega) (q0b.bind h2 (q0b.ite_neg he (q0b.const _))))
theorem q4H : ∀ (n : S25), Small n → ∀ d : Int, ∃ e, q0b (fun k => q0U.f k n.f0 n.f1 n.f2 n.f3 d) e ∧ q0b (fun k => q0o.f k n.f0 n.f1 n.f2 n.f3 d) e
 | ⟨a, b, c, x⟩, hs, d => by
  cases hs with
  | mk _ _ _ _ hl hk =>
  obtain ⟨e, L1, L2⟩ := q6v x hl a b c d (fun y hy => q4H y (hk y hy) _) x.length 0 (by omega)
  have J : ∀ z : Bool, ∃ q, q0b (fun k => q0U.j0 k d z a b c x) q ∧ q0b (fun k => q0o.j0 k d z a b c x) q := by
   intro z
   by_cases hz : z = true
   ·refine ⟨2, q0b.succ ?_, q0b.succ ?_⟩
    ·simp only [q0U.j0]; exact q0b.ite_pos hz (q0b.const _)
    ·simp only [q0o.j0]; exact q0b.ite_pos hz (q0b.const _)
   by_cases h0 : c < 0
   ·refine ⟨6, q0b.succ ?_, q0b.succ ?_⟩
    ·simp only [q0U.j0]; exact q0b.ite_neg hz (q0b.ite_pos h0 (q0b.const _))
    ·simp only [q0o.j0]; refine q0b.ite_neg hz (q0b.ite_pos h0 (q0b.succ ?_)); simp only [q0o.j1]; exact q0b.ite_pos trivial (q0b.const _)
   by_cases h9 : c > 9
   ·refine ⟨6, q0b.succ ?_, q0b.succ ?_⟩
    ·simp only [q0U.j0]; exact q0b.ite_neg hz (q0b.ite_neg h0 (q0b.ite_pos h9 (q0b.const _)))
    ·simp only [q0o.j0]; refine q0b.ite_neg hz (q0b.ite_neg h0 (q0b.succ ?_)); simp only [q0o.j1]; exact q0b.ite_pos (decide_eq_true h9) (q0b.const _)
   ·refine ⟨e, q0b.succ ?_, q0b.succ ?_⟩
    ·simp only [q0U.j0]; exact q0b.ite_neg hz (q0b.ite_neg h0 (q0b.ite_neg h9 L1))
    ·simp only [q0o.j0]; refine q0b.ite_neg hz (q0b.ite_neg h0 (q0b.succ ?_)); simp only [q0o.j1]; exact q0b.ite_neg (by simpa using h9) L2
  have s1 := q5p a b c x hl
  have s2 := q5u a b c x hl
  obtain ⟨u, u1, u2⟩ := q5D b
  by_cases h12 : d > 12
  ·refine ⟨3, q0b.succ ?_, q0b.succ ?_⟩
   ·simp only [q0U.f]; exact q0b.ite_pos h12 (q0b.const _)
   ·simp only [q0o.f]; exact q0b.ite_pos h12 (q0b.const _)
  by_cases hS : Shp a b c x = true
  ·by_cases hn : Nm a = true
   ·obtain ⟨q, q1, q2⟩ := J (!u)
    refine ⟨q, q0b.succ ?_, q0b.succ ?_⟩
    ·simp only [q0U.f, q5C, Option.bind_some]
     exact q0b.ite_neg h12 (q0b.bind s1 (q0b.ite_pos hS (q0b.ite_pos hn (q0b.bind u1 q1))))
    ·simp only [q0o.f]
     have hn' : a = 4 ∨ a = 11 ∨ a = 12 := of_decide_eq_true hn
     have B := q0b.bind (g := fun k t953 => q0o.j0 k d (!t953) a b c x) u2 q2
     exact q0b.ite_neg h12 (q0b.bind s2 (q0b.ite_pos hS (q0b.ite (fun _ => B) (fun h4 => q0b.ite (fun _ => B) (fun h11 => q0b.ite (fun _ => B) (fun h12 => absurd hn' (by omega)))))))
   ·obtain ⟨q, q1, q2⟩ := J false
    refine ⟨q, q0b.succ ?_, q0b.succ ?_⟩
    ·simp only [q0U.f, q5C, Option.bind_some]
     exact q0b.ite_neg h12 (q0b.bind s1 (q0b.ite_pos hS (q0b.ite_neg hn q1)))
    ·simp only [q0o.f]
     have hn' : ¬ (a = 4 ∨ a = 11 ∨ a = 12) := fun k => hn (decide_eq_true k)
     exact q0b.ite_neg h12 (q0b.bind s2 (q0b.ite_pos hS (q0b.ite_neg (by omega) (q0b.ite_neg (by omega) (q0b.ite_neg (by omega) q2)))))
  ·refine ⟨1, q0b.succ ?_, q0b.succ ?_⟩
   ·simp only [q0U.f]; exact q0b.ite_neg h12 (q0b.bind s1 (q0b.ite_neg hS (q0b.const _)))
   ·simp only [q0o.f]; exact q0b.ite_neg h12 (q0b.bind s2 (q0b.ite_neg hS (q0b.const _)))
 termination_by n => SizeOf.sizeOf n
 decreasing_by
  have := List.sizeOf_lt_of_mem hy
  simp only [S25.mk.sizeOf_spec]
  omega
theorem q6w (x : List S25) (hl : x.length ≤ 1048576) (a : Int) (b : ByteArray) (c : Int) (ih : ∀ y, y ∈ x → ∃ e, q0b (fun k => q1k.f k y.f0 y.f1 y.f2 y.f3) e ∧ q0b (fun k => q0T.f k y.f0 y.f1 y.f2 y.f3) e) :
  ∀ (m i : Nat), i + m = x.length → ∀ v : Int, ∃ e, q0b (fun k => q1k.l0 k v x (x.length : Int) (i : Int)) e ∧ q0b (fun k => q0T.l0 k v (i : Int) a b c x) e := by
 intro m
 induction m with
 | zero =>
  intro i hi v
  refine ⟨v, q0b.succ ?_, q0b.succ ?_⟩
  ·simp only [q1k.l0]; exact q0b.ite_neg (by omega) (q0b.const _)
  ·simp only [q0T.l0]; exact q0b.ite_neg (by omega) (q0b.const _)
 | succ m IH =>
  intro i hi v
  have h : i < x.length := by omega
  obtain ⟨e, h1, h2⟩ := ih _ (List.getElem_mem h)
  obtain ⟨e', h1', h2'⟩ := IH (i + 1) (by omega) (wrap64 (v + e))
  refine ⟨e', q0b.succ ?_, q0b.succ ?_⟩
  ·simp only [q1k.l0, rd25 h, q3f (show i ≤ 1048576 by omega)]
   exact q0b.ite_pos (by omega) (q0b.ite_pos (by omega) (q0b.ite_pos (by omega) (q0b.bind h1 h1')))
  ·simp only [q0T.l0, rd25 h, q3f (show i ≤ 1048576 by omega)]
   exact q0b.ite_pos (by omega) (q0b.ite_pos (by omega) (q0b.bind h2 h2'))
theorem q5l : ∀ (n : S25), Small n → ∃ e, q0b (fun k => q1k.f k n.f0 n.f1 n.f2 n.f3) e ∧ q0b (fun k => q0T.f k n.f0 n.f1 n.f2 n.f3) e
 | ⟨a, b, c, x⟩, hs => by
  cases hs with
  | mk _ _ _ _ hl hk =>
  obtain ⟨e, L1, L2⟩ := q6w x hl a b c (fun y hy => q5l y (hk y hy)) x.length 0 (by omega) 1
  refine ⟨e, q0b.succ ?_, q0b.succ ?_⟩
  ·simp only [q1k.f]; exact L1
  ·simp only [q0T.f]; exact L2
 termination_by n => SizeOf.sizeOf n
 decreasing_by
  have := List.sizeOf_lt_of_mem hy
  simp only [S25.mk.sizeOf_spec]
  omega
theorem q7i (n : S25) (hs : Small n) : ∃ e, q0b (fun k => q1Z.f k n.f0 n.f1 n.f2 n.f3) e ∧ q0b (fun k => q1Y.f k n.f0 n.f1 n.f2 n.f3) e := by
 obtain ⟨e, h1, h2⟩ := q4H n hs 1
 obtain ⟨v, s1, s2⟩ := q5l n hs
 unfold q1Z.f q1Y.f
 by_cases he : e = 0
 ·by_cases hv : v > 200
  ·exact ⟨3, q0b.bind h1 (q0b.ite_pos he (q0b.bind s1 (q0b.ite_pos hv (q0b.const _)))), q0b.bind h2 (q0b.ite_pos he (q0b.bind s2 (q0b.ite_pos hv (q0b.const _))))⟩
  ·exact ⟨0, q0b.bind h1 (q0b.ite_pos he (q0b.bind s1 (q0b.ite_neg hv (q0b.const _)))), q0b.bind h2 (q0b.ite_pos he (q0b.bind s2 (q0b.ite_neg hv (q0b.const _))))⟩
 ·exact ⟨e, q0b.bind h1 (q0b.ite_neg he (q0b.const _)), q0b.bind h2 (q0b.ite_neg he (q0b.const _))⟩
theorem q6F (x : List S25) (hl : x.length ≤ 1048576) (a : Int) (b : ByteArray) (c : Int) (ih : ∀ y, y ∈ x → q0b (fun k => q0m.f k y.f0 y.f1 y.f2 y.f3 y.f0 y.f1 y.f2 y.f3) true) :
  ∀ (m i : Nat), i + m = x.length → q0b (fun k => q0m.l0 k (i : Int) a b c x a b c x) true := by
 intro m
 induction m with
 | zero =>
  intro i hi
  apply q0b.succ
  simp only [q0m.l0]
  exact q0b.ite_neg (by omega) (q0b.const _)
 | succ m IH =>
  intro i hi
  have h : i < x.length := by omega
  apply q0b.succ
  simp only [q0m.l0, rd25 h, q3f (show i ≤ 1048576 by omega)]
  exact q0b.ite_pos (by omega) (q0b.ite_pos (by omega) (q0b.ite_pos (by omega) (q0b.bind (ih _ (List.getElem_mem h)) (q0b.ite_pos rfl (IH (i + 1) (by omega))))))
theorem q4E : ∀ (n : S25), Small n → q0b (fun k => q0m.f k n.f0 n.f1 n.f2 n.f3 n.f0 n.f1 n.f2 n.f3) true
 | ⟨a, b, c, x⟩, hs => by
  cases hs with
  | mk _ _ _ _ hl hk =>
  apply q0b.succ
  simp only [q0m.f]
  refine q0b.ite_pos trivial (q0b.ite_pos trivial (q0b.ite_pos trivial (q0b.succ ?_)))
  simp only [q0m.j0]
  exact q0b.ite_neg (by simp) (q6F x hl a b c (fun y hy => q4E y (hk y hy)) x.length 0 (by omega))
 termination_by n => SizeOf.sizeOf n
 decreasing_by
  have := List.sizeOf_lt_of_mem hy
  simp only [S25.mk.sizeOf_spec]
  omega
end Go.Proofs.YtmffocankommaaaDoor.U
end
section
namespace Go.Proofs.YtmffocankommaaaDoor.U
open Go.RowKit Go.Proofs.YtmffocankommaaaDoorW.PrintWords Go.Proofs.YtmffocankommaaaDoorW.PrintLast Go.Proofs.YtmffocankommaaaDoorW.PrintMore Go.Proofs.YtmffocankommaaaDoorY
set_option linter.unusedVariables false
theorem q6u (a : ByteArray) : ∃ r : Int × ByteArray × Int × (List S25) × Int, Small ⟨r.1, r.2.1, r.2.2.1, r.2.2.2.1⟩ ∧ q0b (fun k => q1H.f k a) r ∧ q0b (fun k => q1C.f k a) r := by
 obtain ⟨t, hl, t1, t2⟩ := tokens a
 have z : Small ⟨0, ⟨#[]⟩, 0, []⟩ := Small.leaf _ _ _
 unfold q1H.f q1C.f
 by_cases h0 : t.2.2 = 0
 case neg => exact ⟨(0, ⟨#[]⟩, 0, [], t.2.2), z, q0b.bind t1 (q0b.ite_neg h0 (q0b.const _)), q0b.bind t2 (q0b.ite_neg h0 (q0b.const _))⟩
 rcases bodies (show t.1.length ≤ 1000000 by omega) with ⟨n, m, i1, i2, _, _, _, c1, c2⟩ | ⟨n, i', hg, _, _, c1, c2⟩
 ·exact ⟨(0, ⟨#[]⟩, 0, [], 2), z, q0b.bind t1 (q0b.ite_pos h0 (q0b.bind c1 (q0b.ite_pos rfl (q0b.const _)))), q0b.bind t2 (q0b.ite_pos h0 (q0b.bind c2 (q0b.ite_pos rfl (q0b.const _))))⟩
 have nt : ¬ ((q3d n i' false).2.2.2.2.2 = true) := fun k => by cases k
 by_cases hi : (q3d n i' false).2.2.2.2.1 < (t.1.length : Int)
 ·exact ⟨(0, ⟨#[]⟩, 0, [], 2), z, q0b.bind t1 (q0b.ite_pos h0 (q0b.bind c1 (q0b.ite_neg nt (q0b.ite_pos hi (q0b.const _))))), q0b.bind t2 (q0b.ite_pos h0 (q0b.bind c2 (q0b.ite_neg nt (q0b.ite_pos hi (q0b.const _)))))⟩
 obtain ⟨e, b1, b2⟩ := q7i n hg.1
 by_cases he : e = 0
 ·exact ⟨(n.f0, n.f1, n.f2, n.f3, 0), by rw [q3J]; exact hg.1, q0b.bind t1 (q0b.ite_pos h0 (q0b.bind c1 (q0b.ite_neg nt (q0b.ite_neg hi (q0b.bind b1 (q0b.ite_pos he (q0b.const _))))))), q0b.bind t2 (q0b.ite_pos h0 (q0b.bind c2 (q0b.ite_neg nt (q0b.ite_neg hi (q0b.bind b2 (q0b.ite_pos he (q0b.const _)))))))⟩
 ·exact ⟨(0, ⟨#[]⟩, 0, [], e), z, q0b.bind t1 (q0b.ite_pos h0 (q0b.bind c1 (q0b.ite_neg nt (q0b.ite_neg hi (q0b.bind b1 (q0b.ite_neg he (q0b.const _))))))), q0b.bind t2 (q0b.ite_pos h0 (q0b.bind c2 (q0b.ite_neg nt (q0b.ite_neg hi (q0b.bind b2 (q0b.ite_neg he (q0b.const _)))))))⟩
set_option maxRecDepth 100000 in
theorem q7k : q1K.f 100 = some true := by decide +kernel
theorem q4x : q0b (fun k => q1K.f k) true := q0b.mono (fun k => q1K.mono k) 100 q7k
theorem q3B (a : ByteArray) : q0b (fun k => q1i.f k a) true := by
 obtain ⟨r, hr, r1, r2⟩ := q6u a
 unfold q1i.f
 refine q0b.bind q4x (q0b.ite_pos rfl (q0b.succ ?_))
 simp only [q1i.j0]
 refine q0b.ite (fun h => q0b.bind q4x (q0b.const _)) (fun h => q0b.bind r1 (q0b.bind r2 (q0b.ite_pos rfl (q0b.bind (q4E _ hr) (q0b.const _)))))
end Go.Proofs.YtmffocankommaaaDoor.U
end
section
namespace Go.Proofs.YtmffocankommaaaDoor.WitP
open Go.ChangeShapes Go.WideShapes Go.ChangeAt Go.RowKit
/-- The values of a table's datum. -/
def vals (d : DataW Unit) : Array Value :=
 match d with
 | .agg l => (l.map fun
  | .lit (.int .u8 n) => Value.int .u8 n
  | .lit (.int .u64 n) => Value.int .u64 n
  | _ => .bool false).toArray
 | _ => #[]
def held (v : Array Value) : Obj → Obj
 | .cells _ t frozen => .cells v t frozen
 | o => o
noncomputable def laidWorld (os : Os) : World :=
 { World.holding Tryd.prog os ⟨#[], #[], []⟩ with heap := (((World.holding Tryd.prog os ⟨#[], #[], []⟩).heap.modify 1 (held (vals Rows.laid_internal_strconv_uint64pow10))).modify 2 (held (vals Rows.laid_math_bits_deBruijn32tab))).modify 3 (held (vals Rows.laid_math_bits_deBruijn64tab)) }
theorem laid_met (os : Os) : laidMet Tryd.prog Rows.metreParsesBodyRow.laid ((laidWorld os).forCall (fun _ _ => 0) ⟨#[], #[.string ByteArray.empty], []⟩).memory :=
 laidMet_of_run' 8 (by kernel_rfl) (by kernel_rfl)
theorem reads (os : Os) {H : Type} (enc : TypeId × Value → H) : ∃ ds places, DataW.whole enc Tryd.prog ((laidWorld os).forCall (fun _ _ => 0) ⟨#[], #[.string ByteArray.empty], []⟩).memory Tryd.f3.params.toList Rows.metreParsesBodySpec.vars false #[.string ByteArray.empty].toList 8 = some (ds, [], places) := by
 have h : (match DataW.whole enc Tryd.prog ((laidWorld os).forCall (fun _ _ => 0) ⟨#[], #[.string ByteArray.empty], []⟩).memory Tryd.f3.params.toList Rows.metreParsesBodySpec.vars false #[.string ByteArray.empty].toList 8 with
  | some (ds, [], _) => true
  | _ => false) = true := by kernel_rfl
 split at h
 ·rename_i ds p he
  exact ⟨ds, p, he⟩
 ·cases h
end Go.Proofs.YtmffocankommaaaDoor.WitP
end
