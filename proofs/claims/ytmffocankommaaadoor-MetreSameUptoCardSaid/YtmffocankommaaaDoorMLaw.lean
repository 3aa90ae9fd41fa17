/- The plain law: what the walks' functions compute answers as the statement says; the opening of the arguments; the witness's world. No program in sight but its types. Conditions: the lists within the arguments are no longer than the row's bulk. -/
import Derived.Test.YtmffocankommaaaDoorMx25
import Derived.Test.YtmffocankommaaaDoorRows
import Derived.Deep.Slices
import Derived.ChangeArms
import Derived.WalkKit
import Derived.ProofKit
import Derived.OpenShut
import Derived.Deep.DeepHandedRow
import Derived.Lib.LaidTab
section
namespace Go.Proofs.YtmffocankommaaaDoor.P
open Go.RowKit Go.Proofs.YtmffocankommaaaDoorW.PrintWords Go.Proofs.YtmffocankommaaaDoorW.PrintLast Go.Proofs.YtmffocankommaaaDoorW.PrintMore Go.Proofs.YtmffocankommaaaDoorY
/-- From some number of rounds on, f comes to r. -/
def Comes {α : Type} (f : Nat → Option α) (r : α) : Prop := ∃ K, ∀ k, K ≤ k → f k = some r
theorem Comes.bind {α β : Type} {f : Nat → Option α} {g : Nat → α → Option β} {x : α} {r : β} (h : Comes f x) (hg : Comes (fun k => g k x) r) : Comes (fun k => (f k).bind (g k)) r := by
  obtain ⟨K, h⟩ := h
  obtain ⟨L, hg⟩ := hg
  exact ⟨max K L, fun k hk => by
    show (f k).bind (g k) = some r
    rw [h k (by omega)]
    exact hg k (by omega)⟩
theorem Comes.const {α : Type} (r : α) : Comes (fun _ => some r) r := ⟨0, fun _ _ => rfl⟩
theorem Comes.succ {α : Type} {f : Nat → Option α} {r : α} (h : Comes (fun k => f (k + 1)) r) : Comes f r := by
  obtain ⟨K, h⟩ := h
  exact ⟨K + 1, fun k hk => by
    obtain ⟨j, rfl⟩ : ∃ j, k = j + 1 := ⟨k - 1, by omega⟩
    exact h j (by omega)⟩
theorem Comes.ite_pos {α : Type} {c : Prop} [Decidable c] {f g : Nat → Option α} {r : α} (hc : c) (h : Comes f r) : Comes (fun k => if c then f k else g k) r := by simpa only [if_pos hc] using h
theorem Comes.ite_neg {α : Type} {c : Prop} [Decidable c] {f g : Nat → Option α} {r : α} (hc : ¬ c) (h : Comes g r) : Comes (fun k => if c then f k else g k) r := by simpa only [if_neg hc] using h
/-- Lists within a node are no longer than 2^20. -/
inductive Small : S25 → Prop
  | mk (a : Int) (b : ByteArray) (c : Int) (l : List S25) (hl : l.length ≤ 1048576) (hk : ∀ x, x ∈ l → Small x) : Small ⟨a, b, c, l⟩
theorem wrap_small {i : Nat} (h : i ≤ 1048576) : wrap64 ((i : Int) + 1) = ((i + 1 : Nat) : Int) := by unfold wrap64; omega
theorem rd25 {xs : List S25} {i : Nat} (h : i < xs.length) : rd_T25 xs (i : Int) = xs[i] := by
  show xs.getD i z25 = xs[i]
  rw [List.getD_eq_getElem?_getD, List.getElem?_eq_getElem h]
  rfl
theorem node_loop (xs : List S25) (hl : xs.length ≤ 1048576) (a : Int) (b : ByteArray) (c : Int) (ih : ∀ x, x ∈ xs → Comes (fun k => ancepslaw22_node.f k x.f0 x.f1 x.f2 x.f3) (x.f0, x.f1, x.f2, x.f3)) :
    ∀ m i, i + m = xs.length → Comes (fun k => ancepslaw22_node.l0 k xs (xs.length : Int) (i : Int) a b c (xs.take i)) (a, b, c, xs) := by
  intro m
  induction m with
  | zero =>
    intro i hi
    obtain rfl : i = xs.length := by omega
    apply Comes.succ
    simp only [ancepslaw22_node.l0]
    refine Comes.ite_neg (by omega) ?_
    rw [List.take_length]
    exact Comes.const _
  | succ m IH =>
    intro i hi
    have hlt : i < xs.length := by omega
    apply Comes.succ
    simp only [ancepslaw22_node.l0]
    refine Comes.ite_pos (by omega) (Comes.ite_pos (by omega) (Comes.ite_pos (by omega) ?_))
    rw [rd25 hlt]
    refine Comes.bind (ih _ (List.getElem_mem hlt)) ?_
    refine Comes.ite_pos (by rw [List.length_take]; omega) ?_
    have h := IH (i + 1) (by omega)
    rw [wrap_small (by omega)]
    rw [List.take_succ_eq_append_getElem hlt] at h
    generalize xs[i] = y at h ⊢
    cases y
    exact h
theorem node_comes : ∀ n : S25, Small n → Comes (fun k => ancepslaw22_node.f k n.f0 n.f1 n.f2 n.f3) (n.f0, n.f1, n.f2, n.f3)
  | ⟨a, b, c, l⟩, hs => by
    cases hs with
    | mk _ _ _ _ hl hk =>
    apply Comes.succ
    simp only [ancepslaw22_node.f]
    exact node_loop l hl a b c (fun x hx => node_comes x (hk x hx)) l.length 0 (by omega)
  termination_by n => SizeOf.sizeOf n
  decreasing_by
    have := List.sizeOf_lt_of_mem hx
    simp only [S25.mk.sizeOf_spec]
    omega
theorem rd86 {xs : List S86} {i : Nat} (h : i < xs.length) : rd_T86 xs (i : Int) = xs[i] := by
  show xs.getD i z86 = xs[i]
  rw [List.getD_eq_getElem?_getD, List.getElem?_eq_getElem h]
  rfl
theorem rd88 {xs : List S88} {i : Nat} (h : i < xs.length) : rd_T88 xs (i : Int) = xs[i] := by
  show xs.getD i z88 = xs[i]
  rw [List.getD_eq_getElem?_getD, List.getElem?_eq_getElem h]
  rfl
theorem rdl7 {xs : List (List ByteArray)} {i : Nat} (h : i < xs.length) : rd_L7 xs (i : Int) = xs[i] := by
  show xs.getD i [] = xs[i]
  rw [List.getD_eq_getElem?_getD, List.getElem?_eq_getElem h]
  rfl
theorem copied_l1 (xs : List (List ByteArray)) (hl : xs.length ≤ 1048576) (hk : ∀ x, x ∈ xs → x.length ≤ 1048576) (a : ByteArray) (b : List S86) (c : List S88) (d : Int) (e : ByteArray) (f : Int) (g : List S25) :
    ∀ m i, i + m = xs.length → Comes (fun k => ancepslaw22_copied.l1 k xs (xs.length : Int) (i : Int) a b c (xs.take i) d e f g) (a, b, c, xs, d, e, f, g) := by
  intro m
  induction m with
  | zero =>
    intro i hi
    obtain rfl : i = xs.length := by omega
    apply Comes.succ
    simp only [ancepslaw22_copied.l1]
    refine Comes.ite_neg (by omega) ?_
    rw [List.take_length]
    exact Comes.const _
  | succ m IH =>
    intro i hi
    have hlt : i < xs.length := by omega
    apply Comes.succ
    simp only [ancepslaw22_copied.l1]
    refine Comes.ite_pos (by omega) (Comes.ite_pos (by omega) (Comes.ite_pos (by omega) ?_))
    rw [rdl7 hlt]
    refine Comes.bind (x := xs[i]) ⟨0, fun _ _ => by unfold slices_Clone_string_string.f; rw [if_pos (hk _ (List.getElem_mem hlt))]⟩ ?_
    refine Comes.ite_pos (by rw [List.length_take]; omega) ?_
    have h := IH (i + 1) (by omega)
    rw [wrap_small (by omega)]
    rw [List.take_succ_eq_append_getElem hlt] at h
    exact h
theorem copied_l0 (xs : List S86) (hl : xs.length ≤ 1048576) (hk : ∀ x, x ∈ xs → Small x.f1) (ls : List (List ByteArray)) (hl3 : ls.length ≤ 1048576) (hk3 : ∀ x, x ∈ ls → x.length ≤ 1048576) (n0 : ByteArray) (n1 : List S86) (n2 : List S88) (n4 : Int) (n5 : ByteArray) (n6 : Int) (n7 : List S25) (a : ByteArray) (c : List S88) (d : Int) (e : ByteArray) (f : Int) (g : List S25) :
    ∀ m i, i + m = xs.length → Comes (fun k => ancepslaw22_copied.l0 k xs (xs.length : Int) (i : Int) n0 n1 n2 ls n4 n5 n6 n7 a (xs.take i) c d e f g) (a, xs, c, ls, d, e, f, g) := by
  intro m
  induction m with
  | zero =>
    intro i hi
    obtain rfl : i = xs.length := by omega
    apply Comes.succ
    simp only [ancepslaw22_copied.l0]
    refine Comes.ite_neg (by omega) ?_
    rw [List.take_length]
    exact copied_l1 ls hl3 hk3 a xs c d e f g ls.length 0 (by omega)
  | succ m IH =>
    intro i hi
    have hlt : i < xs.length := by omega
    apply Comes.succ
    simp only [ancepslaw22_copied.l0]
    refine Comes.ite_pos (by omega) (Comes.ite_pos (by omega) (Comes.ite_pos (by omega) ?_))
    rw [rd86 hlt]
    refine Comes.bind (node_comes _ (hk _ (List.getElem_mem hlt))) ?_
    refine Comes.ite_pos (by rw [List.length_take]; omega) ?_
    have h := IH (i + 1) (by omega)
    rw [wrap_small (by omega)]
    rw [List.take_succ_eq_append_getElem hlt] at h
    generalize xs[i] = y at h ⊢
    obtain ⟨y0, y1⟩ := y
    cases y1
    exact h
theorem copied_comes (a0 : ByteArray) (l1 : List S86) (l2 : List S88) (l3 : List (List ByteArray)) (a4 : Int) (a5 : ByteArray) (a6 : Int) (l7 : List S25) (h1 : l1.length ≤ 1048576) (h1k : ∀ x, x ∈ l1 → Small x.f1) (h2 : l2.length ≤ 1048576) (h3 : l3.length ≤ 1048576) (h3k : ∀ x, x ∈ l3 → x.length ≤ 1048576) (h7 : Small ⟨a4, a5, a6, l7⟩) :
    Comes (fun k => ancepslaw22_copied.f k a0 l1 l2 l3 a4 a5 a6 l7) (a0, l1, l2, l3, a4, a5, a6, l7) := by
  unfold ancepslaw22_copied.f
  refine Comes.bind (x := l2) ⟨0, fun _ _ => by unfold api_Counter_63.f; rw [if_pos h2]⟩ ?_
  refine Comes.bind (node_comes ⟨a4, a5, a6, l7⟩ h7) ?_
  exact copied_l0 l1 h1 h1k l3 h3 h3k a0 l1 l2 a4 a5 a6 l7 a0 l2 a4 a5 a6 l7 l1.length 0 (by omega)
end Go.Proofs.YtmffocankommaaaDoor.P
end

section
namespace Go.Proofs.YtmffocankommaaaDoor.P
open Go.RowKit Go.Proofs.YtmffocankommaaaDoorW.PrintWords Go.Proofs.YtmffocankommaaaDoorW.PrintLast Go.Proofs.YtmffocankommaaaDoorW.PrintMore Go.Proofs.YtmffocankommaaaDoorY
theorem loop_all (len : Nat) (P : Nat → Prop) (L : Nat → Nat → Option Bool) (hend : Comes (L len) true)
    (hstep : ∀ i, i < len → ∃ r : Bool, (r = true ↔ P i) ∧ (r = true → ∀ q, Comes (L (i + 1)) q → Comes (L i) q) ∧ (r = false → Comes (L i) false)) :
    ∀ m i, i + m = len → ∃ r : Bool, (r = true ↔ ∀ j, i ≤ j → j < len → P j) ∧ Comes (L i) r := by
  intro m
  induction m with
  | zero =>
    intro i hi
    obtain rfl : i = len := by omega
    exact ⟨true, ⟨fun _ j h1 h2 => by omega, fun _ => rfl⟩, hend⟩
  | succ m IH =>
    intro i hi
    obtain ⟨r, hr, ht, hf⟩ := hstep i (by omega)
    cases r with
    | false => exact ⟨false, ⟨fun h => (by cases h), fun h => absurd (hr.2 (h i (Nat.le_refl _) (by omega))) (by decide)⟩, hf rfl⟩
    | true =>
      obtain ⟨q, hq, hc⟩ := IH (i + 1) (by omega)
      refine ⟨q, ⟨fun h j h1 h2 => ?_, fun h => hq.2 (fun j h1 h2 => h j (by omega) h2)⟩, ht rfl q hc⟩
      rcases Nat.eq_or_lt_of_le h1 with rfl | h3
      · exact hr.1 rfl
      · exact hq.1 h j h3 h2
/-- Two nodes are the same, field by field. -/
inductive R : S25 → S25 → Prop
  | mk (a : Int) (b b' : ByteArray) (c : Int) (l l' : List S25) (hb : b.toList = b'.toList) (hl : l.length = l'.length) (hk : ∀ i (h : i < l.length) (h' : i < l'.length), R l[i] l'[i]) : R ⟨a, b, c, l⟩ ⟨a, b', c, l'⟩
theorem R.refl : ∀ n : S25, R n n
  | ⟨a, b, c, l⟩ => .mk a b b c l l rfl rfl (fun i h _ => R.refl l[i])
  termination_by n => SizeOf.sizeOf n
  decreasing_by
    have := List.sizeOf_lt_of_mem (List.getElem_mem h)
    simp only [S25.mk.sizeOf_spec]
    omega
theorem same_loop (l l' : List S25) (hl : l.length ≤ 1048576) (he : l.length = l'.length) (ih : ∀ i (h : i < l.length) (h' : i < l'.length), ∃ r : Bool, (r = true ↔ R l[i] l'[i]) ∧ Comes (fun k => metre_same.f k l[i].f0 l[i].f1 l[i].f2 l[i].f3 l'[i].f0 l'[i].f1 l'[i].f2 l'[i].f3) r) :
    ∃ r : Bool, (r = true ↔ ∀ i (h : i < l.length) (h' : i < l'.length), R l[i] l'[i]) ∧ Comes (fun k => api_Node_105.l0 k l' l (l.length : Int) 0) r := by
  have hend : Comes (fun k => api_Node_105.l0 k l' l (l.length : Int) (l.length : Int)) true := by
    apply Comes.succ
    simp only [api_Node_105.l0]
    exact Comes.ite_neg (by omega) (Comes.const _)
  have hstep : ∀ i, i < l.length → ∃ r : Bool, (r = true ↔ ∀ (h : i < l.length) (h' : i < l'.length), R l[i] l'[i]) ∧ (r = true → ∀ q, Comes (fun k => api_Node_105.l0 k l' l (l.length : Int) ((i + 1 : Nat) : Int)) q → Comes (fun k => api_Node_105.l0 k l' l (l.length : Int) (i : Int)) q) ∧ (r = false → Comes (fun k => api_Node_105.l0 k l' l (l.length : Int) (i : Int)) false) := by
    intro i hi
    obtain ⟨r, hr, hc⟩ := ih i hi (by omega)
    refine ⟨r, ⟨fun h _ _ => hr.1 h, fun h => hr.2 (h hi (by omega))⟩, ?_, ?_⟩
    · rintro rfl q hq
      apply Comes.succ
      simp only [api_Node_105.l0]
      refine Comes.ite_pos (by omega) (Comes.ite_pos (by omega) (Comes.ite_pos (by omega) (Comes.ite_pos (by omega) ?_)))
      rw [rd25 hi, rd25 (show i < l'.length by omega)]
      refine Comes.bind hc (Comes.ite_pos rfl ?_)
      rw [wrap_small (by omega)]
      exact hq
    · rintro rfl
      apply Comes.succ
      simp only [api_Node_105.l0]
      refine Comes.ite_pos (by omega) (Comes.ite_pos (by omega) (Comes.ite_pos (by omega) (Comes.ite_pos (by omega) ?_)))
      rw [rd25 hi, rd25 (show i < l'.length by omega)]
      exact Comes.bind hc (Comes.ite_neg (by decide) (Comes.const _))
  obtain ⟨r, hr, hc⟩ := loop_all l.length (fun i => ∀ (h : i < l.length) (h' : i < l'.length), R l[i] l'[i]) (fun i k => api_Node_105.l0 k l' l (l.length : Int) (i : Int)) hend hstep l.length 0 (by omega)
  exact ⟨r, ⟨fun h i h1 h2 => hr.1 h i (Nat.zero_le _) h1 h1 h2, fun h => hr.2 (fun j _ _ h1 h2 => h j h1 h2)⟩, hc⟩
theorem same_comes : ∀ n m : S25, Small n → ∃ r : Bool, (r = true ↔ R n m) ∧ Comes (fun k => metre_same.f k n.f0 n.f1 n.f2 n.f3 m.f0 m.f1 m.f2 m.f3) r
  | ⟨a, b, c, l⟩, ⟨a', b', c', l'⟩, hs => by
    cases hs with
    | mk _ _ _ _ hl hk =>
    by_cases h0 : a = a'
    case neg => exact ⟨false, ⟨fun h => (by cases h), fun h => (by cases h; exact absurd rfl h0)⟩, Comes.succ (by simp only [metre_same.f]; exact Comes.ite_neg h0 (Comes.const _))⟩
    by_cases h1 : b.toList = b'.toList
    case neg => exact ⟨false, ⟨fun h => (by cases h), fun h => (by cases h; contradiction)⟩, Comes.succ (by simp only [metre_same.f]; exact Comes.ite_pos h0 (Comes.ite_neg h1 (Comes.const _)))⟩
    by_cases h2 : c = c'
    case neg => exact ⟨false, ⟨fun h => (by cases h), fun h => (by cases h; exact absurd rfl h2)⟩, Comes.succ (by simp only [metre_same.f]; exact Comes.ite_pos h0 (Comes.ite_pos h1 (Comes.ite_neg h2 (Comes.const _))))⟩
    by_cases h3 : l.length = l'.length
    case neg => exact ⟨false, ⟨fun h => (by cases h), fun h => (by cases h; contradiction)⟩, Comes.succ (by simp only [metre_same.f]; exact Comes.ite_pos h0 (Comes.ite_pos h1 (Comes.ite_pos h2 (Comes.bind (x := false) (Comes.succ (by simp only [api_Node_105.f]; exact Comes.ite_neg (by omega) (Comes.const _))) (Comes.const _)))))⟩
    obtain ⟨r, hr, hc⟩ := same_loop l l' hl h3 (fun i h h' => same_comes l[i] l'[i] (hk _ (List.getElem_mem h)))
    subst h0 h2
    refine ⟨r, ⟨fun h => .mk a b b' c l l' h1 h3 (hr.1 h), fun h => hr.2 (by cases h; assumption)⟩, Comes.succ ?_⟩
    simp only [metre_same.f]
    refine Comes.ite_pos (by first | rfl | trivial) (Comes.ite_pos h1 (Comes.ite_pos (by first | rfl | trivial) (Comes.bind (x := r) (Comes.succ ?_) (Comes.const _))))
    simp only [api_Node_105.f]
    exact Comes.ite_pos (by omega) hc
  termination_by n => SizeOf.sizeOf n
  decreasing_by
    have := List.sizeOf_lt_of_mem (List.getElem_mem h)
    simp only [S25.mk.sizeOf_spec]
    omega
theorem rsame_loop (a a' : Int) (b b' : ByteArray) (c c' : Int) (l l' : List S25) (hl : l.length ≤ 1048576) (he : l.length = l'.length) (ih : ∀ i (h : i < l.length) (h' : i < l'.length), ∃ r : Bool, (r = true ↔ R l[i] l'[i]) ∧ Comes (fun k => ancepsref22_SameNode.f k l[i].f0 l[i].f1 l[i].f2 l[i].f3 l'[i].f0 l'[i].f1 l'[i].f2 l'[i].f3) r) :
    ∃ r : Bool, (r = true ↔ ∀ i (h : i < l.length) (h' : i < l'.length), R l[i] l'[i]) ∧ Comes (fun k => ancepsref22_SameNode.l0 k 0 a b c l a' b' c' l') r := by
  have hend : Comes (fun k => ancepsref22_SameNode.l0 k (l.length : Int) a b c l a' b' c' l') true := by
    apply Comes.succ
    simp only [ancepsref22_SameNode.l0]
    exact Comes.ite_neg (by omega) (Comes.const _)
  have hstep : ∀ i, i < l.length → ∃ r : Bool, (r = true ↔ ∀ (h : i < l.length) (h' : i < l'.length), R l[i] l'[i]) ∧ (r = true → ∀ q, Comes (fun k => ancepsref22_SameNode.l0 k ((i + 1 : Nat) : Int) a b c l a' b' c' l') q → Comes (fun k => ancepsref22_SameNode.l0 k (i : Int) a b c l a' b' c' l') q) ∧ (r = false → Comes (fun k => ancepsref22_SameNode.l0 k (i : Int) a b c l a' b' c' l') false) := by
    intro i hi
    obtain ⟨r, hr, hc⟩ := ih i hi (by omega)
    refine ⟨r, ⟨fun h _ _ => hr.1 h, fun h => hr.2 (h hi (by omega))⟩, ?_, ?_⟩
    · rintro rfl q hq
      apply Comes.succ
      simp only [ancepsref22_SameNode.l0]
      refine Comes.ite_pos (by omega) (Comes.ite_pos (by omega) (Comes.ite_pos (by omega) ?_))
      rw [rd25 hi, rd25 (show i < l'.length by omega)]
      refine Comes.bind hc (Comes.ite_pos rfl ?_)
      rw [wrap_small (by omega)]
      exact hq
    · rintro rfl
      apply Comes.succ
      simp only [ancepsref22_SameNode.l0]
      refine Comes.ite_pos (by omega) (Comes.ite_pos (by omega) (Comes.ite_pos (by omega) ?_))
      rw [rd25 hi, rd25 (show i < l'.length by omega)]
      exact Comes.bind hc (Comes.ite_neg (by decide) (Comes.const _))
  obtain ⟨r, hr, hc⟩ := loop_all l.length (fun i => ∀ (h : i < l.length) (h' : i < l'.length), R l[i] l'[i]) (fun i k => ancepsref22_SameNode.l0 k (i : Int) a b c l a' b' c' l') hend hstep l.length 0 (by omega)
  exact ⟨r, ⟨fun h i h1 h2 => hr.1 h i (Nat.zero_le _) h1 h1 h2, fun h => hr.2 (fun j _ _ h1 h2 => h j h1 h2)⟩, hc⟩
theorem rsame_no (a a' : Int) (b b' : ByteArray) (c c' : Int) (l l' : List S25) : Comes (fun k => ancepsref22_SameNode.j0 k true a b c l a' b' c' l') false :=
  Comes.succ (by simp only [ancepsref22_SameNode.j0]; exact Comes.ite_pos (by first | rfl | trivial) (Comes.const _))
theorem rsame_comes : ∀ n m : S25, Small n → ∃ r : Bool, (r = true ↔ R n m) ∧ Comes (fun k => ancepsref22_SameNode.f k n.f0 n.f1 n.f2 n.f3 m.f0 m.f1 m.f2 m.f3) r
  | ⟨a, b, c, l⟩, ⟨a', b', c', l'⟩, hs => by
    cases hs with
    | mk _ _ _ _ hl hk =>
    by_cases h0 : a = a'
    case neg => exact ⟨false, ⟨fun h => (by cases h), fun h => (by cases h; exact absurd rfl h0)⟩, Comes.succ (by simp only [ancepsref22_SameNode.f]; exact Comes.ite_neg h0 (rsame_no _ _ _ _ _ _ _ _))⟩
    by_cases h1 : b.toList = b'.toList
    case neg => exact ⟨false, ⟨fun h => (by cases h), fun h => (by cases h; contradiction)⟩, Comes.succ (by simp only [ancepsref22_SameNode.f]; exact Comes.ite_pos h0 (Comes.ite_neg h1 (rsame_no _ _ _ _ _ _ _ _)))⟩
    by_cases h2 : c = c'
    case neg => exact ⟨false, ⟨fun h => (by cases h), fun h => (by cases h; exact absurd rfl h2)⟩, Comes.succ (by simp only [ancepsref22_SameNode.f]; exact Comes.ite_pos h0 (Comes.ite_pos h1 (Comes.ite_neg h2 (rsame_no _ _ _ _ _ _ _ _))))⟩
    by_cases h3 : l.length = l'.length
    case neg =>
      refine ⟨false, ⟨fun h => (by cases h), fun h => (by cases h; contradiction)⟩, Comes.succ ?_⟩
      simp only [ancepsref22_SameNode.f]
      refine Comes.ite_pos h0 (Comes.ite_pos h1 (Comes.ite_pos h2 ?_))
      rw [show ((l.length : Int) != (l'.length : Int)) = true from bne_iff_ne.2 (by omega)]
      exact rsame_no _ _ _ _ _ _ _ _
    obtain ⟨r, hr, hc⟩ := rsame_loop a a' b b' c c' l l' hl h3 (fun i h h' => rsame_comes l[i] l'[i] (hk _ (List.getElem_mem h)))
    subst h0 h2
    refine ⟨r, ⟨fun h => .mk a b b' c l l' h1 h3 (hr.1 h), fun h => hr.2 (by cases h; assumption)⟩, Comes.succ ?_⟩
    simp only [ancepsref22_SameNode.f]
    refine Comes.ite_pos (by first | rfl | trivial) (Comes.ite_pos h1 (Comes.ite_pos (by first | rfl | trivial) ?_))
    rw [show ((l.length : Int) != (l'.length : Int)) = false by rw [h3]; simp]
    refine Comes.succ ?_
    simp only [ancepsref22_SameNode.j0]
    exact Comes.ite_neg (by decide) hc
  termination_by n => SizeOf.sizeOf n
  decreasing_by
    have := List.sizeOf_lt_of_mem (List.getElem_mem h)
    simp only [S25.mk.sizeOf_spec]
    omega
end Go.Proofs.YtmffocankommaaaDoor.P
end

section
namespace Go.Proofs.YtmffocankommaaaDoor.P
open Go.RowKit Go.Proofs.YtmffocankommaaaDoorW.PrintWords Go.Proofs.YtmffocankommaaaDoorW.PrintLast Go.Proofs.YtmffocankommaaaDoorW.PrintMore Go.Proofs.YtmffocankommaaaDoorY
theorem rdS {xs : List ByteArray} {i : Nat} (h : i < xs.length) : rdOf ByteArray.empty xs (i : Int) = xs[i] := by
  show xs.getD i ByteArray.empty = xs[i]
  rw [List.getD_eq_getElem?_getD, List.getElem?_eq_getElem h]
  rfl
def SR (l l' : List ByteArray) : Prop := l.length = l'.length ∧ ∀ i (h : i < l.length) (h' : i < l'.length), l[i].toList = l'[i].toList
def CR (x y : S88) : Prop := x.f0.toList = y.f0.toList ∧ x.f1 = y.f1 ∧ x.f2 = y.f2
def FR (x y : S86) : Prop := x.f0.toList = y.f0.toList ∧ R x.f1 y.f1
theorem strs_loop  (l l' : List ByteArray) (hl : l.length ≤ 1048576) (he : l.length = l'.length) :
    ∃ r : Bool, (r = true ↔ ∀ i (h : i < l.length) (h' : i < l'.length), l[i].toList = l'[i].toList) ∧ Comes (fun k => slices_Equal_string_string.l0 k l l' (l.length : Int) 0) r := by
  have hend : Comes (fun k => slices_Equal_string_string.l0 k l l' (l.length : Int) (l.length : Int)) true := by
    apply Comes.succ
    simp only [slices_Equal_string_string.l0]
    exact Comes.ite_neg (by omega) (Comes.const _)
  have hstep : ∀ i, i < l.length → ∃ r : Bool, (r = true ↔ ∀ (h : i < l.length) (h' : i < l'.length), l[i].toList = l'[i].toList) ∧ (r = true → ∀ q, Comes (fun k => slices_Equal_string_string.l0 k l l' (l.length : Int) ((i + 1 : Nat) : Int)) q → Comes (fun k => slices_Equal_string_string.l0 k l l' (l.length : Int) (i : Int)) q) ∧ (r = false → Comes (fun k => slices_Equal_string_string.l0 k l l' (l.length : Int) (i : Int)) false) := by
    intro i hi
    have hi' : i < l'.length := by omega
    obtain ⟨r, hr⟩ : ∃ r : Bool, (r = true ↔ l[i].toList = l'[i].toList) := by
      open Classical in exact ⟨decide _, decide_eq_true_iff⟩
    refine ⟨r, ⟨fun h _ _ => hr.1 h, fun h => hr.2 (h hi (by omega))⟩, ?_, ?_⟩
    · intro hrt q hq
      apply Comes.succ
      simp only [slices_Equal_string_string.l0]
      refine Comes.ite_pos (by omega) (Comes.ite_pos (by omega) (Comes.ite_pos (by omega) (Comes.ite_pos (by omega) (?_))))
      rw [rdS hi, rdS hi']
      refine Comes.ite_pos (hr.1 hrt) ?_
      rw [wrap_small (by omega)]
      exact hq
    · intro hrf
      apply Comes.succ
      simp only [slices_Equal_string_string.l0]
      refine Comes.ite_pos (by omega) (Comes.ite_pos (by omega) (Comes.ite_pos (by omega) (Comes.ite_pos (by omega) (?_))))
      rw [rdS hi, rdS hi']
      exact Comes.ite_neg (fun h => by rw [hr.2 h] at hrf; cases hrf) (Comes.const _)
  obtain ⟨r, hr, hc⟩ := loop_all l.length (fun i => ∀ (h : i < l.length) (h' : i < l'.length), l[i].toList = l'[i].toList) (fun i k => slices_Equal_string_string.l0 k l l' (l.length : Int) (i : Int)) hend hstep l.length 0 (by omega)
  exact ⟨r, ⟨fun h i h1 h2 => hr.1 h i (Nat.zero_le _) h1 h1 h2, fun h => hr.2 (fun j _ _ h1 h2 => h j h1 h2)⟩, hc⟩
theorem rstrs_loop  (l l' : List ByteArray) (hl : l.length ≤ 1048576) (he : l.length = l'.length) :
    ∃ r : Bool, (r = true ↔ ∀ i (h : i < l.length) (h' : i < l'.length), l[i].toList = l'[i].toList) ∧ Comes (fun k => ancepsref22_Strings.l0 k l l' 0) r := by
  have hend : Comes (fun k => ancepsref22_Strings.l0 k l l' (l.length : Int)) true := by
    apply Comes.succ
    simp only [ancepsref22_Strings.l0]
    exact Comes.ite_neg (by omega) (Comes.const _)
  have hstep : ∀ i, i < l.length → ∃ r : Bool, (r = true ↔ ∀ (h : i < l.length) (h' : i < l'.length), l[i].toList = l'[i].toList) ∧ (r = true → ∀ q, Comes (fun k => ancepsref22_Strings.l0 k l l' ((i + 1 : Nat) : Int)) q → Comes (fun k => ancepsref22_Strings.l0 k l l' (i : Int)) q) ∧ (r = false → Comes (fun k => ancepsref22_Strings.l0 k l l' (i : Int)) false) := by
    intro i hi
    have hi' : i < l'.length := by omega
    obtain ⟨r, hr⟩ : ∃ r : Bool, (r = true ↔ l[i].toList = l'[i].toList) := by
      open Classical in exact ⟨decide _, decide_eq_true_iff⟩
    refine ⟨r, ⟨fun h _ _ => hr.1 h, fun h => hr.2 (h hi (by omega))⟩, ?_, ?_⟩
    · intro hrt q hq
      apply Comes.succ
      simp only [ancepsref22_Strings.l0]
      refine Comes.ite_pos (by omega) (Comes.ite_pos (by omega) (Comes.ite_pos (by omega) (?_)))
      rw [rdS hi, rdS hi']
      refine Comes.ite_pos (hr.1 hrt) ?_
      rw [wrap_small (by omega)]
      exact hq
    · intro hrf
      apply Comes.succ
      simp only [ancepsref22_Strings.l0]
      refine Comes.ite_pos (by omega) (Comes.ite_pos (by omega) (Comes.ite_pos (by omega) (?_)))
      rw [rdS hi, rdS hi']
      exact Comes.ite_neg (fun h => by rw [hr.2 h] at hrf; cases hrf) (Comes.const _)
  obtain ⟨r, hr, hc⟩ := loop_all l.length (fun i => ∀ (h : i < l.length) (h' : i < l'.length), l[i].toList = l'[i].toList) (fun i k => ancepsref22_Strings.l0 k l l' (i : Int)) hend hstep l.length 0 (by omega)
  exact ⟨r, ⟨fun h i h1 h2 => hr.1 h i (Nat.zero_le _) h1 h1 h2, fun h => hr.2 (fun j _ _ h1 h2 => h j h1 h2)⟩, hc⟩
theorem strs_comes (l l' : List ByteArray) (hl : l.length ≤ 1048576) : ∃ r : Bool, (r = true ↔ SR l l') ∧ Comes (fun k => slices_Equal_string_string.f k l l') r := by
  by_cases h : l.length = l'.length
  · obtain ⟨r, hr, hc⟩ := strs_loop l l' hl h
    exact ⟨r, ⟨fun q => ⟨h, hr.1 q⟩, fun q => hr.2 q.2⟩, by unfold slices_Equal_string_string.f; exact Comes.ite_pos (by omega) hc⟩
  · exact ⟨false, ⟨fun q => (by cases q), fun q => absurd q.1 h⟩, by unfold slices_Equal_string_string.f; exact Comes.ite_neg (by omega) (Comes.const _)⟩
theorem rstrs_comes (l l' : List ByteArray) (hl : l.length ≤ 1048576) : ∃ r : Bool, (r = true ↔ SR l l') ∧ Comes (fun k => ancepsref22_Strings.f k l l') r := by
  by_cases h : l.length = l'.length
  · obtain ⟨r, hr, hc⟩ := rstrs_loop l l' hl h
    exact ⟨r, ⟨fun q => ⟨h, hr.1 q⟩, fun q => hr.2 q.2⟩, by unfold ancepsref22_Strings.f; exact Comes.ite_pos (by omega) hc⟩
  · exact ⟨false, ⟨fun q => (by cases q), fun q => absurd q.1 h⟩, by unfold ancepsref22_Strings.f; exact Comes.ite_neg (by omega) (Comes.const _)⟩
theorem lists_loop  (l l' : List (List ByteArray)) (hl : l.length ≤ 1048576) (he : l.length = l'.length) (hk : ∀ x, x ∈ l → x.length ≤ 1048576) :
    ∃ r : Bool, (r = true ↔ ∀ i (h : i < l.length) (h' : i < l'.length), SR l[i] l'[i]) ∧ Comes (fun k => slices_EqualFunc_string_string_string_string.l0 k l' l (l.length : Int) 0) r := by
  have hend : Comes (fun k => slices_EqualFunc_string_string_string_string.l0 k l' l (l.length : Int) (l.length : Int)) true := by
    apply Comes.succ
    simp only [slices_EqualFunc_string_string_string_string.l0]
    exact Comes.ite_neg (by omega) (Comes.const _)
  have hstep : ∀ i, i < l.length → ∃ r : Bool, (r = true ↔ ∀ (h : i < l.length) (h' : i < l'.length), SR l[i] l'[i]) ∧ (r = true → ∀ q, Comes (fun k => slices_EqualFunc_string_string_string_string.l0 k l' l (l.length : Int) ((i + 1 : Nat) : Int)) q → Comes (fun k => slices_EqualFunc_string_string_string_string.l0 k l' l (l.length : Int) (i : Int)) q) ∧ (r = false → Comes (fun k => slices_EqualFunc_string_string_string_string.l0 k l' l (l.length : Int) (i : Int)) false) := by
    intro i hi
    have hi' : i < l'.length := by omega
    obtain ⟨r, hr, hc⟩ := strs_comes l[i] l'[i] (hk _ (List.getElem_mem hi))
    refine ⟨r, ⟨fun h _ _ => hr.1 h, fun h => hr.2 (h hi (by omega))⟩, ?_, ?_⟩
    · intro hrt q hq
      apply Comes.succ
      simp only [slices_EqualFunc_string_string_string_string.l0]
      refine Comes.ite_pos (by omega) (Comes.ite_pos (by omega) (Comes.ite_pos (by omega) (Comes.ite_pos (by omega) (?_))))
      rw [rdl7 hi, rdl7 hi']
      subst hrt
      refine Comes.bind hc (Comes.ite_pos rfl ?_)
      rw [wrap_small (by omega)]
      exact hq
    · intro hrf
      apply Comes.succ
      simp only [slices_EqualFunc_string_string_string_string.l0]
      refine Comes.ite_pos (by omega) (Comes.ite_pos (by omega) (Comes.ite_pos (by omega) (Comes.ite_pos (by omega) (?_))))
      rw [rdl7 hi, rdl7 hi']
      subst hrf
      exact Comes.bind hc (Comes.ite_neg (by decide) (Comes.const _))
  obtain ⟨r, hr, hc⟩ := loop_all l.length (fun i => ∀ (h : i < l.length) (h' : i < l'.length), SR l[i] l'[i]) (fun i k => slices_EqualFunc_string_string_string_string.l0 k l' l (l.length : Int) (i : Int)) hend hstep l.length 0 (by omega)
  exact ⟨r, ⟨fun h i h1 h2 => hr.1 h i (Nat.zero_le _) h1 h1 h2, fun h => hr.2 (fun j _ _ h1 h2 => h j h1 h2)⟩, hc⟩
theorem cnt_loop  (l l' : List S88) (hl : l.length ≤ 1048576) (he : l.length = l'.length) :
    ∃ r : Bool, (r = true ↔ ∀ i (h : i < l.length) (h' : i < l'.length), CR l[i] l'[i]) ∧ Comes (fun k => api_Counter_70.l0 k l l' (l.length : Int) 0) r := by
  have hend : Comes (fun k => api_Counter_70.l0 k l l' (l.length : Int) (l.length : Int)) true := by
    apply Comes.succ
    simp only [api_Counter_70.l0]
    exact Comes.ite_neg (by omega) (Comes.const _)
  have hstep : ∀ i, i < l.length → ∃ r : Bool, (r = true ↔ ∀ (h : i < l.length) (h' : i < l'.length), CR l[i] l'[i]) ∧ (r = true → ∀ q, Comes (fun k => api_Counter_70.l0 k l l' (l.length : Int) ((i + 1 : Nat) : Int)) q → Comes (fun k => api_Counter_70.l0 k l l' (l.length : Int) (i : Int)) q) ∧ (r = false → Comes (fun k => api_Counter_70.l0 k l l' (l.length : Int) (i : Int)) false) := by
    intro i hi
    have hi' : i < l'.length := by omega
    obtain ⟨r, hr⟩ : ∃ r : Bool, (r = true ↔ CR l[i] l'[i]) := by
      open Classical in exact ⟨decide _, decide_eq_true_iff⟩
    refine ⟨r, ⟨fun h _ _ => hr.1 h, fun h => hr.2 (h hi (by omega))⟩, ?_, ?_⟩
    · intro hrt q hq
      apply Comes.succ
      simp only [api_Counter_70.l0]
      refine Comes.ite_pos (by omega) (Comes.ite_pos (by omega) (Comes.ite_pos (by omega) (Comes.ite_pos (by omega) (?_))))
      rw [rd88 hi, rd88 hi']
      have hb := hr.1 hrt
      unfold CR at hb
      refine Comes.ite_neg (by simp [hb]) ?_
      rw [wrap_small (by omega)]
      exact hq
    · intro hrf
      apply Comes.succ
      simp only [api_Counter_70.l0]
      refine Comes.ite_pos (by omega) (Comes.ite_pos (by omega) (Comes.ite_pos (by omega) (Comes.ite_pos (by omega) (?_))))
      rw [rd88 hi, rd88 hi']
      have hb : ¬ CR l[i] l'[i] := fun h => by rw [hr.2 h] at hrf; cases hrf
      unfold CR at hb
      refine Comes.ite_pos ?_ (Comes.const _)
      by_cases q0 : l[i].f0.toList = l'[i].f0.toList <;> by_cases q1 : l[i].f1 = l'[i].f1 <;> by_cases q2 : l[i].f2 = l'[i].f2 <;> simp_all
  obtain ⟨r, hr, hc⟩ := loop_all l.length (fun i => ∀ (h : i < l.length) (h' : i < l'.length), CR l[i] l'[i]) (fun i k => api_Counter_70.l0 k l l' (l.length : Int) (i : Int)) hend hstep l.length 0 (by omega)
  exact ⟨r, ⟨fun h i h1 h2 => hr.1 h i (Nat.zero_le _) h1 h1 h2, fun h => hr.2 (fun j _ _ h1 h2 => h j h1 h2)⟩, hc⟩
theorem feet_loop  (l l' : List S86) (hl : l.length ≤ 1048576) (he : l.length = l'.length) (hk : ∀ x, x ∈ l → Small x.f1) :
    ∃ r : Bool, (r = true ↔ ∀ i (h : i < l.length) (h' : i < l'.length), FR l[i] l'[i]) ∧ Comes (fun k => api_Foot.l0 k l' l (l.length : Int) 0) r := by
  have hend : Comes (fun k => api_Foot.l0 k l' l (l.length : Int) (l.length : Int)) true := by
    apply Comes.succ
    simp only [api_Foot.l0]
    exact Comes.ite_neg (by omega) (Comes.const _)
  have hstep : ∀ i, i < l.length → ∃ r : Bool, (r = true ↔ ∀ (h : i < l.length) (h' : i < l'.length), FR l[i] l'[i]) ∧ (r = true → ∀ q, Comes (fun k => api_Foot.l0 k l' l (l.length : Int) ((i + 1 : Nat) : Int)) q → Comes (fun k => api_Foot.l0 k l' l (l.length : Int) (i : Int)) q) ∧ (r = false → Comes (fun k => api_Foot.l0 k l' l (l.length : Int) (i : Int)) false) := by
    intro i hi
    have hi' : i < l'.length := by omega
    obtain ⟨r, hr, hc⟩ : ∃ r : Bool, (r = true ↔ FR l[i] l'[i]) ∧ Comes (fun k => metre_Same_1.f k l[i].f0 l[i].f1.f0 l[i].f1.f1 l[i].f1.f2 l[i].f1.f3 l'[i].f0 l'[i].f1.f0 l'[i].f1.f1 l'[i].f1.f2 l'[i].f1.f3) r := by
      by_cases q : l[i].f0.toList = l'[i].f0.toList
      · obtain ⟨r, hr, hc⟩ := same_comes l[i].f1 l'[i].f1 (hk _ (List.getElem_mem hi))
        exact ⟨r, ⟨fun h => ⟨q, hr.1 h⟩, fun h => hr.2 h.2⟩, by unfold metre_Same_1.f; exact Comes.ite_pos q (Comes.bind hc (Comes.const _))⟩
      · exact ⟨false, ⟨fun h => (by cases h), fun h => absurd h.1 q⟩, by unfold metre_Same_1.f; exact Comes.ite_neg q (Comes.const _)⟩
    refine ⟨r, ⟨fun h _ _ => hr.1 h, fun h => hr.2 (h hi (by omega))⟩, ?_, ?_⟩
    · intro hrt q hq
      apply Comes.succ
      simp only [api_Foot.l0]
      refine Comes.ite_pos (by omega) (Comes.ite_pos (by omega) (Comes.ite_pos (by omega) (Comes.ite_pos (by omega) (?_))))
      rw [rd86 hi, rd86 hi']
      subst hrt
      refine Comes.bind hc (Comes.ite_pos rfl ?_)
      rw [wrap_small (by omega)]
      exact hq
    · intro hrf
      apply Comes.succ
      simp only [api_Foot.l0]
      refine Comes.ite_pos (by omega) (Comes.ite_pos (by omega) (Comes.ite_pos (by omega) (Comes.ite_pos (by omega) (?_))))
      rw [rd86 hi, rd86 hi']
      subst hrf
      exact Comes.bind hc (Comes.ite_neg (by decide) (Comes.const _))
  obtain ⟨r, hr, hc⟩ := loop_all l.length (fun i => ∀ (h : i < l.length) (h' : i < l'.length), FR l[i] l'[i]) (fun i k => api_Foot.l0 k l' l (l.length : Int) (i : Int)) hend hstep l.length 0 (by omega)
  exact ⟨r, ⟨fun h i h1 h2 => hr.1 h i (Nat.zero_le _) h1 h1 h2, fun h => hr.2 (fun j _ _ h1 h2 => h j h1 h2)⟩, hc⟩
end Go.Proofs.YtmffocankommaaaDoor.P
end

section
set_option linter.unusedVariables false
namespace Go.Proofs.YtmffocankommaaaDoor.P
open Go.RowKit Go.Proofs.YtmffocankommaaaDoorW.PrintWords Go.Proofs.YtmffocankommaaaDoorW.PrintLast Go.Proofs.YtmffocankommaaaDoorW.PrintMore Go.Proofs.YtmffocankommaaaDoorY
theorem loop_all2 (len : Nat) (P : Nat → Prop) (L : Nat → Nat → Option Bool) (e : Bool) (hend : Comes (L len) e)
    (hstep : ∀ i, i < len → ∃ r : Bool, (r = true ↔ P i) ∧ (r = true → ∀ q, Comes (L (i + 1)) q → Comes (L i) q) ∧ (r = false → Comes (L i) false)) :
    ∀ m i, i + m = len → ∃ r : Bool, (r = true ↔ (∀ j, i ≤ j → j < len → P j) ∧ e = true) ∧ Comes (L i) r := by
  intro m
  induction m with
  | zero =>
    intro i hi
    obtain rfl : i = len := by omega
    exact ⟨e, ⟨fun h => ⟨fun j h1 h2 => by omega, h⟩, fun h => h.2⟩, hend⟩
  | succ m IH =>
    intro i hi
    obtain ⟨r, hr, ht, hf⟩ := hstep i (by omega)
    cases r with
    | false => exact ⟨false, ⟨fun h => (by cases h), fun h => absurd (hr.2 (h.1 i (Nat.le_refl _) (by omega))) (by decide)⟩, hf rfl⟩
    | true =>
      obtain ⟨q, hq, hc⟩ := IH (i + 1) (by omega)
      refine ⟨q, ⟨fun h => ⟨fun j h1 h2 => ?_, (hq.1 h).2⟩, fun h => hq.2 ⟨fun j h1 h2 => h.1 j (by omega) h2, h.2⟩⟩, ht rfl q hc⟩
      rcases Nat.eq_or_lt_of_le h1 with rfl | h3
      · exact hr.1 rfl
      · exact (hq.1 h).1 j h3 h2
theorem rl2 (x0 : ByteArray) (x1 : List S86) (x2 : List S88) (x3 : List (List ByteArray)) (x4 : Int) (x5 : ByteArray) (x6 : Int) (x7 : List S25) (y0 : ByteArray) (y1 : List S86) (y2 : List S88) (y3 : List (List ByteArray)) (y4 : Int) (y5 : ByteArray) (y6 : Int) (y7 : List S25) (hl : x3.length ≤ 1048576) (he : x3.length = y3.length) (hk : ∀ x, x ∈ x3 → x.length ≤ 1048576) (e : Bool) (hE : Comes (fun k => some true) e) :
    ∃ r : Bool, (r = true ↔ (∀ i (h : i < x3.length) (h' : i < y3.length), SR x3[i] y3[i]) ∧ e = true) ∧ Comes (fun k => ancepsref22_Same.l2 k 0 x0 x1 x2 x3 x4 x5 x6 x7 y0 y1 y2 y3 y4 y5 y6 y7) r := by
  have hend : Comes (fun k => ancepsref22_Same.l2 k (x3.length : Int) x0 x1 x2 x3 x4 x5 x6 x7 y0 y1 y2 y3 y4 y5 y6 y7) e := by
    apply Comes.succ
    simp only [ancepsref22_Same.l2]
    exact Comes.ite_neg (by omega) hE
  have hstep : ∀ i, i < x3.length → ∃ r : Bool, (r = true ↔ ∀ (h : i < x3.length) (h' : i < y3.length), SR x3[i] y3[i]) ∧ (r = true → ∀ q, Comes (fun k => ancepsref22_Same.l2 k ((i + 1 : Nat) : Int) x0 x1 x2 x3 x4 x5 x6 x7 y0 y1 y2 y3 y4 y5 y6 y7) q → Comes (fun k => ancepsref22_Same.l2 k (i : Int) x0 x1 x2 x3 x4 x5 x6 x7 y0 y1 y2 y3 y4 y5 y6 y7) q) ∧ (r = false → Comes (fun k => ancepsref22_Same.l2 k (i : Int) x0 x1 x2 x3 x4 x5 x6 x7 y0 y1 y2 y3 y4 y5 y6 y7) false) := by
    intro i hi
    have hi' : i < y3.length := by omega
    obtain ⟨r, hr, hc⟩ := rstrs_comes x3[i] y3[i] (hk _ (List.getElem_mem hi))
    refine ⟨r, ⟨fun h _ _ => hr.1 h, fun h => hr.2 (h hi (by omega))⟩, ?_, ?_⟩
    · intro hrt q hq
      apply Comes.succ
      simp only [ancepsref22_Same.l2]
      refine Comes.ite_pos (by omega) (Comes.ite_pos (by omega) (Comes.ite_pos (by omega) (?_)))
      rw [rdl7 hi, rdl7 hi']
      subst hrt
      refine Comes.bind hc (Comes.ite_pos rfl ?_)
      rw [wrap_small (by omega)]
      exact hq
    · intro hrf
      apply Comes.succ
      simp only [ancepsref22_Same.l2]
      refine Comes.ite_pos (by omega) (Comes.ite_pos (by omega) (Comes.ite_pos (by omega) (?_)))
      rw [rdl7 hi, rdl7 hi']
      subst hrf
      exact Comes.bind hc (Comes.ite_neg (by decide) (Comes.const _))
  obtain ⟨r, hr, hc⟩ := loop_all2 x3.length (fun i => ∀ (h : i < x3.length) (h' : i < y3.length), SR x3[i] y3[i]) (fun i k => ancepsref22_Same.l2 k (i : Int) x0 x1 x2 x3 x4 x5 x6 x7 y0 y1 y2 y3 y4 y5 y6 y7) e hend hstep x3.length 0 (by omega)
  exact ⟨r, ⟨fun h => ⟨fun i h1 h2 => (hr.1 h).1 i (Nat.zero_le _) h1 h1 h2, (hr.1 h).2⟩, fun h => hr.2 ⟨fun j _ _ h1 h2 => h.1 j h1 h2, h.2⟩⟩, hc⟩
theorem rl1 (x0 : ByteArray) (x1 : List S86) (x2 : List S88) (x3 : List (List ByteArray)) (x4 : Int) (x5 : ByteArray) (x6 : Int) (x7 : List S25) (y0 : ByteArray) (y1 : List S86) (y2 : List S88) (y3 : List (List ByteArray)) (y4 : Int) (y5 : ByteArray) (y6 : Int) (y7 : List S25) (hl : x2.length ≤ 1048576) (he : x2.length = y2.length) (e : Bool) (hE : Comes (fun k => ancepsref22_Same.l2 k 0 x0 x1 x2 x3 x4 x5 x6 x7 y0 y1 y2 y3 y4 y5 y6 y7) e) :
    ∃ r : Bool, (r = true ↔ (∀ i (h : i < x2.length) (h' : i < y2.length), CR x2[i] y2[i]) ∧ e = true) ∧ Comes (fun k => ancepsref22_Same.l1 k 0 x0 x1 x2 x3 x4 x5 x6 x7 y0 y1 y2 y3 y4 y5 y6 y7) r := by
  have hend : Comes (fun k => ancepsref22_Same.l1 k (x2.length : Int) x0 x1 x2 x3 x4 x5 x6 x7 y0 y1 y2 y3 y4 y5 y6 y7) e := by
    apply Comes.succ
    simp only [ancepsref22_Same.l1]
    exact Comes.ite_neg (by omega) hE
  have hstep : ∀ i, i < x2.length → ∃ r : Bool, (r = true ↔ ∀ (h : i < x2.length) (h' : i < y2.length), CR x2[i] y2[i]) ∧ (r = true → ∀ q, Comes (fun k => ancepsref22_Same.l1 k ((i + 1 : Nat) : Int) x0 x1 x2 x3 x4 x5 x6 x7 y0 y1 y2 y3 y4 y5 y6 y7) q → Comes (fun k => ancepsref22_Same.l1 k (i : Int) x0 x1 x2 x3 x4 x5 x6 x7 y0 y1 y2 y3 y4 y5 y6 y7) q) ∧ (r = false → Comes (fun k => ancepsref22_Same.l1 k (i : Int) x0 x1 x2 x3 x4 x5 x6 x7 y0 y1 y2 y3 y4 y5 y6 y7) false) := by
    intro i hi
    have hi' : i < y2.length := by omega
    obtain ⟨r, hr⟩ : ∃ r : Bool, (r = true ↔ CR x2[i] y2[i]) := by
      open Classical in exact ⟨decide _, decide_eq_true_iff⟩
    refine ⟨r, ⟨fun h _ _ => hr.1 h, fun h => hr.2 (h hi (by omega))⟩, ?_, ?_⟩
    · intro hrt q hq
      apply Comes.succ
      simp only [ancepsref22_Same.l1]
      refine Comes.ite_pos (by omega) (Comes.ite_pos (by omega) (Comes.ite_pos (by omega) (?_)))
      rw [rd88 hi, rd88 hi']
      have hb := hr.1 hrt
      unfold CR at hb
      refine Comes.ite_neg (by simp [hb]) ?_
      rw [wrap_small (by omega)]
      exact hq
    · intro hrf
      apply Comes.succ
      simp only [ancepsref22_Same.l1]
      refine Comes.ite_pos (by omega) (Comes.ite_pos (by omega) (Comes.ite_pos (by omega) (?_)))
      rw [rd88 hi, rd88 hi']
      have hb : ¬ CR x2[i] y2[i] := fun h => by rw [hr.2 h] at hrf; cases hrf
      unfold CR at hb
      refine Comes.ite_pos ?_ (Comes.const _)
      by_cases q0 : x2[i].f0.toList = y2[i].f0.toList <;> by_cases q1 : x2[i].f1 = y2[i].f1 <;> by_cases q2 : x2[i].f2 = y2[i].f2 <;> simp_all
  obtain ⟨r, hr, hc⟩ := loop_all2 x2.length (fun i => ∀ (h : i < x2.length) (h' : i < y2.length), CR x2[i] y2[i]) (fun i k => ancepsref22_Same.l1 k (i : Int) x0 x1 x2 x3 x4 x5 x6 x7 y0 y1 y2 y3 y4 y5 y6 y7) e hend hstep x2.length 0 (by omega)
  exact ⟨r, ⟨fun h => ⟨fun i h1 h2 => (hr.1 h).1 i (Nat.zero_le _) h1 h1 h2, (hr.1 h).2⟩, fun h => hr.2 ⟨fun j _ _ h1 h2 => h.1 j h1 h2, h.2⟩⟩, hc⟩
theorem rl0 (x0 : ByteArray) (x1 : List S86) (x2 : List S88) (x3 : List (List ByteArray)) (x4 : Int) (x5 : ByteArray) (x6 : Int) (x7 : List S25) (y0 : ByteArray) (y1 : List S86) (y2 : List S88) (y3 : List (List ByteArray)) (y4 : Int) (y5 : ByteArray) (y6 : Int) (y7 : List S25) (hl : x1.length ≤ 1048576) (he : x1.length = y1.length) (hk : ∀ x, x ∈ x1 → Small x.f1) (e : Bool) (hE : Comes (fun k => ancepsref22_Same.l1 k 0 x0 x1 x2 x3 x4 x5 x6 x7 y0 y1 y2 y3 y4 y5 y6 y7) e) :
    ∃ r : Bool, (r = true ↔ (∀ i (h : i < x1.length) (h' : i < y1.length), FR x1[i] y1[i]) ∧ e = true) ∧ Comes (fun k => ancepsref22_Same.l0 k 0 x0 x1 x2 x3 x4 x5 x6 x7 y0 y1 y2 y3 y4 y5 y6 y7) r := by
  have hend : Comes (fun k => ancepsref22_Same.l0 k (x1.length : Int) x0 x1 x2 x3 x4 x5 x6 x7 y0 y1 y2 y3 y4 y5 y6 y7) e := by
    apply Comes.succ
    simp only [ancepsref22_Same.l0]
    exact Comes.ite_neg (by omega) hE
  have hstep : ∀ i, i < x1.length → ∃ r : Bool, (r = true ↔ ∀ (h : i < x1.length) (h' : i < y1.length), FR x1[i] y1[i]) ∧ (r = true → ∀ q, Comes (fun k => ancepsref22_Same.l0 k ((i + 1 : Nat) : Int) x0 x1 x2 x3 x4 x5 x6 x7 y0 y1 y2 y3 y4 y5 y6 y7) q → Comes (fun k => ancepsref22_Same.l0 k (i : Int) x0 x1 x2 x3 x4 x5 x6 x7 y0 y1 y2 y3 y4 y5 y6 y7) q) ∧ (r = false → Comes (fun k => ancepsref22_Same.l0 k (i : Int) x0 x1 x2 x3 x4 x5 x6 x7 y0 y1 y2 y3 y4 y5 y6 y7) false) := by
    intro i hi
    have hi' : i < y1.length := by omega
    obtain ⟨z0, hq1, hqc⟩ := rsame_comes x1[i].f1 y1[i].f1 (hk _ (List.getElem_mem hi))
    obtain ⟨r, hr⟩ : ∃ r : Bool, (r = true ↔ FR x1[i] y1[i]) := by
      open Classical in exact ⟨decide _, decide_eq_true_iff⟩
    refine ⟨r, ⟨fun h _ _ => hr.1 h, fun h => hr.2 (h hi (by omega))⟩, ?_, ?_⟩
    · intro hrt q hq
      apply Comes.succ
      simp only [ancepsref22_Same.l0]
      refine Comes.ite_pos (by omega) (Comes.ite_pos (by omega) (Comes.ite_pos (by omega) (?_)))
      rw [rd86 hi, rd86 hi']
      have hb := hr.1 hrt
      obtain rfl : z0 = true := hq1.2 hb.2
      refine Comes.ite_pos hb.1 (Comes.bind hqc (Comes.ite_pos rfl ?_))
      rw [wrap_small (by omega)]
      assumption
    · intro hrf
      apply Comes.succ
      simp only [ancepsref22_Same.l0]
      refine Comes.ite_pos (by omega) (Comes.ite_pos (by omega) (Comes.ite_pos (by omega) (?_)))
      rw [rd86 hi, rd86 hi']
      have hb : ¬ FR x1[i] y1[i] := fun h => by rw [hr.2 h] at hrf; cases hrf
      by_cases q0 : x1[i].f0.toList = y1[i].f0.toList
      · have hq0 : z0 = false := by
          cases z0 with
          | false => rfl
          | true => exact absurd ⟨q0, hq1.1 rfl⟩ hb
        subst hq0
        exact Comes.ite_pos q0 (Comes.bind hqc (Comes.ite_neg (by decide) (Comes.const _)))
      · exact Comes.ite_neg q0 (Comes.const _)
  obtain ⟨r, hr, hc⟩ := loop_all2 x1.length (fun i => ∀ (h : i < x1.length) (h' : i < y1.length), FR x1[i] y1[i]) (fun i k => ancepsref22_Same.l0 k (i : Int) x0 x1 x2 x3 x4 x5 x6 x7 y0 y1 y2 y3 y4 y5 y6 y7) e hend hstep x1.length 0 (by omega)
  exact ⟨r, ⟨fun h => ⟨fun i h1 h2 => (hr.1 h).1 i (Nat.zero_le _) h1 h1 h2, (hr.1 h).2⟩, fun h => hr.2 ⟨fun j _ _ h1 h2 => h.1 j h1 h2, h.2⟩⟩, hc⟩
/-- Two metres are the same, field by field. -/
def MR (x0 : ByteArray) (x1 : List S86) (x2 : List S88) (x3 : List (List ByteArray)) (x4 : Int) (x5 : ByteArray) (x6 : Int) (x7 : List S25) (y0 : ByteArray) (y1 : List S86) (y2 : List S88) (y3 : List (List ByteArray)) (y4 : Int) (y5 : ByteArray) (y6 : Int) (y7 : List S25) : Prop := x0.toList = y0.toList ∧ x1.length = y1.length ∧ x2.length = y2.length ∧ x3.length = y3.length ∧ R ⟨x4, x5, x6, x7⟩ ⟨y4, y5, y6, y7⟩ ∧ (∀ i (h : i < x1.length) (h' : i < y1.length), FR x1[i] y1[i]) ∧ (∀ i (h : i < x2.length) (h' : i < y2.length), CR x2[i] y2[i]) ∧ (∀ i (h : i < x3.length) (h' : i < y3.length), SR x3[i] y3[i])
theorem rsame_j0 (x0 : ByteArray) (x1 : List S86) (x2 : List S88) (x3 : List (List ByteArray)) (x4 : Int) (x5 : ByteArray) (x6 : Int) (x7 : List S25) (y0 : ByteArray) (y1 : List S86) (y2 : List S88) (y3 : List (List ByteArray)) (y4 : Int) (y5 : ByteArray) (y6 : Int) (y7 : List S25) : Comes (fun k => ancepsref22_Same.j0 k true x0 x1 x2 x3 x4 x5 x6 x7 y0 y1 y2 y3 y4 y5 y6 y7) false := Comes.succ (by simp only [ancepsref22_Same.j0]; exact Comes.ite_pos (by first | rfl | trivial) (Comes.const _))
theorem rSame_comes (x0 : ByteArray) (x1 : List S86) (x2 : List S88) (x3 : List (List ByteArray)) (x4 : Int) (x5 : ByteArray) (x6 : Int) (x7 : List S25) (y0 : ByteArray) (y1 : List S86) (y2 : List S88) (y3 : List (List ByteArray)) (y4 : Int) (y5 : ByteArray) (y6 : Int) (y7 : List S25) (h1 : x1.length ≤ 1048576) (h1k : ∀ x, x ∈ x1 → Small x.f1) (h2 : x2.length ≤ 1048576) (h3 : x3.length ≤ 1048576) (h3k : ∀ x, x ∈ x3 → x.length ≤ 1048576) (h7 : Small ⟨x4, x5, x6, x7⟩) :
    ∃ r : Bool, (r = true ↔ MR x0 x1 x2 x3 x4 x5 x6 x7 y0 y1 y2 y3 y4 y5 y6 y7) ∧ Comes (fun k => ancepsref22_Same.f k x0 x1 x2 x3 x4 x5 x6 x7 y0 y1 y2 y3 y4 y5 y6 y7) r := by
  unfold ancepsref22_Same.f MR
  by_cases c0 : x0.toList = y0.toList
  case neg => exact ⟨false, ⟨fun q => (by cases q), fun q => absurd q.1 c0⟩, Comes.ite_neg c0 (rsame_j0 x0 x1 x2 x3 x4 x5 x6 x7 y0 y1 y2 y3 y4 y5 y6 y7)⟩
  by_cases c1 : x1.length = y1.length
  case neg => exact ⟨false, ⟨fun q => (by cases q), fun q => absurd q.2.1 c1⟩, Comes.ite_pos c0 (Comes.ite_neg (by omega) (rsame_j0 x0 x1 x2 x3 x4 x5 x6 x7 y0 y1 y2 y3 y4 y5 y6 y7))⟩
  by_cases c2 : x2.length = y2.length
  case neg => exact ⟨false, ⟨fun q => (by cases q), fun q => absurd q.2.2.1 c2⟩, Comes.ite_pos c0 (Comes.ite_pos (by omega) (Comes.ite_neg (by omega) (rsame_j0 x0 x1 x2 x3 x4 x5 x6 x7 y0 y1 y2 y3 y4 y5 y6 y7)))⟩
  by_cases c3 : x3.length = y3.length
  case neg => exact ⟨false, ⟨fun q => (by cases q), fun q => absurd q.2.2.2.1 c3⟩, Comes.ite_pos c0 (Comes.ite_pos (by omega) (Comes.ite_pos (by omega) (Comes.ite_neg (by omega) (rsame_j0 x0 x1 x2 x3 x4 x5 x6 x7 y0 y1 y2 y3 y4 y5 y6 y7))))⟩
  obtain ⟨t, ht, hc⟩ := rsame_comes ⟨x4, x5, x6, x7⟩ ⟨y4, y5, y6, y7⟩ h7
  cases t with
  | false => exact ⟨false, ⟨fun q => (by cases q), fun q => absurd (ht.2 q.2.2.2.2.1) (by decide)⟩, Comes.ite_pos c0 (Comes.ite_pos (by omega) (Comes.ite_pos (by omega) (Comes.ite_pos (by omega) (Comes.bind hc (rsame_j0 x0 x1 x2 x3 x4 x5 x6 x7 y0 y1 y2 y3 y4 y5 y6 y7)))))⟩
  | true =>
    obtain ⟨e2, he2, hc2⟩ := rl2 x0 x1 x2 x3 x4 x5 x6 x7 y0 y1 y2 y3 y4 y5 y6 y7 h3 c3 h3k true (Comes.const _)
    obtain ⟨e1, he1, hc1⟩ := rl1 x0 x1 x2 x3 x4 x5 x6 x7 y0 y1 y2 y3 y4 y5 y6 y7 h2 c2 e2 hc2
    obtain ⟨e0, he0, hc0⟩ := rl0 x0 x1 x2 x3 x4 x5 x6 x7 y0 y1 y2 y3 y4 y5 y6 y7 h1 c1 h1k e1 hc1
    refine ⟨e0, ⟨fun q => ?_, fun q => ?_⟩, Comes.ite_pos c0 (Comes.ite_pos (by omega) (Comes.ite_pos (by omega) (Comes.ite_pos (by omega) (Comes.bind hc (Comes.succ ?_)))))⟩
    · exact ⟨c0, c1, c2, c3, ht.1 rfl, (he0.1 q).1, (he1.1 (he0.1 q).2).1, (he2.1 (he1.1 (he0.1 q).2).2).1⟩
    · exact he0.2 ⟨q.2.2.2.2.2.1, he1.2 ⟨q.2.2.2.2.2.2.1, he2.2 ⟨q.2.2.2.2.2.2.2, rfl⟩⟩⟩
    · simp only [ancepsref22_Same.j0]
      exact Comes.ite_neg (by decide) hc0
theorem Same_comes (x0 : ByteArray) (x1 : List S86) (x2 : List S88) (x3 : List (List ByteArray)) (x4 : Int) (x5 : ByteArray) (x6 : Int) (x7 : List S25) (y0 : ByteArray) (y1 : List S86) (y2 : List S88) (y3 : List (List ByteArray)) (y4 : Int) (y5 : ByteArray) (y6 : Int) (y7 : List S25) (h1 : x1.length ≤ 1048576) (h1k : ∀ x, x ∈ x1 → Small x.f1) (h2 : x2.length ≤ 1048576) (h3 : x3.length ≤ 1048576) (h3k : ∀ x, x ∈ x3 → x.length ≤ 1048576) (h7 : Small ⟨x4, x5, x6, x7⟩) :
    ∃ r : Bool, (r = true ↔ MR x0 x1 x2 x3 x4 x5 x6 x7 y0 y1 y2 y3 y4 y5 y6 y7) ∧ Comes (fun k => metre_Same.f k x0 x1 x2 x3 x4 x5 x6 x7 y0 y1 y2 y3 y4 y5 y6 y7) r := by
  unfold metre_Same.f MR
  by_cases c0 : x0.toList = y0.toList
  case neg => exact ⟨false, ⟨fun q => (by cases q), fun q => absurd q.1 c0⟩, Comes.ite_neg c0 (Comes.const _)⟩
  obtain ⟨t2, ht2, hc2⟩ : ∃ r : Bool, (r = true ↔ x2.length = y2.length ∧ (∀ i (h : i < x2.length) (h' : i < y2.length), CR x2[i] y2[i])) ∧ Comes (fun k => api_Counter_70.f k x2 y2) r := by
    unfold api_Counter_70.f
    by_cases c : x2.length = y2.length
    · obtain ⟨r, hr, hc⟩ := cnt_loop x2 y2 h2 c
      exact ⟨r, ⟨fun q => ⟨c, hr.1 q⟩, fun q => hr.2 q.2⟩, Comes.ite_pos (by omega) hc⟩
    · exact ⟨false, ⟨fun q => (by cases q), fun q => absurd q.1 c⟩, Comes.ite_neg (by omega) (Comes.const _)⟩
  obtain ⟨t3, ht3, hc3⟩ : ∃ r : Bool, (r = true ↔ x3.length = y3.length ∧ (∀ i (h : i < x3.length) (h' : i < y3.length), SR x3[i] y3[i])) ∧ Comes (fun k => slices_EqualFunc_string_string_string_string.f k x3 y3 ()) r := by
    unfold slices_EqualFunc_string_string_string_string.f
    by_cases c : x3.length = y3.length
    · obtain ⟨r, hr, hc⟩ := lists_loop x3 y3 h3 c h3k
      exact ⟨r, ⟨fun q => ⟨c, hr.1 q⟩, fun q => hr.2 q.2⟩, Comes.ite_pos (by omega) hc⟩
    · exact ⟨false, ⟨fun q => (by cases q), fun q => absurd q.1 c⟩, Comes.ite_neg (by omega) (Comes.const _)⟩
  obtain ⟨t1, ht1, hc1⟩ : ∃ r : Bool, (r = true ↔ x1.length = y1.length ∧ (∀ i (h : i < x1.length) (h' : i < y1.length), FR x1[i] y1[i])) ∧ Comes (fun k => api_Foot.f k x1 y1 ()) r := by
    unfold api_Foot.f
    by_cases c : x1.length = y1.length
    · obtain ⟨r, hr, hc⟩ := feet_loop x1 y1 h1 c h1k
      exact ⟨r, ⟨fun q => ⟨c, hr.1 q⟩, fun q => hr.2 q.2⟩, Comes.ite_pos (by omega) hc⟩
    · exact ⟨false, ⟨fun q => (by cases q), fun q => absurd q.1 c⟩, Comes.ite_neg (by omega) (Comes.const _)⟩
  obtain ⟨t7, ht7, hc7⟩ := same_comes ⟨x4, x5, x6, x7⟩ ⟨y4, y5, y6, y7⟩ h7
  refine ⟨t2 && (t3 && (t7 && t1)), ⟨fun q => ?_, fun q => ?_⟩, Comes.ite_pos c0 (Comes.bind hc2 ?_)⟩
  · simp only [Bool.and_eq_true] at q
    exact ⟨c0, (ht1.1 q.2.2.2).1, (ht2.1 q.1).1, (ht3.1 q.2.1).1, ht7.1 q.2.2.1, (ht1.1 q.2.2.2).2, (ht2.1 q.1).2, (ht3.1 q.2.1).2⟩
  · simp only [Bool.and_eq_true]
    exact ⟨ht2.2 ⟨q.2.2.1, q.2.2.2.2.2.2.1⟩, ht3.2 ⟨q.2.2.2.1, q.2.2.2.2.2.2.2⟩, ht7.2 q.2.2.2.2.1, ht1.2 ⟨q.2.1, q.2.2.2.2.2.1⟩⟩
  · cases t2 with
    | false => exact Comes.ite_neg (by decide) (Comes.const _)
    | true =>
      refine Comes.ite_pos rfl (Comes.bind hc3 ?_)
      cases t3 with
      | false => exact Comes.ite_neg (by decide) (Comes.const _)
      | true =>
        refine Comes.ite_pos rfl (Comes.bind hc7 ?_)
        cases t7 with
        | false => exact Comes.ite_neg (by decide) (Comes.const _)
        | true => exact Comes.ite_pos rfl (Comes.bind hc1 (Comes.const _))
end Go.Proofs.YtmffocankommaaaDoor.P
end

section
namespace Go.Proofs.YtmffocankommaaaDoor.P
set_option linter.unusedVariables false
open Go.RowKit Go.Proofs.YtmffocankommaaaDoorW.PrintWords Go.Proofs.YtmffocankommaaaDoorW.PrintLast Go.Proofs.YtmffocankommaaaDoorW.PrintMore Go.Proofs.YtmffocankommaaaDoorY
theorem left_loop (l : List S25) (hl : l.length ≤ 1048576) (a : Int) (b : ByteArray) (c : Int) (ih : ∀ x, x ∈ l → ∀ q, ∃ t, Comes (fun k => ancepsref22_left.f k x.f0 x.f1 x.f2 x.f3 q) t) :
    ∀ m i, i + m = l.length → ∀ q, ∃ t, Comes (fun k => ancepsref22_left.l0 k q (i : Int) a b c l) t := by
  intro m
  induction m with
  | zero =>
    intro i hi q
    exact ⟨q, Comes.succ (by simp only [ancepsref22_left.l0]; exact Comes.ite_neg (by omega) (Comes.const _))⟩
  | succ m IH =>
    intro i hi q
    have hlt : i < l.length := by omega
    by_cases hq : q ≥ 0
    · obtain ⟨t, ht⟩ := ih _ (List.getElem_mem hlt) q
      obtain ⟨u, hu⟩ := IH (i + 1) (by omega) t
      refine ⟨u, Comes.succ ?_⟩
      simp only [ancepsref22_left.l0]
      refine Comes.ite_pos (by omega) (Comes.ite_pos hq (Comes.ite_pos (by omega) ?_))
      rw [rd25 hlt]
      refine Comes.bind ht ?_
      rw [wrap_small (by omega)]
      exact hu
    · exact ⟨q, Comes.succ (by simp only [ancepsref22_left.l0]; exact Comes.ite_pos (by omega) (Comes.ite_neg hq (Comes.const _)))⟩
theorem left_comes : ∀ n : S25, Small n → ∀ q, ∃ t, Comes (fun k => ancepsref22_left.f k n.f0 n.f1 n.f2 n.f3 q) t
  | ⟨a, b, c, l⟩, hs, q => by
    cases hs with
    | mk _ _ _ _ hl hk =>
    obtain ⟨t, ht⟩ := left_loop l hl a b c (fun x hx => left_comes x (hk x hx)) l.length 0 (by omega) (wrap64 ((wrap64 (q - 1)) - (wrap64 ((b.size : Int) / 40))))
    exact ⟨t, Comes.succ (by simp only [ancepsref22_left.f]; exact ht)⟩
  termination_by n => SizeOf.sizeOf n
  decreasing_by
    have := List.sizeOf_lt_of_mem hx
    simp only [S25.mk.sizeOf_spec]
    omega
section
variable (x0 : ByteArray) (x1 : List S86) (x2 : List S88) (x3 : List (List ByteArray)) (x4 : Int) (x5 : ByteArray) (x6 : Int) (x7 : List S25)
theorem few_l1 (h3 : x3.length ≤ 1048576) (h7 : Small ⟨x4, x5, x6, x7⟩) (q : Int) : ∀ m i, i + m = x3.length → ∃ t, Comes (fun k => ancepsref22_Few.l1 k q (i : Int) x0 x1 x2 x3 x4 x5 x6 x7) t := by
  intro m
  induction m with
  | zero =>
    intro i hi
    by_cases hq : q ≥ 0
    · obtain ⟨t, ht⟩ := left_comes ⟨x4, x5, x6, x7⟩ h7 q
      exact ⟨_, Comes.succ (by simp only [ancepsref22_Few.l1]; exact Comes.ite_neg (by omega) (Comes.ite_pos hq (Comes.bind ht (Comes.const _))))⟩
    · exact ⟨false, Comes.succ (by simp only [ancepsref22_Few.l1]; exact Comes.ite_neg (by omega) (Comes.ite_neg hq (Comes.const _)))⟩
  | succ m IH =>
    intro i hi
    obtain ⟨t, ht⟩ := IH (i + 1) (by omega)
    by_cases hc : ((rd_L7 x3 (i : Int)).length : Int) > 10
    · exact ⟨false, Comes.succ (by simp only [ancepsref22_Few.l1]; exact Comes.ite_pos (by omega) (Comes.ite_pos (by omega) (Comes.ite_pos hc (Comes.const _))))⟩
    · refine ⟨t, Comes.succ ?_⟩
      simp only [ancepsref22_Few.l1]
      refine Comes.ite_pos (by omega) (Comes.ite_pos (by omega) (Comes.ite_neg hc ?_))
      rw [wrap_small (by omega)]
      exact ht
theorem few_j2 (h3 : x3.length ≤ 1048576) (h7 : Small ⟨x4, x5, x6, x7⟩) (q : Int) : ∃ t, Comes (fun k => ancepsref22_Few.j2 k q x0 x1 x2 x3 x4 x5 x6 x7) t := by
  obtain ⟨t, ht⟩ := few_l1 x0 x1 x2 x3 x4 x5 x6 x7 h3 h7 q x3.length 0 (by omega)
  exact ⟨t, Comes.succ (by simp only [ancepsref22_Few.j2]; exact ht)⟩
theorem few_l0 (h1 : x1.length ≤ 1048576) (h1k : ∀ x, x ∈ x1 → Small x.f1) (h3 : x3.length ≤ 1048576) (h7 : Small ⟨x4, x5, x6, x7⟩) : ∀ m i, i + m = x1.length → ∀ q, ∃ t, Comes (fun k => ancepsref22_Few.l0 k q (i : Int) x0 x1 x2 x3 x4 x5 x6 x7) t := by
  intro m
  induction m with
  | zero =>
    intro i hi q
    obtain ⟨t, ht⟩ := few_j2 x0 x1 x2 x3 x4 x5 x6 x7 h3 h7 q
    exact ⟨t, Comes.succ (by simp only [ancepsref22_Few.l0]; exact Comes.ite_neg (by omega) ht)⟩
  | succ m IH =>
    intro i hi q
    have hlt : i < x1.length := by omega
    by_cases hq : q ≥ 0
    · obtain ⟨t, ht⟩ := left_comes x1[i].f1 (h1k _ (List.getElem_mem hlt)) (wrap64 ((wrap64 (q - 1)) - (wrap64 (((x1[i].f0).size : Int) / 40))))
      obtain ⟨u, hu⟩ := IH (i + 1) (by omega) t
      refine ⟨u, Comes.succ ?_⟩
      simp only [ancepsref22_Few.l0]
      refine Comes.ite_pos (by omega) (Comes.ite_pos hq (Comes.ite_pos (by omega) ?_))
      rw [rd86 hlt]
      refine Comes.bind ht ?_
      rw [wrap_small (by omega)]
      exact hu
    · obtain ⟨t, ht⟩ := few_j2 x0 x1 x2 x3 x4 x5 x6 x7 h3 h7 q
      exact ⟨t, Comes.succ (by simp only [ancepsref22_Few.l0]; exact Comes.ite_pos (by omega) (Comes.ite_neg hq ht))⟩
theorem few_comes (h1 : x1.length ≤ 1048576) (h1k : ∀ x, x ∈ x1 → Small x.f1) (h3 : x3.length ≤ 1048576) (h7 : Small ⟨x4, x5, x6, x7⟩) : ∃ t, Comes (fun k => ancepsref22_Few.f k x0 x1 x2 x3 x4 x5 x6 x7) t := by
  have hj : ∀ c : Bool, ∃ t, Comes (fun k => ancepsref22_Few.j0 k c x0 x1 x2 x3 x4 x5 x6 x7) t := by
    intro c
    cases c with
    | true => exact ⟨false, Comes.succ (by simp only [ancepsref22_Few.j0]; exact Comes.ite_pos (by first | rfl | trivial) (Comes.const _))⟩
    | false =>
      obtain ⟨t, ht⟩ := few_l0 x0 x1 x2 x3 x4 x5 x6 x7 h1 h1k h3 h7 x1.length 0 (by omega) 260
      exact ⟨t, Comes.succ (by simp only [ancepsref22_Few.j0]; exact Comes.ite_neg (by decide) ht)⟩
  unfold ancepsref22_Few.f
  obtain ⟨t, ht⟩ := hj true
  obtain ⟨u, hu⟩ := hj (decide ((x3.length : Int) > 6))
  by_cases c0 : (x0.size : Int) > 60
  · exact ⟨t, Comes.ite_pos c0 ht⟩
  · by_cases c1 : (x1.length : Int) > 25
    · exact ⟨t, Comes.ite_neg c0 (Comes.ite_pos c1 ht)⟩
    · by_cases c2 : (x2.length : Int) > 6
      · exact ⟨t, Comes.ite_neg c0 (Comes.ite_neg c1 (Comes.ite_pos c2 ht))⟩
      · exact ⟨u, Comes.ite_neg c0 (Comes.ite_neg c1 (Comes.ite_neg c2 hu))⟩
end
set_option maxRecDepth 100000 in
theorem awake_100 : ancepslaw22_awake.f 100 = some true := by decide +kernel
theorem awake_comes : Comes (fun k => ancepslaw22_awake.f k) true :=
  ⟨100, fun k hk => by
    obtain ⟨j, rfl⟩ : ∃ j, k = 100 + j := ⟨k - 100, by omega⟩
    induction j with
    | zero => exact awake_100
    | succ j ih => exact ancepslaw22_awake.mono _ _ (ih (by omega))⟩
theorem MR.refl (x0 : ByteArray) (x1 : List S86) (x2 : List S88) (x3 : List (List ByteArray)) (x4 : Int) (x5 : ByteArray) (x6 : Int) (x7 : List S25) : MR x0 x1 x2 x3 x4 x5 x6 x7 x0 x1 x2 x3 x4 x5 x6 x7 :=
  ⟨rfl, rfl, rfl, rfl, R.refl _, fun _ _ _ => ⟨rfl, R.refl _⟩, fun _ _ _ => ⟨rfl, rfl, rfl⟩, fun _ _ _ => ⟨rfl, fun _ _ _ => rfl⟩⟩
/-- THE PLAIN LAW: at metres whose lists are no longer than 2^20 the law comes to true. -/
theorem MetreSame_comes (x0 : ByteArray) (x1 : List S86) (x2 : List S88) (x3 : List (List ByteArray)) (x4 : Int) (x5 : ByteArray) (x6 : Int) (x7 : List S25) (y0 : ByteArray) (y1 : List S86) (y2 : List S88) (y3 : List (List ByteArray)) (y4 : Int) (y5 : ByteArray) (y6 : Int) (y7 : List S25)
    (h1 : x1.length ≤ 1048576) (h1k : ∀ x, x ∈ x1 → Small x.f1) (h2 : x2.length ≤ 1048576) (h3 : x3.length ≤ 1048576) (h3k : ∀ x, x ∈ x3 → x.length ≤ 1048576) (h7 : Small ⟨x4, x5, x6, x7⟩)
    (g1 : y1.length ≤ 1048576) (g1k : ∀ x, x ∈ y1 → Small x.f1) (g2 : y2.length ≤ 1048576) (g3 : y3.length ≤ 1048576) (g3k : ∀ x, x ∈ y3 → x.length ≤ 1048576) (g7 : Small ⟨y4, y5, y6, y7⟩) :
    Comes (fun k => ancepslaw22_MetreSame.f k x0 x1 x2 x3 x4 x5 x6 x7 y0 y1 y2 y3 y4 y5 y6 y7) true := by
  have hno : Comes (fun k => ancepslaw22_MetreSame.j0 k true x0 x1 x2 x3 x4 x5 x6 x7 y0 y1 y2 y3 y4 y5 y6 y7) true :=
    Comes.succ (by simp only [ancepslaw22_MetreSame.j0]; exact Comes.ite_pos (by first | rfl | trivial) (Comes.bind awake_comes (Comes.const _)))
  have cx := copied_comes x0 x1 x2 x3 x4 x5 x6 x7 h1 h1k h2 h3 h3k h7
  have cy := copied_comes y0 y1 y2 y3 y4 y5 y6 y7 g1 g1k g2 g3 g3k g7
  obtain ⟨r, hr, hrc⟩ := Same_comes x0 x1 x2 x3 x4 x5 x6 x7 y0 y1 y2 y3 y4 y5 y6 y7 h1 h1k h2 h3 h3k h7
  obtain ⟨s, hs, hsc⟩ := rSame_comes x0 x1 x2 x3 x4 x5 x6 x7 y0 y1 y2 y3 y4 y5 y6 y7 h1 h1k h2 h3 h3k h7
  obtain ⟨t, ht, htc⟩ := Same_comes x0 x1 x2 x3 x4 x5 x6 x7 x0 x1 x2 x3 x4 x5 x6 x7 h1 h1k h2 h3 h3k h7
  obtain rfl : t = true := ht.2 (MR.refl ..)
  obtain rfl : r = s := by
    cases r <;> cases s
    · rfl
    · exact absurd (hr.2 (hs.1 rfl)) (by decide)
    · exact absurd (hs.2 (hr.1 rfl)) (by decide)
    · rfl
  have hyes : Comes (fun k => ancepslaw22_MetreSame.j0 k false x0 x1 x2 x3 x4 x5 x6 x7 y0 y1 y2 y3 y4 y5 y6 y7) true := by
    refine Comes.succ ?_
    simp only [ancepslaw22_MetreSame.j0]
    refine Comes.ite_neg (by decide) (Comes.bind cx (Comes.bind cy (Comes.bind hrc (Comes.bind hsc ?_))))
    exact Comes.ite_pos (by simp) (Comes.bind cx (Comes.bind cx (Comes.bind htc (Comes.const _))))
  unfold ancepslaw22_MetreSame.f
  obtain ⟨u, hu⟩ := few_comes x0 x1 x2 x3 x4 x5 x6 x7 h1 h1k h3 h7
  obtain ⟨v, hv⟩ := few_comes y0 y1 y2 y3 y4 y5 y6 y7 g1 g1k g3 g7
  refine Comes.bind awake_comes (Comes.ite_pos rfl (Comes.bind hu ?_))
  cases u with
  | false => exact Comes.ite_neg (by decide) hno
  | true =>
    refine Comes.ite_pos rfl (Comes.bind hv ?_)
    cases v with
    | false => exact hno
    | true => exact hyes
#print axioms MetreSame_comes
end Go.Proofs.YtmffocankommaaaDoor.P
end

section
namespace Go.Proofs.YtmffocankommaaaDoor.bulks

theorem one_le {H : Type} (d : DataW H) : 1 ≤ Rows.uptoBulk d := by
  cases d with
  | lit l => cases l <;> simp [Rows.uptoBulk]
  | nil => simp [Rows.uptoBulk]
  | ptr d => simp [Rows.uptoBulk]
  | slice elems spare => simp [Rows.uptoBulk]
  | agg parts => simp [Rows.uptoBulk]
  | iface t d => simp [Rows.uptoBulk]
  | map entries => simp [Rows.uptoBulk]
  | held h => simp [Rows.uptoBulk]

/-- a part's bulk is at most the whole's -/
theorem part_le {H : Type} {d : DataW H} {l : List (DataW H)} (h : d ∈ l) : Rows.uptoBulk d ≤ Rows.uptoBulkAll l := by
  induction l with
  | nil => cases h
  | cons x r ih =>
    simp only [Rows.uptoBulkAll]
    cases List.mem_cons.1 h with
    | inl e => subst e; omega
    | inr e => have := ih e; omega

theorem append {H : Type} (l r : List (DataW H)) : Rows.uptoBulkAll (l ++ r) = Rows.uptoBulkAll l + Rows.uptoBulkAll r := by
  induction l with
  | nil => simp [Rows.uptoBulkAll]
  | cons x l ih => simp only [List.cons_append, Rows.uptoBulkAll, ih]; omega

/-- so many values at the most -/
theorem length_le {H : Type} (l : List (DataW H)) : l.length ≤ Rows.uptoBulkAll l := by
  induction l with
  | nil => simp [Rows.uptoBulkAll]
  | cons x r ih => have := one_le x; simp only [Rows.uptoBulkAll, List.length_cons]; omega

/-- a slice's places, and what they hold -/
theorem slice_le {H : Type} (elems spare : List (DataW H)) : elems.length + spare.length + 1 ≤ Rows.uptoBulk (.slice elems spare) := by
  have h1 := length_le elems
  have h2 := length_le spare
  simp only [Rows.uptoBulk]
  omega
theorem slice_elems {H : Type} (elems spare : List (DataW H)) : Rows.uptoBulkAll elems + 1 ≤ Rows.uptoBulk (.slice elems spare) := by
  simp only [Rows.uptoBulk]
  omega

/-- a string's letters -/
theorem string_eq {H : Type} (bytes : List UInt8) : Rows.uptoBulk (DataW.lit (H := H) (.string bytes)) = bytes.length + 1 := by
  simp [Rows.uptoBulk]

/-- THE BOUND, as the builder hands it over ('hk') -/
theorem bound {H : Type} {l : List (DataW H)} (hk : Rows.uptoSmall H l = true) : Rows.uptoBulkAll l ≤ 1048576 := by
  simpa [Rows.uptoSmall] using hk

/-- ROOM: a slice of n elements of b bytes, grown by append: below the 2^48 bytes that append, make and a Builder bear. Here n up to 2^21, b up to 4,096: put your own numbers. -/
theorem room {n b : Nat} (hn : n ≤ 2097152) (hb : b ≤ 4096) : (n + n / 4 + 192) * b ≤ 281474976710656 := by
  have h : (n + n / 4 + 192) * b ≤ 2621632 * 4096 := Nat.mul_le_mul (by omega) hb
  omega

end Go.Proofs.YtmffocankommaaaDoor.bulks
end

section
namespace Go.Proofs.YtmffocankommaaaDoor.P
open Go.RowKit Go.Proofs.YtmffocankommaaaDoorW.PrintWords Go.Proofs.YtmffocankommaaaDoorW.PrintLast Go.Proofs.YtmffocankommaaaDoorW.PrintMore Go.Proofs.YtmffocankommaaaDoorY
set_option linter.unusedVariables false
theorem list_of {α : Type} (n : Nat) (Q : Nat → α → Prop) (h : ∀ i, i < n → ∃ b, Q i b) : ∃ xs : List α, xs.length = n ∧ ∀ i (hi : i < xs.length), Q i xs[i] := by
  induction n with
  | zero => exact ⟨[], rfl, fun i hi => absurd hi (by simp)⟩
  | succ n ih =>
    obtain ⟨xs, hl, hx⟩ := ih (fun i hi => h i (by omega))
    obtain ⟨b, hb⟩ := h n (by omega)
    refine ⟨xs ++ [b], by simp [hl], fun i hi => ?_⟩
    by_cases hin : i < xs.length
    · rw [List.getElem_append_left hin]
      exact hx i hin
    · have : i = n := by simp at hi; omega
      subst this
      rw [List.getElem_append_right (by omega)]
      simp [hl, hb]
section
variable {H : Type} {enc : TypeId × Value → H} {P : Program} {w : World} {base : Nat} {sp : Nat → Bool} {held : Bool}
/-- Whatever reads as a slice of e is a row of values of the elements' kind. -/
theorem opens_slice {α : Type} (d : Kd α) (Pr : α → Prop) {t e : TypeId} {fuel : Nat} {cs : List Value} {x : DataW H × List MemPlace} (ht : P.underlying t = some (.slice e)) (hsz : P.cellsOf e = d.sz)
    (ih : ∀ n, n < fuel → ∀ cs' x', DataW.trod enc P w base sp held n e cs' = some x' → ∃ a, d.K w a cs' ∧ (Rows.uptoBulk x'.1 ≤ 1048576 → Pr a))
    (h : DataW.trod enc P w base sp held fuel t cs = some x) :
    ∃ (xs : List α) (A : Option Addr) (c : Nat), cs = [.slice A xs.length c] ∧ xs.length ≤ c ∧ d.C w A xs.length xs ∧ (Rows.uptoBulk x.1 ≤ 1048576 → xs.length ≤ 1048576 ∧ ∀ a, a ∈ xs → Pr a) := by
  rcases DataW.trod_slice ht h with ⟨rfl, rfl⟩ | ⟨a, len, cap, elems, rest, n, rfl, rfl, rfl, hb, hl, hm, hlen, hel, hsp, hns⟩
  · exact ⟨[], none, 0, rfl, Nat.le_refl _, ⟨rfl, by simp, fun h => absurd h (by simp)⟩, fun _ => ⟨by simp, fun a h => by cases h⟩⟩
  · have each : ∀ i (hi : i < len), ∃ b cs', w.cells? base (a.add (i * P.cellsOf e)) (P.cellsOf e) = some cs' ∧ d.K w b cs' ∧ (Rows.uptoBulk (elems[i]'(by omega)).1 ≤ 1048576 → Pr b) := by
      intro i hi
      have he := hel i hi
      rw [List.getElem?_eq_getElem (by omega)] at he
      obtain ⟨cs', h1, h2⟩ := Option.bind_eq_some_iff.1 he
      obtain ⟨b, hK, hP⟩ := ih n (Nat.lt_succ_self n) cs' _ h2
      exact ⟨b, cs', h1, hK, hP⟩
    obtain ⟨xs, hxl, hx⟩ := list_of len (fun i b => ∃ cs', w.cells? base (a.add (i * P.cellsOf e)) (P.cellsOf e) = some cs' ∧ d.K w b cs' ∧ (∀ hi : i < len, Rows.uptoBulk (elems[i]'(by omega)).1 ≤ 1048576 → Pr b)) (fun i hi => by
      obtain ⟨b, cs', h1, h2, h3⟩ := each i hi
      exact ⟨b, cs', h1, h2, fun _ => h3⟩)
    refine ⟨xs, some a, cap, by rw [hxl], by omega, ⟨rfl, by unfold maxLen at hm; omega, fun _ => ⟨a, rfl, fun j p hj => ?_⟩⟩, fun hB => ?_⟩
    · obtain ⟨hj1, rfl⟩ := List.getElem?_eq_some_iff.1 hj
      obtain ⟨cs', h1, h2, _⟩ := hx j (by omega)
      obtain ⟨_, hcl, hcell⟩ := World.cells?_some h1
      refine ⟨cs', by rw [hcl, hsz], h2, fun i u hu => ?_⟩
      have hi := (List.getElem?_eq_some_iff.1 hu).1
      have := hcell i (by omega)
      rw [hu] at this
      rw [← this, ← hsz, Addr.add_add]
    · dsimp only at hB
      have hb1 := bulks.slice_le (H := H) (elems.map (·.1)) (rest.map (·.1))
      have hb2 := bulks.slice_elems (H := H) (elems.map (·.1)) (rest.map (·.1))
      simp only [List.length_map] at hb1
      refine ⟨by omega, fun b hbm => ?_⟩
      obtain ⟨i, hi, rfl⟩ := List.getElem_of_mem hbm
      obtain ⟨_, _, _, h3⟩ := hx i (by omega)
      refine h3 (by omega) ?_
      have := bulks.part_le (H := H) (d := (elems[i]'(by omega)).1) (l := elems.map (·.1)) (List.mem_map.2 ⟨_, List.getElem_mem _, rfl⟩)
      omega
end
section
variable {H : Type} {enc : TypeId × Value → H} {w : World} {base : Nat} {sp : Nat → Bool} {held : Bool}
set_option maxRecDepth 100000 in
/-- A node that reads. -/
theorem opens_node : ∀ (fuel : Nat) (cs : List Value) (x : DataW H × List MemPlace), DataW.trod enc Tryd.prog w base sp held fuel 25 cs = some x → ∃ n : S25, k25.K w n cs ∧ (Rows.uptoBulk x.1 ≤ 1048576 → Small n) := by
  intro fuel
  induction fuel using Nat.strongRecOn with
  | _ fuel ih =>
    intro cs x h
    obtain ⟨xs, n, rfl, rfl, hcl, hxl, hf⟩ := DataW.trod_struct Tryd.underlying25 h
    have hc : Tryd.prog.cellsOf 25 = 4 := by kernel_rfl
    rw [hc] at hcl
    match xs, hxl, cs, hcl with
    | [y0, y1, y2, y3], _, [v0, v1, v2, v3], _ =>
    have c3 : Tryd.prog.cellsOf 3 = 1 := by kernel_rfl
    have c9 : Tryd.prog.cellsOf 9 = 1 := by kernel_rfl
    have c23 : Tryd.prog.cellsOf 23 = 1 := by kernel_rfl
    have g0 : DataW.trod enc Tryd.prog w base sp held n 3 [v0] = some y0 := by
      have g := hf 0 _ rfl
      simp [c3] at g
      exact g
    have g1 : DataW.trod enc Tryd.prog w base sp held n 9 [v1] = some y1 := by
      have g := hf 1 _ rfl
      simp [c9] at g
      exact g
    have g2 : DataW.trod enc Tryd.prog w base sp held n 3 [v2] = some y2 := by
      have g := hf 2 _ rfl
      simp [c3] at g
      exact g
    have g3 : DataW.trod enc Tryd.prog w base sp held n 23 [v3] = some y3 := by
      have g := hf 3 _ rfl
      simp [c23] at g
      exact g
    obtain ⟨i0, e0, hx0, _⟩ := DataW.trod_int Tryd.underlying3 g0
    obtain ⟨s1, e1, hx1, _⟩ := DataW.trod_string Tryd.underlying9 g1
    obtain ⟨i2, e2, hx2, _⟩ := DataW.trod_int Tryd.underlying3 g2
    obtain ⟨l, A, c, e3, hl, hC, hP⟩ := opens_slice k25 Small Tryd.underlying23 (by kernel_rfl) (fun m hm => ih m (by omega)) g3
    obtain rfl : v0 = .int .i64 i0 := by simpa using e0
    obtain rfl : v1 = .string s1 := by simpa using e1
    obtain rfl : v2 = .int .i64 i2 := by simpa using e2
    obtain rfl : v3 = .slice A l.length c := by simpa using e3
    refine ⟨⟨i0, s1, i2, l⟩, k25_mk w ⟨i0, s1, i2, l⟩ hl hC, fun hB => ?_⟩
    have hb : Rows.uptoBulk y3.1 ≤ 1048576 := by
      have := bulks.part_le (H := H) (d := y3.1) (l := [y0, y1, y2, y3].map (·.1)) (by simp)
      simp only [Rows.uptoBulk] at hB
      omega
    obtain ⟨h1, h2⟩ := hP hb
    exact .mk _ _ _ _ h1 h2
set_option maxRecDepth 100000 in
theorem opens_counter (fuel : Nat) (cs : List Value) (x : DataW H × List MemPlace) (h : DataW.trod enc Tryd.prog w base sp held fuel 88 cs = some x) : ∃ n : S88, k88.K w n cs ∧ (Rows.uptoBulk x.1 ≤ 1048576 → True) := by
  obtain ⟨xs, n, rfl, rfl, hcl, hxl, hf⟩ := DataW.trod_struct Tryd.underlying88 h
  have hc : Tryd.prog.cellsOf 88 = 3 := by kernel_rfl
  rw [hc] at hcl
  match xs, hxl, cs, hcl with
  | [y0, y1, y2], _, [v0, v1, v2], _ =>
  have c3 : Tryd.prog.cellsOf 3 = 1 := by kernel_rfl
  have c9 : Tryd.prog.cellsOf 9 = 1 := by kernel_rfl
  have g0 : DataW.trod enc Tryd.prog w base sp held n 9 [v0] = some y0 := by
    have g := hf 0 _ rfl
    simp [c9] at g
    exact g
  have g1 : DataW.trod enc Tryd.prog w base sp held n 3 [v1] = some y1 := by
    have g := hf 1 _ rfl
    simp [c3] at g
    exact g
  have g2 : DataW.trod enc Tryd.prog w base sp held n 3 [v2] = some y2 := by
    have g := hf 2 _ rfl
    simp [c3] at g
    exact g
  obtain ⟨s0, e0, _, _⟩ := DataW.trod_string Tryd.underlying9 g0
  obtain ⟨i1, e1, _, _⟩ := DataW.trod_int Tryd.underlying3 g1
  obtain ⟨i2, e2, _, _⟩ := DataW.trod_int Tryd.underlying3 g2
  obtain rfl : v0 = .string s0 := by simpa using e0
  obtain rfl : v1 = .int .i64 i1 := by simpa using e1
  obtain rfl : v2 = .int .i64 i2 := by simpa using e2
  exact ⟨⟨s0, i1, i2⟩, k88_mk w ⟨s0, i1, i2⟩, fun _ => trivial⟩
set_option maxRecDepth 100000 in
theorem opens_foot (fuel : Nat) (cs : List Value) (x : DataW H × List MemPlace) (h : DataW.trod enc Tryd.prog w base sp held fuel 86 cs = some x) : ∃ n : S86, k86.K w n cs ∧ (Rows.uptoBulk x.1 ≤ 1048576 → Small n.f1) := by
  obtain ⟨xs, n, rfl, rfl, hcl, hxl, hf⟩ := DataW.trod_struct Tryd.underlying86 h
  have hc : Tryd.prog.cellsOf 86 = 5 := by kernel_rfl
  rw [hc] at hcl
  match xs, hxl, cs, hcl with
  | [y0, y1], _, [v0, v1, v2, v3, v4], _ =>
  have c9 : Tryd.prog.cellsOf 9 = 1 := by kernel_rfl
  have c25 : Tryd.prog.cellsOf 25 = 4 := by kernel_rfl
  have g0 : DataW.trod enc Tryd.prog w base sp held n 9 [v0] = some y0 := by
    have g := hf 0 _ rfl
    simp [c9] at g
    exact g
  have g1 : DataW.trod enc Tryd.prog w base sp held n 25 [v1, v2, v3, v4] = some y1 := by
    have g := hf 1 _ rfl
    simp [c25] at g
    exact g
  obtain ⟨s0, e0, _, _⟩ := DataW.trod_string Tryd.underlying9 g0
  obtain ⟨b, hK, hP⟩ := opens_node n _ _ g1
  obtain rfl : v0 = .string s0 := by simpa using e0
  refine ⟨⟨s0, b⟩, ⟨[.string s0], [v1, v2, v3, v4], rfl, rfl, hK⟩, fun hB => hP ?_⟩
  have := bulks.part_le (H := H) (d := y1.1) (l := [y0, y1].map (·.1)) (by simp)
  simp only [Rows.uptoBulk] at hB
  omega
theorem opens_str (fuel : Nat) (cs : List Value) (x : DataW H × List MemPlace) (h : DataW.trod enc Tryd.prog w base sp held fuel 9 cs = some x) : ∃ n : ByteArray, Kd.string.K w n cs ∧ (Rows.uptoBulk x.1 ≤ 1048576 → True) := by
  obtain ⟨s0, rfl, _, _⟩ := DataW.trod_string Tryd.underlying9 h
  exact ⟨s0, rfl, fun _ => trivial⟩
theorem opens_strs (fuel : Nat) (cs : List Value) (x : DataW H × List MemPlace) (h : DataW.trod enc Tryd.prog w base sp held fuel 39 cs = some x) : ∃ n : List ByteArray, (Kd.slice 9 Kd.string).K w n cs ∧ (Rows.uptoBulk x.1 ≤ 1048576 → n.length ≤ 1048576) := by
  obtain ⟨xs, A, c, rfl, hl, hC, hP⟩ := opens_slice Kd.string (fun _ => True) Tryd.underlying39 (by kernel_rfl) (fun m _ => opens_str m) h
  exact ⟨xs, ⟨A, c, rfl, hl, hC⟩, fun hB => (hP hB).1⟩
set_option maxRecDepth 100000 in
/-- Whatever reads as a metre. -/
theorem opens_metre (fuel : Nat) (cs : List Value) (x : DataW H × List MemPlace) (h : DataW.trod enc Tryd.prog w base sp held fuel 44 cs = some x) :
    ∃ (a0 : ByteArray) (A1 : Option Addr) (c1 : Nat) (l1 : List S86) (A2 : Option Addr) (c2 : Nat) (l2 : List S88) (A3 : Option Addr) (c3 : Nat) (l3 : List (List ByteArray)) (a4 : Int) (a5 : ByteArray) (a6 : Int) (A7 : Option Addr) (c7 : Nat) (l7 : List S25),
      cs = [.string a0, .slice A1 l1.length c1, .slice A2 l2.length c2, .slice A3 l3.length c3, .int .i64 a4, .string a5, .int .i64 a6, .slice A7 l7.length c7] ∧
      Kd.C k86 w A1 l1.length l1 ∧ l1.length ≤ c1 ∧ Kd.C k88 w A2 l2.length l2 ∧ l2.length ≤ c2 ∧ Kd.C (Kd.slice 9 Kd.string) w A3 l3.length l3 ∧ l3.length ≤ c3 ∧ Kd.C k25 w A7 l7.length l7 ∧ l7.length ≤ c7 ∧
      (Rows.uptoBulk x.1 ≤ 1048576 → l1.length ≤ 1048576 ∧ (∀ y, y ∈ l1 → Small y.f1) ∧ l2.length ≤ 1048576 ∧ l3.length ≤ 1048576 ∧ (∀ y, y ∈ l3 → y.length ≤ 1048576) ∧ Small ⟨a4, a5, a6, l7⟩) := by
  obtain ⟨xs, n, rfl, rfl, hcl, hxl, hf⟩ := DataW.trod_struct Tryd.underlying44 h
  have hc : Tryd.prog.cellsOf 44 = 8 := by kernel_rfl
  rw [hc] at hcl
  match xs, hxl, cs, hcl with
  | [y0, y1, y2, y3, y4], _, [v0, v1, v2, v3, v4, v5, v6, v7], _ =>
  have c9 : Tryd.prog.cellsOf 9 = 1 := by kernel_rfl
  have c40 : Tryd.prog.cellsOf 40 = 1 := by kernel_rfl
  have c41 : Tryd.prog.cellsOf 41 = 1 := by kernel_rfl
  have c42 : Tryd.prog.cellsOf 42 = 1 := by kernel_rfl
  have c25 : Tryd.prog.cellsOf 25 = 4 := by kernel_rfl
  have g0 : DataW.trod enc Tryd.prog w base sp held n 9 [v0] = some y0 := by
    have g := hf 0 _ rfl
    simp [c9] at g
    exact g
  have g1 : DataW.trod enc Tryd.prog w base sp held n 40 [v1] = some y1 := by
    have g := hf 1 _ rfl
    simp [c40] at g
    exact g
  have g2 : DataW.trod enc Tryd.prog w base sp held n 41 [v2] = some y2 := by
    have g := hf 2 _ rfl
    simp [c41] at g
    exact g
  have g3 : DataW.trod enc Tryd.prog w base sp held n 42 [v3] = some y3 := by
    have g := hf 3 _ rfl
    simp [c42] at g
    exact g
  have g4 : DataW.trod enc Tryd.prog w base sp held n 25 [v4, v5, v6, v7] = some y4 := by
    have g := hf 4 _ rfl
    simp [c25] at g
    exact g
  obtain ⟨s0, e0, _, _⟩ := DataW.trod_string Tryd.underlying9 g0
  obtain ⟨l1, A1, c1, e1, m1, r1, p1⟩ := opens_slice k86 (fun y => Small y.f1) Tryd.underlying40 (by kernel_rfl) (fun m _ => opens_foot m) g1
  obtain ⟨l2, A2, c2, e2, m2, r2, p2⟩ := opens_slice k88 (fun _ => True) Tryd.underlying41 (by kernel_rfl) (fun m _ => opens_counter m) g2
  obtain ⟨l3, A3, c3, e3, m3, r3, p3⟩ := opens_slice (Kd.slice 9 Kd.string) (fun y => y.length ≤ 1048576) Tryd.underlying42 (by kernel_rfl) (fun m _ => opens_strs m) g3
  obtain ⟨nd, hK, p4⟩ := opens_node n _ _ g4
  obtain ⟨A7, c7, e4, m7, r7⟩ := k25_open hK
  obtain rfl : v0 = .string s0 := by simpa using e0
  obtain rfl : v1 = .slice A1 l1.length c1 := by simpa using e1
  obtain rfl : v2 = .slice A2 l2.length c2 := by simpa using e2
  obtain rfl : v3 = .slice A3 l3.length c3 := by simpa using e3
  simp only [List.cons.injEq, and_true] at e4
  obtain ⟨rfl, rfl, rfl, rfl⟩ := e4
  refine ⟨s0, A1, c1, l1, A2, c2, l2, A3, c3, l3, nd.f0, nd.f1, nd.f2, A7, c7, nd.f3, rfl, r1, m1, r2, m2, r3, m3, r7, m7, fun hB => ?_⟩
  have part : ∀ y, y ∈ [y0, y1, y2, y3, y4] → Rows.uptoBulk y.1 ≤ 1048576 := by
    intro y hy
    have := bulks.part_le (H := H) (d := y.1) (l := [y0, y1, y2, y3, y4].map (·.1)) (List.mem_map.2 ⟨y, hy, rfl⟩)
    simp only [Rows.uptoBulk] at hB
    omega
  have q1 := p1 (part y1 (by simp))
  have q2 := p2 (part y2 (by simp))
  have q3 := p3 (part y3 (by simp))
  have q4 := p4 (part y4 (by simp))
  cases nd
  exact ⟨q1.1, q1.2, q2.1, q3.1, q3.2, q4⟩
end
end Go.Proofs.YtmffocankommaaaDoor.P
end

section
namespace Go.Proofs.YtmffocankommaaaDoor.Wit
open Go.ChangeShapes Go.WideShapes Go.ChangeAt Go.RowKit
theorem own : ownKnob Tryd.prog.godebug = none := by kernel_rfl
/-- The values of a table's datum. -/
def vals (d : DataW Unit) : Array Value :=
  match d with
  | .agg l => (l.map fun
    | .lit (.int .u8 n) => Value.int .u8 n
    | .lit (.int .u64 n) => Value.int .u64 n
    | _ => .bool false).toArray
  | _ => #[]
def held (v : Array Value) : Obj → Obj
  | .cells _ t frozen => .cells v t frozen
  | o => o
noncomputable def laidWorld (os : Os) : World :=
  { World.holding Tryd.prog os ⟨#[], #[], []⟩ with heap := (((World.holding Tryd.prog os ⟨#[], #[], []⟩).heap.modify 1 (held (vals Rows.laid_internal_strconv_uint64pow10))).modify 2 (held (vals Rows.laid_math_bits_deBruijn32tab))).modify 3 (held (vals Rows.laid_math_bits_deBruijn64tab)) }
def zero : Value := .agg #[.string ⟨#[]⟩, .slice none 0 0, .slice none 0 0, .slice none 0 0, .int .i64 0, .string ⟨#[]⟩, .int .i64 0, .slice none 0 0]
theorem laid_met (os : Os) : laidMet Tryd.prog Rows.metreSameUptoRow.laid ((laidWorld os).forCall (fun _ _ => 0) ⟨#[], #[zero, zero], []⟩).memory :=
  laidMet_of_run' 8 (by kernel_rfl) (by kernel_rfl)
theorem reads (os : Os) {H : Type} (enc : TypeId × Value → H) : ∃ ds places, DataW.whole enc Tryd.prog ((laidWorld os).forCall (fun _ _ => 0) ⟨#[], #[zero, zero], []⟩).memory Tryd.f7.params.toList Rows.metreSameSpec.vars false #[zero, zero].toList 8 = some (ds, [], places) ∧ Rows.uptoSmall H (ds ++ []) = true := by
  have h : (match DataW.whole enc Tryd.prog ((laidWorld os).forCall (fun _ _ => 0) ⟨#[], #[zero, zero], []⟩).memory Tryd.f7.params.toList Rows.metreSameSpec.vars false #[zero, zero].toList 8 with
    | some (ds, [], _) => Rows.uptoSmall H (ds ++ [])
    | _ => false) = true := by kernel_rfl
  split at h
  · rename_i ds p he
    exact ⟨ds, p, he, h⟩
  · cases h
#print axioms reads
end Go.Proofs.YtmffocankommaaaDoor.Wit
end
