/- The plain law: what the walks' functions compute answers as the statement says; the opening of the arguments; the witness's world. No program in sight but its types. Conditions: the lists within the arguments are no longer than the row's bulk. -/
import Derived.Test.YtmffocankommaaaDoorKx24
import Derived.Lib.SlicesCompact
import Derived.Lib.Strings
import Derived.Test.YtmffocankommaaaDoorRows
import Derived.Deep.Slices
import Derived.ChangeArms
import Derived.WalkKit
import Derived.ProofKit
import Derived.OpenShut
import Derived.Deep.DeepHandedRow
import Derived.Lib.LaidTab
section
namespace Go.Proofs.YtmffocankommaaaDoor.Asc
abbrev St := List UInt8
def Asc (l : List St) : Prop := l.Pairwise (· < ·)
theorem irr (x : St) : ¬ x < x := List.lt_irrefl x
theorem tr {x y z : St} (h : x < y) (k : y < z) : x < z := List.lt_trans h k
theorem tri (x y : St) : x < y ∨ x = y ∨ y < x := by
  by_cases h : x < y
  · exact .inl h
  · by_cases k : y < x
    · exact .inr (.inr k)
    · exact .inr (.inl (List.le_antisymm k h))
/-- Two ascending lists with the same members are one. -/
theorem asc_unique : ∀ (l m : List St), Asc l → Asc m → (∀ x, x ∈ l ↔ x ∈ m) → l = m
  | [], [], _, _, _ => rfl
  | [], y :: m, _, _, h => absurd ((h y).2 (by simp)) (by simp)
  | x :: l, [], _, _, h => absurd ((h x).1 (by simp)) (by simp)
  | x :: l, y :: m, hl, hm, h => by
    have hl' := List.pairwise_cons.1 hl
    have hm' := List.pairwise_cons.1 hm
    have hxy : x = y := by
      rcases List.mem_cons.1 ((h x).1 (by simp)) with e | e
      · exact e
      · rcases List.mem_cons.1 ((h y).2 (by simp)) with e' | e'
        · exact e'.symm
        · exact absurd (tr (hm'.1 x e) (hl'.1 y e')) (irr _)
    subst hxy
    rw [asc_unique l m hl'.2 hm'.2 (fun z => ?_)]
    have hz := h z
    simp only [List.mem_cons] at hz
    constructor
    · intro hzl
      rcases hz.1 (.inr hzl) with e | e
      · subst e; exact absurd (hl'.1 z hzl) (irr _)
      · exact e
    · intro hzm
      rcases hz.2 (.inr hzm) with e | e
      · subst e; exact absurd (hm'.1 z hzm) (irr _)
      · exact e
theorem bytesLess_iff : ∀ (x y : St), Op.bytesLess x y = true ↔ x < y
  | [], [] => by simp [Op.bytesLess]
  | a :: x, [] => by simp [Op.bytesLess]
  | [], b :: y => by simp [Op.bytesLess]
  | a :: x, b :: y => by
    rw [List.cons_lt_cons_iff, ← bytesLess_iff x y]
    simp [Op.bytesLess]
/-- What stays of an ordered list is ascending and has its members. -/
theorem compact_asc (zs : List St) (hs : zs.Pairwise (· ≤ ·)) : ∀ m, m ≤ zs.length → Asc (Lib.compactUpTo zs.toArray m) ∧ ∀ x, x ∈ Lib.compactUpTo zs.toArray m ↔ x ∈ zs.take m := by
  intro m
  induction m with
  | zero => intro _; simp [Lib.compactUpTo, Asc]
  | succ m ih =>
    intro hm
    obtain ⟨ha, hmem⟩ := ih (by omega)
    have hm' : m < zs.length := by omega
    have hg : zs.toArray[m]! = zs[m] := by simp [hm']
    rw [Lib.compactUpTo_succ, hg]
    have htake : zs.take (m + 1) = zs.take m ++ [zs[m]] := List.take_succ_eq_append_getElem hm'
    by_cases hk : Lib.keeps zs.toArray m = true
    · rw [if_pos hk, htake]
      refine ⟨List.pairwise_append.2 ⟨ha, by simp, fun x hx y hy => ?_⟩, fun x => by simp only [List.mem_append, hmem]⟩
      obtain rfl : y = zs[m] := by simpa using hy
      have hx' := (hmem x).1 hx
      obtain ⟨j, hj, rfl⟩ := List.mem_iff_getElem.1 hx'
      have hjm : j < m := by have : j < (zs.take m).length := hj; rw [List.length_take] at this; omega
      rw [List.getElem_take]
      have h1 : zs[m - 1] ≠ zs[m] := by
        have := of_decide_eq_true hk
        rcases this with h0 | h0
        · omega
        · have e : zs.toArray[m - 1]! = zs[m - 1] := by simp [show m - 1 < zs.length by omega]
          rw [hg, e] at h0
          exact fun h => h0 h.symm
      have h2 : zs[m - 1] ≤ zs[m] := List.pairwise_iff_getElem.1 hs (m - 1) m (by omega) hm' (by omega)
      have h3 : zs[m - 1] < zs[m] := by
        rcases tri zs[m - 1] zs[m] with h | h | h
        · exact h
        · exact absurd h h1
        · exact absurd h h2
      by_cases hje : j = m - 1
      · subst hje; exact h3
      · have h4 : zs[j] ≤ zs[m - 1] := List.pairwise_iff_getElem.1 hs j (m - 1) (by omega) (by omega) (by omega)
        rcases tri zs[j] zs[m - 1] with h | h | h
        · exact tr h h3
        · rw [h]; exact h3
        · exact absurd h h4
    · rw [if_neg hk, List.append_nil, htake]
      refine ⟨ha, fun x => ?_⟩
      rw [hmem, List.mem_append]
      refine ⟨.inl, fun h => h.elim id fun h => ?_⟩
      obtain rfl : x = zs[m] := by simpa using h
      have hk' : ¬ (m = 0 ∨ zs.toArray[m]! ≠ zs.toArray[m - 1]!) := fun h => hk (decide_eq_true h)
      have hm0 : m ≠ 0 := fun h => hk' (.inl h)
      have he : zs.toArray[m]! = zs.toArray[m - 1]! := Classical.byContradiction fun h => hk' (.inr h)
      have e : zs.toArray[m - 1]! = zs[m - 1] := by simp [show m - 1 < zs.length by omega]
      rw [hg, e] at he
      rw [he]
      exact List.mem_iff_getElem.2 ⟨m - 1, by rw [List.length_take]; omega, by rw [List.getElem_take]⟩
theorem compact_length (zs : List St) : (Lib.compact zs).length ≤ zs.length := by
  unfold Lib.compact Lib.compactUpTo
  rw [List.length_map]
  exact Nat.le_trans (List.length_filter_le _ _) (by simp)
def sortC (zs : List St) : List St := Lib.compact (zs.mergeSort fun x y => decide (x ≤ y))
theorem sortC_asc (zs : List St) : Asc (sortC zs) ∧ ∀ x, x ∈ sortC zs ↔ x ∈ zs := by
  have hp : (zs.mergeSort fun x y => decide (x ≤ y)).Pairwise (· ≤ ·) := by
    have h := List.pairwise_mergeSort (le := fun x y : St => decide (x ≤ y)) (fun a b c h k => decide_eq_true (List.le_trans (of_decide_eq_true h) (of_decide_eq_true k))) (fun a b => by
      rcases List.le_total a b with h | h
      · simp [h]
      · simp [h]) zs
    exact h.imp fun h => of_decide_eq_true h
  have h := compact_asc _ hp _ (Nat.le_refl _)
  refine ⟨h.1, fun x => (h.2 x).trans ?_⟩
  rw [List.take_length, List.mem_mergeSort]
/-- A string put in at its place. -/
theorem put_asc (l : List St) (s : St) (i : Nat) (hi : i ≤ l.length) (hl : Asc l) (h1 : ∀ j (h : j < l.length), j < i → l[j] < s) (h2 : ∀ j (h : j < l.length), i ≤ j → s < l[j]) :
    Asc (l.take i ++ [s] ++ l.drop i) ∧ ∀ x, x ∈ l.take i ++ [s] ++ l.drop i ↔ x ∈ l ∨ x = s := by
  have a1 : ∀ x, x ∈ l.take i → x < s := fun x hx => by
    obtain ⟨j, hj, rfl⟩ := List.mem_iff_getElem.1 hx
    rw [List.getElem_take]
    rw [List.length_take] at hj
    exact h1 j (by omega) (by omega)
  have a2 : ∀ x, x ∈ l.drop i → s < x := fun x hx => by
    obtain ⟨j, hj, rfl⟩ := List.mem_iff_getElem.1 hx
    rw [List.getElem_drop]
    rw [List.length_drop] at hj
    exact h2 (i + j) (by omega) (by omega)
  have hall : Asc (l.take i ++ l.drop i) := by rw [List.take_append_drop]; exact hl
  have hp := List.pairwise_append.1 hall
  refine ⟨List.pairwise_append.2 ⟨List.pairwise_append.2 ⟨hp.1, by simp, fun x hx y hy => ?_⟩, hp.2.1, fun x hx y hy => ?_⟩, fun x => ?_⟩
  · obtain rfl : y = s := by simpa using hy
    exact a1 x hx
  · rcases List.mem_append.1 hx with h | h
    · exact hp.2.2 x h y hy
    · obtain rfl : x = s := by simpa using h
      exact a2 y hy
  · have : x ∈ l ↔ x ∈ l.take i ∨ x ∈ l.drop i := by rw [← List.mem_append, List.take_append_drop]
    rw [this]
    simp only [List.mem_append, List.mem_singleton]
    constructor
    · rintro ((h | h) | h)
      · exact .inl (.inl h)
      · exact .inr h
      · exact .inl (.inr h)
    · rintro ((h | h) | h)
      · exact .inl (.inl h)
      · exact .inr h
      · exact .inl (.inr h)
#print axioms sortC_asc
end Go.Proofs.YtmffocankommaaaDoor.Asc
end

section
namespace Go.Proofs.YtmffocankommaaaDoor.Z
open Go.RowKit Go.Proofs.YtmffocankommaaaDoorW.PrintWords Go.Proofs.YtmffocankommaaaDoorW.PrintLast Go.Proofs.YtmffocankommaaaDoorW.PrintMore Go.Proofs.YtmffocankommaaaDoorY
open Go.Proofs.YtmffocankommaaaDoor.Asc (St Asc sortC asc_unique sortC_asc put_asc bytesLess_iff compact_length irr tr tri)
set_option linter.unusedVariables false
/-- From some number of rounds on, f comes to r. -/
def Comes {α : Type} (f : Nat → Option α) (r : α) : Prop := ∃ K, ∀ k, K ≤ k → f k = some r
theorem Comes.bind {α β : Type} {f : Nat → Option α} {g : Nat → α → Option β} {x : α} {r : β} (h : Comes f x) (hg : Comes (fun k => g k x) r) : Comes (fun k => (f k).bind (g k)) r := by
  obtain ⟨K, h⟩ := h
  obtain ⟨L, hg⟩ := hg
  exact ⟨max K L, fun k hk => by
    show (f k).bind (g k) = some r
    rw [h k (by omega)]
    exact hg k (by omega)⟩
theorem Comes.const {α : Type} (r : α) : Comes (fun _ => some r) r := ⟨0, fun _ _ => rfl⟩
theorem Comes.succ {α : Type} {f : Nat → Option α} {r : α} (h : Comes (fun k => f (k + 1)) r) : Comes f r := by
  obtain ⟨K, h⟩ := h
  exact ⟨K + 1, fun k hk => by
    obtain ⟨j, rfl⟩ : ∃ j, k = j + 1 := ⟨k - 1, by omega⟩
    exact h j (by omega)⟩
theorem Comes.ite_pos {α : Type} {c : Prop} [Decidable c] {f g : Nat → Option α} {r : α} (hc : c) (h : Comes f r) : Comes (fun k => if c then f k else g k) r := by simpa only [if_pos hc] using h
theorem Comes.ite_neg {α : Type} {c : Prop} [Decidable c] {f g : Nat → Option α} {r : α} (hc : ¬ c) (h : Comes g r) : Comes (fun k => if c then f k else g k) r := by simpa only [if_neg hc] using h
/-- Lists within a node are no longer than 2^20. -/
inductive Small : S25 → Prop
  | mk (a : Int) (b : ByteArray) (c : Int) (l : List S25) (hl : l.length ≤ 1048576) (hk : ∀ x, x ∈ l → Small x) : Small ⟨a, b, c, l⟩
theorem wrap_small {i : Nat} (h : i ≤ 1048576) : wrap64 ((i : Int) + 1) = ((i + 1 : Nat) : Int) := by unfold wrap64; omega
theorem rd25 {xs : List S25} {i : Nat} (h : i < xs.length) : rd_T25 xs (i : Int) = xs[i] := by
  show xs.getD i z25 = xs[i]
  rw [List.getD_eq_getElem?_getD, List.getElem?_eq_getElem h]
  rfl
theorem node_loop (xs : List S25) (hl : xs.length ≤ 1048576) (a : Int) (b : ByteArray) (c : Int) (ih : ∀ x, x ∈ xs → Comes (fun k => ancepslaw22_node.f k x.f0 x.f1 x.f2 x.f3) (x.f0, x.f1, x.f2, x.f3)) :
    ∀ m i, i + m = xs.length → Comes (fun k => ancepslaw22_node.l0 k xs (xs.length : Int) (i : Int) a b c (xs.take i)) (a, b, c, xs) := by
  intro m
  induction m with
  | zero =>
    intro i hi
    obtain rfl : i = xs.length := by omega
    apply Comes.succ
    simp only [ancepslaw22_node.l0]
    refine Comes.ite_neg (by omega) ?_
    rw [List.take_length]
    exact Comes.const _
  | succ m IH =>
    intro i hi
    have hlt : i < xs.length := by omega
    apply Comes.succ
    simp only [ancepslaw22_node.l0]
    refine Comes.ite_pos (by omega) (Comes.ite_pos (by omega) (Comes.ite_pos (by omega) ?_))
    rw [rd25 hlt]
    refine Comes.bind (ih _ (List.getElem_mem hlt)) ?_
    refine Comes.ite_pos (by rw [List.length_take]; omega) ?_
    have h := IH (i + 1) (by omega)
    rw [wrap_small (by omega)]
    rw [List.take_succ_eq_append_getElem hlt] at h
    generalize xs[i] = y at h ⊢
    cases y
    exact h
theorem node_comes : ∀ n : S25, Small n → Comes (fun k => ancepslaw22_node.f k n.f0 n.f1 n.f2 n.f3) (n.f0, n.f1, n.f2, n.f3)
  | ⟨a, b, c, l⟩, hs => by
    cases hs with
    | mk _ _ _ _ hl hk =>
    apply Comes.succ
    simp only [ancepslaw22_node.f]
    exact node_loop l hl a b c (fun x hx => node_comes x (hk x hx)) l.length 0 (by omega)
  termination_by n => SizeOf.sizeOf n
  decreasing_by
    have := List.sizeOf_lt_of_mem hx
    simp only [S25.mk.sizeOf_spec]
    omega
set_option maxRecDepth 100000 in
theorem awake_100 : ancepslaw22_awake.f 100 = some true := by decide +kernel
theorem awake_comes : Comes (fun k => ancepslaw22_awake.f k) true :=
  ⟨100, fun k hk => by
    obtain ⟨j, rfl⟩ : ∃ j, k = 100 + j := ⟨k - 100, by omega⟩
    induction j with
    | zero => exact awake_100
    | succ j ih => exact ancepslaw22_awake.mono _ _ (ih (by omega))⟩
mutual
/-- A node, how many nodes it holds, and its names in order. -/
inductive CntN : S25 → Nat → List ByteArray → Prop
  | mk (a : Int) (b : ByteArray) (c : Int) (l : List S25) (m : Nat) (ys : List ByteArray) (h : CntL l m ys) : CntN ⟨a, b, c, l⟩ (m + 1) ((if a = 4 ∨ a = 11 ∨ a = 12 then [b] else []) ++ ys)
inductive CntL : List S25 → Nat → List ByteArray → Prop
  | nil : CntL [] 0 []
  | cons (x : S25) (l : List S25) (m n : Nat) (ys zs : List ByteArray) (h1 : CntN x m ys) (h2 : CntL l n zs) : CntL (x :: l) (m + n) (ys ++ zs)
end
theorem CntN.inv {a : Int} {b : ByteArray} {c : Int} {l : List S25} {m : Nat} {zs : List ByteArray} (h : CntN ⟨a, b, c, l⟩ m zs) : ∃ m' ys, m = m' + 1 ∧ zs = (if a = 4 ∨ a = 11 ∨ a = 12 then [b] else []) ++ ys ∧ CntL l m' ys := by
  cases h with
  | mk _ _ _ _ m ys h => exact ⟨m, ys, rfl, rfl, h⟩
theorem CntN.pos {n : S25} {m : Nat} {zs : List ByteArray} (h : CntN n m zs) : 0 < m := by
  cases h; omega
theorem CntL.inv {x : S25} {l : List S25} {m : Nat} {zs : List ByteArray} (h : CntL (x :: l) m zs) : ∃ m1 m2 y1 y2, m = m1 + m2 ∧ zs = y1 ++ y2 ∧ CntN x m1 y1 ∧ CntL l m2 y2 := by
  cases h with
  | cons _ _ m1 m2 y1 y2 h1 h2 => exact ⟨m1, m2, y1, y2, rfl, rfl, h1, h2⟩
theorem CntL.nil_inv {m : Nat} {zs : List ByteArray} (h : CntL [] m zs) : m = 0 ∧ zs = [] := by
  cases h; exact ⟨rfl, rfl⟩
theorem CntL.len : ∀ (l : List S25) (m : Nat) (zs : List ByteArray), CntL l m zs → l.length ≤ m
  | [], m, zs, h => by simp
  | x :: l, m, zs, h => by
    obtain ⟨m1, m2, y1, y2, rfl, rfl, h1, h2⟩ := h.inv
    have := CntL.len l m2 y2 h2
    have := h1.pos
    simp only [List.length_cons]
    omega
theorem CntL.mem : ∀ (l : List S25) (m : Nat) (zs : List ByteArray), CntL l m zs → ∀ x, x ∈ l → ∃ m' ys, CntN x m' ys ∧ m' ≤ m
  | [], m, zs, h, x, hx => by cases hx
  | y :: l, m, zs, h, x, hx => by
    obtain ⟨m1, m2, y1, y2, rfl, rfl, h1, h2⟩ := h.inv
    rcases List.mem_cons.1 hx with e | e
    · subst e; exact ⟨m1, y1, h1, by omega⟩
    · obtain ⟨m', ys, h', hl⟩ := CntL.mem l m2 y2 h2 x e
      exact ⟨m', ys, h', by omega⟩
theorem cnt_small : ∀ (M : Nat) (n : S25) (m : Nat) (ys : List ByteArray), m ≤ M → CntN n m ys → m ≤ 1048576 → Small n := by
  intro M
  induction M with
  | zero => intro n m ys hm h _; have := h.pos; omega
  | succ M ih =>
    intro n m ys hm h hM
    obtain ⟨a, b, c, l⟩ := n
    obtain ⟨m', zs, rfl, rfl, hl⟩ := h.inv
    refine .mk _ _ _ _ (by have := CntL.len _ _ _ hl; omega) (fun x hx => ?_)
    obtain ⟨m1, y1, h1, h2⟩ := CntL.mem _ _ _ hl x hx
    exact ih x m1 y1 (by omega) h1 (by omega)
theorem cnt_names : ∀ (M : Nat), (∀ n m ys, m ≤ M → CntN n m ys → ys.length ≤ m) ∧ (∀ l m ys, m ≤ M → CntL l m ys → ys.length ≤ m) := by
  intro M
  induction M with
  | zero =>
    refine ⟨fun n m ys hm h => by have := h.pos; omega, fun l m ys hm h => ?_⟩
    cases l with
    | nil => obtain ⟨rfl, rfl⟩ := h.nil_inv; simp
    | cons x l => have := CntL.len _ _ _ h; simp only [List.length_cons] at this; omega
  | succ M ih =>
    have hN : ∀ n m ys, m ≤ M + 1 → CntN n m ys → ys.length ≤ m := by
      intro n m ys hm h
      obtain ⟨a, b, c, l⟩ := n
      obtain ⟨m', zs, rfl, rfl, hl⟩ := h.inv
      have := ih.2 l m' zs (by omega) hl
      rw [List.length_append]
      split <;> simp <;> omega
    refine ⟨hN, fun l => ?_⟩
    induction l with
    | nil => intro m ys hm h; obtain ⟨rfl, rfl⟩ := h.nil_inv; simp
    | cons x l IH =>
      intro m ys hm h
      obtain ⟨m1, m2, y1, y2, rfl, rfl, h1, h2⟩ := h.inv
      have := hN x m1 y1 (by omega) h1
      have := IH m2 y2 (by omega) h2
      rw [List.length_append]
      omega
theorem wrapI {i : Int} (h : -1000000000000 ≤ i ∧ i ≤ 1000000000000) : wrap64 i = i := by unfold wrap64; omega
theorem wrapN {i : Nat} (h : i ≤ 1000000000) : wrap64 ((i : Int) + 1) = ((i + 1 : Nat) : Int) := by unfold wrap64; omega
theorem drop_cons {l : List S25} {i : Nat} (h : i < l.length) : l.drop i = l[i] :: l.drop (i + 1) := List.drop_eq_getElem_cons h
theorem named_comes (a : Int) : metre_named.f a = some (decide (a = 4 ∨ a = 11 ∨ a = 12)) := by
  unfold metre_named.f
  by_cases h4 : a = 4
  · simp [h4]
  · by_cases h11 : a = 11
    · simp [h11]
    · simp [h4, h11]
      rfl
theorem names_comes : ∀ (M : Nat) (n : S25) (m : Nat) (ys : List ByteArray), m ≤ M → CntN n m ys → m ≤ 10000000 → ∀ xs : List ByteArray, xs.length + m < 1000000000 → Comes (fun k => metre_names.f k xs n.f0 n.f1 n.f2 n.f3) (xs ++ ys) := by
  intro M
  induction M with
  | zero => intro n m ys hm h; have := h.pos; omega
  | succ M ih =>
    intro n m ys hm h hM xs hx
    obtain ⟨a, b, c, l⟩ := n
    obtain ⟨m', zs, rfl, rfl, hl⟩ := h.inv
    have loop : ∀ (d : Nat) (i : Nat) (m2 : Nat) (zs2 : List ByteArray), i + d = l.length → CntL (l.drop i) m2 zs2 → m2 ≤ m' → ∀ xs : List ByteArray, xs.length + m2 < 1000000000 → Comes (fun k => metre_names.l0 k xs l (i : Int)) (xs ++ zs2) := by
      intro d
      induction d with
      | zero =>
        intro i m2 zs2 hi h2 _ xs _
        rw [List.drop_eq_nil_of_le (by omega)] at h2
        obtain ⟨rfl, rfl⟩ := h2.nil_inv
        apply Comes.succ
        simp only [metre_names.l0]
        rw [List.append_nil]
        exact Comes.ite_neg (by omega) (Comes.const _)
      | succ d IH =>
        intro i m2 zs2 hi h2 hle xs hx2
        have hlt : i < l.length := by omega
        rw [drop_cons hlt] at h2
        obtain ⟨m1, m3, y1, y3, rfl, rfl, h1, h3⟩ := h2.inv
        apply Comes.succ
        simp only [metre_names.l0]
        refine Comes.ite_pos (by omega) (Comes.ite_pos (by omega) ?_)
        rw [rd25 hlt]
        refine Comes.bind (ih _ m1 y1 (by omega) h1 (by omega) xs (by omega)) ?_
        rw [wrapN (by have := CntL.len _ _ _ hl; omega), ← List.append_assoc]
        exact IH (i + 1) m3 y3 (by omega) h3 (by omega) (xs ++ y1) (by have := (cnt_names _).1 _ _ _ (Nat.le_refl _) h1; rw [List.length_append]; omega)
    apply Comes.succ
    simp only [metre_names.f]
    rw [named_comes]
    refine Comes.bind (Comes.const _) ?_
    by_cases hn : a = 4 ∨ a = 11 ∨ a = 12
    · refine Comes.ite_pos (decide_eq_true hn) (Comes.ite_pos (by omega) ?_)
      rw [if_pos hn, ← List.append_assoc]
      exact loop l.length 0 m' zs (by omega) (by simpa using hl) (Nat.le_refl _) (xs ++ [b]) (by simp; omega)
    · refine Comes.ite_neg (by simpa using hn) ?_
      rw [if_neg hn, List.nil_append]
      exact loop l.length 0 m' zs (by omega) (by simpa using hl) (Nat.le_refl _) xs (by omega)
theorem size_comes : ∀ (M : Nat) (n : S25) (m : Nat) (ys : List ByteArray), m ≤ M → CntN n m ys → m ≤ 10000000 → Comes (fun k => metre_Size.f k n.f0 n.f1 n.f2 n.f3) (m : Int) := by
  intro M
  induction M with
  | zero => intro n m ys hm h; have := h.pos; omega
  | succ M ih =>
    intro n m ys hm h hM
    obtain ⟨a, b, c, l⟩ := n
    obtain ⟨m', zs, rfl, rfl, hl⟩ := h.inv
    have loop : ∀ (d : Nat) (i : Nat) (m2 : Nat) (zs2 : List ByteArray), i + d = l.length → CntL (l.drop i) m2 zs2 → m2 ≤ m' → ∀ q : Nat, q + m2 ≤ 20000000 → Comes (fun k => metre_Size.l0 k (q : Int) l (l.length : Int) (i : Int)) ((q + m2 : Nat) : Int) := by
      intro d
      induction d with
      | zero =>
        intro i m2 zs2 hi h2 _ q _
        rw [List.drop_eq_nil_of_le (by omega)] at h2
        obtain ⟨rfl, rfl⟩ := h2.nil_inv
        apply Comes.succ
        simp only [metre_Size.l0]
        exact Comes.ite_neg (by omega) (Comes.const _)
      | succ d IH =>
        intro i m2 zs2 hi h2 hle q hq
        have hlt : i < l.length := by omega
        rw [drop_cons hlt] at h2
        obtain ⟨m1, m3, y1, y3, rfl, rfl, h1, h3⟩ := h2.inv
        apply Comes.succ
        simp only [metre_Size.l0]
        refine Comes.ite_pos (by omega) (Comes.ite_pos (by omega) (Comes.ite_pos (by omega) ?_))
        rw [rd25 hlt]
        refine Comes.bind (ih _ m1 y1 (by omega) h1 (by omega)) ?_
        rw [wrapN (by have := CntL.len _ _ _ hl; omega), wrapI (by omega)]
        have := IH (i + 1) m3 y3 (by omega) h3 (by omega) (q + m1) (by omega)
        rw [show q + m1 + m3 = q + (m1 + m3) by omega] at this
        exact this
    apply Comes.succ
    simp only [metre_Size.f]
    have := loop l.length 0 m' zs (by omega) (by simpa using hl) (Nat.le_refl _) 1 (by omega)
    rw [show 1 + m' = m' + 1 by omega] at this
    exact this
/-- The names of a list, each once, in order. -/
def NM (ys : List ByteArray) : List ByteArray := stringsOf (sortC (lettersOf ys))
theorem NM_letters (ys : List ByteArray) : lettersOf (NM ys) = sortC (lettersOf ys) := letters_strings _
theorem NM_length (ys : List ByteArray) : (NM ys).length ≤ ys.length := by
  unfold NM stringsOf sortC
  rw [List.length_map]
  exact Nat.le_trans (compact_length _) (by simp [lettersOf])
theorem Names_comes (n : S25) (m : Nat) (ys : List ByteArray) (h : CntN n m ys) (hm : m ≤ 10000000) : Comes (fun k => metre_Names.f k n.f0 n.f1 n.f2 n.f3) (NM ys) := by
  have h1 := names_comes m n m ys (Nat.le_refl _) h hm [] (by simp; omega)
  rw [List.nil_append] at h1
  have hl := (cnt_names m).1 n m ys (Nat.le_refl _) h
  unfold metre_Names.f
  refine Comes.bind h1 ?_
  refine Comes.ite_pos ⟨by omega, ?_⟩ ?_
  · have := compact_length (lettersOf (sorted ys))
    rwa [letters_length] at this
  · have : compacted (sorted ys) = NM ys := by
      unfold compacted NM sorted sortC
      rw [letters_strings]
    rw [this]
    exact Comes.const _
theorem equal_comes (l : List ByteArray) (hl : l.length ≤ 1000000000) : Comes (fun k => slices_Equal_string_string.f k l l) true := by
  unfold slices_Equal_string_string.f
  refine Comes.ite_pos rfl ?_
  have loop : ∀ (d i : Nat), i + d = l.length → Comes (fun k => slices_Equal_string_string.l0 k l l (l.length : Int) (i : Int)) true := by
    intro d
    induction d with
    | zero =>
      intro i hi
      apply Comes.succ
      simp only [slices_Equal_string_string.l0]
      exact Comes.ite_neg (by omega) (Comes.const _)
    | succ d IH =>
      intro i hi
      apply Comes.succ
      simp only [slices_Equal_string_string.l0]
      refine Comes.ite_pos (by omega) (Comes.ite_pos (by omega) (Comes.ite_pos (by omega) (Comes.ite_pos (by omega) (Comes.ite_pos trivial ?_))))
      rw [wrapN (by omega)]
      exact IH (i + 1) (by omega)
  exact loop l.length 0 (by omega)
theorem rdl7 {xs : List (List ByteArray)} {i : Nat} (h : i < xs.length) : rd_L7 xs (i : Int) = xs[i] := by
  show xs.getD i [] = xs[i]
  rw [List.getD_eq_getElem?_getD, List.getElem?_eq_getElem h]
  rfl
theorem concat_comes (a b : List ByteArray) (h : a.length + b.length ≤ 1048576) : Comes (fun k => slices_Concat_string_string.f k [a, b]) (a ++ b) := by
  unfold slices_Concat_string_string.f
  have r0 : rd_L7 [a, b] 0 = a := rfl
  have r1 : rd_L7 [a, b] 1 = b := rfl
  have w1 : wrap64 (0 + 1) = 1 := by unfold wrap64; omega
  have w2 : wrap64 (1 + 1) = 2 := by unfold wrap64; omega
  apply Comes.succ
  simp only [slices_Concat_string_string.l0, List.length_cons, List.length_nil, r0, w1]
  refine Comes.ite_pos (by decide) (Comes.ite_pos (by decide) (Comes.ite_pos (by decide) (Comes.ite_neg (by rw [wrapI (by omega)]; omega) ?_)))
  apply Comes.succ
  simp only [slices_Concat_string_string.l0, List.length_cons, List.length_nil, r1, w2]
  refine Comes.ite_pos (by decide) (Comes.ite_pos (by decide) (Comes.ite_pos (by decide) (Comes.ite_neg (by rw [wrapI (i := 0 + (a.length : Int)) (by omega), wrapI (by omega)]; omega) ?_)))
  apply Comes.succ
  simp only [slices_Concat_string_string.l0, List.length_cons, List.length_nil]
  refine Comes.ite_neg (by decide) ?_
  have hg : slices_Grow_string_string.nil (wrap64 (wrap64 (0 + (a.length : Int)) + (b.length : Int))) = some [] := by
    unfold slices_Grow_string_string.nil
    rw [wrapI (i := 0 + (a.length : Int)) (by omega), wrapI (by omega)]
    exact if_pos (by omega)
  rw [hg]
  refine Comes.bind (Comes.const _) ?_
  apply Comes.succ
  simp only [slices_Concat_string_string.l1, List.length_cons, List.length_nil, r0, w1, List.nil_append]
  refine Comes.ite_pos (by decide) (Comes.ite_pos (by decide) (Comes.ite_pos (by decide) (Comes.ite_pos (by omega) ?_)))
  apply Comes.succ
  simp only [slices_Concat_string_string.l1, List.length_cons, List.length_nil, r1, w2]
  refine Comes.ite_pos (by decide) (Comes.ite_pos (by decide) (Comes.ite_pos (by decide) (Comes.ite_pos (by omega) ?_)))
  apply Comes.succ
  simp only [slices_Concat_string_string.l1, List.length_cons, List.length_nil]
  exact Comes.ite_neg (by decide) (Comes.const _)
end Go.Proofs.YtmffocankommaaaDoor.Z
end

section
namespace Go.Proofs.YtmffocankommaaaDoor.Z
open Go.RowKit Go.Proofs.YtmffocankommaaaDoorW.PrintWords Go.Proofs.YtmffocankommaaaDoorW.PrintLast Go.Proofs.YtmffocankommaaaDoorW.PrintMore Go.Proofs.YtmffocankommaaaDoorY
open Go.Proofs.YtmffocankommaaaDoor.Asc (St Asc sortC asc_unique sortC_asc put_asc bytesLess_iff compact_length irr tr tri)
set_option linter.unusedVariables false
theorem rdS_letters {l : List ByteArray} {i : Nat} (h : i < l.length) : (rdOf ByteArray.empty l (i : Int)).toList = (lettersOf l)[i]'(by rw [letters_length]; exact h) := by
  unfold rdOf lettersOf
  rw [List.getElem_map, ByteArray.toList_eq, Int.toNat_natCast, List.getD_eq_getElem?_getD, List.getElem?_eq_getElem h]
  rfl
theorem rdS_get {l : List ByteArray} {i : Nat} (h : i < l.length) : rdOf ByteArray.empty l (i : Int) = l[i] := by
  unfold rdOf
  rw [Int.toNat_natCast, List.getD_eq_getElem?_getD, List.getElem?_eq_getElem h]
  rfl
def Put (l : List ByteArray) (s : St) (r : List ByteArray) : Prop := Asc (lettersOf r) ∧ (∀ x, x ∈ lettersOf r ↔ x ∈ lettersOf l ∨ x = s) ∧ r.length ≤ l.length + 1
theorem put_at (l : List ByteArray) (s : ByteArray) (i : Nat) (hi : i ≤ l.length) (hA : Asc (lettersOf l)) (h1 : ∀ j (h : j < (lettersOf l).length), j < i → (lettersOf l)[j] < s.data.toList) (h2 : ∀ j (h : j < (lettersOf l).length), i ≤ j → s.data.toList < (lettersOf l)[j]) :
    Put l s.data.toList (l.take i ++ [s] ++ l.drop i) := by
  have e : lettersOf (l.take i ++ [s] ++ l.drop i) = (lettersOf l).take i ++ [s.data.toList] ++ (lettersOf l).drop i := by
    simp [lettersOf, List.map_append, List.map_take, List.map_drop]
  have h := put_asc (lettersOf l) s.data.toList i (by rw [letters_length]; exact hi) hA h1 h2
  refine ⟨by rw [e]; exact h.1, fun x => by rw [e]; exact h.2 x, ?_⟩
  simp only [List.length_append, List.length_take, List.length_drop, List.length_cons, List.length_nil]
  omega
theorem addN_comes (l : List ByteArray) (s : ByteArray) (hA : Asc (lettersOf l)) (hl : l.length ≤ 20000000) (hs : s.data.toList ∉ lettersOf l) :
    ∃ r, Comes (fun k => ref_AddN.f k l s) r ∧ Put l s.data.toList r := by
  unfold ref_AddN.f
  have hLL : (lettersOf l).length = l.length := letters_length l
  have loop : ∀ (d i : Nat), i + d = l.length → (∀ j (h : j < (lettersOf l).length), j < i → (lettersOf l)[j] < s.data.toList) → ∃ r, Comes (fun k => ref_AddN.l0 k l s (i : Int)) r ∧ Put l s.data.toList r := by
    intro d
    induction d with
    | zero =>
      intro i hi h1
      refine ⟨_, Comes.succ ?_, put_at l s i (by omega) hA h1 (fun j h hij => by omega)⟩
      simp only [ref_AddN.l0, Option.bind_some, List.nil_append, Int.toNat_natCast, List.length_nil, List.length_cons, List.length_append, List.length_take, List.length_drop]
      refine Comes.ite_neg (by omega) (Comes.ite_pos (by omega) (Comes.ite_pos (by omega) (Comes.ite_pos (by omega) (Comes.ite_pos (by omega) (Comes.ite_pos (by omega) (Comes.const _))))))
    | succ d IH =>
      intro i hi h1
      have hlt : i < l.length := by omega
      by_cases hb : (lettersOf l)[i]'(by omega) < s.data.toList
      · obtain ⟨r, hr, hp⟩ := IH (i + 1) (by omega) (fun j h hj => by
          by_cases e : j = i
          · subst e; exact hb
          · exact h1 j h (by omega))
        refine ⟨r, Comes.succ ?_, hp⟩
        simp only [ref_AddN.l0]
        refine Comes.ite_pos (by omega) (Comes.ite_pos (by omega) (Comes.ite_pos ?_ ?_))
        · rw [rdS_letters hlt, ByteArray.toList_eq, bytesLess_iff]; exact hb
        · rw [wrapN (by omega)]; exact hr
      · have hne : (lettersOf l)[i]'(by omega) ≠ s.data.toList := fun e => hs (e ▸ List.getElem_mem _)
        have hgt : s.data.toList < (lettersOf l)[i]'(by omega) := by
          rcases tri ((lettersOf l)[i]'(by omega)) s.data.toList with h | h | h
          · exact absurd h hb
          · exact absurd h hne
          · exact h
        refine ⟨_, Comes.succ ?_, put_at l s i (by omega) hA h1 (fun j h hij => ?_)⟩
        · simp only [ref_AddN.l0, Option.bind_some, List.nil_append, Int.toNat_natCast, List.length_nil, List.length_cons, List.length_append, List.length_take, List.length_drop]
          refine Comes.ite_pos (by omega) (Comes.ite_pos (by omega) (Comes.ite_neg ?_ (Comes.ite_neg ?_ (Comes.ite_pos (by omega) (Comes.ite_pos (by omega) (Comes.ite_pos (by omega) (Comes.ite_pos (by omega) (Comes.const _))))))))
          · rw [rdS_letters hlt, ByteArray.toList_eq, bytesLess_iff]; exact hb
          · rw [rdS_letters hlt, ByteArray.toList_eq]; exact hne
        · by_cases e : j = i
          · subst e; exact hgt
          · exact tr hgt (List.pairwise_iff_getElem.1 hA i j (by omega) h (by omega))
  exact loop l.length 0 (by omega) (fun j _ h => by omega)
theorem addH_comes (l : List ByteArray) (s : ByteArray) (hA : Asc (lettersOf l)) (hl : l.length ≤ 20000000) (hs : s.data.toList ∈ lettersOf l) : Comes (fun k => ref_AddH.f k l s) l := by
  unfold ref_AddH.f
  have hLL : (lettersOf l).length = l.length := letters_length l
  obtain ⟨p, hp, he⟩ := List.mem_iff_getElem.1 hs
  have loop : ∀ (d i : Nat), i + d = p → Comes (fun k => ref_AddH.l0 k l s (i : Int)) l := by
    intro d
    induction d with
    | zero =>
      intro i hi
      obtain rfl : i = p := by omega
      have hlt : i < l.length := by omega
      apply Comes.succ
      simp only [ref_AddH.l0]
      refine Comes.ite_pos (by omega) (Comes.ite_pos (by omega) (Comes.ite_neg ?_ (Comes.ite_pos ?_ (Comes.const _))))
      · rw [rdS_letters hlt, ByteArray.toList_eq, bytesLess_iff, he]; exact irr _
      · rw [rdS_letters hlt, ByteArray.toList_eq, he]
    | succ d IH =>
      intro i hi
      have hlt : i < l.length := by omega
      apply Comes.succ
      simp only [ref_AddH.l0]
      refine Comes.ite_pos (by omega) (Comes.ite_pos (by omega) (Comes.ite_pos ?_ ?_))
      · rw [rdS_letters hlt, ByteArray.toList_eq, bytesLess_iff, ← he]
        exact List.pairwise_iff_getElem.1 hA i p (by omega) hp (by omega)
      · rw [wrapN (by omega)]; exact IH (i + 1) (by omega)
  exact loop p 0 (by omega)
theorem add_comes (l : List ByteArray) (s : ByteArray) (hA : Asc (lettersOf l)) (hl : l.length ≤ 20000000) : ∃ r, Comes (fun k => ancepsref22_Add.f k l s) r ∧ Put l s.data.toList r := by
  unfold ancepsref22_Add.f
  have hany : (l.any (fun x => x.toList == s.toList) = true) ↔ s.data.toList ∈ lettersOf l := by
    unfold lettersOf
    rw [List.any_eq_true]
    constructor
    · rintro ⟨x, hx, h⟩
      have h := eq_of_beq h
      rw [ByteArray.toList_eq, ByteArray.toList_eq] at h
      exact List.mem_map.2 ⟨x, hx, h⟩
    · intro h
      obtain ⟨x, hx, h⟩ := List.mem_map.1 h
      exact ⟨x, hx, by rw [ByteArray.toList_eq, ByteArray.toList_eq, h]; exact beq_self_eq_true _⟩
  by_cases h : s.data.toList ∈ lettersOf l
  · refine ⟨l, Comes.ite_pos (hany.2 h) (addH_comes l s hA hl h), hA, fun x => ⟨.inl, fun k => k.elim id fun e => e ▸ h⟩, by omega⟩
  · obtain ⟨r, hr, hp⟩ := addN_comes l s hA hl h
    exact ⟨r, Comes.ite_neg (fun k => h (hany.1 k)) hr, hp⟩
theorem strings_inj {u v : List ByteArray} (h : lettersOf u = lettersOf v) : u = v := by rw [← strings_letters u, h, strings_letters]
theorem NM_asc (ys : List ByteArray) : Asc (lettersOf (NM ys)) ∧ ∀ x, x ∈ lettersOf (NM ys) ↔ x ∈ lettersOf ys := by rw [NM_letters]; exact sortC_asc _
theorem NM_is {u ys : List ByteArray} (h : Asc (lettersOf u)) (hm : ∀ x, x ∈ lettersOf u ↔ x ∈ lettersOf ys) : u = NM ys :=
  strings_inj (asc_unique _ _ h (NM_asc ys).1 (fun x => (hm x).trans ((NM_asc ys).2 x).symm))
theorem NM_eq {u ys : List ByteArray} (hm : ∀ x, x ∈ lettersOf u ↔ x ∈ lettersOf ys) : NM u = NM ys := NM_is (NM_asc u).1 (fun x => ((NM_asc u).2 x).trans (hm x))
theorem letters_append (u v : List ByteArray) : lettersOf (u ++ v) = lettersOf u ++ lettersOf v := by simp [lettersOf]
end Go.Proofs.YtmffocankommaaaDoor.Z
end

section
namespace Go.Proofs.YtmffocankommaaaDoor.Z
open Go.RowKit Go.Proofs.YtmffocankommaaaDoorW.PrintWords Go.Proofs.YtmffocankommaaaDoorW.PrintLast Go.Proofs.YtmffocankommaaaDoorW.PrintMore Go.Proofs.YtmffocankommaaaDoorY
open Go.Proofs.YtmffocankommaaaDoor.Asc (St Asc sortC asc_unique sortC_asc put_asc bytesLess_iff compact_length irr tr tri)
set_option linter.unusedVariables false
theorem left_loop (l : List S25) (hl : l.length ≤ 1048576) (a : Int) (b : ByteArray) (c : Int) (ih : ∀ x, x ∈ l → ∀ q, ∃ t, Comes (fun k => ancepsref22_left.f k x.f0 x.f1 x.f2 x.f3 q) t) :
    ∀ m i, i + m = l.length → ∀ q, ∃ t, Comes (fun k => ancepsref22_left.l0 k q (i : Int) a b c l) t := by
  intro m
  induction m with
  | zero =>
    intro i hi q
    exact ⟨q, Comes.succ (by simp only [ancepsref22_left.l0]; exact Comes.ite_neg (by omega) (Comes.const _))⟩
  | succ m IH =>
    intro i hi q
    have hlt : i < l.length := by omega
    by_cases hq : q ≥ 0
    · obtain ⟨t, ht⟩ := ih _ (List.getElem_mem hlt) q
      obtain ⟨u, hu⟩ := IH (i + 1) (by omega) t
      refine ⟨u, Comes.succ ?_⟩
      simp only [ancepsref22_left.l0]
      refine Comes.ite_pos (by omega) (Comes.ite_pos hq (Comes.ite_pos (by omega) ?_))
      rw [rd25 hlt]
      refine Comes.bind ht ?_
      rw [wrap_small (by omega)]
      exact hu
    · exact ⟨q, Comes.succ (by simp only [ancepsref22_left.l0]; exact Comes.ite_pos (by omega) (Comes.ite_neg hq (Comes.const _)))⟩
theorem left_comes : ∀ n : S25, Small n → ∀ q, ∃ t, Comes (fun k => ancepsref22_left.f k n.f0 n.f1 n.f2 n.f3 q) t
  | ⟨a, b, c, l⟩, hs, q => by
    cases hs with
    | mk _ _ _ _ hl hk =>
    obtain ⟨t, ht⟩ := left_loop l hl a b c (fun x hx => left_comes x (hk x hx)) l.length 0 (by omega) (wrap64 ((wrap64 (q - 1)) - (wrap64 ((b.size : Int) / 40))))
    exact ⟨t, Comes.succ (by simp only [ancepsref22_left.f]; exact ht)⟩
  termination_by n => SizeOf.sizeOf n
  decreasing_by
    have := List.sizeOf_lt_of_mem hx
    simp only [S25.mk.sizeOf_spec]
    omega
theorem fewNode_comes (n : S25) (h : Small n) (q : Int) : ∃ t, Comes (fun k => ancepsref22_FewNode.f k n.f0 n.f1 n.f2 n.f3 q) t := by
  obtain ⟨t, ht⟩ := left_comes n h q
  exact ⟨_, Comes.bind ht (Comes.const _)⟩
section
variable (n : Int) (a0 : Int) (a1 : ByteArray) (a2 : Int) (a3 : List S25) (b0 : Int) (b1 : ByteArray) (b2 : Int) (b3 : List S25)
theorem fold_comes (both : List S25) (ns : List ByteArray) (hns : ns.length ≤ 10000000) (r : Bool)
    (h : Comes (fun k => ancepslaw22_MetreSizes.l1 k n (NM ns) [(⟨5, ⟨#[]⟩, 0, both⟩ : S25), (⟨6, ⟨#[]⟩, 0, both⟩ : S25)] (2 : Int) 0 a0 a1 a2 a3 b0 b1 b2 b3) r) :
    ∀ (d i : Nat) (W : List ByteArray), i + d = ns.length → Asc (lettersOf W) → (∀ x, x ∈ lettersOf W ↔ x ∈ (lettersOf ns).take i) → W.length ≤ i → Comes (fun k => ancepslaw22_MetreSizes.l0 k n both W ns (ns.length : Int) (i : Int) a0 a1 a2 a3 b0 b1 b2 b3) r := by
  intro d
  induction d with
  | zero =>
    intro i W hi hA hm hW
    have hW' : W = NM ns := NM_is hA (fun x => by rw [hm x, List.take_of_length_le (by rw [letters_length]; omega)])
    subst hW'
    apply Comes.succ
    simp only [ancepslaw22_MetreSizes.l0, Option.bind_some, List.length_cons, List.length_nil]
    exact Comes.ite_neg (by omega) h
  | succ d IH =>
    intro i W hi hA hm hW
    have hlt : i < ns.length := by omega
    obtain ⟨W', hc, hA', hm', hl'⟩ := add_comes W ns[i] hA (by omega)
    apply Comes.succ
    simp only [ancepslaw22_MetreSizes.l0]
    refine Comes.ite_pos (by omega) (Comes.ite_pos (by omega) (Comes.ite_pos (by omega) ?_))
    rw [rdS_get hlt]
    refine Comes.bind hc ?_
    rw [wrapN (by omega)]
    refine IH (i + 1) W' (by omega) hA' (fun x => ?_) (by omega)
    rw [hm' x, hm x, List.take_succ_eq_append_getElem (by rw [letters_length]; exact hlt), List.mem_append, List.mem_singleton]
    simp [lettersOf]
theorem eq_of_NM {u v : List ByteArray} (h : u = v) (hl : u.length ≤ 1000000000) : Comes (fun k => slices_Equal_string_string.f k u v) true := by
  subst h; exact equal_comes u hl
theorem MetreSizes_comes (ma mb : Nat) (ya yb : List ByteArray) (ha : CntN ⟨a0, a1, a2, a3⟩ ma ya) (hb : CntN ⟨b0, b1, b2, b3⟩ mb yb) (hm : ma + mb ≤ 1048576) :
    Comes (fun k => ancepslaw22_MetreSizes.f k a0 a1 a2 a3 b0 b1 b2 b3 n) true := by
  have sa := cnt_small ma _ ma ya (Nat.le_refl _) ha (by omega)
  have sb := cnt_small mb _ mb yb (Nat.le_refl _) hb (by omega)
  have la := (cnt_names ma).1 _ ma ya (Nat.le_refl _) ha
  have lb := (cnt_names mb).1 _ mb yb (Nat.le_refl _) hb
  have na := NM_length ya
  have nb := NM_length yb
  obtain ⟨ta, hta⟩ := fewNode_comes _ sa 60
  obtain ⟨tb, htb⟩ := fewNode_comes _ sb 60
  have jt : Comes (fun k => ancepslaw22_MetreSizes.j0 k n true a0 a1 a2 a3 b0 b1 b2 b3) true := by
    apply Comes.succ
    simp only [ancepslaw22_MetreSizes.j0]
    exact Comes.ite_pos trivial (Comes.bind awake_comes (Comes.const _))
  have Na := Names_comes _ ma ya ha (by omega)
  have Nb := Names_comes _ mb yb hb (by omega)
  have Sa := size_comes ma _ ma ya (Nat.le_refl _) ha (by omega)
  have Sb := size_comes mb _ mb yb (Nat.le_refl _) hb (by omega)
  have ca := node_comes _ sa
  have cb := node_comes _ sb
  have one : ∀ (kind : Int) (nm : ByteArray) (c : Int), CntN ⟨kind, nm, c, [⟨a0, a1, a2, a3⟩]⟩ (ma + 0 + 1) ((if kind = 4 ∨ kind = 11 ∨ kind = 12 then [nm] else []) ++ (ya ++ [])) :=
    fun kind nm c => .mk _ _ _ _ _ _ (.cons _ _ _ _ _ _ ha .nil)
  have two : ∀ (kind : Int), CntN ⟨kind, ⟨#[]⟩, 0, [⟨a0, a1, a2, a3⟩, ⟨b0, b1, b2, b3⟩]⟩ (ma + (mb + 0) + 1) ((if kind = 4 ∨ kind = 11 ∨ kind = 12 then [⟨#[]⟩] else []) ++ (ya ++ (yb ++ []))) :=
    fun kind => .mk _ _ _ _ _ _ (.cons _ _ _ _ _ _ ha (.cons _ _ _ _ _ _ hb .nil))
  -- the tail: a power and a tag of the first body
  have tail : Comes (fun k => ancepslaw22_MetreSizes.l1 k n (NM (NM ya ++ NM yb)) [(⟨5, ⟨#[]⟩, 0, [⟨a0, a1, a2, a3⟩, ⟨b0, b1, b2, b3⟩]⟩ : S25), (⟨6, ⟨#[]⟩, 0, [⟨a0, a1, a2, a3⟩, ⟨b0, b1, b2, b3⟩]⟩ : S25)] (2 : Int) 2 a0 a1 a2 a3 b0 b1 b2 b3) true := by
    apply Comes.succ
    simp only [ancepslaw22_MetreSizes.l1, Option.bind_some]
    refine Comes.ite_neg (by decide) (Comes.bind ca ?_)
    refine Comes.bind ca ?_
    refine Comes.bind (size_comes _ _ _ _ (Nat.le_refl _) (one 7 _ _) (by omega)) (Comes.bind Sa (Comes.ite_pos ?_ ?_))
    · rw [wrapI (by omega)]; omega
    have p1 := Names_comes _ _ _ (one 7 ⟨#[]⟩ (wrap64 (Int.tmod n 10))) (by omega)
    have e1 : NM ((if (7 : Int) = 4 ∨ (7 : Int) = 11 ∨ (7 : Int) = 12 then [(⟨#[]⟩ : ByteArray)] else []) ++ (ya ++ [])) = NM ya := by simp
    rw [e1] at p1
    refine Comes.bind p1 (Comes.bind Na (Comes.bind (equal_comes _ (by omega)) (Comes.ite_pos rfl ?_)))
    have p2 := Names_comes _ _ _ (one 12 ⟨#[99]⟩ 0) (by omega)
    obtain ⟨r, hr, hp⟩ := add_comes (NM ya) ⟨#[99]⟩ (NM_asc ya).1 (by omega)
    have e2 : NM ((if (12 : Int) = 4 ∨ (12 : Int) = 11 ∨ (12 : Int) = 12 then [(⟨#[99]⟩ : ByteArray)] else []) ++ (ya ++ [])) = r := by
      refine (NM_is hp.1 (fun x => ?_)).symm
      rw [hp.2.1 x, (NM_asc ya).2 x]
      simp [lettersOf, or_comm]
    rw [e2] at p2
    refine Comes.bind p2 (Comes.bind Na (Comes.bind hr (Comes.bind (equal_comes _ ?_) (Comes.const _))))
    have := hp.2.2
    omega
  have round : ∀ (kind : Int) (hk : ¬ (kind = 4 ∨ kind = 11 ∨ kind = 12)), Comes (fun k => metre_Size.f k kind (⟨#[]⟩ : ByteArray) 0 [⟨a0, a1, a2, a3⟩, ⟨b0, b1, b2, b3⟩]) ((ma + (mb + 0) + 1 : Nat) : Int) ∧ Comes (fun k => metre_Names.f k kind (⟨#[]⟩ : ByteArray) 0 [⟨a0, a1, a2, a3⟩, ⟨b0, b1, b2, b3⟩]) (NM (NM ya ++ NM yb)) := by
    intro kind hk
    refine ⟨size_comes _ _ _ _ (Nat.le_refl _) (two kind) (by omega), ?_⟩
    have p := Names_comes _ _ _ (two kind) (by omega)
    have e : NM ((if kind = 4 ∨ kind = 11 ∨ kind = 12 then [(⟨#[]⟩ : ByteArray)] else []) ++ (ya ++ (yb ++ []))) = NM (NM ya ++ NM yb) := by
      refine NM_eq (fun x => ?_)
      rw [if_neg hk, List.nil_append, List.append_nil, letters_append, letters_append, List.mem_append, List.mem_append, (NM_asc ya).2 x, (NM_asc yb).2 x]
    rw [e] at p
    exact p
  have lw : (NM (NM ya ++ NM yb)).length ≤ 1000000000 := by have := NM_length (NM ya ++ NM yb); rw [List.length_append] at this; omega
  have step : ∀ (i : Nat), i < 2 → Comes (fun k => ancepslaw22_MetreSizes.l1 k n (NM (NM ya ++ NM yb)) [(⟨5, ⟨#[]⟩, 0, [⟨a0, a1, a2, a3⟩, ⟨b0, b1, b2, b3⟩]⟩ : S25), (⟨6, ⟨#[]⟩, 0, [⟨a0, a1, a2, a3⟩, ⟨b0, b1, b2, b3⟩]⟩ : S25)] (2 : Int) ((i + 1 : Nat) : Int) a0 a1 a2 a3 b0 b1 b2 b3) true →
      Comes (fun k => ancepslaw22_MetreSizes.l1 k n (NM (NM ya ++ NM yb)) [(⟨5, ⟨#[]⟩, 0, [⟨a0, a1, a2, a3⟩, ⟨b0, b1, b2, b3⟩]⟩ : S25), (⟨6, ⟨#[]⟩, 0, [⟨a0, a1, a2, a3⟩, ⟨b0, b1, b2, b3⟩]⟩ : S25)] (2 : Int) (i : Int) a0 a1 a2 a3 b0 b1 b2 b3) true := by
    intro i hi hnext
    apply Comes.succ
    simp only [ancepslaw22_MetreSizes.l1, List.length_cons, List.length_nil]
    refine Comes.ite_pos (by omega) (Comes.ite_pos (by omega) (Comes.ite_pos (by omega) ?_))
    have hrd : ∃ kind : Int, (kind = 5 ∨ kind = 6) ∧ rd_T25 [(⟨5, ⟨#[]⟩, 0, [⟨a0, a1, a2, a3⟩, ⟨b0, b1, b2, b3⟩]⟩ : S25), (⟨6, ⟨#[]⟩, 0, [⟨a0, a1, a2, a3⟩, ⟨b0, b1, b2, b3⟩]⟩ : S25)] (i : Int) = ⟨kind, ⟨#[]⟩, 0, [⟨a0, a1, a2, a3⟩, ⟨b0, b1, b2, b3⟩]⟩ := by
      match i, hi with
      | 0, _ => exact ⟨5, .inl rfl, rfl⟩
      | 1, _ => exact ⟨6, .inr rfl, rfl⟩
    obtain ⟨kind, hk, hrd⟩ := hrd
    rw [hrd]
    obtain ⟨r1, r2⟩ := round kind (by rcases hk with rfl | rfl <;> decide)
    refine Comes.bind r1 (Comes.bind Sa (Comes.bind Sb (Comes.ite_pos ?_ (Comes.bind r2 (Comes.bind (equal_comes _ lw) (Comes.ite_pos rfl ?_))))))
    · rw [wrapI (i := 1 + (ma : Int)) (by omega), wrapI (by omega)]; omega
    · rw [wrapN (by omega)]; exact hnext
  have l1c := step 0 (by omega) (step 1 (by omega) tail)
  have jf : Comes (fun k => ancepslaw22_MetreSizes.j0 k n false a0 a1 a2 a3 b0 b1 b2 b3) true := by
    apply Comes.succ
    simp only [ancepslaw22_MetreSizes.j0]
    refine Comes.ite_neg (by decide) (Comes.bind ca (Comes.bind cb (Comes.bind Na (Comes.bind Nb (Comes.bind (concat_comes _ _ (by omega)) ?_)))))
    refine fold_comes n a0 a1 a2 a3 b0 b1 b2 b3 _ (NM ya ++ NM yb) (by rw [List.length_append]; omega) true l1c (NM ya ++ NM yb).length 0 [] (by omega) (by simp [Asc, lettersOf]) (fun x => by simp [lettersOf]) (by simp)
  unfold ancepslaw22_MetreSizes.f
  refine Comes.bind awake_comes (Comes.ite_pos rfl (Comes.bind hta ?_))
  cases ta with
  | false => exact Comes.ite_neg (by decide) jt
  | true =>
    refine Comes.ite_pos rfl (Comes.bind htb ?_)
    cases tb with
    | false => exact jt
    | true => exact jf
#print axioms MetreSizes_comes
end
end Go.Proofs.YtmffocankommaaaDoor.Z
end

section
namespace Go.Proofs.YtmffocankommaaaDoor.bulks

theorem one_le {H : Type} (d : DataW H) : 1 ≤ Rows.uptoBulk d := by
  cases d with
  | lit l => cases l <;> simp [Rows.uptoBulk]
  | nil => simp [Rows.uptoBulk]
  | ptr d => simp [Rows.uptoBulk]
  | slice elems spare => simp [Rows.uptoBulk]
  | agg parts => simp [Rows.uptoBulk]
  | iface t d => simp [Rows.uptoBulk]
  | map entries => simp [Rows.uptoBulk]
  | held h => simp [Rows.uptoBulk]

/-- a part's bulk is at most the whole's -/
theorem part_le {H : Type} {d : DataW H} {l : List (DataW H)} (h : d ∈ l) : Rows.uptoBulk d ≤ Rows.uptoBulkAll l := by
  induction l with
  | nil => cases h
  | cons x r ih =>
    simp only [Rows.uptoBulkAll]
    cases List.mem_cons.1 h with
    | inl e => subst e; omega
    | inr e => have := ih e; omega

theorem append {H : Type} (l r : List (DataW H)) : Rows.uptoBulkAll (l ++ r) = Rows.uptoBulkAll l + Rows.uptoBulkAll r := by
  induction l with
  | nil => simp [Rows.uptoBulkAll]
  | cons x l ih => simp only [List.cons_append, Rows.uptoBulkAll, ih]; omega

/-- so many values at the most -/
theorem length_le {H : Type} (l : List (DataW H)) : l.length ≤ Rows.uptoBulkAll l := by
  induction l with
  | nil => simp [Rows.uptoBulkAll]
  | cons x r ih => have := one_le x; simp only [Rows.uptoBulkAll, List.length_cons]; omega

/-- a slice's places, and what they hold -/
theorem slice_le {H : Type} (elems spare : List (DataW H)) : elems.length + spare.length + 1 ≤ Rows.uptoBulk (.slice elems spare) := by
  have h1 := length_le elems
  have h2 := length_le spare
  simp only [Rows.uptoBulk]
  omega
theorem slice_elems {H : Type} (elems spare : List (DataW H)) : Rows.uptoBulkAll elems + 1 ≤ Rows.uptoBulk (.slice elems spare) := by
  simp only [Rows.uptoBulk]
  omega

/-- a string's letters -/
theorem string_eq {H : Type} (bytes : List UInt8) : Rows.uptoBulk (DataW.lit (H := H) (.string bytes)) = bytes.length + 1 := by
  simp [Rows.uptoBulk]

/-- THE BOUND, as the builder hands it over ('hk') -/
theorem bound {H : Type} {l : List (DataW H)} (hk : Rows.uptoSmall H l = true) : Rows.uptoBulkAll l ≤ 1048576 := by
  simpa [Rows.uptoSmall] using hk

/-- ROOM: a slice of n elements of b bytes, grown by append: below the 2^48 bytes that append, make and a Builder bear. Here n up to 2^21, b up to 4,096: put your own numbers. -/
theorem room {n b : Nat} (hn : n ≤ 2097152) (hb : b ≤ 4096) : (n + n / 4 + 192) * b ≤ 281474976710656 := by
  have h : (n + n / 4 + 192) * b ≤ 2621632 * 4096 := Nat.mul_le_mul (by omega) hb
  omega

end Go.Proofs.YtmffocankommaaaDoor.bulks
end

section
namespace Go.Proofs.YtmffocankommaaaDoor.Z
open Go.RowKit Go.Proofs.YtmffocankommaaaDoorW.PrintWords Go.Proofs.YtmffocankommaaaDoorW.PrintLast Go.Proofs.YtmffocankommaaaDoorW.PrintMore Go.Proofs.YtmffocankommaaaDoorY
set_option linter.unusedVariables false
theorem list_of {α : Type} (n : Nat) (Q : Nat → α → Prop) (h : ∀ i, i < n → ∃ b, Q i b) : ∃ xs : List α, xs.length = n ∧ ∀ i (hi : i < xs.length), Q i xs[i] := by
  induction n with
  | zero => exact ⟨[], rfl, fun i hi => absurd hi (by simp)⟩
  | succ n ih =>
    obtain ⟨xs, hl, hx⟩ := ih (fun i hi => h i (by omega))
    obtain ⟨b, hb⟩ := h n (by omega)
    refine ⟨xs ++ [b], by simp [hl], fun i hi => ?_⟩
    by_cases hin : i < xs.length
    · rw [List.getElem_append_left hin]
      exact hx i hin
    · have : i = n := by simp at hi; omega
      subst this
      rw [List.getElem_append_right (by omega)]
      simp [hl, hb]
theorem cnt_row {H : Type} : ∀ (xs : List S25) (es : List (DataW H)), xs.length = es.length → (∀ i (h : i < xs.length) (h' : i < es.length), ∃ m ys, CntN xs[i] m ys ∧ m ≤ Rows.uptoBulk es[i]) → ∃ m ys, CntL xs m ys ∧ m ≤ Rows.uptoBulkAll es
  | [], es, _, _ => ⟨0, [], .nil, by omega⟩
  | x :: xs, [], hl, _ => by simp at hl
  | x :: xs, e :: es, hl, h => by
    obtain ⟨m, ys, h1, h2⟩ := h 0 (by simp) (by simp)
    obtain ⟨n, zs, h3, h4⟩ := cnt_row xs es (by simpa using hl) (fun i hi hi' => h (i + 1) (by simp; omega) (by simp; omega))
    refine ⟨m + n, ys ++ zs, .cons _ _ _ _ _ _ h1 h3, ?_⟩
    simp only [List.getElem_cons_zero] at h2
    simp only [Rows.uptoBulkAll]
    omega
section
variable {H : Type} {enc : TypeId × Value → H} {w : World} {base : Nat} {sp : Nat → Bool} {held : Bool}
theorem opens_kids {t : TypeId} {fuel : Nat} {cs : List Value} {x : DataW H × List MemPlace} (ht : Tryd.prog.underlying t = some (.slice 25)) (hsz : Tryd.prog.cellsOf 25 = k25.sz)
    (ih : ∀ n, n < fuel → ∀ cs' x', DataW.trod enc Tryd.prog w base sp held n 25 cs' = some x' → ∃ a : S25, k25.K w a cs' ∧ ∃ m ys, CntN a m ys ∧ m ≤ Rows.uptoBulk x'.1)
    (h : DataW.trod enc Tryd.prog w base sp held fuel t cs = some x) :
    ∃ (xs : List S25) (A : Option Addr) (c : Nat), cs = [.slice A xs.length c] ∧ xs.length ≤ c ∧ Kd.C k25 w A xs.length xs ∧ ∃ m ys, CntL xs m ys ∧ m + 1 ≤ Rows.uptoBulk x.1 := by
  rcases DataW.trod_slice ht h with ⟨rfl, rfl⟩ | ⟨a, len, cap, elems, rest, n, rfl, rfl, rfl, hb, hl, hm, hlen, hel, hsp, hns⟩
  · exact ⟨[], none, 0, rfl, Nat.le_refl _, ⟨rfl, by simp, fun h => absurd h (by simp)⟩, 0, [], .nil, bulks.one_le _⟩
  · have each : ∀ i (hi : i < len), ∃ b cs', w.cells? base (a.add (i * Tryd.prog.cellsOf 25)) (Tryd.prog.cellsOf 25) = some cs' ∧ k25.K w b cs' ∧ ∃ m ys, CntN b m ys ∧ m ≤ Rows.uptoBulk (elems[i]'(by omega)).1 := by
      intro i hi
      have he := hel i hi
      rw [List.getElem?_eq_getElem (by omega)] at he
      obtain ⟨cs', h1, h2⟩ := Option.bind_eq_some_iff.1 he
      obtain ⟨b, hK, hP⟩ := ih n (Nat.lt_succ_self n) cs' _ h2
      exact ⟨b, cs', h1, hK, hP⟩
    obtain ⟨xs, hxl, hx⟩ := list_of len (fun i b => ∃ cs', w.cells? base (a.add (i * Tryd.prog.cellsOf 25)) (Tryd.prog.cellsOf 25) = some cs' ∧ k25.K w b cs' ∧ (∀ hi : i < len, ∃ m ys, CntN b m ys ∧ m ≤ Rows.uptoBulk (elems[i]'(by omega)).1)) (fun i hi => by
      obtain ⟨b, cs', h1, h2, h3⟩ := each i hi
      exact ⟨b, cs', h1, h2, fun _ => h3⟩)
    refine ⟨xs, some a, cap, by rw [hxl], by omega, ⟨rfl, by unfold maxLen at hm; omega, fun _ => ⟨a, rfl, fun j p hj => ?_⟩⟩, ?_⟩
    · obtain ⟨hj1, rfl⟩ := List.getElem?_eq_some_iff.1 hj
      obtain ⟨cs', h1, h2, _⟩ := hx j (by omega)
      obtain ⟨_, hcl, hcell⟩ := World.cells?_some h1
      refine ⟨cs', by rw [hcl, hsz], h2, fun i u hu => ?_⟩
      have hi := (List.getElem?_eq_some_iff.1 hu).1
      have := hcell i (by omega)
      rw [hu] at this
      rw [← this, ← hsz, Addr.add_add]
    · obtain ⟨m, ys, h1, h2⟩ := cnt_row xs (elems.map (·.1)) (by rw [List.length_map]; omega) (fun i hi hi' => by
        obtain ⟨_, _, _, h3⟩ := hx i hi
        rw [List.getElem_map]
        exact h3 (by omega))
      have hb2 := bulks.slice_elems (H := H) (elems.map (·.1)) (rest.map (·.1))
      refine ⟨m, ys, h1, ?_⟩
      dsimp only
      omega
set_option maxRecDepth 100000 in
/-- A node that reads. -/
theorem opens_nodeC : ∀ (fuel : Nat) (cs : List Value) (x : DataW H × List MemPlace), DataW.trod enc Tryd.prog w base sp held fuel 25 cs = some x → ∃ n : S25, k25.K w n cs ∧ ∃ m ys, CntN n m ys ∧ m ≤ Rows.uptoBulk x.1 := by
  intro fuel
  induction fuel using Nat.strongRecOn with
  | _ fuel ih =>
    intro cs x h
    obtain ⟨xs, n, rfl, rfl, hcl, hxl, hf⟩ := DataW.trod_struct Tryd.underlying25 h
    have hc : Tryd.prog.cellsOf 25 = 4 := by kernel_rfl
    rw [hc] at hcl
    match xs, hxl, cs, hcl with
    | [y0, y1, y2, y3], _, [v0, v1, v2, v3], _ =>
    have c3 : Tryd.prog.cellsOf 3 = 1 := by kernel_rfl
    have c9 : Tryd.prog.cellsOf 9 = 1 := by kernel_rfl
    have c23 : Tryd.prog.cellsOf 23 = 1 := by kernel_rfl
    have g0 : DataW.trod enc Tryd.prog w base sp held n 3 [v0] = some y0 := by
      have g := hf 0 _ rfl
      simp [c3] at g
      exact g
    have g1 : DataW.trod enc Tryd.prog w base sp held n 9 [v1] = some y1 := by
      have g := hf 1 _ rfl
      simp [c9] at g
      exact g
    have g2 : DataW.trod enc Tryd.prog w base sp held n 3 [v2] = some y2 := by
      have g := hf 2 _ rfl
      simp [c3] at g
      exact g
    have g3 : DataW.trod enc Tryd.prog w base sp held n 23 [v3] = some y3 := by
      have g := hf 3 _ rfl
      simp [c23] at g
      exact g
    obtain ⟨i0, e0, hx0, _⟩ := DataW.trod_int Tryd.underlying3 g0
    obtain ⟨s1, e1, hx1, _⟩ := DataW.trod_string Tryd.underlying9 g1
    obtain ⟨i2, e2, hx2, _⟩ := DataW.trod_int Tryd.underlying3 g2
    obtain ⟨l, A, c, e3, hl, hC, m, ys, hcnt, hbk⟩ := opens_kids Tryd.underlying23 (by kernel_rfl) (fun m hm => ih m (by omega)) g3
    obtain rfl : v0 = .int .i64 i0 := by simpa using e0
    obtain rfl : v1 = .string s1 := by simpa using e1
    obtain rfl : v2 = .int .i64 i2 := by simpa using e2
    obtain rfl : v3 = .slice A l.length c := by simpa using e3
    refine ⟨⟨i0, s1, i2, l⟩, k25_mk w ⟨i0, s1, i2, l⟩ hl hC, m + 1, _, .mk _ _ _ _ _ _ hcnt, ?_⟩
    have := bulks.part_le (H := H) (d := y3.1) (l := [y0, y1, y2, y3].map (·.1)) (by simp)
    simp only [Rows.uptoBulk]
    omega
/-- Its cells, one by one. -/
theorem opens_nodeV (fuel : Nat) (cs : List Value) (x : DataW H × List MemPlace) (h : DataW.trod enc Tryd.prog w base sp held fuel 25 cs = some x) :
    ∃ (a0 : Int) (a1 : ByteArray) (a2 : Int) (A : Option Addr) (c : Nat) (l : List S25), cs = [.int .i64 a0, .string a1, .int .i64 a2, .slice A l.length c] ∧ Kd.C k25 w A l.length l ∧ l.length ≤ c ∧ ∃ m ys, CntN ⟨a0, a1, a2, l⟩ m ys ∧ m ≤ Rows.uptoBulk x.1 := by
  obtain ⟨⟨n0, n1, n2, n3⟩, hK, m, ys, h1, h2⟩ := opens_nodeC fuel cs x h
  obtain ⟨A, c, e, hl, hC⟩ := k25_open hK
  exact ⟨n0, n1, n2, A, c, n3, e, hC, hl, m, ys, h1, h2⟩
end
end Go.Proofs.YtmffocankommaaaDoor.Z
end

section
namespace Go.Proofs.YtmffocankommaaaDoor.WitZ
open Go.ChangeShapes Go.WideShapes Go.ChangeAt Go.RowKit
theorem own : ownKnob Tryd.prog.godebug = none := by kernel_rfl
/-- The values of a table's datum. -/
def vals (d : DataW Unit) : Array Value :=
  match d with
  | .agg l => (l.map fun
    | .lit (.int .u8 n) => Value.int .u8 n
    | .lit (.int .u64 n) => Value.int .u64 n
    | _ => .bool false).toArray
  | _ => #[]
def held (v : Array Value) : Obj → Obj
  | .cells _ t frozen => .cells v t frozen
  | o => o
noncomputable def laidWorld (os : Os) : World :=
  { World.holding Tryd.prog os ⟨#[], #[], []⟩ with heap := (((World.holding Tryd.prog os ⟨#[], #[], []⟩).heap.modify 1 (held (vals Rows.laid_internal_strconv_uint64pow10))).modify 2 (held (vals Rows.laid_math_bits_deBruijn32tab))).modify 3 (held (vals Rows.laid_math_bits_deBruijn64tab)) }
def zero : Value := .agg #[.int .i64 0, .string ⟨#[]⟩, .int .i64 0, .slice none 0 0]
theorem laid_met (os : Os) : laidMet Tryd.prog Rows.metreSizesUptoRow.laid ((laidWorld os).forCall (fun _ _ => 0) ⟨#[], #[zero, zero, .int .u8 0], []⟩).memory :=
  laidMet_of_run' 8 (by kernel_rfl) (by kernel_rfl)
theorem reads (os : Os) {H : Type} (enc : TypeId × Value → H) : ∃ ds places, DataW.whole enc Tryd.prog ((laidWorld os).forCall (fun _ _ => 0) ⟨#[], #[zero, zero, .int .u8 0], []⟩).memory Tryd.f8.params.toList Rows.metreSizesSpec.vars false #[zero, zero, .int .u8 0].toList 8 = some (ds, [], places) ∧ Rows.uptoSmall H (ds ++ []) = true := by
  have h : (match DataW.whole enc Tryd.prog ((laidWorld os).forCall (fun _ _ => 0) ⟨#[], #[zero, zero, .int .u8 0], []⟩).memory Tryd.f8.params.toList Rows.metreSizesSpec.vars false #[zero, zero, .int .u8 0].toList 8 with
    | some (ds, [], _) => Rows.uptoSmall H (ds ++ [])
    | _ => false) = true := by kernel_rfl
  split at h
  · rename_i ds p he
    exact ⟨ds, p, he, h⟩
  · cases h
#print axioms reads
end Go.Proofs.YtmffocankommaaaDoor.WitZ
end
