/- Walks of functions of the program: what each computes, as a function in Lean (printed by a program of this session's, then shortened by another). The condition is that the Lean function gives a value. -/
import Derived.Test.YtmffocankommaaaDoorKYZed
import Derived.Test.YtmffocankommaaaDoorKx0
import Derived.Test.YtmffocankommaaaDoorKx5
namespace Go.Proofs.YtmffocankommaaaDoor.Z
open Go.RowKit Go.Proofs.YtmffocankommaaaDoorW.PrintWords Go.Proofs.YtmffocankommaaaDoorW.PrintLast Go.Proofs.YtmffocankommaaaDoorW.PrintMore Go.Proofs.YtmffocankommaaaDoorY Go.Proofs.YtmffocankommaaaDoorS Go.Proofs.YtmffocankommaaaDoorS
attribute [local go_sem] cell_twice max2_int min2_int max_two min_two max_three min_three max_four min_four
set_option linter.unusedVariables false
set_option linter.unusedSimpArgs false




section
open Go Go.Sort
mutual
def metre_names.l0 : Nat → List ByteArray → List S25 → Int → Option (List ByteArray)
 | 0, _, _, _ => none
 | k + 1, xs, l, i => if i < (l.length : Int) then (if 0 ≤ i then ((metre_names.f k xs (rd_T25 l i).f0 (rd_T25 l i).f1 (rd_T25 l i).f2 (rd_T25 l i).f3).bind fun t => metre_names.l0 k t l (wrap64 (i + 1))) else none) else some xs
def metre_names.f : Nat → List ByteArray → Int → ByteArray → Int → List S25 → Option (List ByteArray)
 | 0, _, _, _, _, _ => none
 | k + 1, xs, a0, a1, a2, l => (metre_named.f a0).bind fun b => if b = true then (if xs.length < 1000000000 then metre_names.l0 k (xs ++ [a1]) l 0 else none) else metre_names.l0 k xs l 0
end
set_option maxHeartbeats 8000000 in
set_option maxRecDepth 100000 in
theorem metre_names.calls (w0 : World) (k : Nat) : ∀ (v0 : Value) (xs : List ByteArray) (a0 : Int) (a1 : ByteArray) (a2 : Int) (A : Option Addr) (c : Nat) (l : List S25) (r : List ByteArray) (w : World) (aA : Below w0.heap.size w0 w) (hO : Kd.R Kd.string 9 w w0.heap.size (fun _ => True) v0 xs) (hr : Kd.C k25 w0 A l.length l) (hc : l.length ≤ c) (h : metre_names.f k xs a0 a1 a2 l = some r),
  Calls Tryd.prog 76 #[v0, .agg #[.int .i64 a0, .string a1, .int .i64 a2, .slice A l.length c]] w fun e w' => ∃ v' : Value, e = .returned v' ∧ Kd.R Kd.string 9 w' w0.heap.size (fun _ => True) v' r ∧ Below w0.heap.size w0 w' := by
 induction k using Nat.strongRecOn with
 | _ k ih =>
 intro v0 xs a0 a1 a2 A c l r w aA hO hr hc h;cases k with
 | zero => exact absurd h (by simp [metre_names.f])
 | succ k =>
 simp only [metre_names.f] at h;have hu25 := Tryd.underlying25;have HR := am hr;have HC := am hc;clear hr hc;have HB := am aA;have HO := am hO;clear aA hO;obtain ⟨b, aC, h⟩ := Option.bind_eq_some_iff.mp h;have A1 := am aC;clear aC;have loop : ∀ (W : World) (u : Value) (ys : List ByteArray), Aside0 (metre_names.l0 k ys l 0 = some r) → Aside0 (Kd.R Kd.string 9 W w0.heap.size (fun _ => True) u ys) → Aside0 (Below w0.heap.size w0 W) → True := fun _ _ _ _ _ _ => trivial;clear loop;cases b with
 | true =>
  rw [if_pos rfl] at h;by_cases cl : xs.length < 1000000000
  case neg => rw [if_neg cl] at h; exact absurd h (by simp)
  rw [if_pos cl] at h;have CL := am cl;clear cl;have H' := am h;clear h;go_enter Tryd.func76, Tryd.ntmps76;go_wp2_with (first | ((with_reducible refine gd 3 ?_); refine be 3 #[.int .i64 a0, .string a1, .int .i64 a2, .slice A l.length c] 25 ?_; intro aD hg w1 hbox hb; have aE := am hbox; have GE1 := am (show w0.heap.size ≤ aD by rw [hg]; exact HB.out.size); have NV := am (show some aD ≠ v0.ownBlock from fun e_ => by have := Kd.R_lt HO.out aD e_.symm; omega); replace HO := am (Kd.R_below HO.out hb); replace HB := am (below_then HB.out HB.out.size hb); clear hb hbox hg; have Z1 := bc4 aE) | ((with_reducible refine gc 106 ?_); refine gL (some 9) Tryd.func106 #[.int .i64 a0] ?_; (with_reducible refine (metre_named.calls a0 true _ A1.out).mono ?_); rintro e w' ⟨rfl, ⟨nd, rfl⟩⟩; refine ⟨_, rfl, ?_⟩) | ((with_reducible refine gate_builtin (b := .append) (xs := #[.tmp 10, .tmp 13]) rfl ?_); (try (refine gate_guard (by rfl) ?_; dsimp only)); at_builtin; refine Kd.R_append Kd.string (w0 := w0) w0.heap.size rfl (.tmp 10) (.tmp 13) 39 9 (.string ⟨#[]⟩) 16 rfl Tryd.underlying39 info9 rfl (by decide) (by omega) v0 xs a1 [.string a1] (fun _ => True) (fun _ => False) rfl rfl ?aP (fun _ hk => hk.elim) (fun _ _ => trivial) ?aO ?aB ?aS ?aL ?_; (case aP => exact rfl); (case aO => exact (aR HO.out)); (case aB => exact X124); (case aS => exact (X124 : Below w0.heap.size w0 _).size); (case aL => have := CL.out; omega); intro u2 w2 ho hb hg hat; replace aE := am (blk_grown (by (with_reducible repeat (first | refine blk_drewN ?_ _ | refine blk_drew ?_ | refine blk_alloc ?_ _)); exact aE.out) hg NV.out); replace HO := am ho; replace HB := am hb; clear ho hb hg hat; have Z2 := bc4 aE))
  clear h;go_loopg [0, 18] k (fun kq aG aH w' => ∃ (u : Value) (ys : List ByteArray) (i : Int), aG = u ∧ aH = .int .i64 i ∧ Aside0 (metre_names.l0 kq ys l i = some r) ∧ Aside0 (kq ≤ k) ∧ Aside0 (Kd.R Kd.string 9 w' w0.heap.size (fun _ => True) u ys) ∧ Aside0 (Below w0.heap.size w0 w'))
  case atStart => exact ⟨_, xs ++ [a1], 0, rfl, rfl, H', ⟨Nat.le_refl _⟩, ⟨aR HO.out⟩, ⟨X124⟩⟩
  case round =>
   clear H';clear Z1 Z2 aE HO HB;obtain ⟨u, ys, i, rfl, rfl, HA, aI, HO, HB⟩ := hrel;cases gk with
   | zero => exact absurd HA.out (by simp [metre_names.l0])
   | succ k1 =>
    have H := HA.out;clear HA;simp only [metre_names.l0] at H;by_cases c4 : i < (l.length : Int)
    ·rw [if_pos c4] at H;have c4b := dT c4;by_cases c5 : 0 ≤ i
     ·rw [if_pos c5] at H;have c5b := dT c5;obtain ⟨t1, aJ, H⟩ := Option.bind_eq_some_iff.mp H;have A7 := am aJ;clear aJ;have H' := am H;clear H;obtain ⟨aK, A3, c3, e1, aM, aQ, aT, aU, aW, aX⟩ := at_T25 HR.out i c5 c4;cases e1;replace aM := cB HB aM;replace aQ := cB HB aQ;replace aT := cB HB aT;replace aU := cB HB aU;have aY := am aX;have aZ := am aW;clear aX aW;replace c4 := eq_true c4;replace c5 := eq_true c5;go_wp2_with (first | ((with_reducible refine gd 6 ?_); refine be 6 #[.int .i64 0, .string (⟨#[]⟩ : ByteArray), .int .i64 0, .slice none 0 0] 25 ?_; intro bA hg w8 hbox hb; have bB := am hbox; have bC := am (show w0.heap.size ≤ bA by rw [hg]; exact (X124 : Below w0.heap.size w0 _).size); replace HO := am (Kd.R_below (Kd.R_elderB (aR HO.out) bA (Nat.le_of_eq hg.symm)) hb); replace HB := am (below_then X124 (by rw [← hg]; exact bC.out) hb); clear hb hbox hg; have Z2 := bc4 bB) | ((with_reducible refine gc 76 ?_); refine gL (some 24) Tryd.func76 #[u0, .agg #[.int .i64 ((rd_T25 l i).f0), .string ((rd_T25 l i).f1), .int .i64 ((rd_T25 l i).f2), .slice A3 ((rd_T25 l i).f3).length c3]] ?_; (refine (ih k1 X92 u0 ys ((rd_T25 l i).f0) ((rd_T25 l i).f1) ((rd_T25 l i).f2) A3 c3 ((rd_T25 l i).f3) t1 _ ?s1 ?s2 aY.out aZ.out A7.out).mono ?_); (case s1 => exact X125); (case s2 => exact Kd.R_mono (ok := fun k => True ∧ k ≠ bA) X126 (fun _ _ => trivial)); rintro e bD ⟨u', rfl, hO', hb'⟩; refine ⟨_, rfl, ?_⟩; clear HO HB; have HO := am hO'; have HB := am hb'; clear hO' hb'))
      go_roundg k1
      case measure => have := aI.out; omega
      case rel => exact ⟨_, t1, wrap64 (i + 1), rfl, X4, H', ⟨X92⟩, ⟨aR HO.out⟩, ⟨X124⟩⟩
     ·exact iN c5 H
    ·rw [if_neg c4] at H;have c4b := dF c4;obtain rfl := Option.some.inj H;go_wp2
     go_ret
     exact ⟨_, rfl, aR HO.out, X124⟩
 | false =>
  rw [if_neg (by decide)] at h;have H' := am h;clear h;go_enter Tryd.func76, Tryd.ntmps76;go_wp2_with (first | ((with_reducible refine gd 3 ?_); refine be 3 #[.int .i64 a0, .string a1, .int .i64 a2, .slice A l.length c] 25 ?_; intro aD hg w1 hbox hb; have aE := am hbox; replace HO := am (Kd.R_below HO.out hb); replace HB := am (below_then HB.out HB.out.size hb); clear hb hbox hg; have Z1 := bc4 aE) | ((with_reducible refine gc 106 ?_); refine gL (some 9) Tryd.func106 #[.int .i64 a0] ?_; (with_reducible refine (metre_named.calls a0 false _ A1.out).mono ?_); rintro e w' ⟨rfl, ⟨nd, rfl⟩⟩; refine ⟨_, rfl, ?_⟩))
  clear h;go_loopg [0, 18] k (fun kq aG aH w' => ∃ (u : Value) (ys : List ByteArray) (i : Int), aG = u ∧ aH = .int .i64 i ∧ Aside0 (metre_names.l0 kq ys l i = some r) ∧ Aside0 (kq ≤ k) ∧ Aside0 (Kd.R Kd.string 9 w' w0.heap.size (fun _ => True) u ys) ∧ Aside0 (Below w0.heap.size w0 w'))
  case atStart => exact ⟨_, xs, 0, rfl, rfl, H', ⟨Nat.le_refl _⟩, ⟨aR HO.out⟩, ⟨X124⟩⟩
  case round =>
   clear H';clear Z1 aE HO HB;obtain ⟨u, ys, i, rfl, rfl, HA, aI, HO, HB⟩ := hrel;cases gk with
   | zero => exact absurd HA.out (by simp [metre_names.l0])
   | succ k1 =>
    have H := HA.out;clear HA;simp only [metre_names.l0] at H;by_cases c4 : i < (l.length : Int)
    ·rw [if_pos c4] at H;have c4b := dT c4;by_cases c5 : 0 ≤ i
     ·rw [if_pos c5] at H;have c5b := dT c5;obtain ⟨t1, aJ, H⟩ := Option.bind_eq_some_iff.mp H;have A7 := am aJ;clear aJ;have H' := am H;clear H;obtain ⟨aK, A3, c3, e1, aM, aQ, aT, aU, aW, aX⟩ := at_T25 HR.out i c5 c4;cases e1;replace aM := cB HB aM;replace aQ := cB HB aQ;replace aT := cB HB aT;replace aU := cB HB aU;have aY := am aX;have aZ := am aW;clear aX aW;replace c4 := eq_true c4;replace c5 := eq_true c5;go_wp2_with (first | ((with_reducible refine gd 6 ?_); refine be 6 #[.int .i64 0, .string (⟨#[]⟩ : ByteArray), .int .i64 0, .slice none 0 0] 25 ?_; intro bA hg w8 hbox hb; have bB := am hbox; have bC := am (show w0.heap.size ≤ bA by rw [hg]; exact (X124 : Below w0.heap.size w0 _).size); replace HO := am (Kd.R_below (Kd.R_elderB (aR HO.out) bA (Nat.le_of_eq hg.symm)) hb); replace HB := am (below_then X124 (by rw [← hg]; exact bC.out) hb); clear hb hbox hg; have Z2 := bc4 bB) | ((with_reducible refine gc 76 ?_); refine gL (some 24) Tryd.func76 #[u0, .agg #[.int .i64 ((rd_T25 l i).f0), .string ((rd_T25 l i).f1), .int .i64 ((rd_T25 l i).f2), .slice A3 ((rd_T25 l i).f3).length c3]] ?_; (refine (ih k1 X92 u0 ys ((rd_T25 l i).f0) ((rd_T25 l i).f1) ((rd_T25 l i).f2) A3 c3 ((rd_T25 l i).f3) t1 _ ?s1 ?s2 aY.out aZ.out A7.out).mono ?_); (case s1 => exact X125); (case s2 => exact Kd.R_mono (ok := fun k => True ∧ k ≠ bA) X126 (fun _ _ => trivial)); rintro e bD ⟨u', rfl, hO', hb'⟩; refine ⟨_, rfl, ?_⟩; clear HO HB; have HO := am hO'; have HB := am hb'; clear hO' hb'))
      go_roundg k1
      case measure => have := aI.out; omega
      case rel => exact ⟨_, t1, wrap64 (i + 1), rfl, X4, H', ⟨X92⟩, ⟨aR HO.out⟩, ⟨X124⟩⟩
     ·exact iN c5 H
    ·rw [if_neg c4] at H;have c4b := dF c4;obtain rfl := Option.some.inj H;go_wp2
     go_ret
     exact ⟨_, rfl, aR HO.out, X124⟩
def lettersOf (xs : List ByteArray) : List (List UInt8) := xs.map (·.data.toList)
def stringsOf (ls : List (List UInt8)) : List ByteArray := ls.map fun l => ⟨l.toArray⟩
theorem strings_letters (xs : List ByteArray) : stringsOf (lettersOf xs) = xs := by
 unfold stringsOf lettersOf;rw [List.map_map];conv => rhs; rw [← List.map_id xs]
 exact List.map_congr_left fun l _ => by simp
theorem letters_strings (ls : List (List UInt8)) : lettersOf (stringsOf ls) = ls := by
 unfold stringsOf lettersOf;rw [List.map_map];conv => rhs; rw [← List.map_id ls]
 exact List.map_congr_left fun l _ => by simp
theorem encs_letters (xs : List ByteArray) : encs Value.string xs = (lettersOf xs).map encStr := by
 simp [encs, lettersOf, encStr]
theorem letters_length (xs : List ByteArray) : (lettersOf xs).length = xs.length := by simp [lettersOf]
def sorted (xs : List ByteArray) : List ByteArray := stringsOf ((lettersOf xs).mergeSort fun x y => decide (x ≤ y))
theorem sorted_length (xs : List ByteArray) : (sorted xs).length = xs.length := by simp [sorted, stringsOf, lettersOf]
theorem sort_R (w0 w : World) (v : Value) (xs : List ByteArray) (hb : Below w0.heap.size w0 w) (hO : Kd.R Kd.string 9 w w0.heap.size (fun _ => True) v xs) (hl : xs.length < 1000000000000) :
  Calls Tryd.prog 77 #[v] w fun e w' => e = .returned (.tuple #[]) ∧ Kd.R Kd.string 9 w' w0.heap.size (fun _ => True) v (sorted xs) ∧ Below w0.heap.size w0 w' := by
 have ho := Kd.own_of_R hO;rw [encs_letters] at ho;rcases ho.2 with ⟨hnil, h0⟩ | ⟨g, cap, cur, rfl, hbase, hbk, h1, h2, h3, h4⟩
 ·have hx : xs = [] := List.length_eq_zero_iff.1 h0;subst hx hnil;refine (Tryd.slices_Sort_string_none none 0 w).mono ?_;rintro e w' ⟨rfl, rfl⟩;exact ⟨rfl, by simpa [sorted, lettersOf, stringsOf] using hO, hb⟩
 ·have hg : g < w.heap.size := (Array.getElem?_eq_some_iff.1 hbk).1;have hH : Holds encStr w g 0 (lettersOf xs).toArray := holds_of_block hbk (by rw [letters_length]; simpa using h4);have hc := Tryd.slices_Sort_string g 0 cap (lettersOf xs) w hH hg (by rw [letters_length]; omega);rw [letters_length] at hc;refine hc.mono ?_;rintro e w' ⟨rfl, n, os, rfl⟩;have hlen : ((lettersOf xs).mergeSort fun x y => decide (x ≤ y)).length = (lettersOf xs).length := by simp
  refine ⟨rfl, ?_, ?_⟩
  ·have h5 := ownsRow_sorted (n := n) (os := os) hlen hbase hbk (by rw [letters_length]; exact h1) h2 h3;rw [letters_length] at h5;refine Kd.R_of_own ?_ (fun _ _ => trivial);rw [sorted_length, encs_letters];unfold sorted;rw [letters_strings];exact h5
  ·exact pw_below_grown hb (some g) hb.size (grownBy_sorted _) (fun k hk => by cases hk; exact hbase)
theorem own_strings {W : World} {base : Nat} {v : Value} {zs : List (List UInt8)} (h : W.ownsRow base 9 1 v zs.length (zs.map encStr)) : Kd.R Kd.string 9 W base (fun _ => True) v (stringsOf zs) := by
 refine Kd.R_of_own ?_ (fun _ _ => trivial);rw [encs_letters, letters_strings];rwa [show (stringsOf zs).length = zs.length by simp [stringsOf]]
def compacted (xs : List ByteArray) : List ByteArray := stringsOf (Lib.compact (lettersOf xs))
theorem compact_R (w0 w : World) (v : Value) (xs : List ByteArray) (hb : Below w0.heap.size w0 w) (hO : Kd.R Kd.string 9 w w0.heap.size (fun _ => True) v xs) (hl : xs.length < 1000000000000) (hle : (Lib.compact (lettersOf xs)).length ≤ xs.length) :
  Calls Tryd.prog 78 #[v] w fun e w' => ∃ v', e = .returned v' ∧ Kd.R Kd.string 9 w' w0.heap.size (fun _ => True) v' (compacted xs) ∧ Below w0.heap.size w0 w' := by
 have ho := Kd.own_of_R hO;rw [encs_letters] at ho;rcases ho.2 with ⟨hnil, h0⟩ | ⟨g, cap, cur, rfl, hbase, hbk, h1, h2, h3, h4⟩
 ·have hx : xs = [] := List.length_eq_zero_iff.1 h0;subst hx hnil;refine (Tryd.slices_Compact_string_empty none 0 w).mono ?_;rintro e w' ⟨rfl, rfl⟩;refine ⟨_, rfl, ?_, hb⟩;have : compacted [] = [] := by simp [compacted, lettersOf, stringsOf, Lib.compact, Lib.compactUpTo]
  rw [this];exact hO
 ·have hg : g < w.heap.size := (Array.getElem?_eq_some_iff.1 hbk).1;have hH : Holds encStr w g 0 (lettersOf xs).toArray := holds_of_block hbk (by rw [letters_length]; simpa using h4);have hc := Tryd.slices_Compact_string g 0 cap (lettersOf xs) w hH (by rw [letters_length]; omega) (by rw [letters_length]; exact h1);rw [letters_length] at hc;refine hc.mono ?_;rintro e w' ⟨rfl, n, rfl⟩;have hlen : (Lib.compact (lettersOf xs) ++ List.replicate (xs.length - (Lib.compact (lettersOf xs)).length) []).length = (lettersOf xs).length := by
   rw [List.length_append, List.length_replicate, letters_length]; omega
  have h5 := ownsRow_sorted (n := n) (os := #[]) hlen hbase hbk (by rw [letters_length]; exact h1) h2 h3;rw [letters_length] at h5;have hgr : ∀ W : World, grow W #[] = W := fun W => by simp [grow]
  rw [hgr] at h5;generalize hz : Lib.compact (lettersOf xs) ++ List.replicate (xs.length - (Lib.compact (lettersOf xs)).length) [] = zs at *
  rw [letters_length] at hlen;rw [← hlen] at h5;have h6 := own_strings h5;have hzl : (Lib.compact (lettersOf xs)).length ≤ (stringsOf zs).length := by rw [← hz]; unfold stringsOf; rw [List.length_map, List.length_append]; omega
  refine ⟨_, rfl, ?_, ?_⟩
  ·have h7 := Kd.R_take (m := (Lib.compact (lettersOf xs)).length) h6 hzl;have h8 : (stringsOf zs).take (Lib.compact (lettersOf xs)).length = compacted xs := by
    rw [← hz];unfold stringsOf compacted stringsOf;rw [← List.map_take, List.take_left]
   rw [h8] at h7;exact h7
  ·have := grownBy_sorted (w := w) (g := g) (n := n) (os := #[]) zs.toArray;rw [hgr] at this;exact pw_below_grown hb (some g) hb.size this (fun k hk => by cases hk; exact hbase)
def metre_Names.f (k : Nat) (a0 : Int) (a1 : ByteArray) (a2 : Int) (l : List S25) : Option (List ByteArray) :=
 (metre_names.f k [] a0 a1 a2 l).bind fun xs => if xs.length < 1000000000 ∧ (Lib.compact (lettersOf (sorted xs))).length ≤ (sorted xs).length then some (compacted (sorted xs)) else none
set_option maxHeartbeats 8000000 in
set_option maxRecDepth 100000 in
theorem metre_Names.calls (k : Nat) (a0 : Int) (a1 : ByteArray) (a2 : Int) (A : Option Addr) (c : Nat) (l : List S25) (r : List ByteArray) (w : World) (hr : Kd.C k25 w A l.length l) (hc : l.length ≤ c) (h : metre_Names.f k a0 a1 a2 l = some r) :
  Calls Tryd.prog 28 #[.agg #[.int .i64 a0, .string a1, .int .i64 a2, .slice A l.length c]] w fun e w' => ∃ aA : Value, e = .returned aA ∧ Kd.R Kd.string 9 w' w.heap.size (fun _ => True) aA r ∧ Below w.heap.size w w' := by
 have hu25 := Tryd.underlying25;have HR := am hr;have HC := am hc;clear hr hc;have HB := am (Below.refl w.heap.size w);unfold metre_Names.f at h;obtain ⟨xs, aC, h⟩ := Option.bind_eq_some_iff.mp h;have A1 := am aC;clear aC;split at h
 case isFalse => cases h
 rename_i hs
 obtain rfl := Option.some.inj h;have HL := am hs;clear hs;go_enter Tryd.func28, Tryd.ntmps28;go_wp2_with (first | ((with_reducible refine gd 1 ?_); refine be 1 #[.int .i64 a0, .string a1, .int .i64 a2, .slice A l.length c] 25 ?_; intro gb1 hg w1 hbox hb; have aD := am hbox; replace HB := am (below_then HB.out HB.out.size hb); clear hb hbox hg; have Z1 := bc4 aD) | ((with_reducible refine gc 76 ?_); refine gL (some 5) Tryd.func76 #[.slice none 0 0, .agg #[.int .i64 a0, .string a1, .int .i64 a2, .slice A l.length c]] ?_; (refine (metre_names.calls w k (.slice none 0 0) [] a0 a1 a2 A c l xs _ ?s1 (Kd.R_nil _ _ _ _ _) HR.out HC.out A1.out).mono ?_); (case s1 => exact X124); rintro e w11 ⟨u, rfl, hO, hb⟩; refine ⟨_, rfl, ?_⟩; replace HB := am hb; have HO := am hO; clear hb hO) | ((with_reducible refine gc 77 ?_); refine gL (some 7) Tryd.func77 #[u] ?_; (refine (sort_R w _ u xs ?s1 ?s2 (by have := HL.out.1; omega)).mono ?_); (case s1 => exact X124); (case s2 => exact aR HO.out); rintro e w12 ⟨rfl, hO, hb⟩; refine ⟨_, rfl, ?_⟩; replace HB := am hb; replace HO := am hO; clear hb hO) | ((with_reducible refine gc 78 ?_); refine gL (some 9) Tryd.func78 #[u] ?_; (refine (compact_R w _ u (sorted xs) ?s1 ?s2 (by rw [sorted_length]; have := HL.out.1; omega) HL.out.2).mono ?_); (case s1 => exact X124); (case s2 => exact aR HO.out); rintro e w13 ⟨u2, rfl, hO, hb⟩; refine ⟨_, rfl, ?_⟩; replace HB := am hb; replace HO := am hO; clear hb hO))
 go_ret
 exact ⟨_, rfl, aR HO.out, X124⟩
theorem metre_names.mono_l : ∀ k, (∀ xs l i, LeO (metre_names.l0 k xs l i) (metre_names.l0 (k + 1) xs l i)) ∧ (∀ xs a0 a1 a2 l, LeO (metre_names.f k xs a0 a1 a2 l) (metre_names.f (k + 1) xs a0 a1 a2 l))
 | 0 => ⟨fun _ _ _ r h => by simp [metre_names.l0] at h, fun _ _ _ _ _ r h => by simp [metre_names.f] at h⟩
 | k + 1 => by
  obtain ⟨aA, aC⟩ := metre_names.mono_l k;refine ⟨fun xs l i => ?_, fun xs a0 a1 a2 l => ?_⟩
  ·unfold metre_names.l0;exact (by repeat' first | apply aA | apply aC | exact LeO.refl _ | exact LeO.none _ | refine LeO.ite ?_ ?_ | refine LeO.bind ?_ (fun _ => ?_))
  ·unfold metre_names.f;exact (by repeat' first | apply aA | exact LeO.refl _ | exact LeO.none _ | refine LeO.ite ?_ ?_ | refine LeO.bind ?_ (fun _ => ?_))
theorem metre_Names.mono : ∀ a0 a1 a2 l k, LeO (metre_Names.f k a0 a1 a2 l) (metre_Names.f (k + 1) a0 a1 a2 l) := by
 intro a0 a1 a2 l k;have ih := (metre_names.mono_l k).2;unfold metre_Names.f;exact LeO.bind (ih _ _ _ _ _) (fun _ => LeO.refl _)
end


end Go.Proofs.YtmffocankommaaaDoor.Z
