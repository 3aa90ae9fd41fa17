/- Printed walks: what each function of the program computes. Condition: the Lean function gives a value. -/
import Derived.Test.YtmffocankommaaaDoorBYZed
import Derived.Test.YtmffocankommaaaDoorProg
import Derived.Below
import Derived.Deep.Draws
import Derived.Deep.AppendLies
import Derived.Maps.AppendAt
import Derived.OwnWalk
import Derived.Laws.BytesArg
import Derived.Laws.MakeOwn
import Derived.Laws.OwnMore
import Derived.Deep.OwnRows
import Derived.Tactics
import Derived.Lib.ConvBytes
import Derived.Laws.Slices
import Derived.WalkKit
import Derived.KernelRfl
import Derived.RowKit3
import Derived.Deep.LoopGhost
import Derived.Deep.QuietTactic
import Derived.BigQuiet
import Derived.WideLaws
import Derived.Deep.DeepCutAuto
import Derived.Deep.CutBlock
import Derived.Deep.RegionHeld3
import Derived.Laws.Rows
import Derived.Lib.AppendStr
import Derived.ArgAppend
import Derived.Laws.IdiomCopy
import Derived.OrdersHeld
import Derived.Laws.BitsLemmas
import Derived.RowKit
import Derived.Test.YtmffocankommaaaDoorBShelf
import Derived.Shelf.Spec.SlicesGrow
import Derived.Test.YtmffocankommaaaDoorBWWords
import Derived.Test.YtmffocankommaaaDoorBWLast
import Derived.Test.YtmffocankommaaaDoorBWTab
import Derived.Test.YtmffocankommaaaDoorBWApart
import Derived.Test.YtmffocankommaaaDoorBWFoot
import Derived.Test.YtmffocankommaaaDoorBWKept
import Derived.Test.YtmffocankommaaaDoorBWShare
import Derived.Test.YtmffocankommaaaDoorBWN
import Derived.Test.YtmffocankommaaaDoorBWFootNe
import Derived.Test.YtmffocankommaaaDoorBWEqStruct
import Derived.Test.YtmffocankommaaaDoorBWRepsOne
import Derived.Test.YtmffocankommaaaDoorBWInv
import Derived.Test.YtmffocankommaaaDoorBWGuard
import Derived.Test.YtmffocankommaaaDoorBWNEv
import Derived.Test.YtmffocankommaaaDoorBWMore
import Derived.Test.YtmffocankommaaaDoorBYWords
namespace Go.Proofs.YtmffocankommaaaDoor.L
open Go.RowKit Go.Proofs.YtmffocankommaaaDoorW.PrintWords Go.Proofs.YtmffocankommaaaDoorW.PrintLast Go.Proofs.YtmffocankommaaaDoorW.PrintMore Go.Proofs.YtmffocankommaaaDoorY Go.Proofs.YtmffocankommaaaDoorS
attribute [local go_sem] q1L q2h q2f q2p q2o q1U q1T q2e q2g
set_option linter.unusedVariables false
set_option linter.unusedSimpArgs false
set_option maxHeartbeats 8000000
set_option maxRecDepth 100000
def errW : Option Int → Value
 | none => .nilIface
 | some c => .iface 0 (.int .i64 c)
theorem q3o : errW none = .nilIface := rfl
theorem q3n (c : Int) : errW (some c) = .iface 0 (.int .i64 c) := rfl

theorem q4G : (Tryd.prog.info? 9).map (fun i => (i.zero, i.size, i.bytes)) = some (some (.string ⟨#[]⟩), 1, 16) := by kernel_rfl
theorem q7u : (Tryd.prog.info? 25).map (fun i => (i.zero, i.size, i.bytes)) = some (some (.agg #[(.int .i64 0), (.string ⟨#[]⟩), (.int .i64 0), (.slice none 0 0)]), 4, 56) := by kernel_rfl
theorem q8V : (Tryd.prog.info? 36).map (fun i => (i.zero, i.size, i.bytes)) = some (some (.agg #[(.int .i64 0), (.string ⟨#[]⟩), (.int .i64 0)]), 3, 32) := by kernel_rfl
theorem q6C : (Tryd.prog.info? 39).map (fun i => (i.zero, i.size, i.bytes)) = some (some (.slice none 0 0), 1, 24) := by kernel_rfl
theorem info86 : (Tryd.prog.info? 86).map (fun i => (i.zero, i.size, i.bytes)) = some (some (.agg #[(.string ⟨#[]⟩), (.int .i64 0), (.string ⟨#[]⟩), (.int .i64 0), (.slice none 0 0)]), 5, 72) := by kernel_rfl
theorem info88 : (Tryd.prog.info? 88).map (fun i => (i.zero, i.size, i.bytes)) = some (some (.agg #[(.string ⟨#[]⟩), (.int .i64 0), (.int .i64 0)]), 3, 32) := by kernel_rfl
structure S36 where
 f0 : Int
 f1 : ByteArray
 f2 : Int
def z36 : S36 := ⟨(0 : Int), (⟨#[]⟩ : ByteArray), (0 : Int)⟩
def k36 : Kd S36 := Kd.iso (Kd.pair (Kd.int .i64) (Kd.pair Kd.string (Kd.int .i64))) (fun x : S36 => (x.f0, x.f1, x.f2))
theorem q8z {w : World} {x : S36} {cs : List Value} (h : k36.K w x cs) : cs = [.int .i64 x.f0, .string x.f1, .int .i64 x.f2] := by
 obtain ⟨_, _, rfl, rfl, ⟨_, _, rfl, rfl, rfl⟩⟩ := h;exact rfl
theorem q6u (w : World) (base : Nat) (ok : Nat → Prop) (x : S36)  : k36.M w base ok x [.int .i64 x.f0, .string x.f1, .int .i64 x.f2] := ⟨[.int .i64 x.f0], [.string x.f1, .int .i64 x.f2], rfl, rfl, ⟨[.string x.f1], [.int .i64 x.f2], rfl, rfl, rfl⟩⟩
def q1t (xs : List S36) (i : Int) : S36 := xs.getD i.toNat z36
theorem q3y {w : World} {A : Option Addr} {n : Nat} {xs : List S36} (h : Kd.C k36 w A n xs) (i : Int) (h0 : 0 ≤ i) (h1 : i < n) : ∃ ad , A = some ad ∧ w.cell? (ad.add (i.toNat * 3)) = some (.int .i64 (q1t xs i).f0) ∧ w.cell? ⟨(ad.add (i.toNat * 3)).block, (ad.add (i.toNat * 3)).off + 1, none⟩ = some (.string (q1t xs i).f1) ∧ w.cell? ⟨(ad.add (i.toNat * 3)).block, (ad.add (i.toNat * 3)).off + 2, none⟩ = some (.int .i64 (q1t xs i).f2) := by
 obtain ⟨ad, c, e, _, hK, aA⟩ := Kd.C_get h z36 i h0 h1;have hc : ∀ j u, c[j]? = some u → w.cell? (ad.add (i.toNat * 3 + j)) = some u := aA;obtain rfl := q8z hK;exact ⟨ad, e, hc 0 _ rfl, X0, X1⟩

structure S25 where
 f0 : Int
 f1 : ByteArray
 f2 : Int
 f3 : (List S25)
def z25 : S25 := ⟨(0 : Int), (⟨#[]⟩ : ByteArray), (0 : Int), ([] : List S25)⟩
def F25 (d : Kd S25) : Kd S25 := Kd.iso (Kd.pair (Kd.int .i64) (Kd.pair Kd.string (Kd.pair (Kd.int .i64) (Kd.slice 25 d)))) (fun x : S25 => (x.f0, x.f1, x.f2, x.f3))
theorem q8F : Kd.Mono F25 := Kd.mono_iso _ (Kd.mono_pair (Kd.mono_const _) (Kd.mono_pair (Kd.mono_const _) (Kd.mono_pair (Kd.mono_const _) (Kd.mono_slice 25 Kd.mono_id))))
theorem sub25 : Kd.Sub F25 [25] := Kd.sub_iso _ (Kd.sub_pair (Kd.sub_const _ (by decide)) (Kd.sub_pair (Kd.sub_const _ (by decide)) (Kd.sub_pair (Kd.sub_const _ (by decide)) (Kd.sub_slice 25 (by decide) Kd.sub_id))))
theorem sz25 : ∀ n, (Kd.upto F25 4 [25] n).sz = 4 := Kd.upto_sz (fun _ => rfl)
def k25 : Kd S25 := Kd.fix F25 4 [25] sz25 (Kd.upto_E sub25)
theorem q4m {w : World} {x : S25} {cs : List Value} (h : k25.K w x cs) : ∃ A3 c3, cs = [.int .i64 x.f0, .string x.f1, .int .i64 x.f2, .slice A3 x.f3.length c3] ∧ x.f3.length ≤ c3 ∧ k25.C w A3 x.f3.length x.f3 := by
 obtain ⟨n, h⟩ := h;cases n with
 | zero => exact h.elim
 | succ n =>
  obtain ⟨_, _, rfl, rfl, ⟨_, _, rfl, rfl, ⟨_, _, rfl, rfl, ⟨A3, c3, rfl, l3, g3⟩⟩⟩⟩ := h;exact ⟨A3, c3, rfl, l3, Kd.fix_C g3⟩
theorem q8N (w : World) (x : S25) {A3 : Option Addr} {c3 : Nat} (l3 : x.f3.length ≤ c3) (g3 : k25.C w A3 x.f3.length x.f3) : k25.K w x [.int .i64 x.f0, .string x.f1, .int .i64 x.f2, .slice A3 x.f3.length c3] := by
 obtain ⟨n3, q3⟩ := Kd.fix_C_back q8F g3;have r3 := Kd.upto_C_le q8F sz25 (show n3 ≤ n3 by omega) q3;exact ⟨n3 + 1, ⟨[.int .i64 x.f0], [.string x.f1, .int .i64 x.f2, .slice A3 x.f3.length c3], rfl, rfl, ⟨[.string x.f1], [.int .i64 x.f2, .slice A3 x.f3.length c3], rfl, rfl, ⟨[.int .i64 x.f2], [.slice A3 x.f3.length c3], rfl, rfl, ⟨A3, c3, rfl, l3, r3⟩⟩⟩⟩⟩
theorem q3F {W : World} {ok : Nat → Prop} {x : S25} {cs : List Value} (h : Kd.FK k25 W ok x cs) : ∃ A3 c3, cs = [.int .i64 x.f0, .string x.f1, .int .i64 x.f2, .slice A3 x.f3.length c3] ∧ x.f3.length ≤ c3 ∧ Kd.F k25 W ok A3 x.f3.length x.f3 := by
 obtain ⟨A3, c3, rfl, l3, _⟩ := q4m (Kd.FK_now h);exact ⟨A3, c3, rfl, l3, (fun W' hW => by obtain ⟨aA, aC, he, l3_, aD⟩ := q4m (h W' hW); injection (Option.some.inj (show some (Value.slice A3 x.f3.length c3) = some (Value.slice aA x.f3.length aC) from congrArg (fun l => l[3]?) he)) with ha_ _ _; rw [ha_]; exact aD)⟩
theorem q3Z (W : World) (ok : Nat → Prop) (x : S25) {A3 : Option Addr} {c3 : Nat} (l3 : x.f3.length ≤ c3) (g3 : Kd.F k25 W ok A3 x.f3.length x.f3) : Kd.FK k25 W ok x [.int .i64 x.f0, .string x.f1, .int .i64 x.f2, .slice A3 x.f3.length c3] := fun W2 hW => q8N W2 x l3 (g3 W2 hW)
def q0J (xs : List S25) (i : Int) : S25 := xs.getD i.toNat z25
theorem q2S {w : World} {A : Option Addr} {n : Nat} {xs : List S25} (h : Kd.C k25 w A n xs) (i : Int) (h0 : 0 ≤ i) (h1 : i < n) : ∃ ad A3 c3, A = some ad ∧ w.cell? (ad.add (i.toNat * 4)) = some (.int .i64 (q0J xs i).f0) ∧ w.cell? ⟨(ad.add (i.toNat * 4)).block, (ad.add (i.toNat * 4)).off + 1, none⟩ = some (.string (q0J xs i).f1) ∧ w.cell? ⟨(ad.add (i.toNat * 4)).block, (ad.add (i.toNat * 4)).off + 2, none⟩ = some (.int .i64 (q0J xs i).f2) ∧ w.cell? ⟨(ad.add (i.toNat * 4)).block, (ad.add (i.toNat * 4)).off + 3, none⟩ = some (.slice A3 (q0J xs i).f3.length c3) ∧ (q0J xs i).f3.length ≤ c3 ∧ k25.C w A3 (q0J xs i).f3.length (q0J xs i).f3 := by
 obtain ⟨ad, c, e, _, hK, aA⟩ := Kd.C_get h z25 i h0 h1;have hc : ∀ j u, c[j]? = some u → w.cell? (ad.add (i.toNat * 4 + j)) = some u := aA;obtain ⟨A3, c3, rfl, l3, g3⟩ := q4m hK;exact ⟨ad, A3, c3, e, hc 0 _ rfl, X0, X1, X2, l3, g3⟩

structure S86 where
 f0 : ByteArray
 f1 : S25
def z86 : S86 := ⟨(⟨#[]⟩ : ByteArray), z25⟩
def k86 : Kd S86 := Kd.iso (Kd.pair Kd.string k25) (fun x : S86 => (x.f0, x.f1))
theorem q8s {w : World} {x : S86} {cs : List Value} (h : k86.K w x cs) : ∃ A4 c4, cs = [.string x.f0, .int .i64 x.f1.f0, .string x.f1.f1, .int .i64 x.f1.f2, .slice A4 x.f1.f3.length c4] ∧ x.f1.f3.length ≤ c4 ∧ k25.C w A4 x.f1.f3.length x.f1.f3 := by
 obtain ⟨_, _, rfl, rfl, s1⟩ := h;obtain ⟨A4, c4, rfl, l4, g4⟩ := q4m s1;exact ⟨A4, c4, rfl, l4, g4⟩
theorem k86_mk (w : World) (x : S86) {A4 : Option Addr} {c4 : Nat} (l4 : x.f1.f3.length ≤ c4) (g4 : k25.C w A4 x.f1.f3.length x.f1.f3) : k86.K w x [.string x.f0, .int .i64 x.f1.f0, .string x.f1.f1, .int .i64 x.f1.f2, .slice A4 x.f1.f3.length c4] := ⟨[.string x.f0], [.int .i64 x.f1.f0, .string x.f1.f1, .int .i64 x.f1.f2, .slice A4 x.f1.f3.length c4], rfl, rfl, (q8N w x.f1 l4 g4)⟩
theorem k86_mkF (W : World) (ok : Nat → Prop) (x : S86) {A4 : Option Addr} {c4 : Nat} (l4 : x.f1.f3.length ≤ c4) (g4 : Kd.F k25 W ok A4 x.f1.f3.length x.f1.f3) : Kd.FK k86 W ok x [.string x.f0, .int .i64 x.f1.f0, .string x.f1.f1, .int .i64 x.f1.f2, .slice A4 x.f1.f3.length c4] := fun W2 hW => k86_mk W2 x l4 (g4 W2 hW)
def q1p (xs : List S86) (i : Int) : S86 := xs.getD i.toNat z86
theorem q4z {w : World} {A : Option Addr} {n : Nat} {xs : List S86} (h : Kd.C k86 w A n xs) (i : Int) (h0 : 0 ≤ i) (h1 : i < n) : ∃ ad A4 c4, A = some ad ∧ w.cell? (ad.add (i.toNat * 5)) = some (.string (q1p xs i).f0) ∧ w.cell? ⟨(ad.add (i.toNat * 5)).block, (ad.add (i.toNat * 5)).off + 1, none⟩ = some (.int .i64 (q1p xs i).f1.f0) ∧ w.cell? ⟨(ad.add (i.toNat * 5)).block, (ad.add (i.toNat * 5)).off + 2, none⟩ = some (.string (q1p xs i).f1.f1) ∧ w.cell? ⟨(ad.add (i.toNat * 5)).block, (ad.add (i.toNat * 5)).off + 3, none⟩ = some (.int .i64 (q1p xs i).f1.f2) ∧ w.cell? ⟨(ad.add (i.toNat * 5)).block, (ad.add (i.toNat * 5)).off + 4, none⟩ = some (.slice A4 (q1p xs i).f1.f3.length c4) ∧ (q1p xs i).f1.f3.length ≤ c4 ∧ k25.C w A4 (q1p xs i).f1.f3.length (q1p xs i).f1.f3 := by
 obtain ⟨ad, c, e, _, hK, aA⟩ := Kd.C_get h z86 i h0 h1;have hc : ∀ j u, c[j]? = some u → w.cell? (ad.add (i.toNat * 5 + j)) = some u := aA;obtain ⟨A4, c4, rfl, l4, g4⟩ := q8s hK;exact ⟨ad, A4, c4, e, hc 0 _ rfl, X0, X1, X2, by rw [← q2Q _ _ 4 (by omega)]; exact hc 4 _ rfl, l4, g4⟩

structure S88 where
 f0 : ByteArray
 f1 : Int
 f2 : Int
def z88 : S88 := ⟨(⟨#[]⟩ : ByteArray), (0 : Int), (0 : Int)⟩
def k88 : Kd S88 := Kd.iso (Kd.pair Kd.string (Kd.pair (Kd.int .i64) (Kd.int .i64))) (fun x : S88 => (x.f0, x.f1, x.f2))
theorem q8A {w : World} {x : S88} {cs : List Value} (h : k88.K w x cs) : cs = [.string x.f0, .int .i64 x.f1, .int .i64 x.f2] := by
 obtain ⟨_, _, rfl, rfl, ⟨_, _, rfl, rfl, rfl⟩⟩ := h;exact rfl
theorem k88_mkM (w : World) (base : Nat) (ok : Nat → Prop) (x : S88)  : k88.M w base ok x [.string x.f0, .int .i64 x.f1, .int .i64 x.f2] := ⟨[.string x.f0], [.int .i64 x.f1, .int .i64 x.f2], rfl, rfl, ⟨[.int .i64 x.f1], [.int .i64 x.f2], rfl, rfl, rfl⟩⟩
def q1O (xs : List S88) (i : Int) : S88 := xs.getD i.toNat z88
theorem q4w {w : World} {A : Option Addr} {n : Nat} {xs : List S88} (h : Kd.C k88 w A n xs) (i : Int) (h0 : 0 ≤ i) (h1 : i < n) : ∃ ad , A = some ad ∧ w.cell? (ad.add (i.toNat * 3)) = some (.string (q1O xs i).f0) ∧ w.cell? ⟨(ad.add (i.toNat * 3)).block, (ad.add (i.toNat * 3)).off + 1, none⟩ = some (.int .i64 (q1O xs i).f1) ∧ w.cell? ⟨(ad.add (i.toNat * 3)).block, (ad.add (i.toNat * 3)).off + 2, none⟩ = some (.int .i64 (q1O xs i).f2) := by
 obtain ⟨ad, c, e, _, hK, aA⟩ := Kd.C_get h z88 i h0 h1;have hc : ∀ j u, c[j]? = some u → w.cell? (ad.add (i.toNat * 3 + j)) = some u := aA;obtain rfl := q8A hK;exact ⟨ad, e, hc 0 _ rfl, X0, X1⟩

def q1Y (xs : List (List ByteArray)) (i : Int) : (List ByteArray) := xs.getD i.toNat ([] : List ByteArray)
theorem q4b {w : World} {A : Option Addr} {n : Nat} {xs : List (List ByteArray)} (h : Kd.C (Kd.slice 9 Kd.string) w A n xs) (i : Int) (h0 : 0 ≤ i) (h1 : i < n) : ∃ ad A0 c0, A = some ad ∧ w.cell? (ad.add i.toNat) = some (.slice A0 (q1Y xs i).length c0) ∧ (q1Y xs i).length ≤ c0 ∧ Kd.string.C w A0 (q1Y xs i).length (q1Y xs i) := by
 obtain ⟨ad, c, e, _, hK, aA⟩ := Kd.C_get h ([] : List ByteArray) i h0 h1;have hc : ∀ j u, c[j]? = some u → w.cell? (ad.add (i.toNat * 1 + j)) = some u := aA;obtain ⟨A0, c0, rfl, l0, g0⟩ := hK;exact ⟨ad, A0, c0, e, X3, l0, g0⟩

structure S44 where
 f0 : ByteArray
 f1 : (List S86)
 f2 : (List S88)
 f3 : (List (List ByteArray))
 f4 : S25
theorem eqA88 (d : Nat) (w : World) (x0 y0 : ByteArray) (x1 y1 : Int) (x2 y2 : Int) :
  (Op.equalIn (d + 2) 88 (.agg #[.string x0, .int .i64 x1, .int .i64 x2]) (.agg #[.string y0, .int .i64 y1, .int .i64 y2])).run Tryd.prog w = .ok (x0.toList == y0.toList && (x1 == y1 && (x2 == y2))) w := by
 refine eqA_of Tryd.underlying88 X4 ?_;refine q6N (by rfl) (by go_simp; rfl) (by go_simp; rfl) (by go_simp) ?_;refine q6N (by rfl) (by go_simp; rfl) (by go_simp; rfl) (by go_simp) ?_;exact q8i (by rfl) (by go_simp; rfl) (by go_simp; rfl) (by go_simp)
def q1D.f (a0 : Int) : Option (Bool) := if a0 ≥ 97 then (some (decide (a0 ≤ 122))) else (some false)
theorem q1D.calls (a0 : Int) (r : Bool) (w : World) (h : q1D.f a0 = some r) :
  Calls Tryd.prog 109 #[.int .u8 a0] w fun e w' => e = .returned (.bool r) ∧ q1N w w' := by
 have H := h;clear h;unfold q1D.f at H;by_cases c2 : a0 ≥ 97
 ·rw [if_pos c2] at H;have c2b0 : decide (97 ≤ a0) = true := decide_eq_true c2;clear c2;obtain rfl := Option.some.inj H;go_enter Tryd.func109, Tryd.ntmps109;go_wp2
  go_ret
  exact ⟨X7, X18⟩
 ·rw [if_neg c2] at H;have c2b0 : decide (97 ≤ a0) = false := decide_eq_false c2;clear c2;obtain rfl := Option.some.inj H;go_enter Tryd.func109, Tryd.ntmps109;go_wp2
  go_ret
  exact ⟨X7, X18⟩

def q1E.f (a0 : Int) : Option (Bool) := if a0 ≥ 48 then (some (decide (a0 ≤ 57))) else (some false)
theorem q1E.calls (a0 : Int) (r : Bool) (w : World) (h : q1E.f a0 = some r) :
  Calls Tryd.prog 110 #[.int .u8 a0] w fun e w' => e = .returned (.bool r) ∧ q1N w w' := by
 have H := h;clear h;unfold q1E.f at H;by_cases c2 : a0 ≥ 48
 ·rw [if_pos c2] at H;have c2b0 : decide (48 ≤ a0) = true := decide_eq_true c2;clear c2;obtain rfl := Option.some.inj H;go_enter Tryd.func110, Tryd.ntmps110;go_wp2
  go_ret
  exact ⟨X7, X18⟩
 ·rw [if_neg c2] at H;have c2b0 : decide (48 ≤ a0) = false := decide_eq_false c2;clear c2;obtain rfl := Option.some.inj H;go_enter Tryd.func110, Tryd.ntmps110;go_wp2
  go_ret
  exact ⟨X7, X18⟩

mutual
def q0C.j0 : Nat → ByteArray → Bool → Option (Int)
 | 0, _, _ => none
 | k + 1, x0, aA => if aA = true then (some 0) else (q0C.l0 k x0 1)
def q0C.l0 : Nat → ByteArray → Int → Option (Int)
 | 0, _, _ => none
 | k + 1, x0, x3 => if x3 < (x0.size : Int) then (if 0 ≤ x3 then ((q1D.f (bt x0 x3)).bind fun aA => (if aA = true then (q0C.j2 k x0 x3 (bt x0 x3) true) else ((q1E.f (bt x0 x3)).bind fun aC => (q0C.j2 k x0 x3 (bt x0 x3) aC)))) else (none)) else (some x3)
def q0C.j2 : Nat → ByteArray → Int → Int → Bool → Option (Int)
 | 0, _, _, _, _ => none
 | k + 1, x0, x3, x4, aA => if aA = true then (q0C.l0 k x0 (wrap64 (x3 + 1))) else (if x4 = 45 then (if (wrap64 (x3 + 1)) < (x0.size : Int) then (if 0 ≤ (wrap64 (x3 + 1)) then ((q1D.f (bt x0 (wrap64 (x3 + 1)))).bind fun aC => (if aC = true then (q0C.l0 k x0 (wrap64 (x3 + 2))) else ((q1E.f (bt x0 (wrap64 (x3 + 1)))).bind fun aD => (if aD = true then (q0C.l0 k x0 (wrap64 (x3 + 2))) else (some x3))))) else (none)) else (some x3)) else (some x3))
end
def q0C.f (k : Nat) (a0 : ByteArray) : Option (Int) := if a0.toList = ([] : List UInt8) then (q0C.j0 k a0 true) else (if 0 < (a0.size : Int) then ((q1D.f (bt a0 0)).bind fun aA => (q0C.j0 k a0 (!aA))) else (none))
theorem q0C.mono_l : ∀ k, (∀ y0 y1, LeO (q0C.j0 k y0 y1) (q0C.j0 (k + 1) y0 y1)) ∧ (∀ y0 y1, LeO (q0C.l0 k y0 y1) (q0C.l0 (k + 1) y0 y1)) ∧ (∀ y0 y1 y2 y3, LeO (q0C.j2 k y0 y1 y2 y3) (q0C.j2 (k + 1) y0 y1 y2 y3))
 | 0 => ⟨fun _ _ r h => by simp [q0C.j0] at h, fun _ _ r h => by simp [q0C.l0] at h, fun _ _ _ _ r h => by simp [q0C.j2] at h⟩
 | k + 1 => by
  obtain ⟨aA, aC, aD⟩ := q0C.mono_l k;refine ⟨?_, ?_, ?_⟩
  ·intro y0 y1;unfold q0C.j0;exact X112
  ·intro y0 y1;unfold q0C.l0;exact X112
  ·intro y0 y1 y2 y3;unfold q0C.j2;exact X112
theorem q0C.mono : ∀ a0 k, LeO (q0C.f k a0) (q0C.f (k + 1) a0) := by
 intro a0 k;obtain ⟨aA, aC, aD⟩ := q0C.mono_l k;unfold q0C.f;exact X112
theorem q0C.calls (k : Nat) (a0 : ByteArray) (r : Int) (w : World) (h : q0C.f k a0 = some r) :
  Calls Tryd.prog 101 #[.string a0] w fun e w' => e = .returned (.int .i64 r) ∧ q1N w w' := by
 have H := h;clear h;unfold q0C.f at H;have aA := am H;clear H;go_enter Tryd.func101, Tryd.ntmps101;go_upto_region 1 with (fail)
 go_cut [12] (fun aC wc => ∃ (kq : Nat) (aD : Bool), aC = .bool aD ∧ q0d (q0C.j0 kq a0 aD = some r) ∧ q0d (kq ≤ k) ∧ q1N w wc)
 case first =>
  have H := aA.out;clear aA;by_cases c3 : a0.toList = ([] : List UInt8)
  ·rw [if_pos c3] at H;have c3b0 := eT c3;have c3b1 := eF c3;clear c3;(first | rw [c3b0] | (simp only [q2t, q2B]; rw [c3b0]) | skip);have H' := am H;clear H;go_wp2
   go_meet
   case rel => exact ⟨_, (true), X7, H', ⟨X8⟩, X18⟩
  ·rw [if_neg c3] at H;have c3b0 := nF c3;have c3b1 := nT c3;(first | rw [c3b0] | (simp only [q2t, q2B]; rw [c3b0]) | skip);by_cases c4 : 0 < (a0.size : Int)
   ·rw [if_pos c4] at H;have c4b0 := dT c4;have c4b1 : decide (0 < a0.size) = true := decide_eq_true (by omega);clear c4;obtain ⟨aE, aG, H⟩ := oB H;(try dsimp only at H);have A6 := am aG;clear aG;have H' := am H;clear H;have p5 : 0 ≤ (0 : Int) := (by omega);have q5 : 0 < a0.size := (by have : (0 : Int) < (a0.size : Int) := of_decide_eq_true X12; omega);have aH : ∀ h : 0 < a0.size, ((a0[0]'h).toNat : Int) = bt a0 0 := q2b a0 0;clear p5;have aI : (0 < (a0.size : Int)) = True := eq_true (of_decide_eq_true X12);replace q5 := eq_true q5;go_wp2_with (first | (go_at_call 109; (with_reducible refine (q1D.calls (bt a0 0) aE _ A6.out).mono ?_); rintro e w' ⟨rfl, ⟨nd, rfl⟩⟩))
    go_meet
    case rel => exact ⟨_, (!aE), X7, H', ⟨X8⟩, X18⟩
   ·exact iN c4 H
 case rest =>
  clear aA;(try clear c1);(try clear p2);(try clear c3);(try clear c3b0);(try clear c3b1);(try clear c4);(try clear c4b0);(try clear c4b1);(try clear p5 p5);(try clear q5 q5);(try clear aH);(try clear aI);obtain ⟨kq, aD, rfl, HA, aJ, ⟨mc1, rfl⟩⟩ := hcut;cases kq with
  | zero => exact absurd HA.out (by simp [q0C.j0])
  | succ aK =>
   have H := HA.out;clear HA;simp only [q0C.j0] at H;by_cases c7 : aD = true
   ·subst c7;replace H := tP H;obtain rfl := Option.some.inj H;go_wp2
    go_ret
    exact ⟨X7, X18⟩
   ·replace c7 := Bool.eq_false_iff.mpr c7;subst c7;replace H := tN H;have H' := am H;clear H;go_wp2
    go_loopg [3] aK (fun kq v3 w' => ∃ (aM : Int), v3 = .int .i64 aM ∧ q0d (q0C.l0 kq a0 aM = some r) ∧ q0d (kq ≤ aK) ∧ q1N w w')
    case atStart => exact ⟨(1), X7, H', ⟨Nat.le_refl _⟩, X18⟩
    case round =>
     clear H';(try clear c1);(try clear p2 p2);(try clear c3);(try clear c3b0);(try clear c3b1);(try clear c4);(try clear c4b0);(try clear c4b1);(try clear p5 p5);(try clear q5 q5);(try clear aH);(try clear aI);(try clear c7);obtain ⟨aM, rfl, HA, aQ, ⟨m2, rfl⟩⟩ := hrel;cases gk with
     | zero => exact absurd HA.out (by simp [q0C.l0])
     | succ k2 =>
      have H := HA.out;clear HA;simp only [q0C.l0] at H;by_cases c8 : aM < (a0.size : Int)
      ·rw [if_pos c8] at H;have c8b0 := dT c8;clear c8;by_cases c9 : 0 ≤ aM
       ·rw [if_pos c9] at H;have c9b0 := dT c9;clear c9;have aT := am H;clear H;have aU : 0 ≤ (aM : Int) := of_decide_eq_true X12;have aW : aM < (a0.size : Int) := of_decide_eq_true X12;have aX := q2b a0 aM;replace aU := eq_true aU;replace aW := eq_true aW;go_upto_region 7 with (fail)
        go_cut [21] (fun aY wc => ∃ (kq : Nat) (aZ : Bool), aY = .bool aZ ∧ q0d (q0C.j2 kq a0 aM (bt a0 aM) aZ = some r) ∧ q0d (kq ≤ k2) ∧ q1N w wc)
        case first =>
         have H := aT.out;clear aT;obtain ⟨bA, bB, H⟩ := oB H;(try dsimp only at H);have bC := am bB;clear bB;by_cases bD : bA = true
         ·subst bD;replace H := tP H;have H' := am H;clear H;go_wp2_with (first | ((with_reducible refine gc 109 ?_); refine gL (some 23) Tryd.func109 #[.int .u8 (bt a0 aM)] ?_; (with_reducible refine (q1D.calls (bt a0 aM) true _ bC.out).mono ?_); rintro e w' ⟨rfl, ⟨nd, rfl⟩⟩; refine ⟨_, rfl, ?_⟩))
          go_meet
          case rel => exact ⟨_, (true), X7, H', ⟨X98⟩, X18⟩
         ·replace bD := Bool.eq_false_iff.mpr bD;subst bD;replace H := tN H;obtain ⟨bE, bF, H⟩ := oB H;(try dsimp only at H);have bG := am bF;clear bF;have H' := am H;clear H;go_wp2_with (first | ((with_reducible refine gc 109 ?_); refine gL (some 23) Tryd.func109 #[.int .u8 (bt a0 aM)] ?_; (with_reducible refine (q1D.calls (bt a0 aM) false _ bC.out).mono ?_); rintro e w' ⟨rfl, ⟨nd, rfl⟩⟩; refine ⟨_, rfl, ?_⟩) | (go_at_call 110; (with_reducible refine (q1E.calls (bt a0 aM) bE _ bG.out).mono ?_); rintro e w' ⟨rfl, ⟨nd, rfl⟩⟩))
          go_meet
          case rel => exact ⟨_, (bE), X7, H', ⟨X98⟩, X18⟩
        case rest =>
         clear aT;(try clear c1);(try clear p1);(try clear q1);(try clear hx1);(try clear p2 p2);(try clear c3);(try clear c3b0);(try clear c3b1);(try clear c4);(try clear c4b0);(try clear c4b1);(try clear p5 p5);(try clear q5 q5);(try clear aH);(try clear aI);(try clear c7);(try clear c8);(try clear c8b0);(try clear c9);(try clear c9b0);(try clear c10);(try clear aU aU);(try clear aW aW);(try clear aX);(try clear bD);obtain ⟨kq, aZ, rfl, HA, bH, ⟨mc10, rfl⟩⟩ := hcut;cases kq with
         | zero => exact absurd HA.out (by simp [q0C.j2])
         | succ bI =>
          have H := HA.out;clear HA;simp only [q0C.j2] at H;by_cases bJ : aZ = true
          ·subst bJ;replace H := tP H;have H' := am H;clear H;go_wp2
           go_roundg bI
           case measure => have := aJ.out; have := aQ.out; have := bH.out; omega
           case rel => exact ⟨(wrap64 (aM + 1)), X7, H', ⟨X113⟩, X18⟩
          ·replace bJ := Bool.eq_false_iff.mpr bJ;subst bJ;replace H := tN H;by_cases bK : (bt a0 aM) = 45
           ·rw [if_pos bK] at H;have c16b0 := eT bK;have c16b1 := eF bK;clear bK;by_cases bL : (wrap64 (aM + 1)) < (a0.size : Int)
            ·rw [if_pos bL] at H;have c17b0 := dT bL;clear bL;obtain ⟨bM, bN⟩ : ∃ j_ : Int, (wrap64 (aM + 1)) = j_ := ⟨_, rfl⟩;replace H : (if 0 ≤ (bM) then ((q1D.f (bt a0 (bM))).bind fun bO => (if bO = true then (q0C.l0 bI a0 (wrap64 (aM + 2))) else ((q1E.f (bt a0 (bM))).bind fun bP => (if bP = true then (q0C.l0 bI a0 (wrap64 (aM + 2))) else (some aM))))) else (none)) = some r := by first | (rw [bN] at H; exact H) | (simp only [bN] at H ⊢; exact H)
             (try rw [bN] at c17b0);have hji18w : (IntKind.i64.wrap (aM + 1)) = bM := (q2t _).trans bN;by_cases bQ : 0 ≤ (bM)
             ·rw [if_pos bQ] at H;have c19b0 := dT bQ;clear bQ;obtain ⟨bO, bR, H⟩ := oB H;(try dsimp only at H);have bT := am bR;clear bR;by_cases bU : bO = true
              ·subst bU;replace H := tP H;have H' := am H;clear H;have bV : 0 ≤ ((bM) : Int) := of_decide_eq_true X12;have bW : (bM) < (a0.size : Int) := of_decide_eq_true X12;have bX := q2b a0 (bM);replace bV := eq_true bV;replace bW := eq_true bW;go_wp2_with (first | (go_at_call 109; (with_reducible refine (q1D.calls (bt a0 (bM)) true _ bT.out).mono ?_); rintro e w' ⟨rfl, ⟨nd, rfl⟩⟩))
               go_roundg bI
               case measure => have := aJ.out; have := aQ.out; have := bH.out; omega
               case rel => exact ⟨(wrap64 (aM + 2)), X7, H', ⟨X113⟩, X18⟩
              ·replace bU := Bool.eq_false_iff.mpr bU;subst bU;replace H := tN H;obtain ⟨bP, bY, H⟩ := oB H;(try dsimp only at H);have bZ := am bY;clear bY;by_cases cA : bP = true
               ·subst cA;replace H := tP H;have H' := am H;clear H;have bV : 0 ≤ ((bM) : Int) := of_decide_eq_true X12;have bW : (bM) < (a0.size : Int) := of_decide_eq_true X12;have bX := q2b a0 (bM);replace bV := eq_true bV;replace bW := eq_true bW;go_wp2_with (first | (go_at_call 109; (with_reducible refine (q1D.calls (bt a0 (bM)) false _ bT.out).mono ?_); rintro e w' ⟨rfl, ⟨nd, rfl⟩⟩; have cC : 0 ≤ ((bM) : Int) := of_decide_eq_true X12; have cD : (bM) < (a0.size : Int) := of_decide_eq_true X12; have cE := q2b a0 (bM); replace cC := eq_true cC; replace cD := eq_true cD) | (go_at_call 110; (with_reducible refine (q1E.calls (bt a0 (bM)) true _ bZ.out).mono ?_); rintro e w' ⟨rfl, ⟨nd, rfl⟩⟩))
                go_roundg bI
                case measure => have := aJ.out; have := aQ.out; have := bH.out; omega
                case rel => exact ⟨(wrap64 (aM + 2)), X7, H', ⟨X113⟩, X18⟩
               ·replace cA := Bool.eq_false_iff.mpr cA;subst cA;replace H := tN H;obtain rfl := Option.some.inj H;have bV : 0 ≤ ((bM) : Int) := of_decide_eq_true X12;have bW : (bM) < (a0.size : Int) := of_decide_eq_true X12;have bX := q2b a0 (bM);replace bV := eq_true bV;replace bW := eq_true bW;go_wp2_with (first | (go_at_call 109; (with_reducible refine (q1D.calls (bt a0 (bM)) false _ bT.out).mono ?_); rintro e w' ⟨rfl, ⟨nd, rfl⟩⟩; have cC : 0 ≤ ((bM) : Int) := of_decide_eq_true X12; have cD : (bM) < (a0.size : Int) := of_decide_eq_true X12; have cE := q2b a0 (bM); replace cC := eq_true cC; replace cD := eq_true cD) | (go_at_call 110; (with_reducible refine (q1E.calls (bt a0 (bM)) false _ bZ.out).mono ?_); rintro e w' ⟨rfl, ⟨nd, rfl⟩⟩))
                go_ret
                exact ⟨by first | rfl | (simp; done) | (simp only [← bN] <;> (first | rfl | simp)) | (simp [*]; done), X18⟩
             ·exact iN bQ H
            ·rw [if_neg bL] at H;have c17b0 := dF bL;clear bL;obtain rfl := Option.some.inj H;go_wp2
             go_ret
             exact ⟨X7, X18⟩
           ·rw [if_neg bK] at H;have c16b0 := nF bK;have c16b1 := nT bK;obtain rfl := Option.some.inj H;go_wp2
            go_ret
            exact ⟨X7, X18⟩
       ·exact iN c9 H
      ·rw [if_neg c8] at H;have c8b0 := dF c8;clear c8;obtain rfl := Option.some.inj H;go_wp2
       go_ret
       exact ⟨X7, X18⟩

def q0Y.l0 : Nat → ByteArray → Int → Option (Int)
 | 0, _, _ => none
 | k + 1, x0, x3 => if x3 < (x0.size : Int) then (if 0 ≤ x3 then ((q1E.f (bt x0 x3)).bind fun aA => (if aA = true then (q0Y.l0 k x0 (wrap64 (x3 + 1))) else (some x3))) else (none)) else (some x3)
def q0Y.f (k : Nat) (a0 : ByteArray) : Option (Int) := q0Y.l0 k a0 0
theorem q0Y.mono_l : ∀ k, (∀ y0 y1, LeO (q0Y.l0 k y0 y1) (q0Y.l0 (k + 1) y0 y1))
 | 0 => fun _ _ r h => by simp [q0Y.l0] at h
 | k + 1 => by
  have aA := q0Y.mono_l k
  ·intro y0 y1;unfold q0Y.l0;exact X76
theorem q0Y.mono : ∀ a0 k, LeO (q0Y.f k a0) (q0Y.f (k + 1) a0) := by
 intro a0 k;have aA := q0Y.mono_l k;unfold q0Y.f;exact X76
theorem q0Y.calls (k : Nat) (a0 : ByteArray) (r : Int) (w : World) (h : q0Y.f k a0 = some r) :
  Calls Tryd.prog 111 #[.string a0] w fun e w' => e = .returned (.int .i64 r) ∧ q1N w w' := by
 have H : (q0Y.l0 k a0 0) = some r := h;clear h;have H' := am H;clear H;go_enter Tryd.func111, Tryd.ntmps111;go_wp2
 go_loopg [3] k (fun kq v3 w' => ∃ (aA : Int), v3 = .int .i64 aA ∧ q0d (q0Y.l0 kq a0 aA = some r) ∧ q0d (kq ≤ k) ∧ q1N w w')
 case atStart => exact ⟨(0), X7, H', ⟨Nat.le_refl _⟩, X18⟩
 case round =>
  clear H';(try clear c1);obtain ⟨aA, rfl, HA, aC, ⟨m1, rfl⟩⟩ := hrel;cases gk with
  | zero => exact absurd HA.out (by simp [q0Y.l0])
  | succ k1 =>
   have H := HA.out;clear HA;simp only [q0Y.l0] at H;by_cases c2 : aA < (a0.size : Int)
   ·rw [if_pos c2] at H;have c2b0 := dT c2;clear c2;by_cases c3 : 0 ≤ aA
    ·rw [if_pos c3] at H;have c3b0 := dT c3;clear c3;obtain ⟨aD, aE, H⟩ := oB H;(try dsimp only at H);have A5 := am aE;clear aE;by_cases c6 : aD = true
     ·subst c6;replace H := tP H;have H' := am H;clear H;have p4 : 0 ≤ (aA : Int) := of_decide_eq_true X12;have q4 : aA < (a0.size : Int) := of_decide_eq_true X12;have aG := q2b a0 aA;replace p4 := eq_true p4;replace q4 := eq_true q4;go_wp2_with (first | (go_at_call 110; (with_reducible refine (q1E.calls (bt a0 aA) true _ A5.out).mono ?_); rintro e w' ⟨rfl, ⟨nd, rfl⟩⟩))
      go_roundg k1
      case measure => have := aC.out; omega
      case rel => exact ⟨(wrap64 (aA + 1)), X7, H', ⟨by have := aC.out; omega⟩, X18⟩
     ·replace c6 := Bool.eq_false_iff.mpr c6;subst c6;replace H := tN H;obtain rfl := Option.some.inj H;have p4 : 0 ≤ (aA : Int) := of_decide_eq_true X12;have q4 : aA < (a0.size : Int) := of_decide_eq_true X12;have aG := q2b a0 aA;replace p4 := eq_true p4;replace q4 := eq_true q4;go_wp2_with (first | (go_at_call 110; (with_reducible refine (q1E.calls (bt a0 aA) false _ A5.out).mono ?_); rintro e w' ⟨rfl, ⟨nd, rfl⟩⟩))
      go_ret
      exact ⟨X7, X18⟩
    ·exact iN c3 H
   ·rw [if_neg c2] at H;have c2b0 := dF c2;clear c2;obtain rfl := Option.some.inj H;go_wp2
    go_ret
    exact ⟨X7, X18⟩

mutual
def q0G.j0 : Nat → ByteArray → Bool → Option (Int × Bool)
 | 0, _, _ => none
 | k + 1, x0, aA => if aA = true then (some (0, false)) else (if x0.size ≤ 9223372036854775807 then (((some (q2R x0))).bind fun aC => (q0G.l0 k 0 aC (aC.length : Int) 0)) else (none))
def q0G.l0 : Nat → Int → List Int → Int → Int → Option (Int × Bool)
 | 0, _, _, _, _ => none
 | k + 1, x4, aA, aC, aD => if aD < aC then (if 0 ≤ aD then (if aD < (aA.length : Int) then (q0G.l0 k (wrap64 ((wrap64 (10 * x4)) + (((rd aA aD) - 48) % 256))) aA aC (wrap64 (aD + 1))) else (none)) else (none)) else (some (x4, true))
end
def q0G.f (k : Nat) (a0 : ByteArray) : Option (Int × Bool) := if a0.toList = ([] : List UInt8) then (q0G.j0 k a0 true) else (if (a0.size : Int) > 6 then (q0G.j0 k a0 true) else ((q0Y.f k a0).bind fun aA => (if aA = (a0.size : Int) then (if (a0.size : Int) > 1 then (if 0 < (a0.size : Int) then (q0G.j0 k a0 ((bt a0 0) == 48)) else (none)) else (q0G.j0 k a0 false)) else (q0G.j0 k a0 true))))
theorem q0G.mono_l : ∀ k, (∀ y0 y1, LeO (q0G.j0 k y0 y1) (q0G.j0 (k + 1) y0 y1)) ∧ (∀ y0 y1 y2 y3, LeO (q0G.l0 k y0 y1 y2 y3) (q0G.l0 (k + 1) y0 y1 y2 y3))
 | 0 => ⟨fun _ _ r h => by simp [q0G.j0] at h, fun _ _ _ _ r h => by simp [q0G.l0] at h⟩
 | k + 1 => by
  obtain ⟨aA, aC⟩ := q0G.mono_l k;refine ⟨?_, ?_⟩
  ·intro y0 y1;unfold q0G.j0;exact X114
  ·intro y0 y1 y2 y3;unfold q0G.l0;exact X114
theorem q0G.mono : ∀ a0 k, LeO (q0G.f k a0) (q0G.f (k + 1) a0) := by
 intro a0 k;obtain ⟨aA, aC⟩ := q0G.mono_l k;unfold q0G.f;exact X114
theorem q0G.calls (k : Nat) (a0 : ByteArray) (r1 : Int) (r2 : Bool) (w : World) (h : q0G.f k a0 = some (r1, r2)) :
  Calls Tryd.prog 112 #[.string a0] w fun e w' => e = .returned (.tuple #[.int .i64 r1, .bool r2]) ∧ Below w.heap.size w w' := by
 have HB := am (Below.refl w.heap.size w);have H := h;clear h;unfold q0G.f at H;have aA := am H;clear H;go_enter Tryd.func112, Tryd.ntmps112;go_upto_region 1 with (fail)
 go_cut [30] (fun aC wc => ∃ (kq : Nat) (aD : Bool), aC = .bool aD ∧ q0d (q0G.j0 kq a0 aD = some (r1, r2)) ∧ q0d (kq ≤ k) ∧ q0d (Below w.heap.size w wc))
 case first =>
  have H := aA.out;clear aA;by_cases c3 : a0.toList = ([] : List UInt8)
  ·rw [if_pos c3] at H;have c3b0 := eT c3;have c3b1 := eF c3;clear c3;(first | rw [c3b0] | (simp only [q2t, q2B]; rw [c3b0]) | skip);have H' := am H;clear H;go_wp2
   go_meet
   case rel => exact ⟨_, (true), X7, H', ⟨X8⟩, ⟨X6⟩⟩
  ·rw [if_neg c3] at H;have c3b0 := nF c3;have c3b1 := nT c3;(first | rw [c3b0] | (simp only [q2t, q2B]; rw [c3b0]) | skip);by_cases c4 : (a0.size : Int) > 6
   ·rw [if_pos c4] at H;have c4b0 : decide (6 < (a0.size : Int)) = true := decide_eq_true c4;have c4b1 : decide (6 < a0.size) = true := decide_eq_true (by omega);clear c4;have H' := am H;clear H;go_wp2
    go_meet
    case rel => exact ⟨_, (true), X7, H', ⟨X8⟩, ⟨X6⟩⟩
   ·rw [if_neg c4] at H;have c4b0 : decide (6 < (a0.size : Int)) = false := decide_eq_false c4;have c4b1 : decide (6 < a0.size) = false := decide_eq_false (by omega);clear c4;obtain ⟨aE, aG, H⟩ := oB H;(try dsimp only at H);have A5 := am aG;clear aG;by_cases c6 : aE = (a0.size : Int)
    ·rw [if_pos c6] at H;have c6b0 := eT c6;have c6b1 := eF c6;clear c6;by_cases c7 : (a0.size : Int) > 1
     ·rw [if_pos c7] at H;have c7b0 : decide (1 < (a0.size : Int)) = true := decide_eq_true c7;have c7b1 : decide (1 < a0.size) = true := decide_eq_true (by omega);clear c7;by_cases c8 : 0 < (a0.size : Int)
      ·rw [if_pos c8] at H;have c8b0 := dT c8;have c8b1 : decide (0 < a0.size) = true := decide_eq_true (by omega);clear c8;have H' := am H;clear H;go_wp2_with (first | (go_at_call 111; (with_reducible refine (q0Y.calls k a0 aE _ A5.out).mono ?_); rintro e w' ⟨rfl, ⟨nd, rfl⟩⟩; have p9 : 0 ≤ (0 : Int) := (by omega); have q9 : 0 < a0.size := (by have : (0 : Int) < (a0.size : Int) := of_decide_eq_true X12; omega); have aH : ∀ h : 0 < a0.size, ((a0[0]'h).toNat : Int) = bt a0 0 := q2b a0 0; clear p9; have aI : (0 < (a0.size : Int)) = True := eq_true (of_decide_eq_true X12); replace q9 := eq_true q9))
       go_meet
       case rel => exact ⟨_, (((bt a0 0) == 48)), X7, H', ⟨X8⟩, ⟨X6⟩⟩
      ·exact iN c8 H
     ·rw [if_neg c7] at H;have c7b0 : decide (1 < (a0.size : Int)) = false := decide_eq_false c7;have c7b1 : decide (1 < a0.size) = false := decide_eq_false (by omega);clear c7;have H' := am H;clear H;go_wp2_with (first | (go_at_call 111; (with_reducible refine (q0Y.calls k a0 aE _ A5.out).mono ?_); rintro e w' ⟨rfl, ⟨nd, rfl⟩⟩))
      go_meet
      case rel => exact ⟨_, (false), X7, H', ⟨X8⟩, ⟨X6⟩⟩
    ·rw [if_neg c6] at H;have c6b0 := nF c6;have c6b1 := nT c6;have H' := am H;clear H;go_wp2_with (first | (go_at_call 111; (with_reducible refine (q0Y.calls k a0 aE _ A5.out).mono ?_); rintro e w' ⟨rfl, ⟨nd, rfl⟩⟩))
     go_meet
     case rel => exact ⟨_, (true), X7, H', ⟨X8⟩, ⟨X6⟩⟩
 case rest =>
  clear aA;(try clear c1);(try clear p2);(try clear c3);(try clear c3b0);(try clear c3b1);(try clear c4);(try clear c4b0);(try clear c4b1);(try clear c6);(try clear c6b0);(try clear c6b1);(try clear c7);(try clear c7b0);(try clear c7b1);(try clear c8);(try clear c8b0);(try clear c8b1);(try clear p9 p9);(try clear q9 q9);(try clear aH);(try clear aI);obtain ⟨kq, aD, rfl, HA, aJ, HB⟩ := hcut;cases kq with
  | zero => exact absurd HA.out (by simp [q0G.j0])
  | succ aK =>
   have H := HA.out;clear HA;simp only [q0G.j0] at H;by_cases c10 : aD = true
   ·subst c10;replace H := tP H;simp only [Option.some.injEq, Prod.mk.injEq] at H;obtain ⟨rfl, rfl⟩ := H;go_wp2
    go_ret2
    exact ⟨X11, X6⟩
   ·replace c10 := Bool.eq_false_iff.mpr c10;subst c10;replace H := tN H;by_cases aM : a0.size ≤ 9223372036854775807
    ·rw [if_pos aM] at H;have c11b0 := eq_true aM;have c11b1 := dT aM;try have c11b2 : (9223372036854775807 < a0.size) = False := eq_false (Nat.not_lt.2 aM)
     clear aM;obtain ⟨aQ, aT, H⟩ := oB H;(try dsimp only at H);have aU := am aT;clear aT;have H' := am H;clear H;go_wp2_with (first | (refine convU_ ?_; refine (q8b (P := Tryd.prog) 9 31 5 Tryd.underlying9 Tryd.underlying31 Tryd.underlying5 a0 (by first | assumption | omega | (have := of_decide_eq_true (by assumption); omega)) _ aU.out _).mono ?_; rintro e w13 ⟨v109, rfl, aW, hb⟩; refine ⟨_, rfl, ?_⟩; have aX := am (Kd.V_lower (Kd.V_mono (ok' := fun k_ => True) aW (fun k_ hk_ => trivial)) (q0W X6)); replace HB := bS X6 hb; clear hb; (try clear aW); obtain ⟨aY, aZ, bA⟩ := Kd.V_slice aX.out; subst bA))
     go_loopg [4, 34] aK (fun kq v4 bB w' => ∃ (bC : Int) (bD : Int), v4 = .int .i64 bC ∧ bB = .int .i64 bD ∧ q0d (q0G.l0 kq bC aQ (aQ.length : Int) bD = some (r1, r2)) ∧ q0d (kq ≤ aK) ∧ q0d (Kd.V (Kd.int .u8) 5 w' w.heap.size (fun _ => True) (.slice aY aQ.length aZ) aQ) ∧ q0d (Below w.heap.size w w'))
     case atStart => exact ⟨(0), (0), X7, X7, H', ⟨Nat.le_refl _⟩, ⟨aV aX.out⟩, ⟨X6⟩⟩
     case round =>
      clear H';(try clear c1);(try clear p2 p2);(try clear c3);(try clear c3b0);(try clear c3b1);(try clear c4);(try clear c4b0);(try clear c4b1);(try clear c6);(try clear c6b0);(try clear c6b1);(try clear c7);(try clear c7b0);(try clear c7b1);(try clear c8);(try clear c8b0);(try clear c8b1);(try clear p9 p9);(try clear q9 q9);(try clear aH);(try clear aI);(try clear c10);(try clear aM);(try clear c11b0);(try clear c11b1);(try clear c11b2);obtain ⟨bC, bD, rfl, rfl, HA, bE, bF, HB⟩ := hrel;cases gk with
      | zero => exact absurd HA.out (by simp [q0G.l0])
      | succ k2 =>
       have H := HA.out;clear HA;simp only [q0G.l0] at H;by_cases bG : bD < (aQ.length : Int)
       ·rw [if_pos bG] at H;have c15b0 := dT bG;clear bG;by_cases bH : 0 ≤ bD
        ·rw [if_pos bH] at H;have c16b0 := dT bH;clear bH;by_cases bI : bD < (aQ.length : Int)
         ·rw [if_pos bI] at H;have c17b0 := dT bI;clear bI;have H' := am H;clear H;have bJ : 0 ≤ (bD : Int) := of_decide_eq_true X12;have bK : bD < (aQ.length : Int) := of_decide_eq_true X12;obtain ⟨ad111, e111, hx111_0⟩ := Kd.at_int (Kd.V_reads' bF.out).2.2 bD bJ bK;cases e111;replace bJ := eq_true bJ;replace bK := eq_true bK;go_wp2
          go_roundg k2
          case measure => have := aJ.out; have := bE.out; omega
          case rel => exact ⟨(wrap64 ((wrap64 (10 * bC)) + (((rd aQ bD) - 48) % 256))), (wrap64 (bD + 1)), X7, X7, H', ⟨by have := aJ.out; have := bE.out; omega⟩, ⟨aV bF.out⟩, ⟨X6⟩⟩
         ·exact iN bI H
        ·exact iN bH H
       ·rw [if_neg bG] at H;have c15b0 := dF bG;clear bG;simp only [Option.some.injEq, Prod.mk.injEq] at H;obtain ⟨rfl, rfl⟩ := H;go_wp2
        go_ret2
        exact ⟨X11, X6⟩
    ·exact iN aM H
def q2q.f (a0 : Int) : Option (Bool) := if a0 ≥ 32 then (if a0 ≤ 126 then (some (a0 != 34)) else (some false)) else (some false)
theorem q2q.calls (a0 : Int) (r : Bool) (w : World) (h : q2q.f a0 = some r) :
  Calls Tryd.prog 138 #[.int .u8 a0] w fun e w' => e = .returned (.bool r) ∧ q1N w w' := by
 have H := h;clear h;unfold q2q.f at H;by_cases c2 : a0 ≥ 32
 ·rw [if_pos c2] at H;have c2b0 : decide (32 ≤ a0) = true := decide_eq_true c2;clear c2;by_cases c3 : a0 ≤ 126
  ·rw [if_pos c3] at H;have c3b0 := dT c3;clear c3;obtain rfl := Option.some.inj H;go_enter Tryd.func138, Tryd.ntmps138;go_wp2
   go_ret
   exact ⟨X7, X18⟩
  ·rw [if_neg c3] at H;have c3b0 := dF c3;clear c3;obtain rfl := Option.some.inj H;go_enter Tryd.func138, Tryd.ntmps138;go_wp2
   go_ret
   exact ⟨X7, X18⟩
 ·rw [if_neg c2] at H;have c2b0 : decide (32 ≤ a0) = false := decide_eq_false c2;clear c2;obtain rfl := Option.some.inj H;go_enter Tryd.func138, Tryd.ntmps138;go_wp2
  go_ret
  exact ⟨X7, X18⟩

mutual
def q0z.j1 : Nat → ByteArray → Int → Option (ByteArray × Int)
 | 0, _, _ => none
 | k + 1, x0, x4 => if x4 = (x0.size : Int) then (q0z.j2 k x0 x4 true) else (if 0 ≤ x4 then (if x4 < (x0.size : Int) then (q0z.j2 k x0 x4 ((bt x0 x4) != 34)) else (none)) else (none))
def q0z.j2 : Nat → ByteArray → Int → Bool → Option (ByteArray × Int)
 | 0, _, _, _ => none
 | k + 1, x0, x4, aA => if aA = true then (some ((⟨#[]⟩ : ByteArray), 2)) else (if (wrap64 (x4 - 1)) > 60 then (some ((⟨#[]⟩ : ByteArray), 3)) else (if 1 ≤ x4 then (if x4 ≤ (x0.size : Int) then (some (x0.extract 1 (x4 : Int).toNat, 0)) else (none)) else (none)))
def q0z.l0 : Nat → ByteArray → Int → Option (ByteArray × Int)
 | 0, _, _ => none
 | k + 1, x0, x4 => if x4 < (x0.size : Int) then (if 0 ≤ x4 then ((q2q.f (bt x0 x4)).bind fun aA => (if aA = true then (q0z.l0 k x0 (wrap64 (x4 + 1))) else (q0z.j1 k x0 x4))) else (none)) else (q0z.j1 k x0 x4)
end
def q0z.f (k : Nat) (a0 : ByteArray) : Option (ByteArray × Int) := q0z.l0 k a0 1
theorem q0z.mono_l : ∀ k, (∀ y0 y1, LeO (q0z.j1 k y0 y1) (q0z.j1 (k + 1) y0 y1)) ∧ (∀ y0 y1 y2, LeO (q0z.j2 k y0 y1 y2) (q0z.j2 (k + 1) y0 y1 y2)) ∧ (∀ y0 y1, LeO (q0z.l0 k y0 y1) (q0z.l0 (k + 1) y0 y1))
 | 0 => ⟨fun _ _ r h => by simp [q0z.j1] at h, fun _ _ _ r h => by simp [q0z.j2] at h, fun _ _ r h => by simp [q0z.l0] at h⟩
 | k + 1 => by
  obtain ⟨aA, aC, aD⟩ := q0z.mono_l k;refine ⟨?_, ?_, ?_⟩
  ·intro y0 y1;unfold q0z.j1;exact X100
  ·intro y0 y1 y2;unfold q0z.j2;exact X100
  ·intro y0 y1;unfold q0z.l0;exact X100
theorem q0z.mono : ∀ a0 k, LeO (q0z.f k a0) (q0z.f (k + 1) a0) := by
 intro a0 k;obtain ⟨aA, aC, aD⟩ := q0z.mono_l k;unfold q0z.f;exact X100
theorem q0z.calls (k : Nat) (a0 : ByteArray) (r1 : ByteArray) (r2 : Int) (w : World) (h : q0z.f k a0 = some (r1, r2)) :
  Calls Tryd.prog 113 #[.string a0] w fun e w' => e = .returned (.tuple #[.string r1, .int .i64 r2]) ∧ q1N w w' := by
 have H := h;clear h;unfold q0z.f at H;have aA := am H;clear H;go_enter Tryd.func113, Tryd.ntmps113;go_upto_block 0 with (fail)
 go_cut [4] (fun v4 wc => ∃ (kq : Nat) (aC : Int), v4 = .int .i64 aC ∧ q0d (q0z.j1 kq a0 aC = some (r1, r2)) ∧ q0d (kq ≤ k) ∧ q1N w wc)
 case first =>
  have H := aA.out;clear aA;have H' := am H;clear H;go_wp2
  go_loopg [4] k (fun kq v4 w' => ∃ (aC : Int), v4 = .int .i64 aC ∧ q0d (q0z.l0 kq a0 aC = some (r1, r2)) ∧ q0d (kq ≤ k) ∧ q1N w w')
  case atStart => exact ⟨(1), X7, H', ⟨Nat.le_refl _⟩, X18⟩
  case round =>
   clear H';(try clear c1);(try clear p2);obtain ⟨aC, rfl, HA, aD, ⟨m1, rfl⟩⟩ := hrel;cases gk with
   | zero => exact absurd HA.out (by simp [q0z.l0])
   | succ k1 =>
    have H := HA.out;clear HA;simp only [q0z.l0] at H;by_cases c3 : aC < (a0.size : Int)
    ·rw [if_pos c3] at H;have c3b0 := dT c3;clear c3;(first | rw [c3b0] | (simp only [q2t, q2B]; rw [c3b0]) | skip);by_cases c4 : 0 ≤ aC
     ·rw [if_pos c4] at H;have c4b0 := dT c4;clear c4;obtain ⟨aE, aG, H⟩ := oB H;(try dsimp only at H);have A6 := am aG;clear aG;by_cases c7 : aE = true
      ·subst c7;replace H := tP H;have H' := am H;clear H;have p5 : 0 ≤ (aC : Int) := of_decide_eq_true X12;have q5 : aC < (a0.size : Int) := of_decide_eq_true X12;have aH := q2b a0 aC;replace p5 := eq_true p5;replace q5 := eq_true q5;go_wp2_with (first | (go_at_call 138; (with_reducible refine (q2q.calls (bt a0 aC) true _ A6.out).mono ?_); rintro e w' ⟨rfl, ⟨nd, rfl⟩⟩))
       go_roundg k1
       case measure => have := aD.out; omega
       case rel => exact ⟨(wrap64 (aC + 1)), X7, H', ⟨by have := aD.out; omega⟩, X18⟩
      ·replace c7 := Bool.eq_false_iff.mpr c7;subst c7;replace H := tN H;have H' := am H;clear H;have p5 : 0 ≤ (aC : Int) := of_decide_eq_true X12;have q5 : aC < (a0.size : Int) := of_decide_eq_true X12;have aH := q2b a0 aC;replace p5 := eq_true p5;replace q5 := eq_true q5;go_wp2_with (first | (go_at_call 138; (with_reducible refine (q2q.calls (bt a0 aC) false _ A6.out).mono ?_); rintro e w' ⟨rfl, ⟨nd, rfl⟩⟩))
       go_meet
       case rel => exact ⟨_, (aC), X7, H', ⟨by have := aD.out; first | omega | exact Nat.le_refl _⟩, X18⟩
     ·exact iN c4 H
    ·rw [if_neg c3] at H;have c3b0 := dF c3;clear c3;(first | rw [c3b0] | (simp only [q2t, q2B]; rw [c3b0]) | skip);have H' := am H;clear H;go_wp2
     go_meet
     case rel => exact ⟨_, (aC), X7, H', ⟨by have := aD.out; first | omega | exact Nat.le_refl _⟩, X18⟩
 case rest =>
  clear aA;(try clear c1);(try clear p2 p2);(try clear c3);(try clear c3b0);(try clear c4);(try clear c4b0);(try clear p5 p5);(try clear q5 q5);(try clear aH);(try clear p6);(try clear c7);obtain ⟨kq, aC, rfl, HA, aI, ⟨mc1, rfl⟩⟩ := hcut;cases kq with
  | zero => exact absurd HA.out (by simp [q0z.j1])
  | succ aJ =>
   have H := HA.out;clear HA;simp only [q0z.j1] at H;have aK := am H;clear H;go_upto_region 4 with (fail)
   go_cut [17] (fun aM wc => ∃ (kq : Nat) (aQ : Bool), aM = .bool aQ ∧ q0d (q0z.j2 kq a0 aC aQ = some (r1, r2)) ∧ q0d (kq ≤ aJ) ∧ q1N w wc)
   case first =>
    have H := aK.out;clear aK;by_cases c9 : aC = (a0.size : Int)
    ·rw [if_pos c9] at H;have c9b0 := eT c9;have c9b1 := eF c9;clear c9;(first | rw [c9b0] | (simp only [q2t, q2B]; rw [c9b0]) | skip);have H' := am H;clear H;go_wp2
     go_meet
     case rel => exact ⟨_, (true), X7, H', ⟨by have := aI.out; first | omega | exact Nat.le_refl _⟩, X18⟩
    ·rw [if_neg c9] at H;have c9b0 := nF c9;have c9b1 := nT c9;(first | rw [c9b0] | (simp only [q2t, q2B]; rw [c9b0]) | skip);by_cases c10 : 0 ≤ aC
     ·rw [if_pos c10] at H;have c10b0 := dT c10;clear c10;by_cases aT : aC < (a0.size : Int)
      ·rw [if_pos aT] at H;have c11b0 := dT aT;clear aT;have H' := am H;clear H;have aU : 0 ≤ (aC : Int) := of_decide_eq_true X12;have aW : aC < (a0.size : Int) := of_decide_eq_true X12;have aX := q2b a0 aC;replace aU := eq_true aU;replace aW := eq_true aW;go_wp2
       go_meet
       case rel => exact ⟨_, (((bt a0 aC) != 34)), X7, H', ⟨by have := aI.out; first | omega | exact Nat.le_refl _⟩, X18⟩
      ·exact iN aT H
     ·exact iN c10 H
   case rest =>
    clear aK;(try clear c1);(try clear p1);(try clear q1);(try clear hx1);(try clear p2 p2);(try clear c3);(try clear c3b0);(try clear c4);(try clear c4b0);(try clear p5 p5);(try clear q5 q5);(try clear aH);(try clear p6 p6);(try clear c7);(try clear c9);(try clear c9b0);(try clear c9b1);(try clear c10);(try clear c10b0);(try clear aT);(try clear c11b0);(try clear aU aU);(try clear aW aW);(try clear aX);obtain ⟨kq, aQ, rfl, HA, HJ7, ⟨mc7, rfl⟩⟩ := hcut;cases kq with
    | zero => exact absurd HA.out (by simp [q0z.j2])
    | succ kj7 =>
     have H := HA.out;clear HA;simp only [q0z.j2] at H;by_cases aY : aQ = true
     ·subst aY;replace H := tP H;simp only [Option.some.injEq, Prod.mk.injEq] at H;obtain ⟨rfl, rfl⟩ := H;go_wp2
      go_ret2
      exact ⟨X7, X18⟩
     ·replace aY := Bool.eq_false_iff.mpr aY;subst aY;replace H := tN H;by_cases aZ : (wrap64 (aC - 1)) > 60
      ·rw [if_pos aZ] at H;have c14b0 : decide (60 < (wrap64 (aC - 1))) = true := decide_eq_true aZ;clear aZ;simp only [Option.some.injEq, Prod.mk.injEq] at H;obtain ⟨rfl, rfl⟩ := H;go_wp2
       go_ret2
       exact ⟨X7, X18⟩
      ·rw [if_neg aZ] at H;have c14b0 : decide (60 < (wrap64 (aC - 1))) = false := decide_eq_false aZ;clear aZ;by_cases bA : 1 ≤ aC
       ·rw [if_pos bA] at H;have c15b0 := eq_true bA;have c15b1 := dT bA;clear bA;by_cases bB : aC ≤ (a0.size : Int)
        ·rw [if_pos bB] at H;have c16b0 := eq_true bB;have c16b1 := dT bB;clear bB;simp only [Option.some.injEq, Prod.mk.injEq] at H;obtain ⟨rfl, rfl⟩ := H;go_wp2
         go_ret2
         exact ⟨X7, X18⟩
        ·exact iN bB H
       ·exact iN bA H



def q1K.f (a0 : ByteArray) (a1 : Int) : Option (Int) := some (Lib.indexByte a0.data.toList a1.toNat.toUInt8)
theorem q1K.calls (a0 : ByteArray) (a1 : Int) (r : Int) (w : World) (h : q1K.f a0 a1 = some r) :
  Calls Tryd.prog 114 #[.string a0, .int .u8 a1] w fun e w' => e = .returned (.int .i64 r) ∧ q1N w w' := by
 refine (Tryd.strings_IndexByte a0 a1 w).mono ?_;rintro e w' ⟨rfl, rfl⟩;obtain rfl := Option.some.inj h;exact ⟨rfl, q1N.refl _⟩


def q1y.f (k : Nat) (a0 : ByteArray) : Option (Int × ByteArray × Int × Int × Int) := if 0 < (a0.size : Int) then ((q1D.f (bt a0 0)).bind fun aA => (if aA = true then ((q0C.f k a0).bind fun aC => (if aC > 20 then (some (0, (⟨#[]⟩ : ByteArray), 0, 0, 3)) else (if 0 ≤ aC then (if aC ≤ (a0.size : Int) then (some (1, a0.extract 0 (aC : Int).toNat, 0, aC, 0)) else (none)) else (none)))) else ((q1E.f (bt a0 0)).bind fun aD => (if aD = true then ((q0Y.f k a0).bind fun aE => (if aE > 6 then (some (0, (⟨#[]⟩ : ByteArray), 0, 0, 3)) else (if 0 ≤ aE then (if aE ≤ (a0.size : Int) then ((q0G.f k (a0.extract 0 (aE : Int).toNat)).bind fun aG => (if aG.2 = true then (some (2, a0.extract 0 (aE : Int).toNat, 0, aE, 0)) else (some (0, (⟨#[]⟩ : ByteArray), 0, 0, 2)))) else (none)) else (none)))) else (if (bt a0 0) = 34 then ((q0z.f k a0).bind fun aH => (some (3, aH.1, 0, wrap64 ((aH.1.size : Int) + 2), aH.2))) else ((q1K.f (⟨#[123, 125, 40, 41, 91, 93, 47, 59, 58, 126, 64, 61, 94, 44, 46, 124, 43, 42, 60, 62, 45]⟩ : ByteArray) (bt a0 0)).bind fun aI => (if aI ≥ 0 then (if 0 ≤ 1 then (if 1 ≤ (a0.size : Int) then (some (4, a0.extract 0 1, 0, 1, 0)) else (none)) else (none)) else (some (0, (⟨#[]⟩ : ByteArray), 0, 0, 2))))))))) else (none)
theorem q1y.mono : ∀ a0 k, LeO (q1y.f k a0) (q1y.f (k + 1) a0) := by
 intro a0 k;unfold q1y.f;exact (by repeat' first | (with_reducible exact q0G.mono _ _) | (with_reducible exact q0Y.mono _ _) | (with_reducible exact q0C.mono _ _) | (with_reducible exact q0z.mono _ _) | (with_reducible exact LeO.refl _) | (with_reducible exact LeO.none _) | (with_reducible refine LeO.ite ?_ ?_) | (with_reducible refine LeO.bind ?_ (fun _ => ?_)) | exact q0G.mono _ _ | exact q0Y.mono _ _ | exact q0C.mono _ _ | exact q0z.mono _ _ | exact LeO.none _ | refine LeO.ite ?_ ?_ | refine LeO.bind ?_ (fun _ => ?_))
theorem q1y.calls (k : Nat) (a0 : ByteArray) (r1 : Int) (r2 : ByteArray) (r3 : Int) (r4 : Int) (r5 : Int) (w : World) (h : q1y.f k a0 = some (r1, r2, r3, r4, r5)) :
  Calls Tryd.prog 79 #[.string a0] w fun e w' => e = .returned (.tuple #[.agg #[.int .i64 r1, .string r2, .int .i64 r3], .int .i64 r4, .int .i64 r5]) ∧ Below w.heap.size w w' := by
 have hu36 := Tryd.underlying36;have HB := am (Below.refl w.heap.size w);have H := h;clear h;unfold q1y.f at H;by_cases c2 : 0 < (a0.size : Int)
 ·rw [if_pos c2] at H;have c2b0 := dT c2;have c2b1 : decide (0 < a0.size) = true := decide_eq_true (by omega);clear c2;obtain ⟨aA, aC, H⟩ := oB H;(try dsimp only at H);have A4 := am aC;clear aC;by_cases c5 : aA = true
  ·subst c5;replace H := tP H;obtain ⟨aD, aE, H⟩ := oB H;(try dsimp only at H);have A6 := am aE;clear aE;by_cases c7 : aD > 20
   ·rw [if_pos c7] at H;have c7b0 : decide (20 < aD) = true := decide_eq_true c7;clear c7;simp only [Option.some.injEq, Prod.mk.injEq] at H;obtain ⟨rfl, rfl, rfl, rfl, rfl⟩ := H;go_enter Tryd.func79, Tryd.ntmps79;go_wp2_with (first | ((with_reducible refine gd 2 ?_); refine be 2 #[.int .i64 0, .string ⟨#[]⟩, .int .i64 0] 36 ?_; intro aG hg w8 hbox hb; have aH := am (hbox); have aI := sG (w := w) hg X6; have aJ := sG (w := w) hg X6; replace HB := bS X6 hb; clear hb hbox hg; have p3 : 0 ≤ (0 : Int) := (by omega); have q3 : 0 < a0.size := (by have : (0 : Int) < (a0.size : Int) := of_decide_eq_true X12; omega); have aK : ∀ h : 0 < a0.size, ((a0[0]'h).toNat : Int) = bt a0 0 := q2b a0 0; clear p3; have aM : (0 < (a0.size : Int)) = True := eq_true (of_decide_eq_true X12); replace q3 := eq_true q3) | ((with_reducible refine gc 109 ?_); refine gL (some 16) Tryd.func109 #[.int .u8 (bt a0 0)] ?_; (with_reducible refine (q1D.calls (bt a0 0) true _ A4.out).mono ?_); rintro e w' ⟨rfl, ⟨nd, rfl⟩⟩; refine ⟨_, rfl, ?_⟩; (try (rw [q1k w8]; generalize hq_ : World.drewN w8 _ = w8; replace aH : q0d (w8.heap[aG]? = some (.cells #[.int .i64 0, .string ⟨#[]⟩, .int .i64 0] 36 (0, 0))) := ⟨X130⟩; replace HB : q0d (Below w.heap.size w w8) := ⟨X131⟩; clear hq_))) | ((with_reducible refine gc 101 ?_); refine gL (some 18) Tryd.func101 #[.string a0] ?_; (with_reducible refine (q0C.calls k a0 aD _ A6.out).mono ?_); rintro e w' ⟨rfl, ⟨nd, rfl⟩⟩; refine ⟨_, rfl, ?_⟩; (try (rw [q1k w8]; generalize hq_ : World.drewN w8 _ = w8; replace aH : q0d (w8.heap[aG]? = some (.cells #[.int .i64 0, .string ⟨#[]⟩, .int .i64 0] 36 (0, 0))) := ⟨X130⟩; replace HB : q0d (Below w.heap.size w w8) := ⟨X131⟩; clear hq_)); have Z9 := bc3 aH))
    refine bodyPost_ret (q1x rfl _ _ aG 36 #[.int .i64 0, .string ⟨#[]⟩, .int .i64 0] (0, 0) _ rfl (bq0 aH) Tryd.underlying36 rfl X4) rfl ?_;exact ⟨X11, X132⟩
   ·rw [if_neg c7] at H;have c7b0 : decide (20 < aD) = false := decide_eq_false c7;clear c7;by_cases c10 : 0 ≤ aD
    ·rw [if_pos c10] at H;have c10b0 := eq_true c10;have c10b1 := dT c10;clear c10;by_cases aQ : aD ≤ (a0.size : Int)
     ·rw [if_pos aQ] at H;have c11b0 := eq_true aQ;have c11b1 := dT aQ;clear aQ;simp only [Option.some.injEq, Prod.mk.injEq] at H;obtain ⟨rfl, rfl, rfl, rfl, rfl⟩ := H;go_enter Tryd.func79, Tryd.ntmps79;go_wp2_with (first | ((with_reducible refine gd 2 ?_); refine be 2 #[.int .i64 0, .string ⟨#[]⟩, .int .i64 0] 36 ?_; intro aG hg aT hbox hb; have aH := am (hbox); have aI := sG (w := w) hg X6; have aJ := sG (w := w) hg X6; replace HB := bS X6 hb; clear hb hbox hg; have p3 : 0 ≤ (0 : Int) := (by omega); have q3 : 0 < a0.size := (by have : (0 : Int) < (a0.size : Int) := of_decide_eq_true X12; omega); have aK : ∀ h : 0 < a0.size, ((a0[0]'h).toNat : Int) = bt a0 0 := q2b a0 0; clear p3; have aM : (0 < (a0.size : Int)) = True := eq_true (of_decide_eq_true X12); replace q3 := eq_true q3) | ((with_reducible refine gc 109 ?_); refine gL (some 16) Tryd.func109 #[.int .u8 (bt a0 0)] ?_; (with_reducible refine (q1D.calls (bt a0 0) true _ A4.out).mono ?_); rintro e w' ⟨rfl, ⟨nd, rfl⟩⟩; refine ⟨_, rfl, ?_⟩; (try (rw [q1k aT]; generalize hq_ : World.drewN aT _ = aT; replace aH : q0d (aT.heap[aG]? = some (.cells #[.int .i64 0, .string ⟨#[]⟩, .int .i64 0] 36 (0, 0))) := ⟨X130⟩; replace HB : q0d (Below w.heap.size w aT) := ⟨X131⟩; clear hq_))) | ((with_reducible refine gc 101 ?_); refine gL (some 18) Tryd.func101 #[.string a0] ?_; (with_reducible refine (q0C.calls k a0 aD _ A6.out).mono ?_); rintro e w' ⟨rfl, ⟨nd, rfl⟩⟩; refine ⟨_, rfl, ?_⟩; (try (rw [q1k aT]; generalize hq_ : World.drewN aT _ = aT; replace aH : q0d (aT.heap[aG]? = some (.cells #[.int .i64 0, .string ⟨#[]⟩, .int .i64 0] 36 (0, 0))) := ⟨X130⟩; replace HB : q0d (Below w.heap.size w aT) := ⟨X131⟩; clear hq_)); have Z13 := bc3 aH))
      refine bodyPost_ret (q1x rfl _ _ aG 36 #[.int .i64 1, .string (a0.extract 0 (aD : Int).toNat), .int .i64 0] (0, 0) _ rfl (bq0 aH) Tryd.underlying36 rfl X4) rfl ?_;exact ⟨X11, X132⟩
     ·exact iN aQ H
    ·exact iN c10 H
  ·replace c5 := Bool.eq_false_iff.mpr c5;subst c5;replace H := tN H;obtain ⟨aU, aW, H⟩ := oB H;(try dsimp only at H);have aX := am aW;clear aW;by_cases aY : aU = true
   ·subst aY;replace H := tP H;obtain ⟨aZ, bA, H⟩ := oB H;(try dsimp only at H);have bB := am bA;clear bA;by_cases bC : aZ > 6
    ·rw [if_pos bC] at H;have c17b0 : decide (6 < aZ) = true := decide_eq_true bC;clear bC;simp only [Option.some.injEq, Prod.mk.injEq] at H;obtain ⟨rfl, rfl, rfl, rfl, rfl⟩ := H;go_enter Tryd.func79, Tryd.ntmps79;go_wp2_with (first | ((with_reducible refine gd 2 ?_); refine be 2 #[.int .i64 0, .string ⟨#[]⟩, .int .i64 0] 36 ?_; intro aG hg bD hbox hb; have aH := am (hbox); have aI := sG (w := w) hg X6; have aJ := sG (w := w) hg X6; replace HB := bS X6 hb; clear hb hbox hg; have p3 : 0 ≤ (0 : Int) := (by omega); have q3 : 0 < a0.size := (by have : (0 : Int) < (a0.size : Int) := of_decide_eq_true X12; omega); have aK : ∀ h : 0 < a0.size, ((a0[0]'h).toNat : Int) = bt a0 0 := q2b a0 0; clear p3; have aM : (0 < (a0.size : Int)) = True := eq_true (of_decide_eq_true X12); replace q3 := eq_true q3) | ((with_reducible refine gc 109 ?_); refine gL (some 16) Tryd.func109 #[.int .u8 (bt a0 0)] ?_; (with_reducible refine (q1D.calls (bt a0 0) false _ A4.out).mono ?_); rintro e w' ⟨rfl, ⟨nd, rfl⟩⟩; refine ⟨_, rfl, ?_⟩; (try (rw [q1k bD]; generalize hq_ : World.drewN bD _ = bD; replace aH : q0d (bD.heap[aG]? = some (.cells #[.int .i64 0, .string ⟨#[]⟩, .int .i64 0] 36 (0, 0))) := ⟨X130⟩; replace HB : q0d (Below w.heap.size w bD) := ⟨X131⟩; clear hq_))) | ((with_reducible refine gc 110 ?_); refine gL (some 29) Tryd.func110 #[.int .u8 (bt a0 0)] ?_; (with_reducible refine (q1E.calls (bt a0 0) true _ aX.out).mono ?_); rintro e w' ⟨rfl, ⟨nd, rfl⟩⟩; refine ⟨_, rfl, ?_⟩; (try (rw [q1k bD]; generalize hq_ : World.drewN bD _ = bD; replace aH : q0d (bD.heap[aG]? = some (.cells #[.int .i64 0, .string ⟨#[]⟩, .int .i64 0] 36 (0, 0))) := ⟨X130⟩; replace HB : q0d (Below w.heap.size w bD) := ⟨X131⟩; clear hq_))) | ((with_reducible refine gc 111 ?_); refine gL (some 31) Tryd.func111 #[.string a0] ?_; (with_reducible refine (q0Y.calls k a0 aZ _ bB.out).mono ?_); rintro e w' ⟨rfl, ⟨nd, rfl⟩⟩; refine ⟨_, rfl, ?_⟩; (try (rw [q1k bD]; generalize hq_ : World.drewN bD _ = bD; replace aH : q0d (bD.heap[aG]? = some (.cells #[.int .i64 0, .string ⟨#[]⟩, .int .i64 0] 36 (0, 0))) := ⟨X130⟩; replace HB : q0d (Below w.heap.size w bD) := ⟨X131⟩; clear hq_)); have Z19 := bc3 aH))
     refine bodyPost_ret (q1x rfl _ _ aG 36 #[.int .i64 0, .string ⟨#[]⟩, .int .i64 0] (0, 0) _ rfl (bq0 aH) Tryd.underlying36 rfl X4) rfl ?_;exact ⟨X11, X132⟩
    ·rw [if_neg bC] at H;have c17b0 : decide (6 < aZ) = false := decide_eq_false bC;clear bC;by_cases bE : 0 ≤ aZ
     ·rw [if_pos bE] at H;have c20b0 := eq_true bE;have c20b1 := dT bE;clear bE;by_cases bF : aZ ≤ (a0.size : Int)
      ·rw [if_pos bF] at H;have c21b0 := eq_true bF;have c21b1 := dT bF;clear bF;obtain ⟨⟨bG, bH⟩, bI, H⟩ := oB H;(try dsimp only at H);have bJ := am bI;clear bI;by_cases bK : bH = true
       ·subst bK;replace H := tP H;have c24b0 := eq_true (of_decide_eq_true X12 : 0 ≤ aZ);have c25b0 := eq_true (of_decide_eq_true X12 : aZ ≤ (a0.size : Int));simp only [Option.some.injEq, Prod.mk.injEq] at H;obtain ⟨rfl, rfl, rfl, rfl, rfl⟩ := H;go_enter Tryd.func79, Tryd.ntmps79;go_wp2_with (first | ((with_reducible refine gd 2 ?_); refine be 2 #[.int .i64 0, .string ⟨#[]⟩, .int .i64 0] 36 ?_; intro aG hg bL hbox hb; have aH := am (hbox); have aI := sG (w := w) hg X6; have aJ := sG (w := w) hg X6; replace HB := bS X6 hb; clear hb hbox hg; have p3 : 0 ≤ (0 : Int) := (by omega); have q3 : 0 < a0.size := (by have : (0 : Int) < (a0.size : Int) := of_decide_eq_true X12; omega); have aK : ∀ h : 0 < a0.size, ((a0[0]'h).toNat : Int) = bt a0 0 := q2b a0 0; clear p3; have aM : (0 < (a0.size : Int)) = True := eq_true (of_decide_eq_true X12); replace q3 := eq_true q3) | ((with_reducible refine gc 109 ?_); refine gL (some 16) Tryd.func109 #[.int .u8 (bt a0 0)] ?_; (with_reducible refine (q1D.calls (bt a0 0) false _ A4.out).mono ?_); rintro e w' ⟨rfl, ⟨nd, rfl⟩⟩; refine ⟨_, rfl, ?_⟩; (try (rw [q1k bL]; generalize hq_ : World.drewN bL _ = bL; replace aH : q0d (bL.heap[aG]? = some (.cells #[.int .i64 0, .string ⟨#[]⟩, .int .i64 0] 36 (0, 0))) := ⟨X130⟩; replace HB : q0d (Below w.heap.size w bL) := ⟨X131⟩; clear hq_))) | ((with_reducible refine gc 110 ?_); refine gL (some 29) Tryd.func110 #[.int .u8 (bt a0 0)] ?_; (with_reducible refine (q1E.calls (bt a0 0) true _ aX.out).mono ?_); rintro e w' ⟨rfl, ⟨nd, rfl⟩⟩; refine ⟨_, rfl, ?_⟩; (try (rw [q1k bL]; generalize hq_ : World.drewN bL _ = bL; replace aH : q0d (bL.heap[aG]? = some (.cells #[.int .i64 0, .string ⟨#[]⟩, .int .i64 0] 36 (0, 0))) := ⟨X130⟩; replace HB : q0d (Below w.heap.size w bL) := ⟨X131⟩; clear hq_))) | ((with_reducible refine gc 111 ?_); refine gL (some 31) Tryd.func111 #[.string a0] ?_; (with_reducible refine (q0Y.calls k a0 aZ _ bB.out).mono ?_); rintro e w' ⟨rfl, ⟨nd, rfl⟩⟩; refine ⟨_, rfl, ?_⟩; (try (rw [q1k bL]; generalize hq_ : World.drewN bL _ = bL; replace aH : q0d (bL.heap[aG]? = some (.cells #[.int .i64 0, .string ⟨#[]⟩, .int .i64 0] 36 (0, 0))) := ⟨X130⟩; replace HB : q0d (Below w.heap.size w bL) := ⟨X131⟩; clear hq_))) | ((with_reducible refine gc 112 ?_); refine gL (some 39) Tryd.func112 #[.string (a0.extract 0 (aZ : Int).toNat)] ?_; (with_reducible refine (q0G.calls k (a0.extract 0 (aZ : Int).toNat) bG true _ bJ.out).mono ?_); rintro e w27 ⟨rfl, hb⟩; refine ⟨_, rfl, ?_⟩; replace aH := kB aH hb; replace HB := bS X132 hb; clear hb; have Z28 := bc3 aH))
        refine bodyPost_ret (q1x rfl _ _ aG 36 #[.int .i64 2, .string (a0.extract 0 (aZ : Int).toNat), .int .i64 0] (0, 0) _ rfl (bq0 aH) Tryd.underlying36 rfl X4) rfl ?_;exact ⟨X11, X132⟩
       ·replace bK := Bool.eq_false_iff.mpr bK;subst bK;replace H := tN H;simp only [Option.some.injEq, Prod.mk.injEq] at H;obtain ⟨rfl, rfl, rfl, rfl, rfl⟩ := H;go_enter Tryd.func79, Tryd.ntmps79;go_wp2_with (first | ((with_reducible refine gd 2 ?_); refine be 2 #[.int .i64 0, .string ⟨#[]⟩, .int .i64 0] 36 ?_; intro aG hg bM hbox hb; have aH := am (hbox); have aI := sG (w := w) hg X6; have aJ := sG (w := w) hg X6; replace HB := bS X6 hb; clear hb hbox hg; have p3 : 0 ≤ (0 : Int) := (by omega); have q3 : 0 < a0.size := (by have : (0 : Int) < (a0.size : Int) := of_decide_eq_true X12; omega); have aK : ∀ h : 0 < a0.size, ((a0[0]'h).toNat : Int) = bt a0 0 := q2b a0 0; clear p3; have aM : (0 < (a0.size : Int)) = True := eq_true (of_decide_eq_true X12); replace q3 := eq_true q3) | ((with_reducible refine gc 109 ?_); refine gL (some 16) Tryd.func109 #[.int .u8 (bt a0 0)] ?_; (with_reducible refine (q1D.calls (bt a0 0) false _ A4.out).mono ?_); rintro e w' ⟨rfl, ⟨nd, rfl⟩⟩; refine ⟨_, rfl, ?_⟩; (try (rw [q1k bM]; generalize hq_ : World.drewN bM _ = bM; replace aH : q0d (bM.heap[aG]? = some (.cells #[.int .i64 0, .string ⟨#[]⟩, .int .i64 0] 36 (0, 0))) := ⟨X130⟩; replace HB : q0d (Below w.heap.size w bM) := ⟨X131⟩; clear hq_))) | ((with_reducible refine gc 110 ?_); refine gL (some 29) Tryd.func110 #[.int .u8 (bt a0 0)] ?_; (with_reducible refine (q1E.calls (bt a0 0) true _ aX.out).mono ?_); rintro e w' ⟨rfl, ⟨nd, rfl⟩⟩; refine ⟨_, rfl, ?_⟩; (try (rw [q1k bM]; generalize hq_ : World.drewN bM _ = bM; replace aH : q0d (bM.heap[aG]? = some (.cells #[.int .i64 0, .string ⟨#[]⟩, .int .i64 0] 36 (0, 0))) := ⟨X130⟩; replace HB : q0d (Below w.heap.size w bM) := ⟨X131⟩; clear hq_))) | ((with_reducible refine gc 111 ?_); refine gL (some 31) Tryd.func111 #[.string a0] ?_; (with_reducible refine (q0Y.calls k a0 aZ _ bB.out).mono ?_); rintro e w' ⟨rfl, ⟨nd, rfl⟩⟩; refine ⟨_, rfl, ?_⟩; (try (rw [q1k bM]; generalize hq_ : World.drewN bM _ = bM; replace aH : q0d (bM.heap[aG]? = some (.cells #[.int .i64 0, .string ⟨#[]⟩, .int .i64 0] 36 (0, 0))) := ⟨X130⟩; replace HB : q0d (Below w.heap.size w bM) := ⟨X131⟩; clear hq_))) | ((with_reducible refine gc 112 ?_); refine gL (some 39) Tryd.func112 #[.string (a0.extract 0 (aZ : Int).toNat)] ?_; (with_reducible refine (q0G.calls k (a0.extract 0 (aZ : Int).toNat) bG false _ bJ.out).mono ?_); rintro e w30 ⟨rfl, hb⟩; refine ⟨_, rfl, ?_⟩; replace aH := kB aH hb; replace HB := bS X132 hb; clear hb; have Z31 := bc3 aH))
        refine bodyPost_ret (q1x rfl _ _ aG 36 #[.int .i64 0, .string ⟨#[]⟩, .int .i64 0] (0, 0) _ rfl (bq0 aH) Tryd.underlying36 rfl X4) rfl ?_;exact ⟨X11, X132⟩
      ·exact iN bF H
     ·exact iN bE H
   ·replace aY := Bool.eq_false_iff.mpr aY;subst aY;replace H := tN H;by_cases bN : (bt a0 0) = 34
    ·rw [if_pos bN] at H;have c32b0 := eT bN;have c32b1 := eF bN;clear bN;obtain ⟨⟨bO, bP⟩, bQ, H⟩ := oB H;(try dsimp only at H);have bR := am bQ;clear bQ;simp only [Option.some.injEq, Prod.mk.injEq] at H;obtain ⟨rfl, rfl, rfl, rfl, rfl⟩ := H;go_enter Tryd.func79, Tryd.ntmps79;go_wp2_with (first | ((with_reducible refine gd 2 ?_); refine be 2 #[.int .i64 0, .string ⟨#[]⟩, .int .i64 0] 36 ?_; intro aG hg bT hbox hb; have aH := am (hbox); have aI := sG (w := w) hg X6; have aJ := sG (w := w) hg X6; replace HB := bS X6 hb; clear hb hbox hg; have p3 : 0 ≤ (0 : Int) := (by omega); have q3 : 0 < a0.size := (by have : (0 : Int) < (a0.size : Int) := of_decide_eq_true X12; omega); have aK : ∀ h : 0 < a0.size, ((a0[0]'h).toNat : Int) = bt a0 0 := q2b a0 0; clear p3; have aM : (0 < (a0.size : Int)) = True := eq_true (of_decide_eq_true X12); replace q3 := eq_true q3) | ((with_reducible refine gc 109 ?_); refine gL (some 16) Tryd.func109 #[.int .u8 (bt a0 0)] ?_; (with_reducible refine (q1D.calls (bt a0 0) false _ A4.out).mono ?_); rintro e w' ⟨rfl, ⟨nd, rfl⟩⟩; refine ⟨_, rfl, ?_⟩; (try (rw [q1k bT]; generalize hq_ : World.drewN bT _ = bT; replace aH : q0d (bT.heap[aG]? = some (.cells #[.int .i64 0, .string ⟨#[]⟩, .int .i64 0] 36 (0, 0))) := ⟨X130⟩; replace HB : q0d (Below w.heap.size w bT) := ⟨X131⟩; clear hq_))) | ((with_reducible refine gc 110 ?_); refine gL (some 29) Tryd.func110 #[.int .u8 (bt a0 0)] ?_; (with_reducible refine (q1E.calls (bt a0 0) false _ aX.out).mono ?_); rintro e w' ⟨rfl, ⟨nd, rfl⟩⟩; refine ⟨_, rfl, ?_⟩; (try (rw [q1k bT]; generalize hq_ : World.drewN bT _ = bT; replace aH : q0d (bT.heap[aG]? = some (.cells #[.int .i64 0, .string ⟨#[]⟩, .int .i64 0] 36 (0, 0))) := ⟨X130⟩; replace HB : q0d (Below w.heap.size w bT) := ⟨X131⟩; clear hq_))) | ((with_reducible refine gc 113 ?_); refine gL (some 55) Tryd.func113 #[.string a0] ?_; (with_reducible refine (q0z.calls k a0 bO bP _ bR.out).mono ?_); rintro e w' ⟨rfl, ⟨nd, rfl⟩⟩; refine ⟨_, rfl, ?_⟩; (try (rw [q1k bT]; generalize hq_ : World.drewN bT _ = bT; replace aH : q0d (bT.heap[aG]? = some (.cells #[.int .i64 0, .string ⟨#[]⟩, .int .i64 0] 36 (0, 0))) := ⟨X130⟩; replace HB : q0d (Below w.heap.size w bT) := ⟨X131⟩; clear hq_)); have Z35 := bc3 aH))
     refine bodyPost_ret (q1x rfl _ _ aG 36 #[.int .i64 3, .string bO, .int .i64 0] (0, 0) _ rfl (bq0 aH) Tryd.underlying36 rfl X4) rfl ?_;exact ⟨X11, X132⟩
    ·rw [if_neg bN] at H;have c32b0 := nF bN;have c32b1 := nT bN;obtain ⟨bU, bV, H⟩ := oB H;(try dsimp only at H);have bW := am bV;clear bV;by_cases bX : bU ≥ 0
     ·rw [if_pos bX] at H;have c37b0 : decide (0 ≤ bU) = true := decide_eq_true bX;clear bX;by_cases bY : 0 ≤ 1
      ·rw [if_pos bY] at H;have c38b0 := eq_true bY;have c38b1 := dT bY;clear bY;by_cases bZ : 1 ≤ (a0.size : Int)
       ·rw [if_pos bZ] at H;have c39b0 := eq_true bZ;have c39b1 := dT bZ;clear bZ;simp only [Option.some.injEq, Prod.mk.injEq] at H;obtain ⟨rfl, rfl, rfl, rfl, rfl⟩ := H;go_enter Tryd.func79, Tryd.ntmps79;go_wp2_with (first | ((with_reducible refine gd 2 ?_); refine be 2 #[.int .i64 0, .string ⟨#[]⟩, .int .i64 0] 36 ?_; intro aG hg cA hbox hb; have aH := am (hbox); have aI := sG (w := w) hg X6; have aJ := sG (w := w) hg X6; replace HB := bS X6 hb; clear hb hbox hg; have p3 : 0 ≤ (0 : Int) := (by omega); have q3 : 0 < a0.size := (by have : (0 : Int) < (a0.size : Int) := of_decide_eq_true X12; omega); have aK : ∀ h : 0 < a0.size, ((a0[0]'h).toNat : Int) = bt a0 0 := q2b a0 0; clear p3; have aM : (0 < (a0.size : Int)) = True := eq_true (of_decide_eq_true X12); replace q3 := eq_true q3) | ((with_reducible refine gc 109 ?_); refine gL (some 16) Tryd.func109 #[.int .u8 (bt a0 0)] ?_; (with_reducible refine (q1D.calls (bt a0 0) false _ A4.out).mono ?_); rintro e w' ⟨rfl, ⟨nd, rfl⟩⟩; refine ⟨_, rfl, ?_⟩; (try (rw [q1k cA]; generalize hq_ : World.drewN cA _ = cA; replace aH : q0d (cA.heap[aG]? = some (.cells #[.int .i64 0, .string ⟨#[]⟩, .int .i64 0] 36 (0, 0))) := ⟨X130⟩; replace HB : q0d (Below w.heap.size w cA) := ⟨X131⟩; clear hq_))) | ((with_reducible refine gc 110 ?_); refine gL (some 29) Tryd.func110 #[.int .u8 (bt a0 0)] ?_; (with_reducible refine (q1E.calls (bt a0 0) false _ aX.out).mono ?_); rintro e w' ⟨rfl, ⟨nd, rfl⟩⟩; refine ⟨_, rfl, ?_⟩; (try (rw [q1k cA]; generalize hq_ : World.drewN cA _ = cA; replace aH : q0d (cA.heap[aG]? = some (.cells #[.int .i64 0, .string ⟨#[]⟩, .int .i64 0] 36 (0, 0))) := ⟨X130⟩; replace HB : q0d (Below w.heap.size w cA) := ⟨X131⟩; clear hq_))) | ((with_reducible refine gc 114 ?_); refine gL (some 66) Tryd.func114 #[.string ⟨#[123, 125, 40, 41, 91, 93, 47, 59, 58, 126, 64, 61, 94, 44, 46, 124, 43, 42, 60, 62, 45]⟩, .int .u8 (bt a0 0)] ?_; (with_reducible refine (q1K.calls (⟨#[123, 125, 40, 41, 91, 93, 47, 59, 58, 126, 64, 61, 94, 44, 46, 124, 43, 42, 60, 62, 45]⟩ : ByteArray) (bt a0 0) bU _ bW.out).mono ?_); rintro e w' ⟨rfl, ⟨nd, rfl⟩⟩; refine ⟨_, rfl, ?_⟩; (try (rw [q1k cA]; generalize hq_ : World.drewN cA _ = cA; replace aH : q0d (cA.heap[aG]? = some (.cells #[.int .i64 0, .string ⟨#[]⟩, .int .i64 0] 36 (0, 0))) := ⟨X130⟩; replace HB : q0d (Below w.heap.size w cA) := ⟨X131⟩; clear hq_)); have Z41 := bc3 aH))
        refine bodyPost_ret (q1x rfl _ _ aG 36 #[.int .i64 4, .string (a0.extract 0 1), .int .i64 0] (0, 0) _ rfl (bq0 aH) Tryd.underlying36 rfl X4) rfl ?_;exact ⟨X11, X132⟩
       ·exact iN bZ H
      ·exact iN bY H
     ·rw [if_neg bX] at H;have c37b0 : decide (0 ≤ bU) = false := decide_eq_false bX;clear bX;simp only [Option.some.injEq, Prod.mk.injEq] at H;obtain ⟨rfl, rfl, rfl, rfl, rfl⟩ := H;go_enter Tryd.func79, Tryd.ntmps79;go_wp2_with (first | ((with_reducible refine gd 2 ?_); refine be 2 #[.int .i64 0, .string ⟨#[]⟩, .int .i64 0] 36 ?_; intro aG hg cC hbox hb; have aH := am (hbox); have aI := sG (w := w) hg X6; have aJ := sG (w := w) hg X6; replace HB := bS X6 hb; clear hb hbox hg; have p3 : 0 ≤ (0 : Int) := (by omega); have q3 : 0 < a0.size := (by have : (0 : Int) < (a0.size : Int) := of_decide_eq_true X12; omega); have aK : ∀ h : 0 < a0.size, ((a0[0]'h).toNat : Int) = bt a0 0 := q2b a0 0; clear p3; have aM : (0 < (a0.size : Int)) = True := eq_true (of_decide_eq_true X12); replace q3 := eq_true q3) | ((with_reducible refine gc 109 ?_); refine gL (some 16) Tryd.func109 #[.int .u8 (bt a0 0)] ?_; (with_reducible refine (q1D.calls (bt a0 0) false _ A4.out).mono ?_); rintro e w' ⟨rfl, ⟨nd, rfl⟩⟩; refine ⟨_, rfl, ?_⟩; (try (rw [q1k cC]; generalize hq_ : World.drewN cC _ = cC; replace aH : q0d (cC.heap[aG]? = some (.cells #[.int .i64 0, .string ⟨#[]⟩, .int .i64 0] 36 (0, 0))) := ⟨X130⟩; replace HB : q0d (Below w.heap.size w cC) := ⟨X131⟩; clear hq_))) | ((with_reducible refine gc 110 ?_); refine gL (some 29) Tryd.func110 #[.int .u8 (bt a0 0)] ?_; (with_reducible refine (q1E.calls (bt a0 0) false _ aX.out).mono ?_); rintro e w' ⟨rfl, ⟨nd, rfl⟩⟩; refine ⟨_, rfl, ?_⟩; (try (rw [q1k cC]; generalize hq_ : World.drewN cC _ = cC; replace aH : q0d (cC.heap[aG]? = some (.cells #[.int .i64 0, .string ⟨#[]⟩, .int .i64 0] 36 (0, 0))) := ⟨X130⟩; replace HB : q0d (Below w.heap.size w cC) := ⟨X131⟩; clear hq_))) | ((with_reducible refine gc 114 ?_); refine gL (some 66) Tryd.func114 #[.string ⟨#[123, 125, 40, 41, 91, 93, 47, 59, 58, 126, 64, 61, 94, 44, 46, 124, 43, 42, 60, 62, 45]⟩, .int .u8 (bt a0 0)] ?_; (with_reducible refine (q1K.calls (⟨#[123, 125, 40, 41, 91, 93, 47, 59, 58, 126, 64, 61, 94, 44, 46, 124, 43, 42, 60, 62, 45]⟩ : ByteArray) (bt a0 0) bU _ bW.out).mono ?_); rintro e w' ⟨rfl, ⟨nd, rfl⟩⟩; refine ⟨_, rfl, ?_⟩; (try (rw [q1k cC]; generalize hq_ : World.drewN cC _ = cC; replace aH : q0d (cC.heap[aG]? = some (.cells #[.int .i64 0, .string ⟨#[]⟩, .int .i64 0] 36 (0, 0))) := ⟨X130⟩; replace HB : q0d (Below w.heap.size w cC) := ⟨X131⟩; clear hq_)); have Z43 := bc3 aH))
      refine bodyPost_ret (q1x rfl _ _ aG 36 #[.int .i64 0, .string ⟨#[]⟩, .int .i64 0] (0, 0) _ rfl (bq0 aH) Tryd.underlying36 rfl X4) rfl ?_;exact ⟨X11, X132⟩
 ·exact iN c2 H
mutual
def q0n.l0 : Nat → ByteArray → List (S36) → Int → Int → Option ((List (S36)) × Int × Int)
 | 0, _, _, _, _ => none
 | k + 1, x0, x5, x6, x7 => if x7 < (x0.size : Int) then (if 0 ≤ x7 then (if (bt x0 x7) = 10 then (q0n.l0 k x0 x5 (wrap64 (x6 + 1)) (wrap64 (x7 + 1))) else (if (bt x0 x7) = 32 then (q0n.j1 k x0 x5 x6 x7 (bt x0 x7) ((bt x0 x7) == 32)) else (if (bt x0 x7) = 9 then (q0n.j1 k x0 x5 x6 x7 (bt x0 x7) ((bt x0 x7) == 9)) else (q0n.j1 k x0 x5 x6 x7 (bt x0 x7) ((bt x0 x7) == 13))))) else (none)) else (some (x5, 0, 0))
def q0n.j1 : Nat → ByteArray → List (S36) → Int → Int → Int → Bool → Option ((List (S36)) × Int × Int)
 | 0, _, _, _, _, _, _ => none
 | k + 1, x0, x5, x6, x7, aA, aC => if aC = true then (q0n.l0 k x0 x5 x6 (wrap64 (x7 + 1))) else (if aA = 35 then (q0n.l1 k x0 x5 x6 x7) else (if 0 ≤ x7 then (if x7 ≤ (x0.size : Int) then ((q1y.f k (x0.extract (x7 : Int).toNat x0.size)).bind fun aD => (if aD.2.2.2.2 = 0 then (if x5.length < 4398046511104 then (q0n.l0 k x0 (x5 ++ [(⟨aD.1, aD.2.1, x6⟩ : S36)]) x6 (wrap64 (x7 + aD.2.2.2.1))) else (none)) else (some (([] : List (S36)), x6, aD.2.2.2.2)))) else (none)) else (none)))
def q0n.l1 : Nat → ByteArray → List (S36) → Int → Int → Option ((List (S36)) × Int × Int)
 | 0, _, _, _, _ => none
 | k + 1, x0, x5, x6, x7 => if x7 < (x0.size : Int) then (if 0 ≤ x7 then (if (bt x0 x7) = 10 then (q0n.l0 k x0 x5 x6 x7) else (q0n.l1 k x0 x5 x6 (wrap64 (x7 + 1)))) else (none)) else (q0n.l0 k x0 x5 x6 x7)
end
def q0n.f (k : Nat) (a0 : ByteArray) : Option ((List (S36)) × Int × Int) := if (a0.size : Int) > 20000 then (some (([] : List (S36)), 0, 3)) else (q0n.l0 k a0 ([] : List (S36)) 1 0)
theorem q0n.mono_l : ∀ k, (∀ y0 y1 y2 y3, LeO (q0n.l0 k y0 y1 y2 y3) (q0n.l0 (k + 1) y0 y1 y2 y3)) ∧ (∀ y0 y1 y2 y3 y4 y5, LeO (q0n.j1 k y0 y1 y2 y3 y4 y5) (q0n.j1 (k + 1) y0 y1 y2 y3 y4 y5)) ∧ (∀ y0 y1 y2 y3, LeO (q0n.l1 k y0 y1 y2 y3) (q0n.l1 (k + 1) y0 y1 y2 y3))
 | 0 => ⟨fun _ _ _ _ r h => by simp [q0n.l0] at h, fun _ _ _ _ _ _ r h => by simp [q0n.j1] at h, fun _ _ _ _ r h => by simp [q0n.l1] at h⟩
 | k + 1 => by
  obtain ⟨aA, aC, aD⟩ := q0n.mono_l k;refine ⟨?_, ?_, ?_⟩
  ·intro y0 y1 y2 y3;unfold q0n.l0;exact X133
  ·intro y0 y1 y2 y3 y4 y5;unfold q0n.j1;exact X133
  ·intro y0 y1 y2 y3;unfold q0n.l1;exact X133
theorem q0n.mono : ∀ a0 k, LeO (q0n.f k a0) (q0n.f (k + 1) a0) := by
 intro a0 k;obtain ⟨aA, aC, aD⟩ := q0n.mono_l k;unfold q0n.f;exact X133
theorem q0n.calls (k : Nat) (a0 : ByteArray) (r1 : List (S36)) (r2 : Int) (r3 : Int) (w : World) (h : q0n.f k a0 = some (r1, r2, r3)) :
  Calls Tryd.prog 33 #[.string a0] w fun e w' => ∃ aA : Value, e = .returned (.tuple #[aA, .int .i64 r2, .int .i64 r3]) ∧ Kd.R k36 36 w' w.heap.size (fun _ => True) aA r1 ∧ Below w.heap.size w w' := by
 have hu36 := Tryd.underlying36;have HB := am (Below.refl w.heap.size w);have H := h;clear h;unfold q0n.f at H;by_cases c2 : (a0.size : Int) > 20000
 ·rw [if_pos c2] at H;have c2b0 : decide (20000 < (a0.size : Int)) = true := decide_eq_true c2;have c2b1 : decide (20000 < a0.size) = true := decide_eq_true (by omega);clear c2;simp only [Option.some.injEq, Prod.mk.injEq] at H;obtain ⟨rfl, rfl, rfl⟩ := H;go_enter Tryd.func33, Tryd.ntmps33;go_wp2
  go_ret3
  exact ⟨_, X11, X22, X6⟩
 ·rw [if_neg c2] at H;have c2b0 : decide (20000 < (a0.size : Int)) = false := decide_eq_false c2;have c2b1 : decide (20000 < a0.size) = false := decide_eq_false (by omega);clear c2;have H' := am H;clear H;go_enter Tryd.func33, Tryd.ntmps33;go_wp2
  go_loopg [5, 6, 7] k (fun kq v5 v6 v7 w' => ∃ (aC : List (S36)) (aD : Int) (aE : Int), v6 = .int .i64 aD ∧ v7 = .int .i64 aE ∧ q0d (q0n.l0 kq a0 aC aD aE = some (r1, r2, r3)) ∧ q0d (kq ≤ k) ∧ q0d (Kd.R k36 36 w' w.heap.size (fun _ => True) v5 aC) ∧ q0d (Below w.heap.size w w'))
  case atStart => exact ⟨(([] : List (S36))), (1), (0), X7, X7, H', ⟨Nat.le_refl _⟩, ⟨X22⟩, ⟨X6⟩⟩
  case round =>
   clear H';(try clear c2);(try clear c2b0);(try clear c2b1);(try clear p2);obtain ⟨aC, aD, aE, rfl, rfl, HA, aG, aH, HB⟩ := hrel;cases gk with
   | zero => exact absurd HA.out (by simp [q0n.l0])
   | succ k1 =>
    have H := HA.out;clear HA;simp only [q0n.l0] at H;by_cases c3 : aE < (a0.size : Int)
    ·rw [if_pos c3] at H;have c3b0 := dT c3;clear c3;by_cases c4 : 0 ≤ aE
     ·rw [if_pos c4] at H;have c4b0 := dT c4;clear c4;by_cases c6 : (bt a0 aE) = 10
      ·rw [if_pos c6] at H;have c6b0 := eT c6;have c6b1 := eF c6;clear c6;have H' := am H;clear H;have p5 : 0 ≤ (aE : Int) := of_decide_eq_true X12;have q5 : aE < (a0.size : Int) := of_decide_eq_true X12;have aI := q2b a0 aE;replace p5 := eq_true p5;replace q5 := eq_true q5;go_wp2
       go_roundg k1
       case measure => have := aG.out; omega
       case rel => exact ⟨(aC), (wrap64 (aD + 1)), (wrap64 (aE + 1)), X7, X7, H', ⟨X19⟩, ⟨aR aH.out⟩, ⟨X6⟩⟩
      ·rw [if_neg c6] at H;have c6b0 := nF c6;have c6b1 := nT c6;have aJ := am H;clear H;have p5 : 0 ≤ (aE : Int) := of_decide_eq_true X12;have q5 : aE < (a0.size : Int) := of_decide_eq_true X12;have aI := q2b a0 aE;replace p5 := eq_true p5;replace q5 := eq_true q5;go_upto_if 48 with (fail)
       go_cut [48] (fun aK wc => ∃ (kq : Nat) (aM : Bool), aK = .bool aM ∧ q0d (q0n.j1 kq a0 aC aD aE (bt a0 aE) aM = some (r1, r2, r3)) ∧ q0d (kq ≤ k1) ∧ q0d (Kd.R k36 36 wc w.heap.size (fun _ => True) u5 aC) ∧ q0d (Below w.heap.size w wc))
       case first =>
        have H := aJ.out;clear aJ;by_cases c8 : (bt a0 aE) = 32
        ·rw [if_pos c8] at H;have c8b0 := eT c8;have c8b1 := eF c8;clear c8;(first | rw [c8b0] | (simp only [q2t, q2B]; rw [c8b0]) | skip);have H' := am H;clear H;go_wp2
         go_meet
         case rel => exact ⟨_, (((bt a0 aE) == 32)), X7, H', ⟨X134⟩, ⟨aR aH.out⟩, ⟨X6⟩⟩
        ·rw [if_neg c8] at H;have c8b0 := nF c8;have c8b1 := nT c8;(first | rw [c8b0] | (simp only [q2t, q2B]; rw [c8b0]) | skip);by_cases c9 : (bt a0 aE) = 9
         ·rw [if_pos c9] at H;have c9b0 := eT c9;have c9b1 := eF c9;clear c9;have H' := am H;clear H;go_wp2
          go_meet
          case rel => exact ⟨_, (((bt a0 aE) == 9)), X7, H', ⟨X134⟩, ⟨aR aH.out⟩, ⟨X6⟩⟩
         ·rw [if_neg c9] at H;have c9b0 := nF c9;have c9b1 := nT c9;have H' := am H;clear H;go_wp2
          go_meet
          case rel => exact ⟨_, (((bt a0 aE) == 13)), X7, H', ⟨X134⟩, ⟨aR aH.out⟩, ⟨X6⟩⟩
       case rest =>
        clear aJ;(try clear c2);(try clear c2b0);(try clear c2b1);(try clear p2 p2);(try clear c3);(try clear c3b0);(try clear c4);(try clear c4b0);(try clear p5 p5);(try clear q5 q5);(try clear aI);(try clear c6);(try clear c6b0);(try clear c6b1);(try clear p6);(try clear c8);(try clear c8b0);(try clear c8b1);(try clear c9);(try clear c9b0);(try clear c9b1);obtain ⟨kq, aM, rfl, HA, aQ, aH, HB⟩ := hcut;cases kq with
        | zero => exact absurd HA.out (by simp [q0n.j1])
        | succ aT =>
         have H := HA.out;clear HA;simp only [q0n.j1] at H;by_cases c10 : aM = true
         ·subst c10;replace H := tP H;have H' := am H;clear H;go_wp2
          go_roundg aT
          case measure => have := aG.out; have := aQ.out; omega
          case rel => exact ⟨(aC), (aD), (wrap64 (aE + 1)), X7, X7, H', ⟨by have := aG.out; have := aQ.out; omega⟩, ⟨aR aH.out⟩, ⟨X6⟩⟩
         ·replace c10 := Bool.eq_false_iff.mpr c10;subst c10;replace H := tN H;by_cases aU : (bt a0 aE) = 35
          ·rw [if_pos aU] at H;have c11b0 := eT aU;have c11b1 := eF aU;clear aU;have H' := am H;clear H;go_wp2
           go_loopg [7] aT (fun kq v7 w' => ∃ (aW : Int), v7 = .int .i64 aW ∧ q0d (q0n.l1 kq a0 aC aD aW = some (r1, r2, r3)) ∧ q0d (kq ≤ aT) ∧ q0d (Kd.R k36 36 w' w.heap.size (fun _ => True) u5 aC) ∧ q0d (Below w.heap.size w w'))
           case atStart => exact ⟨(aE), X7, H', ⟨Nat.le_refl _⟩, ⟨aR aH.out⟩, ⟨X6⟩⟩
           case round =>
            clear H';(try clear c1);(try clear c2);(try clear c2b0);(try clear c2b1);(try clear p2 p2);(try clear c3);(try clear c3b0);(try clear c4);(try clear c4b0);(try clear p5 p5);(try clear q5 q5);(try clear aI);(try clear c6);(try clear c6b0);(try clear c6b1);(try clear p6 p6);(try clear c8);(try clear c8b0);(try clear c8b1);(try clear c9);(try clear c9b0);(try clear c9b1);(try clear c10);(try clear aU);(try clear c11b0);(try clear c11b1);obtain ⟨aW, rfl, HA, aX, aH, HB⟩ := hrel;cases gk with
            | zero => exact absurd HA.out (by simp [q0n.l1])
            | succ k3 =>
             have H := HA.out;clear HA;simp only [q0n.l1] at H;by_cases aY : aW < (a0.size : Int)
             ·rw [if_pos aY] at H;have c12b0 := dT aY;clear aY;by_cases aZ : 0 ≤ aW
              ·rw [if_pos aZ] at H;have c13b0 := dT aZ;clear aZ;by_cases bA : (bt a0 aW) = 10
               ·rw [if_pos bA] at H;have c15b0 := eT bA;have c15b1 := eF bA;clear bA;have H' := am H;clear H;have bB : 0 ≤ (aW : Int) := of_decide_eq_true X12;have bC : aW < (a0.size : Int) := of_decide_eq_true X12;have bD := q2b a0 aW;replace bB := eq_true bB;replace bC := eq_true bC;go_wp2
                go_roundg k3
                case measure => have := aG.out; have := aQ.out; have := aX.out; omega
                case rel => exact ⟨(aC), (aD), (aW), X7, X7, H', ⟨X135⟩, ⟨aR aH.out⟩, ⟨X6⟩⟩
               ·rw [if_neg bA] at H;have c15b0 := nF bA;have c15b1 := nT bA;have H' := am H;clear H;have bB : 0 ≤ (aW : Int) := of_decide_eq_true X12;have bC : aW < (a0.size : Int) := of_decide_eq_true X12;have bD := q2b a0 aW;replace bB := eq_true bB;replace bC := eq_true bC;go_wp2
                go_roundg k3
                case measure => have := aG.out; have := aQ.out; have := aX.out; omega
                case rel => exact ⟨(wrap64 (aW + 1)), X7, H', ⟨X135⟩, ⟨aR aH.out⟩, ⟨X6⟩⟩
              ·exact iN aZ H
             ·rw [if_neg aY] at H;have c12b0 := dF aY;clear aY;have H' := am H;clear H;go_wp2
              go_roundg k3
              case measure => have := aG.out; have := aQ.out; have := aX.out; omega
              case rel => exact ⟨(aC), (aD), (aW), X7, X7, H', ⟨X135⟩, ⟨aR aH.out⟩, ⟨X6⟩⟩
          ·rw [if_neg aU] at H;have c11b0 := nF aU;have c11b1 := nT aU;by_cases bE : 0 ≤ aE
           ·rw [if_pos bE] at H;have c16b0 := eq_true bE;have c16b1 := dT bE;clear bE;by_cases bF : aE ≤ (a0.size : Int)
            ·rw [if_pos bF] at H;have c17b0 := eq_true bF;have c17b1 := dT bF;clear bF;obtain ⟨⟨bG, bH, bI, bJ, bK⟩, bL, H⟩ := oB H;(try dsimp only at H);have bM := am bL;clear bL;by_cases bN : bK = 0
             ·rw [if_pos bN] at H;have c19b0 := eT bN;have c19b1 := eF bN;clear bN;by_cases bO : aC.length < 4398046511104
              ·rw [if_pos bO] at H;have bP := am bO;clear bO;obtain ⟨bQ, bR⟩ : ∃ y_ : List (S36), y_ = (aC ++ [(⟨bG, bH, aD⟩ : S36)]) := ⟨_, rfl⟩;replace H : (q0n.l0 aT a0 bQ aD (wrap64 (aE + bJ))) = some (r1, r2, r3) := by first | (rw [bR]; with_reducible exact H) | (have bT := (Option.bind_some _ _).symm.trans H; rw [bR]; with_reducible exact bT) | (have bT := (Option.bind_some _ _).symm.trans H; with_reducible exact bT) | with_reducible exact H | (rw [bR]; exact H) | exact H
               have bU := am bR;clear bR;have H' := am H;clear H;go_wp2_with (first | ((with_reducible refine gc 79 ?_); refine gL (some 25) Tryd.func79 #[.string (a0.extract (aE : Int).toNat a0.size)] ?_; (with_reducible refine (q1y.calls aT (a0.extract (aE : Int).toNat a0.size) bG bH bI bJ bK _ bM.out).mono ?_); rintro e w21 ⟨rfl, hb⟩; refine ⟨_, rfl, ?_⟩; replace aH := am (Kd.R_below (aR aH.out) hb); replace HB := bS X6 hb; clear hb) | ((with_reducible refine gd 8 ?_); refine be 8 #[.int .i64 0, .string ⟨#[]⟩, .int .i64 0] 36 ?_; intro bV hg w22 hbox hb; replace aH := am (Kd.R_below (Kd.R_elderB (aR aH.out) bV (Nat.le_of_eq hg.symm)) hb); have bW := am (hbox); have bX := sG (w := w) hg X6; have bY := sG (w := w) hg X6; replace HB := bS X6 hb; clear hb hbox hg; have Z23 := bc3 bW) | ((with_reducible refine q1P (b := .append) (xs := #[.tmp 35, .tmp 37]) rfl ?_); at_builtin; refine Kd.R_append k36 (w0 := w) w.heap.size rfl (.tmp 35) (.tmp 37) 32 36 (.agg #[(.int .i64 0), (.string ⟨#[]⟩), (.int .i64 0)]) 32 rfl Tryd.underlying32 q8V rfl (by decide) (by omega) u5 aC (⟨bG, bH, aD⟩ : S36) [.int .i64 bG, .string bH, .int .i64 aD] (fun k_ => k_ ≠ bV) (fun _ => False) rfl X36 ?aP (fun _ hk => hk.elim) ?aF ?aO ?aB ?aS ?aL ?_; (case aP => exact q6u _ _ _ (⟨bG, bH, aD⟩ : S36)); (case aB => exact X136); (case aF => exact (fun k_ hk => Kd.freshB (g := bV) (o := .cells #[.int .i64 bG, .string bH, .int .i64 aD] 36 (0, 0)) X137 k_ hk)); (case aO => exact (aR (Kd.R_mono (fxR bV 2 (.int .i64 aD) (fxR bV 2 (.int .i64 bI) (fxR bV 1 (.string bH) (fxR bV 0 (.int .i64 bG) (Kd.R_mono aH.out (fun k_ hk => (⟨hk, hk.2⟩ : _ ∧ k_ ≠ bV))))))) (fun _ hk => hk.1.2)))); (case aS => exact (q0W X136)); (case aL => have := bP.out; omega); intro v130 w24 ho hb hg hat; rw [← bU.out] at ho; replace bW := am (q1F (g := bV) (o := .cells #[.int .i64 bG, .string bH, .int .i64 aD] 36 (0, 0)) X137 hg (Kd.R_away aH.out (fun _ hk => hk.2))); replace HB := am (hb); have bZ := am (ho); clear aH; clear ho hb hg hat))
               go_roundg aT
               case measure => have := aG.out; have := aQ.out; omega
               case rel => exact ⟨(bQ), (aD), (wrap64 (aE + bJ)), X7, X7, H', ⟨by have := aG.out; have := aQ.out; omega⟩, ⟨aR (Kd.R_mono bZ.out (fun _ hk => trivial))⟩, ⟨X136⟩⟩
              ·exact iN bO H
             ·rw [if_neg bN] at H;have c19b0 := nF bN;have c19b1 := nT bN;simp only [Option.some.injEq, Prod.mk.injEq] at H;obtain ⟨rfl, rfl, rfl⟩ := H;go_wp2_with (first | ((with_reducible refine gc 79 ?_); refine gL (some 25) Tryd.func79 #[.string (a0.extract (aE : Int).toNat a0.size)] ?_; (with_reducible refine (q1y.calls aT (a0.extract (aE : Int).toNat a0.size) bG bH bI bJ bK _ bM.out).mono ?_); rintro e w25 ⟨rfl, hb⟩; refine ⟨_, rfl, ?_⟩; replace aH := am (Kd.R_below (aR aH.out) hb); replace HB := bS X6 hb; clear hb) | ((with_reducible refine gd 8 ?_); refine be 8 #[.int .i64 0, .string ⟨#[]⟩, .int .i64 0] 36 ?_; intro bV hg w26 hbox hb; replace aH := am (Kd.R_below (Kd.R_elderB (aR aH.out) bV (Nat.le_of_eq hg.symm)) hb); have bW := am (hbox); have bX := sG (w := w) hg X6; have bY := sG (w := w) hg X6; replace HB := bS X6 hb; clear hb hbox hg; have Z27 := bc3 bW))
              go_ret3
              exact ⟨_, X11, X22, X136⟩
            ·exact iN bF H
           ·exact iN bE H
     ·exact iN c4 H
    ·rw [if_neg c3] at H;have c3b0 := dF c3;clear c3;simp only [Option.some.injEq, Prod.mk.injEq] at H;obtain ⟨rfl, rfl, rfl⟩ := H;go_wp2
     go_ret3
     exact ⟨_, X11, aR aH.out, X6⟩
end Go.Proofs.YtmffocankommaaaDoor.L
