/- MetreSame: Same compares any two metres field by field: the second form's card, for arguments of bulk at most 1048576. No other condition. -/
import Derived.Test.YtmffocankommaaaDoorMLaw
import Derived.Test.YtmffocankommaaaDoorCards
import Derived.Test.YtmffocankommaaaDoorTie
import Derived.SevenTiedAt
import Derived.WalkKit
import Derived.ProofKit
import Derived.OpenShut
import Derived.Deep.DeepHandedRow
import Derived.Lib.LaidTab
import Derived.Below
import Derived.ChangeOld
section
namespace Go.Proofs.YtmffocankommaaaDoor.metreSame
open Go.ChangeShapes Go.WideShapes Go.ChangeAt Go.RowKit
open Go.Proofs.YtmffocankommaaaDoor.P
set_option linter.unusedVariables false
set_option linter.unusedSimpArgs false
theorem own : ownKnob Tryd.prog.godebug = none := by kernel_rfl
theorem laidOut : laidOutB Tryd.prog = true := by kernel_rfl
set_option maxRecDepth 100000 in
set_option maxHeartbeats 4000000 in
/-- WHAT THE WALK GIVES, FOR ALL ARGUMENTS. -/
theorem contract (H : Type) (enc : TypeId × Value → H) (W : World) (base : Nat) (args : Array Value) (ds gs : List (DataW H)) (before : List MemPlace)
    (hval : ∀ (j : Nat) t v, Tryd.f7.params[j]? = some t → args[j]? = some v → Value.okWide Tryd.prog W .any base t v)
    (hW : DataW.Whole enc Tryd.prog Tryd.f7.params.toList Rows.metreSameSpec.vars false W args.toList ds gs before) (hk : Rows.uptoSmall H (ds ++ gs) = true) :
    Calls Tryd.prog 7 args W fun e W' => ∃ v, e = .returned v ∧ Rows.metreSameSpec.post enc Tryd.prog Tryd.f7 false true false false W args v W' := by
  have hW' := hW
  obtain ⟨p, q, hA0, hV, rfl, hfz, hnd⟩ := hW
  have hA : DataW.TrodAll enc Tryd.prog W 0 (fun _ => true) true Tryd.f7.params.toList args.toList ds p := hA0
  rw [Tryd.params7] at hA hval
  obtain ⟨v0, vs0, d0, ds0, p0, q0, hargs, rfl, rfl, h0, r0⟩ := trodAll_cons hA
  obtain ⟨v1, vs1, d1, ds1, p1, q1, rfl, rfl, rfl, h1, r1⟩ := trodAll_cons r0
  obtain ⟨rfl, rfl, rfl⟩ := trodAll_nil r1
  obtain rfl : args = #[v0, v1] := by cases args; simp_all
  obtain ⟨rfl, rfl⟩ := trodVars_none hV
  obtain ⟨cs0, rfl, _⟩ := okWide_struct Tryd.underlying44 (hval 0 44 v0 rfl rfl)
  obtain ⟨cs1, rfl, _⟩ := okWide_struct Tryd.underlying44 (hval 1 44 v1 rfl rfl)
  have k0 := h0
  have k1 := h1
  have lt0 : ∀ x ∈ p0, x.block < W.heap.size := by obtain ⟨m, hm⟩ := k0; exact DataW.trod_lt m _ _ _ hm
  have lt1 : ∀ x ∈ p1, x.block < W.heap.size := by obtain ⟨m, hm⟩ := k1; exact DataW.trod_lt m _ _ _ hm
  obtain ⟨f0, t0⟩ := h0
  obtain ⟨f1, t1⟩ := h1
  obtain ⟨a0, A1, c1, l1, A2, c2, l2, A3, c3, l3, a4, a5, a6, A7, c7, l7, e0, r1, m1, r2, m2, r3, m3, r7, m7, b0⟩ := opens_metre f0 _ _ t0
  obtain ⟨a0', A1', c1', l1', A2', c2', l2', A3', c3', l3', a4', a5', a6', A7', c7', l7', e1, r1', m1', r2', m2', r3', m3', r7', m7', b1⟩ := opens_metre f1 _ _ t1
  have z0 : cs0 = #[.string a0, .slice A1 l1.length c1, .slice A2 l2.length c2, .slice A3 l3.length c3, .int .i64 a4, .string a5, .int .i64 a6, .slice A7 l7.length c7] := by
    apply Array.toList_inj.1
    simpa [Value.cells] using e0
  have z1 : cs1 = #[.string a0', .slice A1' l1'.length c1', .slice A2' l2'.length c2', .slice A3' l3'.length c3', .int .i64 a4', .string a5', .int .i64 a6', .slice A7' l7'.length c7'] := by
    apply Array.toList_inj.1
    simpa [Value.cells] using e1
  subst z0 z1
  have hB := bulks.bound hk
  simp only [List.cons_append, List.nil_append, List.append_nil, Rows.uptoBulkAll] at hB
  obtain ⟨g1, g1k, g2, g3, g3k, g7⟩ := b0 (by show Rows.uptoBulk d0 ≤ _; omega)
  obtain ⟨j1, j1k, j2, j3, j3k, j7⟩ := b1 (by show Rows.uptoBulk d1 ≤ _; omega)
  obtain ⟨K, hK⟩ := MetreSame_comes a0 l1 l2 l3 a4 a5 a6 l7 a0' l1' l2' l3' a4' a5' a6' l7' g1 g1k g2 g3 g3k g7 j1 j1k j2 j3 j3k j7
  refine (ancepslaw22_MetreSame.calls K a0 _ _ l1 _ _ l2 _ _ l3 a4 a5 a6 _ _ l7 a0' _ _ l1' _ _ l2' _ _ l3' a4' a5' a6' _ _ l7' true W r1 m1 r2 m2 r3 m3 r7 m7 r1' m1' r2' m2' r3' m3' r7' m7' (hK K (Nat.le_refl _))).mono fun e W' ⟨he, bel⟩ => ?_
  subst he
  exact ⟨_, rfl, _, _, _, [], _, [], hW', trodAll_mk1 (shut_bool Tryd.underlying4 _), (trodAll_cons_mk (Below.trod laidOut (by kernel_rfl) (of_decide_eq_true (by kernel_rfl)) k0 bel lt0) (trodAll_cons_mk (Below.trod laidOut (by kernel_rfl) (of_decide_eq_true (by kernel_rfl)) k1 bel lt1) trodAll_mk0)), rfl, bel.frame _, fun h => by cases h⟩
set_option maxRecDepth 100000 in
/-- THE SECOND FORM's STEP. -/
theorem liftedUpto (os : Os) (started : os.Started) (H : Type) (enc : TypeId × Value → H) (F : Stop.Interp) :
    ReturnsInHanded {} Tryd.checked os 7 .any ((Rows.OpenSpec.upto Rows.metreSameSpec).preRow enc Tryd.prog Tryd.f7 Rows.metreSameUptoRow.domain false Rows.metreSameUptoRow.laid) (((Rows.OpenSpec.upto Rows.metreSameSpec).at F).post enc Tryd.prog Tryd.f7 false true false false) := by
  obtain ⟨ds, places, hx, hs⟩ := Wit.reads os enc
  refine returnsInHanded_of_row (C := Tryd.checked) (s := Rows.OpenSpec.upto Rows.metreSameSpec) own started (by kernel_rfl) Tryd.func7
    (witness_row_at (enc := enc) (C := Tryd.checked) false (Wit.laidWorld os) #[Wit.zero, Wit.zero] rfl (by kernel_rfl) (by kernel_rfl) (by kernel_rfl)
      (OpenSpec.preRow_of_cond 8 hx (by kernel_rfl) (fun k hk => by cases hk; exact hs) (by kernel_rfl) (Wit.laid_met os))) ?_
  intro W base args ds gs before hval hW _ hcond _ _ _ _
  exact contract H enc W base args ds gs before hval hW (hcond _ rfl)

theorem saidUpto : Rows.MetreSameUptoSaid :=
  OpenClaim.holds_of_cond 7 Tryd.f7 rfl rfl rfl rfl rfl rfl rfl ⟨rfl, rfl, rfl, rfl, rfl⟩ rfl rfl rfl rfl rfl (by kernel_rfl) Tryd.func7 (by kernel_rfl)
    (of_decide_eq_true (by kernel_rfl)) (by unfold Func.isWrapper; first | (rw [if_pos (by decide +kernel)]; kernel_rfl) | (rw [if_neg (by decide +kernel)]; exact ⟨rfl, rfl⟩))
    (fun os started H enc _ F => by rw [OpenClaim.pre_eq_preRow]; exact liftedUpto os started H enc F)

/-- No parameter wants a stand-in; the program's own looks are off: what the card asks. -/
theorem plain (f : FuncId) (fn : Func) (hf : Tryd.pinned.checked.prog.funcNamed "anceps/ancepslaw22.MetreSame" = some f) (hfn : Tryd.pinned.checked.prog.funcs[f]? = some fn) :
    false = Tryd.pinned.checked.prog.looks [] ∧ ∀ (j : Nat) t, fn.params[j]? = some t → Tryd.pinned.checked.prog.wantsStandIn t = false := by
  obtain rfl : f = 7 := Option.some.inj ((show Tryd.prog.funcNamed "anceps/ancepslaw22.MetreSame" = some 7 by kernel_rfl).symm.trans hf) |>.symm
  obtain rfl : fn = Tryd.f7 := (Option.some.inj (Tryd.func7.symm.trans hfn)).symm
  refine ⟨by kernel_rfl, fun j t ht => ?_⟩
  rw [Tryd.params7] at ht
  obtain rfl : t = 44 := by
    rcases j with _ | _ | j
    · simpa using ht.symm
    · simpa using ht.symm
    · simp at ht
  exact (show Tryd.prog.wantsStandIn 44 = false by kernel_rfl)

/-- THE SECOND FORM's CARD. -/
theorem cardUpto : Rows.MetreSameUptoCardSaid :=
  Claim7.holds_tied_plain_at .later [] _ _ _ _ saidUpto (fun _ h => by cases h) (by kernel_rfl) (fun _ h => by cases h) metreSameUpto_row_tie rfl ⟨rfl, rfl⟩ (by kernel_rfl) rfl plain (by kernel_rfl)
#print axioms cardUpto
end Go.Proofs.YtmffocankommaaaDoor.metreSame
end
