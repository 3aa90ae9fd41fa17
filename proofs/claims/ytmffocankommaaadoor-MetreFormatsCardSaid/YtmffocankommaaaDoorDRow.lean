/- MetreFormats: Valid returns the error of any metre, and Format its text, or this error; Parse leads back: the card, for metres of any size. No condition. -/
import Derived.Test.YtmffocankommaaaDoorDLaw
import Derived.Test.YtmffocankommaaaDoorCards
import Derived.Test.YtmffocankommaaaDoorTie
import Derived.SevenTiedAt
import Derived.WalkKit
import Derived.ProofKit
import Derived.OpenShut
import Derived.Deep.DeepHandedRow
import Derived.Lib.LaidTab
import Derived.Below
import Derived.ChangeOld
namespace Go.Proofs.YtmffocankommaaaDoor.metreFormats
open Go.ChangeShapes Go.WideShapes Go.ChangeAt Go.RowKit
open Go.Proofs.YtmffocankommaaaDoor.F
set_option linter.unusedVariables false
set_option linter.unusedSimpArgs false
section
theorem own:ownKnob Tryd.prog.godebug = none:=by kernel_rfl
theorem laidOut:laidOutB Tryd.prog = true:=by kernel_rfl
set_option maxRecDepth 100000 in
set_option maxHeartbeats 4000000 in
/-- WHAT THE WALK GIVES, FOR ALL ARGUMENTS. -/
theorem contract (H:Type) (enc:TypeId × Value → H) (W:World) (base:Nat) (args:Array Value) (ds gs:List (DataW H)) (before:List MemPlace)
  (hval:∀ (j:Nat) t v,Tryd.f6.params[j]? = some t → args[j]? = some v → Value.okWide Tryd.prog W .any base t v)
  (hW:DataW.Whole enc Tryd.prog Tryd.f6.params.toList Rows.metreFormatsSpec.vars false W args.toList ds gs before) :
  Calls Tryd.prog 6 args W fun e W'=>∃ v,e = .returned v∧Rows.metreFormatsSpec.post enc Tryd.prog Tryd.f6 false true false false W args v W':=by
 have hW':=hW
 obtain ⟨p,q,hA0,hV,rfl,hfz,hnd⟩:=hW
 have hA:DataW.TrodAll enc Tryd.prog W 0 (fun _=>true) true Tryd.f6.params.toList args.toList ds p:=hA0
 rw [Tryd.params6] at hA hval
 obtain ⟨v0,vs0,d0,ds0,p0,q0,hargs,rfl,rfl,h0,r0⟩:=trodAll_cons hA
 obtain ⟨rfl,rfl,rfl⟩:=trodAll_nil r0
 obtain rfl:args = #[v0]:=by cases args;simp_all
 obtain ⟨rfl,rfl⟩:=trodVars_none hV
 obtain ⟨cs0,rfl,_⟩:=okWide_struct Tryd.underlying44 (hval 0 44 v0 rfl rfl)
 have k0:=h0
 have lt0:∀ x ∈ p0,x.block < W.heap.size:=by obtain ⟨m,hm⟩:=k0;exact DataW.trod_lt m _ _ _ hm
 obtain ⟨f0,t0⟩:=h0
 obtain ⟨a0,A1,c1,l1,A2,c2,l2,A3,c3,l3,a4,a5,a6,A7,c7,l7,e0,r1,m1,r2,m2,r3,m3,r7,m7,ft⟩:=q8s f0 _ _ t0
 have z0:cs0 = #[.string a0,.slice A1 l1.length c1,.slice A2 l2.length c2,.slice A3 l3.length c3,.int .i64 a4,.string a5,.int .i64 a6,.slice A7 l7.length c7]:=by
  apply Array.toList_inj.1
  simpa [Value.cells] using e0
 subst z0
 obtain ⟨K,hK⟩:=q6m a0 l1 l2 l3 a4 a5 a6 l7 ft
 refine (q0V.calls K a0 _ _ l1 _ _ l2 _ _ l3 a4 a5 a6 _ _ l7 true W r1 m1 r2 m2 r3 m3 r7 m7 (hK K (Nat.le_refl _))).mono fun e W' ⟨he,bel⟩=>?_
 subst he
 exact ⟨_,rfl,_,_,_,[],_,[],hW',trodAll_mk1 (shut_bool Tryd.underlying4 _),(trodAll_cons_mk (Below.trod laidOut (by kernel_rfl) (of_decide_eq_true (by kernel_rfl)) k0 bel lt0) trodAll_mk0),rfl,bel.frame _,fun h=>by cases h⟩
set_option maxRecDepth 100000 in
theorem lifted (os:Os) (started:os.Started) (H:Type) (enc:TypeId × Value → H) (F:Stop.Interp) :
  ReturnsInHanded {} Tryd.checked os 6 .any ((OpenSpec.ofChange Rows.metreFormatsSpec).preRow enc Tryd.prog Tryd.f6 Rows.metreFormatsRow.domain false Rows.metreFormatsRow.laid) (((OpenSpec.ofChange Rows.metreFormatsSpec).at F).post enc Tryd.prog Tryd.f6 false true false false):=by
 obtain ⟨ds,places,hx⟩:=WitF.reads os enc
 refine returnsInHanded_of_row (C:=Tryd.checked) (s:=OpenSpec.ofChange Rows.metreFormatsSpec) own started (by kernel_rfl) Tryd.func6
  (witness_row_at (enc:=enc) (C:=Tryd.checked) false (WitF.laidWorld os) #[WitF.zero] rfl (by kernel_rfl) (by kernel_rfl) (by kernel_rfl)
   (OpenSpec.preRow_of_cond 8 hx (by kernel_rfl) (fun k hk=>by cases hk) (by kernel_rfl) (WitF.laid_met os))) ?_
 intro W base args ds gs before hval hW _ hcond _ _ _ _
 exact contract H enc W base args ds gs before hval hW
theorem said:Rows.MetreFormatsSaid:=
 OpenClaim.holds_of_cond 6 Tryd.f6 rfl rfl rfl rfl rfl rfl rfl ⟨rfl,rfl,rfl,rfl,rfl⟩ rfl rfl rfl rfl rfl (by kernel_rfl) Tryd.func6 (by kernel_rfl)
  (of_decide_eq_true (by kernel_rfl)) (by unfold Func.isWrapper;first|(rw [if_pos (by decide +kernel)];kernel_rfl)|(rw [if_neg (by decide +kernel)];exact ⟨rfl,rfl⟩))
  (fun os started H enc _ F=>by rw [OpenClaim.pre_eq_preRow];exact lifted os started H enc F)
/-- No parameter wants a stand-in; the program's own looks are off: what the card asks. -/
theorem plain (f : FuncId) (fn : Func) (hf : Tryd.pinned.checked.prog.funcNamed "anceps/ancepslaw22.MetreFormats" = some f) (hfn : Tryd.pinned.checked.prog.funcs[f]? = some fn) :
  false = Tryd.pinned.checked.prog.looks []∧∀ (j:Nat) t,fn.params[j]? = some t → Tryd.pinned.checked.prog.wantsStandIn t = false:=by
 obtain rfl : f = 6 := Option.some.inj ((show Tryd.prog.funcNamed "anceps/ancepslaw22.MetreFormats" = some 6 by kernel_rfl).symm.trans hf) |>.symm
 obtain rfl:fn = Tryd.f6:=(Option.some.inj (Tryd.func6.symm.trans hfn)).symm
 refine ⟨by kernel_rfl,fun j t ht=>?_⟩
 rw [Tryd.params6] at ht
 have hm:t ∈ [44]:=by simpa using Array.mem_of_getElem? ht
 have hall:([44].all fun u=>!Tryd.prog.wantsStandIn u) = true:=by kernel_rfl
 exact (show Tryd.prog.wantsStandIn t = false by simpa using List.all_eq_true.1 hall t hm)
/-- THE CARD. -/
theorem card:Rows.MetreFormatsCardSaid:=
 Claim7.holds_tied_plain_at .later [] _ _ _ _ said (fun _ h=>by cases h) (by kernel_rfl) (fun _ h=>by cases h) metreFormats_row_tie rfl ⟨rfl,rfl⟩ (by kernel_rfl) rfl plain (by kernel_rfl)
end
end Go.Proofs.YtmffocankommaaaDoor.metreFormats
