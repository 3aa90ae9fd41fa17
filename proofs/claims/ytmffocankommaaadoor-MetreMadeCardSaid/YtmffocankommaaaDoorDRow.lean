/- MetreMade: the metres of descriptions are valid, and their texts lead to them again: the card, for descriptions of any size. No condition. -/
import Derived.Test.YtmffocankommaaaDoorDLd
import Derived.Test.YtmffocankommaaaDoorDLe
import Derived.Test.YtmffocankommaaaDoorCards
import Derived.Test.YtmffocankommaaaDoorTie
import Derived.SevenTiedAt
import Derived.WalkKit
import Derived.ProofKit
import Derived.OpenShut
import Derived.Deep.DeepHandedRow
import Derived.Lib.LaidTab
import Derived.Below
import Derived.ChangeOld
namespace Go.Proofs.YtmffocankommaaaDoor.metreMade
open Go.ChangeShapes Go.WideShapes Go.ChangeAt Go.RowKit
open Go.Proofs.YtmffocankommaaaDoor.J
set_option linter.unusedVariables false
set_option linter.unusedSimpArgs false
section
theorem own:ownKnob Tryd.prog.godebug = none:=by kernel_rfl
theorem laidOut:laidOutB Tryd.prog = true:=by kernel_rfl
set_option maxRecDepth 100000 in
set_option maxHeartbeats 4000000 in
/-- WHAT THE WALK GIVES, FOR ALL ARGUMENTS. -/
theorem contract (H:Type) (enc:TypeId × Value → H) (W:World) (base:Nat) (args:Array Value) (ds gs:List (DataW H)) (before:List MemPlace)
  (hval:∀ (j:Nat) t v,Tryd.f5.params[j]? = some t → args[j]? = some v → Value.okWide Tryd.prog W .any base t v)
  (hW:DataW.Whole enc Tryd.prog Tryd.f5.params.toList Rows.metreMadeSpec.vars false W args.toList ds gs before) :
  Calls Tryd.prog 5 args W fun e W'=>∃ v,e = .returned v∧Rows.metreMadeSpec.post enc Tryd.prog Tryd.f5 false true false false W args v W':=by
 have hW':=hW
 obtain ⟨p,q,hA0,hV,rfl,hfz,hnd⟩:=hW
 have hA:DataW.TrodAll enc Tryd.prog W 0 (fun _=>true) true Tryd.f5.params.toList args.toList ds p:=hA0
 rw [Tryd.params5] at hA hval
 obtain ⟨v0,vs0,d0,ds0,p0,q0,hargs,rfl,rfl,h0,r0⟩:=trodAll_cons hA
 obtain ⟨rfl,rfl,rfl⟩:=trodAll_nil r0
 obtain rfl:args = #[v0]:=by cases args;simp_all
 obtain ⟨rfl,rfl⟩:=trodVars_none hV
 obtain ⟨cs0,rfl,_⟩:=okWide_struct Tryd.underlying52 (hval 0 52 v0 rfl rfl)
 have k0:=h0
 have lt0:∀ x ∈ p0,x.block < W.heap.size:=by obtain ⟨m,hm⟩:=k0;exact DataW.trod_lt m _ _ _ hm
 obtain ⟨f0,t0⟩:=h0
 obtain ⟨A0,c0,FL,A1,c1,LL,d0,d1,sm,e0,r0,m0,r1,m1,p0,p1,b0,b1,b2⟩:=q9n f0 _ _ t0
 have z0:cs0 = #[.slice A0 FL.length c0,.slice A1 LL.length c1,.int .u8 d0,.int .u8 d1,.int .u8 sm]:=by
  apply Array.toList_inj.1
  simpa [Value.cells] using e0
 subst z0
 obtain ⟨K,n0,l1,l2,l3,n4,n5,n6,l7,s,hA,hM,hFo,hP,hV,hS⟩:=v1L (d0:=d0) (sm:=sm) p0 p1 b1
 refine (q5E.calls K A0 c0 FL A1 c1 LL d0 d1 sm n0 l1 l2 l3 n4 n5 n6 l7 s W r0 m0 r1 m1 p1 b0 b1 b2 hA hM hFo hP hV hS).mono fun e W' ⟨he,bel⟩=>?_
 subst he
 exact ⟨_,rfl,_,_,_,[],_,[],hW',trodAll_mk1 (shut_bool Tryd.underlying4 _),(trodAll_cons_mk (Below.trod laidOut (by kernel_rfl) (of_decide_eq_true (by kernel_rfl)) k0 bel lt0) trodAll_mk0),rfl,bel.frame _,fun h=>by cases h⟩
set_option maxRecDepth 100000 in
theorem lifted (os:Os) (started:os.Started) (H:Type) (enc:TypeId × Value → H) (F:Stop.Interp) :
  ReturnsInHanded {} Tryd.checked os 5 .any ((OpenSpec.ofChange Rows.metreMadeSpec).preRow enc Tryd.prog Tryd.f5 Rows.metreMadeRow.domain false Rows.metreMadeRow.laid) (((OpenSpec.ofChange Rows.metreMadeSpec).at F).post enc Tryd.prog Tryd.f5 false true false false):=by
 obtain ⟨ds,places,hx⟩:=WitM.reads os enc
 refine returnsInHanded_of_row (C:=Tryd.checked) (s:=OpenSpec.ofChange Rows.metreMadeSpec) own started (by kernel_rfl) Tryd.func5
  (witness_row_at (enc:=enc) (C:=Tryd.checked) false (WitM.laidWorld os) #[WitM.zero] rfl (by kernel_rfl) (by kernel_rfl) (by kernel_rfl)
   (OpenSpec.preRow_of_cond 8 hx (by kernel_rfl) (fun k hk=>by cases hk) (by kernel_rfl) (WitM.laid_met os))) ?_
 intro W base args ds gs before hval hW _ hcond _ _ _ _
 exact contract H enc W base args ds gs before hval hW
theorem said:Rows.MetreMadeSaid:=
 OpenClaim.holds_of_cond 5 Tryd.f5 rfl rfl rfl rfl rfl rfl rfl ⟨rfl,rfl,rfl,rfl,rfl⟩ rfl rfl rfl rfl rfl (by kernel_rfl) Tryd.func5 (by kernel_rfl)
  (of_decide_eq_true (by kernel_rfl)) (by unfold Func.isWrapper;first|(rw [if_pos (by decide +kernel)];kernel_rfl)|(rw [if_neg (by decide +kernel)];exact ⟨rfl,rfl⟩))
  (fun os started H enc _ F=>by rw [OpenClaim.pre_eq_preRow];exact lifted os started H enc F)
/-- No parameter wants a stand-in; the program's own looks are off: what the card asks. -/
theorem plain (f : FuncId) (fn : Func) (hf : Tryd.pinned.checked.prog.funcNamed "anceps/ancepslaw22.MetreMade" = some f) (hfn : Tryd.pinned.checked.prog.funcs[f]? = some fn) :
  false = Tryd.pinned.checked.prog.looks []∧∀ (j:Nat) t,fn.params[j]? = some t → Tryd.pinned.checked.prog.wantsStandIn t = false:=by
 obtain rfl : f = 5 := Option.some.inj ((show Tryd.prog.funcNamed "anceps/ancepslaw22.MetreMade" = some 5 by kernel_rfl).symm.trans hf) |>.symm
 obtain rfl:fn = Tryd.f5:=(Option.some.inj (Tryd.func5.symm.trans hfn)).symm
 refine ⟨by kernel_rfl,fun j t ht=>?_⟩
 rw [Tryd.params5] at ht
 have hm:t ∈ [52]:=by simpa using Array.mem_of_getElem? ht
 have hall:([52].all fun u=>!Tryd.prog.wantsStandIn u) = true:=by kernel_rfl
 exact (show Tryd.prog.wantsStandIn t = false by simpa using List.all_eq_true.1 hall t hm)
/-- THE CARD. -/
theorem card:Rows.MetreMadeCardSaid:=
 Claim7.holds_tied_plain_at .later [] _ _ _ _ said (fun _ h=>by cases h) (by kernel_rfl) (fun _ h=>by cases h) metreMade_row_tie rfl ⟨rfl,rfl⟩ (by kernel_rfl) rfl plain (by kernel_rfl)
end
end Go.Proofs.YtmffocankommaaaDoor.metreMade
