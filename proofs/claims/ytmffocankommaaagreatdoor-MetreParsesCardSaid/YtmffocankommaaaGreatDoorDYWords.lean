/- Small words of the printed walks: what of them this claim names. No condition. -/
import Derived.Test.YtmffocankommaaaGreatDoorDWWords
import Derived.Test.YtmffocankommaaaGreatDoorDWLast
import Derived.Test.YtmffocankommaaaGreatDoorDWMore
namespace Go.Proofs.YtmffocankommaaaGreatDoorW.PrintWords.Kd
theorem S_taken {α:Type} {d:Kd α} {e E:Nat} {W:World} {base:Nat} {ok:Nat→Prop} {A:Option Addr} {n cap:Nat} {xs:List (List α)} (h:Kd.S (Kd.slice e d) E W base ok (.slice A n cap) xs) (i:Int) (h0:0≤i) (h1:i<n) {ad:Addr} (hA:A=some ad) {u:Value} (hu:W.cell? (ad.add i.toNat)=some u) :
  d.R e W base ok u (xs.getD i.toNat []):=by
 subst hA
 obtain⟨c,hcl,⟨v,rfl,hR⟩,hcc⟩:=v2P (S_R h) [] i h0 h1
 have:=hcc 0 v rfl
 simp only[Kd.slice,Nat.mul_one,Nat.add_zero]at this
 rw[this]at hu
 cases hu
 exact R_mono hR (fun _ hk=>hk.1)
end Go.Proofs.YtmffocankommaaaGreatDoorW.PrintWords.Kd
namespace Go.Proofs.YtmffocankommaaaGreatDoorY
open Go.RowKit Go.Proofs.YtmffocankommaaaGreatDoorW.PrintWords Go.Proofs.YtmffocankommaaaGreatDoorW.PrintLast Go.Proofs.YtmffocankommaaaGreatDoorW.PrintMore
section
variable {P:Program} {ops:Array Oper} {Q:Exit→Act→World→Prop}
theorem q4X {t:Tmp} {o:Oper} {rest:List Oper} {a:Act} {W:World} {as:Array Operand} {ts:Array TypeId} (_ho:o.op=.call {callee:=.value (.tmp t),args:=as,argTypes:=ts}) (h:wpList P ops Q (o::rest) a W):wpList P ops Q (o::rest) a W:=h
theorem q8h {t : Tmp} {rest : List Oper} {oi : Oper} {a : Act} {w : World} (N : Option Tmp) (hd : oi.dst = N) (hg : oi.guard = none) {f : FuncId} {fn : Func} {as : Array Operand} {ts : Array TypeId} (hf : P.funcs[f]? = some fn) (hname : (fn.name == "runtime.NumGoroutine") = false) (hb : fn.body.isSome = true) (args : Array Value)
  (hop:oi.op=.call {callee:=.value (.tmp t),args:=as,argTypes:=ts}) (hargs:as.map a.eval=args)
  (h:Calls P f args w fun e w'=>∃ v,e=.returned v∧wpList P ops Q rest (a.put N v) w') (hv:a.eval (.tmp t)=.func (.func f) #[] #[]:=by first|rfl|(simp [Act.eval];done)):wpList P ops Q (oi::rest) a w:=by
 refine wpList_plain hg fun K hK=>?_
 have he:=q7x hf hname hb args w
 have hrun:(execOp a.eval oi).run P w=.ok (.enter f args) w:=by
  unfold execOp
  simp [hop,resolve,Deferred.ofValue,invoke,hv,hargs,he]
 unfold Oper.wp
 rw[hrun,Oper.upon_enter]
 refine h.mono fun e w'' hh=>?_
 obtain⟨v,rfl,hk⟩:=hh
 subst hd
 exact hK _ _ hk
end
@[simp] theorem isEmpty_bne (l:List UInt8):(l.isEmpty = !(l != []))=True:=by cases l <;> simp
theorem q2U (w:World) (a:Addr) (v u:Value) (h:(w.cell? a).isSome=true):((w.setCell a v).setCell a u).cell? a=some u:=
 World.cell?_setCell_same' _ _ _ (by rw[World.cell?_setCell_same' _ _ _ h];rfl)
def q7l (P:Program) (src dst:TypeId) (s:ByteArray) (w:World) (R:Ending→World→Prop):Prop:=
 ∃ v w',(convert src dst (.string s)).run P w=.ok v w'∧R (.returned v) w'
theorem q7l.mono {P:Program} {src dst:TypeId} {s:ByteArray} {w:World} {R R':Ending→World→Prop} (h:q7l P src dst s w R) (hr:∀ e w',R e w'→R' e w'):q7l P src dst s w R':=by
 obtain⟨v,w',h1,h2⟩:=h
 exact⟨v,w',h1,hr _ _ h2⟩
theorem v2i {P:Program} (src dst e:TypeId) {u:TypeDesc} (hs:P.underlying src=some u) (hd:P.underlying dst=some (.slice e)) (he:P.underlying e=some (.int .u8)) (a0:ByteArray) (hn:a0.size≤9223372036854775807) (r:List Int) (hr_:some (q5y a0)=some r) (w:World) :
  q7l P src dst a0 w fun q w'=>∃ v0_:Value,q=.returned v0_∧Kd.V (Kd.int .u8) e w' w.heap.size (fun k_=>w.heap.size≤k_) v0_ r∧Below w.heap.size w w':=by
 obtain rfl:=Option.some.inj hr_
 refine⟨_,_,q9z src dst e hs hd he a0 w,_,rfl,⟨_,_,by rw[q4p],?_,?_⟩,q9I (Below.refl _ _) (Nat.le_refl _) e a0⟩
 ·rw[q4p];exact grownCap_ge _ _ _ _
 ·have hr:=q9i w e a0 hn
  have hlt:w.heap.size<(Lib.bytesWorld w e a0).heap.size:=by rw[Lib.bytesWorld_size];omega
  intro W' hW
  have hb:W'.heap[w.heap.size]?=(Lib.bytesWorld w e a0).heap[w.heap.size]?:=hW _ (Nat.le_refl _) hlt
  refine Kd.C_of_reads (d:=(0:Int)) (h1:=fun _=>rfl) ?_
  rw[q4p]
  refine⟨hr.1,hr.2.1,fun hp=>?_⟩
  obtain⟨ad,had,hc⟩:=hr.2.2 hp
  refine⟨ad,had,fun j hj=>?_⟩
  have:=hc j hj
  injection had with had
  subst had
  rw[q7y]at this ⊢
  simp only[World.cell?]at this ⊢
  rw[hb]
  exact this
theorem convU_ {P:Program} {o:Oper} {A:Act} {K:Act→World→Prop} {Q:Exit→Act→World→Prop} {src dst:TypeId} {s:ByteArray} {w:World}
  (h:q7l P src dst s w fun e w'=>∃ v,e=.returned v∧Oper.upon P o A K Q (Result.ok (Next.value v) w')) :
  Oper.upon P o A K Q ((Sem.run P (convert src dst (.string s)) w).andThen fun a w'=>Result.ok (Next.value a) w'):=by
 obtain⟨v,w',hrun,v',hv,hk⟩:=h
 obtain rfl:v=v':=by injection hv
 rw[hrun]
 exact hk
theorem C_cells {α:Type} {enc:α→Value} {h1:∀ x,(enc x).oneCell'=true} {w:World} {A:Option Addr} {n:Nat} {xs:List α} (h:(Kd.scalar enc h1).C w A n xs) (hn:0<n) :
  ∃ b o,A=some ⟨b,o,none⟩∧b<w.heap.size∧∀ (j:Nat) x,xs[j]?=some x→w.cell? ⟨b,o+j,none⟩=some (enc x):=by
 obtain⟨hl,_,hr⟩:=h
 obtain⟨ad,rfl,hc⟩:=hr hn
 have key:∀ (j:Nat) x,xs[j]?=some x→w.cell? (ad.add j)=some (enc x):=by
  intro j x hx
  obtain⟨c,_,hR,hcell⟩:=hc j x hx
  have hR':c=[enc x]:=hR
  subst hR'
  have:=hcell 0 _ rfl
  simpa [Kd.scalar] using this
 obtain⟨b,o,sp⟩:=ad
 obtain⟨x0,hx0⟩:∃ x,xs[0]?=some x:=⟨xs[0]'(by omega),List.getElem?_eq_getElem _⟩
 have h0:=key 0 x0 hx0
 have hsp:sp=none:=by
  cases sp with
  | none=>rfl
  | some s=>
   exfalso
   simp only[Addr.add,World.cell?]at h0
   split at h0 <;> simp at h0
 subst hsp
 refine⟨b,o,rfl,World.block_lt_of_cell? _ _ h0,fun j x hx=>?_⟩
 have:=key j x hx
 unfold Addr.add at this
 split at this
 ·rename_i e;subst e;simpa using this
 ·exact this
theorem v2l {wm w1 w2:World} {gp g:Nat} {o:Obj} (h1:q2e wm w1 gp none) (h2:q2e wm w2 gp none) (hlt:g<wm.heap.size) (hne:g≠gp) (hb:w1.heap[g]?=some o):w2.heap[g]?=some o:=
 (h2.2 g hlt hne (by simp)).trans ((h1.2 g hlt hne (by simp)).symm.trans hb)
theorem q4Y {w W w8 w9:World} {gp:Nat} (h8:Below w.heap.size w w8) (b8:Below W.heap.size W w8) (b9:Below W.heap.size W w9) (hk:q2e w8 w9 gp none) (hg:w.heap.size≤gp):Below w.heap.size w w9:=
 ⟨b9.os.trans (b8.os.symm.trans h8.os),b9.tape.trans (b8.tape.symm.trans h8.tape),b9.output.trans (b8.output.symm.trans h8.output),Nat.le_trans h8.size hk.1,fun i hi=>(hk.2 i (Nat.lt_of_lt_of_le hi h8.size) (by omega) (by simp)).trans (h8.block i hi)⟩
theorem bs1 (a:UInt8):(⟨#[a]⟩:ByteArray).size=1:=rfl
theorem bs2 (a b:UInt8):(⟨#[a,b]⟩:ByteArray).size=2:=rfl
theorem bs6 (a b c d e f:UInt8):(⟨#[a,b,c,d,e,f]⟩:ByteArray).size=6:=rfl
def v2I (P:Prop):Prop:=P
theorem q5g {P:Prop} (h:v2I P):P:=h
theorem on_ {P:Prop} (h:P):v2I P:=h
end Go.Proofs.YtmffocankommaaaGreatDoorY
