/- Printed walks: what each function of the program computes. Condition: the Lean function gives a value. -/
import Derived.Test.YtmffocankommaaaGreatDoorCYZed
import Derived.Test.YtmffocankommaaaGreatDoorProg
import Derived.Below
import Derived.Deep.Draws
import Derived.Deep.AppendLies
import Derived.Maps.AppendAt
import Derived.OwnWalk
import Derived.Laws.BytesArg
import Derived.Laws.MakeOwn
import Derived.Laws.OwnMore
import Derived.Deep.OwnRows
import Derived.Tactics
import Derived.Lib.ConvBytes
import Derived.Laws.Slices
import Derived.WalkKit
import Derived.KernelRfl
import Derived.RowKit3
import Derived.Deep.LoopGhost
import Derived.Deep.QuietTactic
import Derived.BigQuiet
import Derived.WideLaws
import Derived.Deep.DeepCutAuto
import Derived.Deep.CutBlock
import Derived.Deep.RegionHeld3
import Derived.Laws.Rows
import Derived.Lib.AppendStr
import Derived.ArgAppend
import Derived.Laws.IdiomCopy
import Derived.OrdersHeld
import Derived.Laws.BitsLemmas
import Derived.RowKit
import Derived.Test.YtmffocankommaaaGreatDoorCShelf
import Derived.Shelf.Spec.SlicesGrow
import Derived.Test.YtmffocankommaaaGreatDoorCWWords
import Derived.Test.YtmffocankommaaaGreatDoorCWLast
import Derived.Test.YtmffocankommaaaGreatDoorCWTab
import Derived.Test.YtmffocankommaaaGreatDoorCWApart
import Derived.Test.YtmffocankommaaaGreatDoorCWFoot
import Derived.Test.YtmffocankommaaaGreatDoorCWKept
import Derived.Test.YtmffocankommaaaGreatDoorCWShare
import Derived.Test.YtmffocankommaaaGreatDoorCWN
import Derived.Test.YtmffocankommaaaGreatDoorCWFootNe
import Derived.Laws.StructEq
import Derived.Test.YtmffocankommaaaGreatDoorCWRepsOne
import Derived.Test.YtmffocankommaaaGreatDoorCWInv
import Derived.Test.YtmffocankommaaaGreatDoorCWGuard
import Derived.Test.YtmffocankommaaaGreatDoorCWNEv
import Derived.Test.YtmffocankommaaaGreatDoorCWMore
import Derived.Test.YtmffocankommaaaGreatDoorCYWords
import Derived.Test.YtmffocankommaaaGreatDoorCYShort
namespace Go.Proofs.YtmffocankommaaaGreatDoor.B
open Go.RowKit Go.Proofs.YtmffocankommaaaGreatDoorW.PrintWords Go.Proofs.YtmffocankommaaaGreatDoorW.PrintLast Go.Proofs.YtmffocankommaaaGreatDoorW.PrintMore Go.Proofs.YtmffocankommaaaGreatDoorY Go.Proofs.YtmffocankommaaaGreatDoorS Go.Proofs.YtmffocankommaaaGreatDoorS
attribute [local go_sem] q1v q1N q1O q2f q2h q1D q1C q1P q1Q
set_option linter.unusedVariables false
set_option linter.unusedSimpArgs false
set_option maxHeartbeats 8000000
set_option maxRecDepth 100000
def errW:Option Int → Value
 | none=>.nilIface
 | some c=>.iface 0 (.int .i64 c)
theorem q6m:errW none = .nilIface:=rfl
theorem q6a (c:Int):errW (some c) = .iface 0 (.int .i64 c):=rfl

theorem q2J:(Tryz.prog.info? 9).map (fun i=>(i.zero,i.size,i.bytes)) = some (some (.string ⟨#[]⟩),1,16):=by kernel_rfl
theorem q7k:(Tryz.prog.info? 28).map (fun i=>(i.zero,i.size,i.bytes)) = some (some (.agg #[(.int .i64 0),(.string ⟨#[]⟩),(.int .i64 0),(.slice none 0 0)]),4,56):=by kernel_rfl
theorem q7m:(Tryz.prog.info? 43).map (fun i=>(i.zero,i.size,i.bytes)) = some (some (.slice none 0 0),1,24):=by kernel_rfl
theorem info61:(Tryz.prog.info? 61).map (fun i=>(i.zero,i.size,i.bytes)) = some (some (.agg #[(.int .i64 0),(.string ⟨#[]⟩),(.int .i64 0)]),3,32):=by kernel_rfl
theorem info68:(Tryz.prog.info? 68).map (fun i=>(i.zero,i.size,i.bytes)) = some (some (.agg #[(.string ⟨#[]⟩),(.int .i64 0),(.string ⟨#[]⟩),(.int .i64 0),(.slice none 0 0)]),5,72):=by kernel_rfl
structure S61 where
 f0:Int
 f1:ByteArray
 f2:Int
def z61:S61:=⟨(0:Int),(⟨#[]⟩:ByteArray),(0:Int)⟩
def k61:Kd S61:=Kd.iso (Kd.pair (Kd.int .i64) (Kd.pair Kd.string (Kd.int .i64))) (fun x:S61=>(x.f0,x.f1,x.f2))
theorem q8F {w:World} {x:S61} {cs:List Value} (h:k61.K w x cs):cs = [.int .i64 x.f0,.string x.f1,.int .i64 x.f2]:=by
 obtain ⟨_,_,rfl,rfl,⟨_,_,rfl,rfl,rfl⟩⟩:=h;exact rfl
theorem k61_mkM (w:World) (base:Nat) (ok:Nat → Prop) (x:S61)  : k61.M w base ok x [.int .i64 x.f0,.string x.f1,.int .i64 x.f2]:=⟨[.int .i64 x.f0],[.string x.f1,.int .i64 x.f2],rfl,rfl,⟨[.string x.f1],[.int .i64 x.f2],rfl,rfl,rfl⟩⟩
def q3e (xs:List S61) (i:Int):S61:=xs.getD i.toNat z61
theorem q7j {w:World} {A:Option Addr} {n:Nat} {xs:List S61} (h:Kd.C k61 w A n xs) (i:Int) (h0:0≤i) (h1:i < n):∃ ad,A = some ad∧w.cell? (ad.add (i.toNat * 3)) = some (.int .i64 (q3e xs i).f0)∧w.cell? ⟨(ad.add (i.toNat * 3)).block,(ad.add (i.toNat * 3)).off + 1,none⟩ = some (.string (q3e xs i).f1)∧w.cell? ⟨(ad.add (i.toNat * 3)).block,(ad.add (i.toNat * 3)).off + 2,none⟩ = some (.int .i64 (q3e xs i).f2):=by
 obtain ⟨ad,c,e,_,hK,aA⟩:=Kd.C_get h z61 i h0 h1;have hc:∀ j u,c[j]? = some u → w.cell? (ad.add (i.toNat * 3 + j)) = some u:=aA;obtain rfl:=q8F hK;exact ⟨ad,e,hc 0 _ rfl,X0,X1⟩

structure S28 where
 f0:Int
 f1:ByteArray
 f2:Int
 f3:(List S28)
def z28:S28:=⟨(0:Int),(⟨#[]⟩:ByteArray),(0:Int),([]:List S28)⟩
def F28 (d:Kd S28):Kd S28:=Kd.iso (Kd.pair (Kd.int .i64) (Kd.pair Kd.string (Kd.pair (Kd.int .i64) (Kd.slice 28 d)))) (fun x:S28=>(x.f0,x.f1,x.f2,x.f3))
theorem q7l:Kd.Mono F28:=Kd.mono_iso _ (Kd.mono_pair (Kd.mono_const _) (Kd.mono_pair (Kd.mono_const _) (Kd.mono_pair (Kd.mono_const _) (Kd.mono_slice 28 Kd.mono_id))))
theorem sub28:Kd.Sub F28 [28]:=Kd.sub_iso _ (Kd.sub_pair (Kd.sub_const _ (by decide)) (Kd.sub_pair (Kd.sub_const _ (by decide)) (Kd.sub_pair (Kd.sub_const _ (by decide)) (Kd.sub_slice 28 (by decide) Kd.sub_id))))
theorem sz28:∀ n,(Kd.upto F28 4 [28] n).sz = 4:=Kd.upto_sz (fun _=>rfl)
def k28:Kd S28:=Kd.fix F28 4 [28] sz28 (Kd.upto_E sub28)
theorem q3Y {w:World} {x:S28} {cs:List Value} (h:k28.K w x cs):∃ A3 c3,cs = [.int .i64 x.f0,.string x.f1,.int .i64 x.f2,.slice A3 x.f3.length c3]∧x.f3.length≤c3∧k28.C w A3 x.f3.length x.f3:=by
 obtain ⟨n,h⟩:=h;cases n with
 | zero=>exact h.elim
 | succ n=>
  obtain ⟨_,_,rfl,rfl,⟨_,_,rfl,rfl,⟨_,_,rfl,rfl,⟨A3,c3,rfl,l3,g3⟩⟩⟩⟩:=h;exact ⟨A3,c3,rfl,l3,Kd.fix_C g3⟩
theorem q8e (w:World) (x:S28) {A3:Option Addr} {c3:Nat} (l3:x.f3.length≤c3) (g3:k28.C w A3 x.f3.length x.f3):k28.K w x [.int .i64 x.f0,.string x.f1,.int .i64 x.f2,.slice A3 x.f3.length c3]:=by
 obtain ⟨n3,q3⟩:=Kd.fix_C_back q7l g3;have r3:=Kd.upto_C_le q7l sz28 (show n3≤n3 by omega) q3;exact ⟨n3 + 1,⟨[.int .i64 x.f0],[.string x.f1,.int .i64 x.f2,.slice A3 x.f3.length c3],rfl,rfl,⟨[.string x.f1],[.int .i64 x.f2,.slice A3 x.f3.length c3],rfl,rfl,⟨[.int .i64 x.f2],[.slice A3 x.f3.length c3],rfl,rfl,⟨A3,c3,rfl,l3,r3⟩⟩⟩⟩⟩
theorem k28_mkM (w:World) (base:Nat) (ok:Nat → Prop) (x:S28) {v3:Value} (g3:k28.R 28 w base ok v3 x.f3):k28.M w base ok x [.int .i64 x.f0,.string x.f1,.int .i64 x.f2,v3]:=by
 obtain ⟨n3,q3⟩:=Kd.fix_R_back q7l g3;have r3:=Kd.upto_R_le q7l sz28 (show n3≤n3 by omega) q3;exact ⟨n3 + 1,⟨[.int .i64 x.f0],[.string x.f1,.int .i64 x.f2,v3],rfl,rfl,⟨[.string x.f1],[.int .i64 x.f2,v3],rfl,rfl,⟨[.int .i64 x.f2],[v3],rfl,rfl,⟨v3,rfl,r3⟩⟩⟩⟩⟩
theorem q4h {W:World} {ok:Nat → Prop} {x:S28} {cs:List Value} (h:Kd.FK k28 W ok x cs):∃ A3 c3,cs = [.int .i64 x.f0,.string x.f1,.int .i64 x.f2,.slice A3 x.f3.length c3]∧x.f3.length≤c3∧Kd.F k28 W ok A3 x.f3.length x.f3:=by
 obtain ⟨A3,c3,rfl,l3,_⟩:=q3Y (Kd.FK_now h);exact ⟨A3,c3,rfl,l3,(fun W' hW=>by obtain ⟨aA,aC,he,l3_,aD⟩:=q3Y (h W' hW);injection (Option.some.inj (show some (Value.slice A3 x.f3.length c3) = some (Value.slice aA x.f3.length aC) from congrArg (fun l=>l[3]?) he)) with ha_ _ _;rw [ha_];exact aD)⟩
theorem q4o (W:World) (ok:Nat → Prop) (x:S28) {A3:Option Addr} {c3:Nat} (l3:x.f3.length≤c3) (g3:Kd.F k28 W ok A3 x.f3.length x.f3):Kd.FK k28 W ok x [.int .i64 x.f0,.string x.f1,.int .i64 x.f2,.slice A3 x.f3.length c3]:=fun W2 hW=>q8e W2 x l3 (g3 W2 hW)
def q0b (xs:List S28) (i:Int):S28:=xs.getD i.toNat z28
theorem q2w {w:World} {A:Option Addr} {n:Nat} {xs:List S28} (h:Kd.C k28 w A n xs) (i:Int) (h0:0≤i) (h1:i < n):∃ ad A3 c3,A = some ad∧w.cell? (ad.add (i.toNat * 4)) = some (.int .i64 (q0b xs i).f0)∧w.cell? ⟨(ad.add (i.toNat * 4)).block,(ad.add (i.toNat * 4)).off + 1,none⟩ = some (.string (q0b xs i).f1)∧w.cell? ⟨(ad.add (i.toNat * 4)).block,(ad.add (i.toNat * 4)).off + 2,none⟩ = some (.int .i64 (q0b xs i).f2)∧w.cell? ⟨(ad.add (i.toNat * 4)).block,(ad.add (i.toNat * 4)).off + 3,none⟩ = some (.slice A3 (q0b xs i).f3.length c3)∧(q0b xs i).f3.length≤c3∧k28.C w A3 (q0b xs i).f3.length (q0b xs i).f3:=by
 obtain ⟨ad,c,e,_,hK,aA⟩:=Kd.C_get h z28 i h0 h1;have hc:∀ j u,c[j]? = some u → w.cell? (ad.add (i.toNat * 4 + j)) = some u:=aA;obtain ⟨A3,c3,rfl,l3,g3⟩:=q3Y hK;exact ⟨ad,A3,c3,e,hc 0 _ rfl,X0,X1,X2,l3,g3⟩

structure S68 where
 f0:ByteArray
 f1:S28
def z68:S68:=⟨(⟨#[]⟩:ByteArray),z28⟩
def k68:Kd S68:=Kd.iso (Kd.pair Kd.string k28) (fun x:S68=>(x.f0,x.f1))
theorem q8J {w:World} {x:S68} {cs:List Value} (h:k68.K w x cs):∃ A4 c4,cs = [.string x.f0,.int .i64 x.f1.f0,.string x.f1.f1,.int .i64 x.f1.f2,.slice A4 x.f1.f3.length c4]∧x.f1.f3.length≤c4∧k28.C w A4 x.f1.f3.length x.f1.f3:=by
 obtain ⟨_,_,rfl,rfl,s1⟩:=h;obtain ⟨A4,c4,rfl,l4,g4⟩:=q3Y s1;exact ⟨A4,c4,rfl,l4,g4⟩
theorem k68_mk (w:World) (x:S68) {A4:Option Addr} {c4:Nat} (l4:x.f1.f3.length≤c4) (g4:k28.C w A4 x.f1.f3.length x.f1.f3):k68.K w x [.string x.f0,.int .i64 x.f1.f0,.string x.f1.f1,.int .i64 x.f1.f2,.slice A4 x.f1.f3.length c4]:=⟨[.string x.f0],[.int .i64 x.f1.f0,.string x.f1.f1,.int .i64 x.f1.f2,.slice A4 x.f1.f3.length c4],rfl,rfl,(q8e w x.f1 l4 g4)⟩
theorem k68_mkF (W:World) (ok:Nat → Prop) (x:S68) {A4:Option Addr} {c4:Nat} (l4:x.f1.f3.length≤c4) (g4:Kd.F k28 W ok A4 x.f1.f3.length x.f1.f3):Kd.FK k68 W ok x [.string x.f0,.int .i64 x.f1.f0,.string x.f1.f1,.int .i64 x.f1.f2,.slice A4 x.f1.f3.length c4]:=fun W2 hW=>k68_mk W2 x l4 (g4 W2 hW)
def q2A (xs:List S68) (i:Int):S68:=xs.getD i.toNat z68
theorem at_T68 {w:World} {A:Option Addr} {n:Nat} {xs:List S68} (h:Kd.C k68 w A n xs) (i:Int) (h0:0≤i) (h1:i < n):∃ ad A4 c4,A = some ad∧w.cell? (ad.add (i.toNat * 5)) = some (.string (q2A xs i).f0)∧w.cell? ⟨(ad.add (i.toNat * 5)).block,(ad.add (i.toNat * 5)).off + 1,none⟩ = some (.int .i64 (q2A xs i).f1.f0)∧w.cell? ⟨(ad.add (i.toNat * 5)).block,(ad.add (i.toNat * 5)).off + 2,none⟩ = some (.string (q2A xs i).f1.f1)∧w.cell? ⟨(ad.add (i.toNat * 5)).block,(ad.add (i.toNat * 5)).off + 3,none⟩ = some (.int .i64 (q2A xs i).f1.f2)∧w.cell? ⟨(ad.add (i.toNat * 5)).block,(ad.add (i.toNat * 5)).off + 4,none⟩ = some (.slice A4 (q2A xs i).f1.f3.length c4)∧(q2A xs i).f1.f3.length≤c4∧k28.C w A4 (q2A xs i).f1.f3.length (q2A xs i).f1.f3:=by
 obtain ⟨ad,c,e,_,hK,aA⟩:=Kd.C_get h z68 i h0 h1;have hc:∀ j u,c[j]? = some u → w.cell? (ad.add (i.toNat * 5 + j)) = some u:=aA;obtain ⟨A4,c4,rfl,l4,g4⟩:=q8J hK;exact ⟨ad,A4,c4,e,hc 0 _ rfl,X0,X1,X2,by rw [← q3j _ _ 4 (by omega)];exact hc 4 _ rfl,l4,g4⟩

structure S70 where
 f0:ByteArray
 f1:Int
 f2:Int
def k70:Kd S70:=Kd.iso (Kd.pair Kd.string (Kd.pair (Kd.int .i64) (Kd.int .i64))) (fun x:S70=>(x.f0,x.f1,x.f2))
def q1X (xs:List (List ByteArray)) (i:Int):(List ByteArray):=xs.getD i.toNat ([]:List ByteArray)
theorem q5i {w:World} {A:Option Addr} {n:Nat} {xs:List (List ByteArray)} (h:Kd.C (Kd.slice 9 Kd.string) w A n xs) (i:Int) (h0:0≤i) (h1:i < n):∃ ad A0 c0,A = some ad∧w.cell? (ad.add i.toNat) = some (.slice A0 (q1X xs i).length c0)∧(q1X xs i).length≤c0∧Kd.string.C w A0 (q1X xs i).length (q1X xs i):=by
 obtain ⟨ad,c,e,_,hK,aA⟩:=Kd.C_get h ([]:List ByteArray) i h0 h1;have hc:∀ j u,c[j]? = some u → w.cell? (ad.add (i.toNat * 1 + j)) = some u:=aA;obtain ⟨A0,c0,rfl,l0,g0⟩:=hK;exact ⟨ad,A0,c0,e,X3,l0,g0⟩

structure S30 where
 f0:ByteArray
 f1:(List S68)
 f2:(List S70)
 f3:(List (List ByteArray))
 f4:S28
def q1L.f (a0:Int):Option (Bool):=if a0≥97 then (some (decide (a0≤122))) else (some false)
theorem q1L.calls (a0:Int) (r:Bool) (w:World) (h:q1L.f a0 = some r) :
  Calls Tryz.prog 80 #[.int .u8 a0] w fun e w'=>e = .returned (.bool r)∧q1Y w w':=by
 have H:=h;clear h;unfold q1L.f at H;by_cases c2:a0≥97
 ·rw [if_pos c2] at H;have c2b0:decide (97≤a0) = true:=decide_eq_true c2;clear c2;obtain rfl:=Option.some.inj H;go_enter Tryz.func80,Tryz.ntmps80;go_wp2
  go_ret
  exact ⟨X4,X5⟩
 ·rw [if_neg c2] at H;have c2b0:decide (97≤a0) = false:=decide_eq_false c2;clear c2;obtain rfl:=Option.some.inj H;go_enter Tryz.func80,Tryz.ntmps80;go_wp2
  go_ret
  exact ⟨X4,X5⟩

def q1R.f (a0:Int):Option (Bool):=if a0≥48 then (some (decide (a0≤57))) else (some false)
theorem q1R.calls (a0:Int) (r:Bool) (w:World) (h:q1R.f a0 = some r) :
  Calls Tryz.prog 82 #[.int .u8 a0] w fun e w'=>e = .returned (.bool r)∧q1Y w w':=by
 have H:=h;clear h;unfold q1R.f at H;by_cases c2:a0≥48
 ·rw [if_pos c2] at H;have c2b0:decide (48≤a0) = true:=decide_eq_true c2;clear c2;obtain rfl:=Option.some.inj H;go_enter Tryz.func82,Tryz.ntmps82;go_wp2
  go_ret
  exact ⟨X4,X5⟩
 ·rw [if_neg c2] at H;have c2b0:decide (48≤a0) = false:=decide_eq_false c2;clear c2;obtain rfl:=Option.some.inj H;go_enter Tryz.func82,Tryz.ntmps82;go_wp2
  go_ret
  exact ⟨X4,X5⟩

mutual
def q0E.j0:Nat → ByteArray → Bool → Option (Int)
 | 0,_,_=>none
 | k + 1,x0,aA=>if aA = true then (some 0) else (q0E.l0 k x0 1)
def q0E.l0:Nat → ByteArray → Int → Option (Int)
 | 0,_,_=>none
 | k + 1,x0,x3=>if x3 < (x0.size:Int) then (if 0≤x3 then ((q1L.f (bt x0 x3)).bind fun aA=>(if aA = true then (q0E.j2 k x0 x3 (bt x0 x3) true) else ((q1R.f (bt x0 x3)).bind fun aC=>(q0E.j2 k x0 x3 (bt x0 x3) aC)))) else (none)) else (some x3)
def q0E.j2:Nat → ByteArray → Int → Int → Bool → Option (Int)
 | 0,_,_,_,_=>none
 | k + 1,x0,x3,x4,aA=>if aA = true then (q0E.l0 k x0 (wrap64 (x3 + 1))) else (if x4 = 45 then (if (wrap64 (x3 + 1)) < (x0.size:Int) then (if 0≤(wrap64 (x3 + 1)) then ((q1L.f (bt x0 (wrap64 (x3 + 1)))).bind fun aC=>(if aC = true then (q0E.l0 k x0 (wrap64 (x3 + 2))) else ((q1R.f (bt x0 (wrap64 (x3 + 1)))).bind fun aD=>(if aD = true then (q0E.l0 k x0 (wrap64 (x3 + 2))) else (some x3))))) else (none)) else (some x3)) else (some x3))
end
def q0E.f (k:Nat) (a0:ByteArray):Option (Int):=if a0.toList = ([]:List UInt8) then (q0E.j0 k a0 true) else (if 0 < (a0.size:Int) then ((q1L.f (bt a0 0)).bind fun aA=>(q0E.j0 k a0 (!aA))) else (none))
theorem q0E.mono_l:∀ k,(∀ y0 y1,LeO (q0E.j0 k y0 y1) (q0E.j0 (k + 1) y0 y1))∧(∀ y0 y1,LeO (q0E.l0 k y0 y1) (q0E.l0 (k + 1) y0 y1))∧(∀ y0 y1 y2 y3,LeO (q0E.j2 k y0 y1 y2 y3) (q0E.j2 (k + 1) y0 y1 y2 y3))
 | 0=>⟨fun _ _ r h=>by simp [q0E.j0] at h,fun _ _ r h=>by simp [q0E.l0] at h,fun _ _ _ _ r h=>by simp [q0E.j2] at h⟩
 | k + 1=>by
  obtain ⟨aA,aC,aD⟩:=q0E.mono_l k;refine ⟨?_,?_,?_⟩
  ·intro y0 y1;unfold q0E.j0;exact X6
  ·intro y0 y1;unfold q0E.l0;exact X6
  ·intro y0 y1 y2 y3;unfold q0E.j2;exact X6
theorem q0E.mono:∀ a0 k,LeO (q0E.f k a0) (q0E.f (k + 1) a0):=by
 intro a0 k;obtain ⟨aA,aC,aD⟩:=q0E.mono_l k;unfold q0E.f;exact X6
theorem q0E.calls (k:Nat) (a0:ByteArray) (r:Int) (w:World) (h:q0E.f k a0 = some r) :
  Calls Tryz.prog 81 #[.string a0] w fun e w'=>e = .returned (.int .i64 r)∧q1Y w w':=by
 have H:=h;clear h;unfold q0E.f at H;have aA:=am H;clear H;go_enter Tryz.func81,Tryz.ntmps81;go_upto_region 1 with (fail)
 go_cut [12] (fun aC wc=>∃ (kq:Nat) (aD:Bool),aC = .bool aD∧q0c (q0E.j0 kq a0 aD = some r)∧q0c (kq≤k)∧q1Y w wc)
 case first=>
  have H:=aA.out;clear aA;by_cases c3:a0.toList = ([]:List UInt8)
  ·rw [if_pos c3] at H;have c3b0:=eT c3;have c3b1:=eF c3;clear c3;(first | rw [c3b0]|(simp only [q2G,q2L];rw [c3b0]) | skip);have H':=am H;clear H;go_wp2
   go_meet
   case rel=>exact ⟨_,(true),X4,H',⟨X7⟩,X5⟩
  ·rw [if_neg c3] at H;have c3b0:=nF c3;have c3b1:=nT c3;(first | rw [c3b0]|(simp only [q2G,q2L];rw [c3b0]) | skip);by_cases c4:0 < (a0.size:Int)
   ·rw [if_pos c4] at H;have c4b0:=dT c4;have c4b1:decide (0 < a0.size) = true:=decide_eq_true (by omega);clear c4;obtain ⟨aE,aG,H⟩:=oB H;(try dsimp only at H);have A6:=am aG;clear aG;have H':=am H;clear H;have p5:0≤(0:Int):=(by omega);have q5:0 < a0.size:=(by have:(0:Int) < (a0.size:Int):=of_decide_eq_true X8;omega);have aH:∀ h:0 < a0.size,((a0[0]'h).toNat:Int) = bt a0 0:=q2C a0 0;clear p5;have aI:(0 < (a0.size:Int)) = True:=eq_true (of_decide_eq_true X8);replace q5:=eq_true q5;go_wp2_with (first|(go_at_call 80;(with_reducible refine (q1L.calls (bt a0 0) aE _ A6.out).mono ?_);rintro e w' ⟨rfl,⟨nd,rfl⟩⟩))
    go_meet
    case rel=>exact ⟨_,(!aE),X4,H',⟨X7⟩,X5⟩
   ·exact iN c4 H
 case rest=>
  clear aA;(try clear p2 c3 c3b0 c3b1 c4 c4b0 c4b1);(try clear p5 p5);(try clear q5 q5);(try clear aH aI);obtain ⟨kq,aD,rfl,HA,aJ,⟨mc1,rfl⟩⟩:=hcut;cases kq with
  | zero=>exact absurd HA.out (by simp [q0E.j0])
  | succ aK=>
   have H:=HA.out;clear HA;simp only [q0E.j0] at H;by_cases c7:aD = true
   ·subst c7;replace H:=tP H;obtain rfl:=Option.some.inj H;go_wp2
    go_ret
    exact ⟨X4,X5⟩
   ·replace c7:=Bool.eq_false_iff.mpr c7;subst c7;replace H:=tN H;have H':=am H;clear H;go_wp2
    go_loopg [3] aK (fun kq v3 w'=>∃ (aM:Int),v3 = .int .i64 aM∧q0c (q0E.l0 kq a0 aM = some r)∧q0c (kq≤aK)∧q1Y w w')
    case atStart=>exact ⟨(1),X4,H',⟨Nat.le_refl _⟩,X5⟩
    case round=>
     clear H';(try clear c1);(try clear p2 p2);(try clear c3 c3b0 c3b1 c4 c4b0 c4b1);(try clear p5 p5);(try clear q5 q5);(try clear aH aI c7);obtain ⟨aM,rfl,HA,aQ,⟨m2,rfl⟩⟩:=hrel;cases gk with
     | zero=>exact absurd HA.out (by simp [q0E.l0])
     | succ k2=>
      have H:=HA.out;clear HA;simp only [q0E.l0] at H;by_cases c8:aM < (a0.size:Int)
      ·rw [if_pos c8] at H;have c8b0:=dT c8;clear c8;by_cases c9:0≤aM
       ·rw [if_pos c9] at H;have c9b0:=dT c9;clear c9;have aT:=am H;clear H;have aU:0≤(aM:Int):=of_decide_eq_true X8;have aW:aM < (a0.size:Int):=of_decide_eq_true X8;have aX:=q2C a0 aM;replace aU:=eq_true aU;replace aW:=eq_true aW;go_upto_region 7 with (fail)
        go_cut [21] (fun aY wc=>∃ (kq:Nat) (aZ:Bool),aY = .bool aZ∧q0c (q0E.j2 kq a0 aM (bt a0 aM) aZ = some r)∧q0c (kq≤k2)∧q1Y w wc)
        case first=>
         have H:=aT.out;clear aT;obtain ⟨bA,bB,H⟩:=oB H;(try dsimp only at H);have bC:=am bB;clear bB;by_cases bD:bA = true
         ·subst bD;replace H:=tP H;have H':=am H;clear H;go_wp2_with (first|((with_reducible refine gc 80 ?_);refine gL (some 23) Tryz.func80 #[.int .u8 (bt a0 aM)] ?_;(with_reducible refine (q1L.calls (bt a0 aM) true _ bC.out).mono ?_);rintro e w' ⟨rfl,⟨nd,rfl⟩⟩;refine ⟨_,rfl,?_⟩))
          go_meet
          case rel=>exact ⟨_,(true),X4,H',⟨X9⟩,X5⟩
         ·replace bD:=Bool.eq_false_iff.mpr bD;subst bD;replace H:=tN H;obtain ⟨bE,bF,H⟩:=oB H;(try dsimp only at H);have bG:=am bF;clear bF;have H':=am H;clear H;go_wp2_with (first|((with_reducible refine gc 80 ?_);refine gL (some 23) Tryz.func80 #[.int .u8 (bt a0 aM)] ?_;(with_reducible refine (q1L.calls (bt a0 aM) false _ bC.out).mono ?_);rintro e w' ⟨rfl,⟨nd,rfl⟩⟩;refine ⟨_,rfl,?_⟩)|(go_at_call 82;(with_reducible refine (q1R.calls (bt a0 aM) bE _ bG.out).mono ?_);rintro e w' ⟨rfl,⟨nd,rfl⟩⟩))
          go_meet
          case rel=>exact ⟨_,(bE),X4,H',⟨X9⟩,X5⟩
        case rest=>
         clear aT;(try clear c1 p1 q1 hx1);(try clear p2 p2);(try clear c3 c3b0 c3b1 c4 c4b0 c4b1);(try clear p5 p5);(try clear q5 q5);(try clear aH aI c7 c8 c8b0 c9 c9b0);(try clear aU aU);(try clear aW aW);(try clear aX bD);obtain ⟨kq,aZ,rfl,HA,bH,⟨mc10,rfl⟩⟩:=hcut;cases kq with
         | zero=>exact absurd HA.out (by simp [q0E.j2])
         | succ bI=>
          have H:=HA.out;clear HA;simp only [q0E.j2] at H;by_cases bJ:aZ = true
          ·subst bJ;replace H:=tP H;have H':=am H;clear H;go_wp2
           go_roundg bI
           case measure=>have:=aJ.out;have:=aQ.out;have:=bH.out;omega
           case rel=>exact ⟨(wrap64 (aM + 1)),X4,H',⟨X10⟩,X5⟩
          ·replace bJ:=Bool.eq_false_iff.mpr bJ;subst bJ;replace H:=tN H;by_cases bK:(bt a0 aM) = 45
           ·rw [if_pos bK] at H;have c16b0:=eT bK;have c16b1:=eF bK;clear bK;by_cases bL:(wrap64 (aM + 1)) < (a0.size:Int)
            ·rw [if_pos bL] at H;have c17b0:=dT bL;clear bL;obtain ⟨bM,bN⟩:∃ j_:Int,(wrap64 (aM + 1)) = j_:=⟨_,rfl⟩;replace H:(if 0≤(bM) then ((q1L.f (bt a0 (bM))).bind fun bO=>(if bO = true then (q0E.l0 bI a0 (wrap64 (aM + 2))) else ((q1R.f (bt a0 (bM))).bind fun bP=>(if bP = true then (q0E.l0 bI a0 (wrap64 (aM + 2))) else (some aM))))) else (none)) = some r:=by first|(rw [bN] at H;exact H)|(simp only [bN] at H ⊢;exact H)
             (try rw [bN] at c17b0);have hji18w:(IntKind.i64.wrap (aM + 1)) = bM:=(q2G _).trans bN;by_cases bQ:0≤(bM)
             ·rw [if_pos bQ] at H;have c19b0:=dT bQ;clear bQ;obtain ⟨bO,bR,H⟩:=oB H;(try dsimp only at H);have bT:=am bR;clear bR;by_cases bU:bO = true
              ·subst bU;replace H:=tP H;have H':=am H;clear H;have bV:0≤((bM):Int):=of_decide_eq_true X8;have bW:(bM) < (a0.size:Int):=of_decide_eq_true X8;have bX:=q2C a0 (bM);replace bV:=eq_true bV;replace bW:=eq_true bW;go_wp2_with (first|(go_at_call 80;(with_reducible refine (q1L.calls (bt a0 (bM)) true _ bT.out).mono ?_);rintro e w' ⟨rfl,⟨nd,rfl⟩⟩))
               go_roundg bI
               case measure=>have:=aJ.out;have:=aQ.out;have:=bH.out;omega
               case rel=>exact ⟨(wrap64 (aM + 2)),X4,H',⟨X10⟩,X5⟩
              ·replace bU:=Bool.eq_false_iff.mpr bU;subst bU;replace H:=tN H;obtain ⟨bP,bY,H⟩:=oB H;(try dsimp only at H);have bZ:=am bY;clear bY;by_cases cA:bP = true
               ·subst cA;replace H:=tP H;have H':=am H;clear H;have bV:0≤((bM):Int):=of_decide_eq_true X8;have bW:(bM) < (a0.size:Int):=of_decide_eq_true X8;have bX:=q2C a0 (bM);replace bV:=eq_true bV;replace bW:=eq_true bW;go_wp2_with (first|(go_at_call 80;(with_reducible refine (q1L.calls (bt a0 (bM)) false _ bT.out).mono ?_);rintro e w' ⟨rfl,⟨nd,rfl⟩⟩;have cC:0≤((bM):Int):=of_decide_eq_true X8;have cD:(bM) < (a0.size:Int):=of_decide_eq_true X8;have cE:=q2C a0 (bM);replace cC:=eq_true cC;replace cD:=eq_true cD)|(go_at_call 82;(with_reducible refine (q1R.calls (bt a0 (bM)) true _ bZ.out).mono ?_);rintro e w' ⟨rfl,⟨nd,rfl⟩⟩))
                go_roundg bI
                case measure=>have:=aJ.out;have:=aQ.out;have:=bH.out;omega
                case rel=>exact ⟨(wrap64 (aM + 2)),X4,H',⟨X10⟩,X5⟩
               ·replace cA:=Bool.eq_false_iff.mpr cA;subst cA;replace H:=tN H;obtain rfl:=Option.some.inj H;have bV:0≤((bM):Int):=of_decide_eq_true X8;have bW:(bM) < (a0.size:Int):=of_decide_eq_true X8;have bX:=q2C a0 (bM);replace bV:=eq_true bV;replace bW:=eq_true bW;go_wp2_with (first|(go_at_call 80;(with_reducible refine (q1L.calls (bt a0 (bM)) false _ bT.out).mono ?_);rintro e w' ⟨rfl,⟨nd,rfl⟩⟩;have cC:0≤((bM):Int):=of_decide_eq_true X8;have cD:(bM) < (a0.size:Int):=of_decide_eq_true X8;have cE:=q2C a0 (bM);replace cC:=eq_true cC;replace cD:=eq_true cD)|(go_at_call 82;(with_reducible refine (q1R.calls (bt a0 (bM)) false _ bZ.out).mono ?_);rintro e w' ⟨rfl,⟨nd,rfl⟩⟩))
                go_ret
                exact ⟨by first | rfl|(simp;done)|(simp only [← bN] <;> (first | rfl | simp))|(simp [*];done),X5⟩
             ·exact iN bQ H
            ·rw [if_neg bL] at H;have c17b0:=dF bL;clear bL;obtain rfl:=Option.some.inj H;go_wp2
             go_ret
             exact ⟨X4,X5⟩
           ·rw [if_neg bK] at H;have c16b0:=nF bK;have c16b1:=nT bK;obtain rfl:=Option.some.inj H;go_wp2
            go_ret
            exact ⟨X4,X5⟩
       ·exact iN c9 H
      ·rw [if_neg c8] at H;have c8b0:=dF c8;clear c8;obtain rfl:=Option.some.inj H;go_wp2
       go_ret
       exact ⟨X4,X5⟩

def q1c.l0:Nat → ByteArray → Int → Option (Int)
 | 0,_,_=>none
 | k + 1,x0,x3=>if x3 < (x0.size:Int) then (if 0≤x3 then ((q1R.f (bt x0 x3)).bind fun aA=>(if aA = true then (q1c.l0 k x0 (wrap64 (x3 + 1))) else (some x3))) else (none)) else (some x3)
def q1c.f (k:Nat) (a0:ByteArray):Option (Int):=q1c.l0 k a0 0
theorem q1c.mono_l:∀ k,(∀ y0 y1,LeO (q1c.l0 k y0 y1) (q1c.l0 (k + 1) y0 y1))
 | 0=>fun _ _ r h=>by simp [q1c.l0] at h
 | k + 1=>by
  have aA:=q1c.mono_l k
  ·intro y0 y1;unfold q1c.l0;exact X11
theorem q1c.mono:∀ a0 k,LeO (q1c.f k a0) (q1c.f (k + 1) a0):=by
 intro a0 k;have aA:=q1c.mono_l k;unfold q1c.f;exact X11
theorem q1c.calls (k:Nat) (a0:ByteArray) (r:Int) (w:World) (h:q1c.f k a0 = some r) :
  Calls Tryz.prog 83 #[.string a0] w fun e w'=>e = .returned (.int .i64 r)∧q1Y w w':=by
 have H:(q1c.l0 k a0 0) = some r:=h;clear h;have H':=am H;clear H;go_enter Tryz.func83,Tryz.ntmps83;go_wp2
 go_loopg [3] k (fun kq v3 w'=>∃ (aA:Int),v3 = .int .i64 aA∧q0c (q1c.l0 kq a0 aA = some r)∧q0c (kq≤k)∧q1Y w w')
 case atStart=>exact ⟨(0),X4,H',⟨Nat.le_refl _⟩,X5⟩
 case round=>
  clear H';obtain ⟨aA,rfl,HA,aC,⟨m1,rfl⟩⟩:=hrel;cases gk with
  | zero=>exact absurd HA.out (by simp [q1c.l0])
  | succ k1=>
   have H:=HA.out;clear HA;simp only [q1c.l0] at H;by_cases c2:aA < (a0.size:Int)
   ·rw [if_pos c2] at H;have c2b0:=dT c2;clear c2;by_cases c3:0≤aA
    ·rw [if_pos c3] at H;have c3b0:=dT c3;clear c3;obtain ⟨aD,aE,H⟩:=oB H;(try dsimp only at H);have A5:=am aE;clear aE;by_cases c6:aD = true
     ·subst c6;replace H:=tP H;have H':=am H;clear H;have p4:0≤(aA:Int):=of_decide_eq_true X8;have q4:aA < (a0.size:Int):=of_decide_eq_true X8;have aG:=q2C a0 aA;replace p4:=eq_true p4;replace q4:=eq_true q4;go_wp2_with (first|(go_at_call 82;(with_reducible refine (q1R.calls (bt a0 aA) true _ A5.out).mono ?_);rintro e w' ⟨rfl,⟨nd,rfl⟩⟩))
      go_roundg k1
      case measure=>have:=aC.out;omega
      case rel=>exact ⟨(wrap64 (aA + 1)),X4,H',⟨by have:=aC.out;omega⟩,X5⟩
     ·replace c6:=Bool.eq_false_iff.mpr c6;subst c6;replace H:=tN H;obtain rfl:=Option.some.inj H;have p4:0≤(aA:Int):=of_decide_eq_true X8;have q4:aA < (a0.size:Int):=of_decide_eq_true X8;have aG:=q2C a0 aA;replace p4:=eq_true p4;replace q4:=eq_true q4;go_wp2_with (first|(go_at_call 82;(with_reducible refine (q1R.calls (bt a0 aA) false _ A5.out).mono ?_);rintro e w' ⟨rfl,⟨nd,rfl⟩⟩))
      go_ret
      exact ⟨X4,X5⟩
    ·exact iN c3 H
   ·rw [if_neg c2] at H;have c2b0:=dF c2;clear c2;obtain rfl:=Option.some.inj H;go_wp2
    go_ret
    exact ⟨X4,X5⟩

mutual
def q0Q.j0:Nat → ByteArray → Bool → Option (Int × Bool)
 | 0,_,_=>none
 | k + 1,x0,aA=>if aA = true then (some (0,false)) else (if x0.size≤9223372036854775807 then (((some (q3G x0))).bind fun aC=>(q0Q.l0 k 0 aC (aC.length:Int) 0)) else (none))
def q0Q.l0:Nat → Int → List Int → Int → Int → Option (Int × Bool)
 | 0,_,_,_,_=>none
 | k + 1,x4,aA,aC,aD=>if aD < aC then (if 0≤aD then (if aD < (aA.length:Int) then (q0Q.l0 k (wrap64 ((wrap64 (10 * x4)) + (((rd aA aD) - 48) % 256))) aA aC (wrap64 (aD + 1))) else (none)) else (none)) else (some (x4,true))
end
def q0Q.f (k:Nat) (a0:ByteArray):Option (Int × Bool):=if a0.toList = ([]:List UInt8) then (q0Q.j0 k a0 true) else (if (a0.size:Int) > 6 then (q0Q.j0 k a0 true) else ((q1c.f k a0).bind fun aA=>(if aA = (a0.size:Int) then (if (a0.size:Int) > 1 then (if 0 < (a0.size:Int) then (q0Q.j0 k a0 ((bt a0 0) == 48)) else (none)) else (q0Q.j0 k a0 false)) else (q0Q.j0 k a0 true))))
theorem q0Q.mono_l:∀ k,(∀ y0 y1,LeO (q0Q.j0 k y0 y1) (q0Q.j0 (k + 1) y0 y1))∧(∀ y0 y1 y2 y3,LeO (q0Q.l0 k y0 y1 y2 y3) (q0Q.l0 (k + 1) y0 y1 y2 y3))
 | 0=>⟨fun _ _ r h=>by simp [q0Q.j0] at h,fun _ _ _ _ r h=>by simp [q0Q.l0] at h⟩
 | k + 1=>by
  obtain ⟨aA,aC⟩:=q0Q.mono_l k;refine ⟨?_,?_⟩
  ·intro y0 y1;unfold q0Q.j0;exact X12
  ·intro y0 y1 y2 y3;unfold q0Q.l0;exact X12
theorem q0Q.mono:∀ a0 k,LeO (q0Q.f k a0) (q0Q.f (k + 1) a0):=by
 intro a0 k;obtain ⟨aA,aC⟩:=q0Q.mono_l k;unfold q0Q.f;exact X12
theorem q0Q.calls (k:Nat) (a0:ByteArray) (r1:Int) (r2:Bool) (w:World) (h:q0Q.f k a0 = some (r1,r2)) :
  Calls Tryz.prog 84 #[.string a0] w fun e w'=>e = .returned (.tuple #[.int .i64 r1,.bool r2])∧Below w.heap.size w w':=by
 have HB:=am (Below.refl w.heap.size w);have H:=h;clear h;unfold q0Q.f at H;have aA:=am H;clear H;go_enter Tryz.func84,Tryz.ntmps84;go_upto_region 1 with (fail)
 go_cut [30] (fun aC wc=>∃ (kq:Nat) (aD:Bool),aC = .bool aD∧q0c (q0Q.j0 kq a0 aD = some (r1,r2))∧q0c (kq≤k)∧q0c (Below w.heap.size w wc))
 case first=>
  have H:=aA.out;clear aA;by_cases c3:a0.toList = ([]:List UInt8)
  ·rw [if_pos c3] at H;have c3b0:=eT c3;have c3b1:=eF c3;clear c3;(first | rw [c3b0]|(simp only [q2G,q2L];rw [c3b0]) | skip);have H':=am H;clear H;go_wp2
   go_meet
   case rel=>exact ⟨_,(true),X4,H',⟨X7⟩,⟨X13⟩⟩
  ·rw [if_neg c3] at H;have c3b0:=nF c3;have c3b1:=nT c3;(first | rw [c3b0]|(simp only [q2G,q2L];rw [c3b0]) | skip);by_cases c4:(a0.size:Int) > 6
   ·rw [if_pos c4] at H;have c4b0:decide (6 < (a0.size:Int)) = true:=decide_eq_true c4;have c4b1:decide (6 < a0.size) = true:=decide_eq_true (by omega);clear c4;have H':=am H;clear H;go_wp2
    go_meet
    case rel=>exact ⟨_,(true),X4,H',⟨X7⟩,⟨X13⟩⟩
   ·rw [if_neg c4] at H;have c4b0:decide (6 < (a0.size:Int)) = false:=decide_eq_false c4;have c4b1:decide (6 < a0.size) = false:=decide_eq_false (by omega);clear c4;obtain ⟨aE,aG,H⟩:=oB H;(try dsimp only at H);have A5:=am aG;clear aG;by_cases c6:aE = (a0.size:Int)
    ·rw [if_pos c6] at H;have c6b0:=eT c6;have c6b1:=eF c6;clear c6;by_cases c7:(a0.size:Int) > 1
     ·rw [if_pos c7] at H;have c7b0:decide (1 < (a0.size:Int)) = true:=decide_eq_true c7;have c7b1:decide (1 < a0.size) = true:=decide_eq_true (by omega);clear c7;by_cases c8:0 < (a0.size:Int)
      ·rw [if_pos c8] at H;have c8b0:=dT c8;have c8b1:decide (0 < a0.size) = true:=decide_eq_true (by omega);clear c8;have H':=am H;clear H;go_wp2_with (first|(go_at_call 83;(with_reducible refine (q1c.calls k a0 aE _ A5.out).mono ?_);rintro e w' ⟨rfl,⟨nd,rfl⟩⟩;have p9:0≤(0:Int):=(by omega);have q9:0 < a0.size:=(by have:(0:Int) < (a0.size:Int):=of_decide_eq_true X8;omega);have aH:∀ h:0 < a0.size,((a0[0]'h).toNat:Int) = bt a0 0:=q2C a0 0;clear p9;have aI:(0 < (a0.size:Int)) = True:=eq_true (of_decide_eq_true X8);replace q9:=eq_true q9))
       go_meet
       case rel=>exact ⟨_,(((bt a0 0) == 48)),X4,H',⟨X7⟩,⟨X13⟩⟩
      ·exact iN c8 H
     ·rw [if_neg c7] at H;have c7b0:decide (1 < (a0.size:Int)) = false:=decide_eq_false c7;have c7b1:decide (1 < a0.size) = false:=decide_eq_false (by omega);clear c7;have H':=am H;clear H;go_wp2_with (first|(go_at_call 83;(with_reducible refine (q1c.calls k a0 aE _ A5.out).mono ?_);rintro e w' ⟨rfl,⟨nd,rfl⟩⟩))
      go_meet
      case rel=>exact ⟨_,(false),X4,H',⟨X7⟩,⟨X13⟩⟩
    ·rw [if_neg c6] at H;have c6b0:=nF c6;have c6b1:=nT c6;have H':=am H;clear H;go_wp2_with (first|(go_at_call 83;(with_reducible refine (q1c.calls k a0 aE _ A5.out).mono ?_);rintro e w' ⟨rfl,⟨nd,rfl⟩⟩))
     go_meet
     case rel=>exact ⟨_,(true),X4,H',⟨X7⟩,⟨X13⟩⟩
 case rest=>
  clear aA;(try clear p2 c3 c3b0 c3b1 c4 c4b0 c4b1 c6 c6b0 c6b1 c7 c7b0 c7b1 c8 c8b0 c8b1);(try clear p9 p9);(try clear q9 q9);(try clear aH aI);obtain ⟨kq,aD,rfl,HA,aJ,HB⟩:=hcut;cases kq with
  | zero=>exact absurd HA.out (by simp [q0Q.j0])
  | succ aK=>
   have H:=HA.out;clear HA;simp only [q0Q.j0] at H;by_cases c10:aD = true
   ·subst c10;replace H:=tP H;simp only [Option.some.injEq,Prod.mk.injEq] at H;obtain ⟨rfl,rfl⟩:=H;go_wp2
    go_ret2
    exact ⟨X14,X13⟩
   ·replace c10:=Bool.eq_false_iff.mpr c10;subst c10;replace H:=tN H;by_cases aM:a0.size≤9223372036854775807
    ·rw [if_pos aM] at H;have c11b0:=eq_true aM;have c11b1:=dT aM;try have c11b2:(9223372036854775807 < a0.size) = False:=eq_false (Nat.not_lt.2 aM)
     clear aM;obtain ⟨aQ,aT,H⟩:=oB H;(try dsimp only at H);have aU:=am aT;clear aT;have H':=am H;clear H;go_wp2_with (first|(refine convU_ ?_;refine (q8I (P:=Tryz.prog) 9 72 5 Tryz.underlying9 Tryz.underlying72 Tryz.underlying5 a0 (by first | assumption | omega|(have:=of_decide_eq_true (by assumption);omega)) _ aU.out _).mono ?_;rintro e w13 ⟨v109,rfl,aW,hb⟩;refine ⟨_,rfl,?_⟩;have aX:=am (Kd.V_lower (Kd.V_mono (ok':=fun k_=>True) aW (fun k_ hk_=>trivial)) (q0j X13));replace HB:=bS X13 hb;clear hb;(try clear aW);obtain ⟨aY,aZ,bA⟩:=Kd.V_slice aX.out;subst bA))
     go_loopg [4,34] aK (fun kq v4 bB w'=>∃ (bC:Int) (bD:Int),v4 = .int .i64 bC∧bB = .int .i64 bD∧q0c (q0Q.l0 kq bC aQ (aQ.length:Int) bD = some (r1,r2))∧q0c (kq≤aK)∧q0c (Kd.V (Kd.int .u8) 5 w' w.heap.size (fun _=>True) (.slice aY aQ.length aZ) aQ)∧q0c (Below w.heap.size w w'))
     case atStart=>exact ⟨(0),(0),X4,X4,H',⟨Nat.le_refl _⟩,⟨aV aX.out⟩,⟨X13⟩⟩
     case round=>
      clear H';(try clear c1);(try clear p2 p2);(try clear c3 c3b0 c3b1 c4 c4b0 c4b1 c6 c6b0 c6b1 c7 c7b0 c7b1 c8 c8b0 c8b1);(try clear p9 p9);(try clear q9 q9);(try clear aH aI c10 aM c11b0 c11b1 c11b2);obtain ⟨bC,bD,rfl,rfl,HA,bE,bF,HB⟩:=hrel;cases gk with
      | zero=>exact absurd HA.out (by simp [q0Q.l0])
      | succ k2=>
       have H:=HA.out;clear HA;simp only [q0Q.l0] at H;by_cases bG:bD < (aQ.length:Int)
       ·rw [if_pos bG] at H;have c15b0:=dT bG;clear bG;by_cases bH:0≤bD
        ·rw [if_pos bH] at H;have c16b0:=dT bH;clear bH;by_cases bI:bD < (aQ.length:Int)
         ·rw [if_pos bI] at H;have c17b0:=dT bI;clear bI;have H':=am H;clear H;have bJ:0≤(bD:Int):=of_decide_eq_true X8;have bK:bD < (aQ.length:Int):=of_decide_eq_true X8;obtain ⟨ad111,e111,hx111_0⟩:=Kd.at_int (Kd.V_reads' bF.out).2.2 bD bJ bK;cases e111;replace bJ:=eq_true bJ;replace bK:=eq_true bK;go_wp2
          go_roundg k2
          case measure=>have:=aJ.out;have:=bE.out;omega
          case rel=>exact ⟨(wrap64 ((wrap64 (10 * bC)) + (((rd aQ bD) - 48) % 256))),(wrap64 (bD + 1)),X4,X4,H',⟨by have:=aJ.out;have:=bE.out;omega⟩,⟨aV bF.out⟩,⟨X13⟩⟩
         ·exact iN bI H
        ·exact iN bH H
       ·rw [if_neg bG] at H;have c15b0:=dF bG;clear bG;simp only [Option.some.injEq,Prod.mk.injEq] at H;obtain ⟨rfl,rfl⟩:=H;go_wp2
        go_ret2
        exact ⟨X14,X13⟩
    ·exact iN aM H
def q2K.f (a0:Int):Option (Bool):=if a0≥32 then (if a0≤126 then (some (a0 != 34)) else (some false)) else (some false)
theorem q2K.calls (a0:Int) (r:Bool) (w:World) (h:q2K.f a0 = some r) :
  Calls Tryz.prog 113 #[.int .u8 a0] w fun e w'=>e = .returned (.bool r)∧q1Y w w':=by
 have H:=h;clear h;unfold q2K.f at H;by_cases c2:a0≥32
 ·rw [if_pos c2] at H;have c2b0:decide (32≤a0) = true:=decide_eq_true c2;clear c2;by_cases c3:a0≤126
  ·rw [if_pos c3] at H;have c3b0:=dT c3;clear c3;obtain rfl:=Option.some.inj H;go_enter Tryz.func113,Tryz.ntmps113;go_wp2
   go_ret
   exact ⟨X4,X5⟩
  ·rw [if_neg c3] at H;have c3b0:=dF c3;clear c3;obtain rfl:=Option.some.inj H;go_enter Tryz.func113,Tryz.ntmps113;go_wp2
   go_ret
   exact ⟨X4,X5⟩
 ·rw [if_neg c2] at H;have c2b0:decide (32≤a0) = false:=decide_eq_false c2;clear c2;obtain rfl:=Option.some.inj H;go_enter Tryz.func113,Tryz.ntmps113;go_wp2
  go_ret
  exact ⟨X4,X5⟩

mutual
def q0R.j1:Nat → ByteArray → Int → Option (ByteArray × Int)
 | 0,_,_=>none
 | k + 1,x0,x4=>if x4 = (x0.size:Int) then (q0R.j2 k x0 x4 true) else (if 0≤x4 then (if x4 < (x0.size:Int) then (q0R.j2 k x0 x4 ((bt x0 x4) != 34)) else (none)) else (none))
def q0R.j2:Nat → ByteArray → Int → Bool → Option (ByteArray × Int)
 | 0,_,_,_=>none
 | k + 1,x0,x4,aA=>if aA = true then (some ((⟨#[]⟩:ByteArray),2)) else (if (wrap64 (x4 - 1)) > 60 then (some ((⟨#[]⟩:ByteArray),3)) else (if 1≤x4 then (if x4≤(x0.size:Int) then (some (x0.extract 1 (x4:Int).toNat,0)) else (none)) else (none)))
def q0R.l0:Nat → ByteArray → Int → Option (ByteArray × Int)
 | 0,_,_=>none
 | k + 1,x0,x4=>if x4 < (x0.size:Int) then (if 0≤x4 then ((q2K.f (bt x0 x4)).bind fun aA=>(if aA = true then (q0R.l0 k x0 (wrap64 (x4 + 1))) else (q0R.j1 k x0 x4))) else (none)) else (q0R.j1 k x0 x4)
end
def q0R.f (k:Nat) (a0:ByteArray):Option (ByteArray × Int):=q0R.l0 k a0 1
theorem q0R.mono_l:∀ k,(∀ y0 y1,LeO (q0R.j1 k y0 y1) (q0R.j1 (k + 1) y0 y1))∧(∀ y0 y1 y2,LeO (q0R.j2 k y0 y1 y2) (q0R.j2 (k + 1) y0 y1 y2))∧(∀ y0 y1,LeO (q0R.l0 k y0 y1) (q0R.l0 (k + 1) y0 y1))
 | 0=>⟨fun _ _ r h=>by simp [q0R.j1] at h,fun _ _ _ r h=>by simp [q0R.j2] at h,fun _ _ r h=>by simp [q0R.l0] at h⟩
 | k + 1=>by
  obtain ⟨aA,aC,aD⟩:=q0R.mono_l k;refine ⟨?_,?_,?_⟩
  ·intro y0 y1;unfold q0R.j1;exact X111
  ·intro y0 y1 y2;unfold q0R.j2;exact X111
  ·intro y0 y1;unfold q0R.l0;exact X111
theorem q0R.mono:∀ a0 k,LeO (q0R.f k a0) (q0R.f (k + 1) a0):=by
 intro a0 k;obtain ⟨aA,aC,aD⟩:=q0R.mono_l k;unfold q0R.f;exact X111
theorem q0R.calls (k:Nat) (a0:ByteArray) (r1:ByteArray) (r2:Int) (w:World) (h:q0R.f k a0 = some (r1,r2)) :
  Calls Tryz.prog 85 #[.string a0] w fun e w'=>e = .returned (.tuple #[.string r1,.int .i64 r2])∧q1Y w w':=by
 have H:=h;clear h;unfold q0R.f at H;have aA:=am H;clear H;go_enter Tryz.func85,Tryz.ntmps85;go_upto_block 0 with (fail)
 go_cut [4] (fun v4 wc=>∃ (kq:Nat) (aC:Int),v4 = .int .i64 aC∧q0c (q0R.j1 kq a0 aC = some (r1,r2))∧q0c (kq≤k)∧q1Y w wc)
 case first=>
  have H:=aA.out;clear aA;have H':=am H;clear H;go_wp2
  go_loopg [4] k (fun kq v4 w'=>∃ (aC:Int),v4 = .int .i64 aC∧q0c (q0R.l0 kq a0 aC = some (r1,r2))∧q0c (kq≤k)∧q1Y w w')
  case atStart=>exact ⟨(1),X4,H',⟨Nat.le_refl _⟩,X5⟩
  case round=>
   clear H';(try clear p2);obtain ⟨aC,rfl,HA,aD,⟨m1,rfl⟩⟩:=hrel;cases gk with
   | zero=>exact absurd HA.out (by simp [q0R.l0])
   | succ k1=>
    have H:=HA.out;clear HA;simp only [q0R.l0] at H;by_cases c3:aC < (a0.size:Int)
    ·rw [if_pos c3] at H;have c3b0:=dT c3;clear c3;(first | rw [c3b0]|(simp only [q2G,q2L];rw [c3b0]) | skip);by_cases c4:0≤aC
     ·rw [if_pos c4] at H;have c4b0:=dT c4;clear c4;obtain ⟨aE,aG,H⟩:=oB H;(try dsimp only at H);have A6:=am aG;clear aG;by_cases c7:aE = true
      ·subst c7;replace H:=tP H;have H':=am H;clear H;have p5:0≤(aC:Int):=of_decide_eq_true X8;have q5:aC < (a0.size:Int):=of_decide_eq_true X8;have aH:=q2C a0 aC;replace p5:=eq_true p5;replace q5:=eq_true q5;go_wp2_with (first|(go_at_call 113;(with_reducible refine (q2K.calls (bt a0 aC) true _ A6.out).mono ?_);rintro e w' ⟨rfl,⟨nd,rfl⟩⟩))
       go_roundg k1
       case measure=>have:=aD.out;omega
       case rel=>exact ⟨(wrap64 (aC + 1)),X4,H',⟨by have:=aD.out;omega⟩,X5⟩
      ·replace c7:=Bool.eq_false_iff.mpr c7;subst c7;replace H:=tN H;have H':=am H;clear H;have p5:0≤(aC:Int):=of_decide_eq_true X8;have q5:aC < (a0.size:Int):=of_decide_eq_true X8;have aH:=q2C a0 aC;replace p5:=eq_true p5;replace q5:=eq_true q5;go_wp2_with (first|(go_at_call 113;(with_reducible refine (q2K.calls (bt a0 aC) false _ A6.out).mono ?_);rintro e w' ⟨rfl,⟨nd,rfl⟩⟩))
       go_meet
       case rel=>exact ⟨_,(aC),X4,H',⟨by have:=aD.out;first | omega | exact Nat.le_refl _⟩,X5⟩
     ·exact iN c4 H
    ·rw [if_neg c3] at H;have c3b0:=dF c3;clear c3;(first | rw [c3b0]|(simp only [q2G,q2L];rw [c3b0]) | skip);have H':=am H;clear H;go_wp2
     go_meet
     case rel=>exact ⟨_,(aC),X4,H',⟨by have:=aD.out;first | omega | exact Nat.le_refl _⟩,X5⟩
 case rest=>
  clear aA;(try clear p2 p2);(try clear c3 c3b0 c4 c4b0);(try clear p5 p5);(try clear q5 q5);(try clear aH p6 c7);obtain ⟨kq,aC,rfl,HA,aI,⟨mc1,rfl⟩⟩:=hcut;cases kq with
  | zero=>exact absurd HA.out (by simp [q0R.j1])
  | succ aJ=>
   have H:=HA.out;clear HA;simp only [q0R.j1] at H;have aK:=am H;clear H;go_upto_region 4 with (fail)
   go_cut [17] (fun aM wc=>∃ (kq:Nat) (aQ:Bool),aM = .bool aQ∧q0c (q0R.j2 kq a0 aC aQ = some (r1,r2))∧q0c (kq≤aJ)∧q1Y w wc)
   case first=>
    have H:=aK.out;clear aK;by_cases c9:aC = (a0.size:Int)
    ·rw [if_pos c9] at H;have c9b0:=eT c9;have c9b1:=eF c9;clear c9;(first | rw [c9b0]|(simp only [q2G,q2L];rw [c9b0]) | skip);have H':=am H;clear H;go_wp2
     go_meet
     case rel=>exact ⟨_,(true),X4,H',⟨X112⟩,X5⟩
    ·rw [if_neg c9] at H;have c9b0:=nF c9;have c9b1:=nT c9;(first | rw [c9b0]|(simp only [q2G,q2L];rw [c9b0]) | skip);by_cases c10:0≤aC
     ·rw [if_pos c10] at H;have c10b0:=dT c10;clear c10;by_cases aT:aC < (a0.size:Int)
      ·rw [if_pos aT] at H;have c11b0:=dT aT;clear aT;have H':=am H;clear H;have aU:0≤(aC:Int):=of_decide_eq_true X8;have aW:aC < (a0.size:Int):=of_decide_eq_true X8;have aX:=q2C a0 aC;replace aU:=eq_true aU;replace aW:=eq_true aW;go_wp2
       go_meet
       case rel=>exact ⟨_,(((bt a0 aC) != 34)),X4,H',⟨X112⟩,X5⟩
      ·exact iN aT H
     ·exact iN c10 H
   case rest=>
    clear aK;(try clear c1 p1 q1 hx1);(try clear p2 p2);(try clear c3 c3b0 c4 c4b0);(try clear p5 p5);(try clear q5 q5);(try clear aH);(try clear p6 p6);(try clear c7 c8 c9 c9b0 c9b1 c10 c10b0 aT c11b0);(try clear aU aU);(try clear aW aW);(try clear aX);obtain ⟨kq,aQ,rfl,HA,HJ7,⟨mc7,rfl⟩⟩:=hcut;cases kq with
    | zero=>exact absurd HA.out (by simp [q0R.j2])
    | succ kj7=>
     have H:=HA.out;clear HA;simp only [q0R.j2] at H;by_cases aY:aQ = true
     ·subst aY;replace H:=tP H;simp only [Option.some.injEq,Prod.mk.injEq] at H;obtain ⟨rfl,rfl⟩:=H;go_wp2
      go_ret2
      exact ⟨X4,X5⟩
     ·replace aY:=Bool.eq_false_iff.mpr aY;subst aY;replace H:=tN H;by_cases aZ:(wrap64 (aC - 1)) > 60
      ·rw [if_pos aZ] at H;have c14b0:decide (60 < (wrap64 (aC - 1))) = true:=decide_eq_true aZ;clear aZ;simp only [Option.some.injEq,Prod.mk.injEq] at H;obtain ⟨rfl,rfl⟩:=H;go_wp2
       go_ret2
       exact ⟨X4,X5⟩
      ·rw [if_neg aZ] at H;have c14b0:decide (60 < (wrap64 (aC - 1))) = false:=decide_eq_false aZ;clear aZ;by_cases bA:1≤aC
       ·rw [if_pos bA] at H;have c15b0:=eq_true bA;have c15b1:=dT bA;clear bA;by_cases bB:aC≤(a0.size:Int)
        ·rw [if_pos bB] at H;have c16b0:=eq_true bB;have c16b1:=dT bB;clear bB;simp only [Option.some.injEq,Prod.mk.injEq] at H;obtain ⟨rfl,rfl⟩:=H;go_wp2
         go_ret2
         exact ⟨X4,X5⟩
        ·exact iN bB H
       ·exact iN bA H



def q1V.f (a0:ByteArray) (a1:Int):Option (Int):=some (Lib.indexByte a0.data.toList a1.toNat.toUInt8)
theorem q1V.calls (a0:ByteArray) (a1:Int) (r:Int) (w:World) (h:q1V.f a0 a1 = some r) :
  Calls Tryz.prog 86 #[.string a0,.int .u8 a1] w fun e w'=>e = .returned (.int .i64 r)∧q1Y w w':=by
 refine (Tryz.strings_IndexByte a0 a1 w).mono ?_;rintro e w' ⟨rfl,rfl⟩;obtain rfl:=Option.some.inj h;exact ⟨rfl,q1Y.refl _⟩


def q2y.f (k:Nat) (a0:ByteArray):Option (Int × ByteArray × Int × Int × Int):=if 0 < (a0.size:Int) then ((q1L.f (bt a0 0)).bind fun aA=>(if aA = true then ((q0E.f k a0).bind fun aC=>(if aC > 20 then (some (0,(⟨#[]⟩:ByteArray),0,0,3)) else (if 0≤aC then (if aC≤(a0.size:Int) then (some (1,a0.extract 0 (aC:Int).toNat,0,aC,0)) else (none)) else (none)))) else ((q1R.f (bt a0 0)).bind fun aD=>(if aD = true then ((q1c.f k a0).bind fun aE=>(if aE > 6 then (some (0,(⟨#[]⟩:ByteArray),0,0,3)) else (if 0≤aE then (if aE≤(a0.size:Int) then ((q0Q.f k (a0.extract 0 (aE:Int).toNat)).bind fun aG=>(if aG.2 = true then (some (2,a0.extract 0 (aE:Int).toNat,0,aE,0)) else (some (0,(⟨#[]⟩:ByteArray),0,0,2)))) else (none)) else (none)))) else (if (bt a0 0) = 34 then ((q0R.f k a0).bind fun aH=>(some (3,aH.1,0,wrap64 ((aH.1.size:Int) + 2),aH.2))) else ((q1V.f (⟨#[123,125,40,41,91,93,47,59,58,126,64,61,94,44,46,124,43,42,60,62,45]⟩:ByteArray) (bt a0 0)).bind fun aI=>(if aI≥0 then (if 0≤1 then (if 1≤(a0.size:Int) then (some (4,a0.extract 0 1,0,1,0)) else (none)) else (none)) else (some (0,(⟨#[]⟩:ByteArray),0,0,2))))))))) else (none)
theorem q2y.mono:∀ a0 k,LeO (q2y.f k a0) (q2y.f (k + 1) a0):=by
 intro a0 k;unfold q2y.f;exact (by repeat' first|(with_reducible exact q0Q.mono _ _)|(with_reducible exact q1c.mono _ _)|(with_reducible exact q0E.mono _ _)|(with_reducible exact q0R.mono _ _)|(with_reducible exact LeO.refl _)|(with_reducible exact LeO.none _)|(with_reducible refine LeO.ite ?_ ?_)|(with_reducible refine LeO.bind ?_ (fun _=>?_)) | exact q0Q.mono _ _ | exact q1c.mono _ _ | exact q0E.mono _ _ | exact q0R.mono _ _ | exact LeO.none _ | refine LeO.ite ?_ ?_ | refine LeO.bind ?_ (fun _=>?_))
theorem q2y.calls (k:Nat) (a0:ByteArray) (r1:Int) (r2:ByteArray) (r3:Int) (r4:Int) (r5:Int) (w:World) (h:q2y.f k a0 = some (r1,r2,r3,r4,r5)) :
  Calls Tryz.prog 47 #[.string a0] w fun e w'=>e = .returned (.tuple #[.agg #[.int .i64 r1,.string r2,.int .i64 r3],.int .i64 r4,.int .i64 r5])∧Below w.heap.size w w':=by
 have hu61:=Tryz.underlying61;have HB:=am (Below.refl w.heap.size w);have H:=h;clear h;unfold q2y.f at H;by_cases c2:0 < (a0.size:Int)
 ·rw [if_pos c2] at H;have c2b0:=dT c2;have c2b1:decide (0 < a0.size) = true:=decide_eq_true (by omega);clear c2;obtain ⟨aA,aC,H⟩:=oB H;(try dsimp only at H);have A4:=am aC;clear aC;by_cases c5:aA = true
  ·subst c5;replace H:=tP H;obtain ⟨aD,aE,H⟩:=oB H;(try dsimp only at H);have A6:=am aE;clear aE;by_cases c7:aD > 20
   ·rw [if_pos c7] at H;have c7b0:decide (20 < aD) = true:=decide_eq_true c7;clear c7;simp only [Option.some.injEq,Prod.mk.injEq] at H;obtain ⟨rfl,rfl,rfl,rfl,rfl⟩:=H;go_enter Tryz.func47,Tryz.ntmps47;go_wp2_with (first|((with_reducible refine gd 2 ?_);refine be 2 #[.int .i64 0,.string ⟨#[]⟩,.int .i64 0] 61 ?_;intro aG hg w8 hbox hb;have aH:=am (hbox);have aI:=sG (w:=w) hg X13;have aJ:=sG (w:=w) hg X13;replace HB:=bS X13 hb;clear hb hbox hg;have p3:0≤(0:Int):=(by omega);have q3:0 < a0.size:=(by have:(0:Int) < (a0.size:Int):=of_decide_eq_true X8;omega);have aK:∀ h:0 < a0.size,((a0[0]'h).toNat:Int) = bt a0 0:=q2C a0 0;clear p3;have aM:(0 < (a0.size:Int)) = True:=eq_true (of_decide_eq_true X8);replace q3:=eq_true q3)|((with_reducible refine gc 80 ?_);refine gL (some 16) Tryz.func80 #[.int .u8 (bt a0 0)] ?_;(with_reducible refine (q1L.calls (bt a0 0) true _ A4.out).mono ?_);rintro e w' ⟨rfl,⟨nd,rfl⟩⟩;refine ⟨_,rfl,?_⟩;(try (rw [q1U w8];generalize hq_:World.drewN w8 _ = w8;replace aH:q0c (w8.heap[aG]? = some (.cells #[.int .i64 0,.string ⟨#[]⟩,.int .i64 0] 61 (0,0))):=⟨X113⟩;replace HB:q0c (Below w.heap.size w w8):=⟨X114⟩;clear hq_)))|((with_reducible refine gc 81 ?_);refine gL (some 18) Tryz.func81 #[.string a0] ?_;(with_reducible refine (q0E.calls k a0 aD _ A6.out).mono ?_);rintro e w' ⟨rfl,⟨nd,rfl⟩⟩;refine ⟨_,rfl,?_⟩;(try (rw [q1U w8];generalize hq_:World.drewN w8 _ = w8;replace aH:q0c (w8.heap[aG]? = some (.cells #[.int .i64 0,.string ⟨#[]⟩,.int .i64 0] 61 (0,0))):=⟨X113⟩;replace HB:q0c (Below w.heap.size w w8):=⟨X114⟩;clear hq_));have Z9:=bc3 aH))
    refine bodyPost_ret (q2p rfl _ _ aG 61 #[.int .i64 0,.string ⟨#[]⟩,.int .i64 0] (0,0) _ rfl (bq0 aH) Tryz.underlying61 rfl X22) rfl ?_;exact ⟨X14,X115⟩
   ·rw [if_neg c7] at H;have c7b0:decide (20 < aD) = false:=decide_eq_false c7;clear c7;by_cases c10:0≤aD
    ·rw [if_pos c10] at H;have c10b0:=eq_true c10;have c10b1:=dT c10;clear c10;by_cases aQ:aD≤(a0.size:Int)
     ·rw [if_pos aQ] at H;have c11b0:=eq_true aQ;have c11b1:=dT aQ;clear aQ;simp only [Option.some.injEq,Prod.mk.injEq] at H;obtain ⟨rfl,rfl,rfl,rfl,rfl⟩:=H;go_enter Tryz.func47,Tryz.ntmps47;go_wp2_with (first|((with_reducible refine gd 2 ?_);refine be 2 #[.int .i64 0,.string ⟨#[]⟩,.int .i64 0] 61 ?_;intro aG hg aT hbox hb;have aH:=am (hbox);have aI:=sG (w:=w) hg X13;have aJ:=sG (w:=w) hg X13;replace HB:=bS X13 hb;clear hb hbox hg;have p3:0≤(0:Int):=(by omega);have q3:0 < a0.size:=(by have:(0:Int) < (a0.size:Int):=of_decide_eq_true X8;omega);have aK:∀ h:0 < a0.size,((a0[0]'h).toNat:Int) = bt a0 0:=q2C a0 0;clear p3;have aM:(0 < (a0.size:Int)) = True:=eq_true (of_decide_eq_true X8);replace q3:=eq_true q3)|((with_reducible refine gc 80 ?_);refine gL (some 16) Tryz.func80 #[.int .u8 (bt a0 0)] ?_;(with_reducible refine (q1L.calls (bt a0 0) true _ A4.out).mono ?_);rintro e w' ⟨rfl,⟨nd,rfl⟩⟩;refine ⟨_,rfl,?_⟩;(try (rw [q1U aT];generalize hq_:World.drewN aT _ = aT;replace aH:q0c (aT.heap[aG]? = some (.cells #[.int .i64 0,.string ⟨#[]⟩,.int .i64 0] 61 (0,0))):=⟨X113⟩;replace HB:q0c (Below w.heap.size w aT):=⟨X114⟩;clear hq_)))|((with_reducible refine gc 81 ?_);refine gL (some 18) Tryz.func81 #[.string a0] ?_;(with_reducible refine (q0E.calls k a0 aD _ A6.out).mono ?_);rintro e w' ⟨rfl,⟨nd,rfl⟩⟩;refine ⟨_,rfl,?_⟩;(try (rw [q1U aT];generalize hq_:World.drewN aT _ = aT;replace aH:q0c (aT.heap[aG]? = some (.cells #[.int .i64 0,.string ⟨#[]⟩,.int .i64 0] 61 (0,0))):=⟨X113⟩;replace HB:q0c (Below w.heap.size w aT):=⟨X114⟩;clear hq_));have Z13:=bc3 aH))
      refine bodyPost_ret (q2p rfl _ _ aG 61 #[.int .i64 1,.string (a0.extract 0 (aD:Int).toNat),.int .i64 0] (0,0) _ rfl (bq0 aH) Tryz.underlying61 rfl X22) rfl ?_;exact ⟨X14,X115⟩
     ·exact iN aQ H
    ·exact iN c10 H
  ·replace c5:=Bool.eq_false_iff.mpr c5;subst c5;replace H:=tN H;obtain ⟨aU,aW,H⟩:=oB H;(try dsimp only at H);have aX:=am aW;clear aW;by_cases aY:aU = true
   ·subst aY;replace H:=tP H;obtain ⟨aZ,bA,H⟩:=oB H;(try dsimp only at H);have bB:=am bA;clear bA;by_cases bC:aZ > 6
    ·rw [if_pos bC] at H;have c17b0:decide (6 < aZ) = true:=decide_eq_true bC;clear bC;simp only [Option.some.injEq,Prod.mk.injEq] at H;obtain ⟨rfl,rfl,rfl,rfl,rfl⟩:=H;go_enter Tryz.func47,Tryz.ntmps47;go_wp2_with (first|((with_reducible refine gd 2 ?_);refine be 2 #[.int .i64 0,.string ⟨#[]⟩,.int .i64 0] 61 ?_;intro aG hg bD hbox hb;have aH:=am (hbox);have aI:=sG (w:=w) hg X13;have aJ:=sG (w:=w) hg X13;replace HB:=bS X13 hb;clear hb hbox hg;have p3:0≤(0:Int):=(by omega);have q3:0 < a0.size:=(by have:(0:Int) < (a0.size:Int):=of_decide_eq_true X8;omega);have aK:∀ h:0 < a0.size,((a0[0]'h).toNat:Int) = bt a0 0:=q2C a0 0;clear p3;have aM:(0 < (a0.size:Int)) = True:=eq_true (of_decide_eq_true X8);replace q3:=eq_true q3)|((with_reducible refine gc 80 ?_);refine gL (some 16) Tryz.func80 #[.int .u8 (bt a0 0)] ?_;(with_reducible refine (q1L.calls (bt a0 0) false _ A4.out).mono ?_);rintro e w' ⟨rfl,⟨nd,rfl⟩⟩;refine ⟨_,rfl,?_⟩;(try (rw [q1U bD];generalize hq_:World.drewN bD _ = bD;replace aH:q0c (bD.heap[aG]? = some (.cells #[.int .i64 0,.string ⟨#[]⟩,.int .i64 0] 61 (0,0))):=⟨X113⟩;replace HB:q0c (Below w.heap.size w bD):=⟨X114⟩;clear hq_)))|((with_reducible refine gc 82 ?_);refine gL (some 29) Tryz.func82 #[.int .u8 (bt a0 0)] ?_;(with_reducible refine (q1R.calls (bt a0 0) true _ aX.out).mono ?_);rintro e w' ⟨rfl,⟨nd,rfl⟩⟩;refine ⟨_,rfl,?_⟩;(try (rw [q1U bD];generalize hq_:World.drewN bD _ = bD;replace aH:q0c (bD.heap[aG]? = some (.cells #[.int .i64 0,.string ⟨#[]⟩,.int .i64 0] 61 (0,0))):=⟨X113⟩;replace HB:q0c (Below w.heap.size w bD):=⟨X114⟩;clear hq_)))|((with_reducible refine gc 83 ?_);refine gL (some 31) Tryz.func83 #[.string a0] ?_;(with_reducible refine (q1c.calls k a0 aZ _ bB.out).mono ?_);rintro e w' ⟨rfl,⟨nd,rfl⟩⟩;refine ⟨_,rfl,?_⟩;(try (rw [q1U bD];generalize hq_:World.drewN bD _ = bD;replace aH:q0c (bD.heap[aG]? = some (.cells #[.int .i64 0,.string ⟨#[]⟩,.int .i64 0] 61 (0,0))):=⟨X113⟩;replace HB:q0c (Below w.heap.size w bD):=⟨X114⟩;clear hq_));have Z19:=bc3 aH))
     refine bodyPost_ret (q2p rfl _ _ aG 61 #[.int .i64 0,.string ⟨#[]⟩,.int .i64 0] (0,0) _ rfl (bq0 aH) Tryz.underlying61 rfl X22) rfl ?_;exact ⟨X14,X115⟩
    ·rw [if_neg bC] at H;have c17b0:decide (6 < aZ) = false:=decide_eq_false bC;clear bC;by_cases bE:0≤aZ
     ·rw [if_pos bE] at H;have c20b0:=eq_true bE;have c20b1:=dT bE;clear bE;by_cases bF:aZ≤(a0.size:Int)
      ·rw [if_pos bF] at H;have c21b0:=eq_true bF;have c21b1:=dT bF;clear bF;obtain ⟨⟨bG,bH⟩,bI,H⟩:=oB H;(try dsimp only at H);have bJ:=am bI;clear bI;by_cases bK:bH = true
       ·subst bK;replace H:=tP H;have c24b0:=eq_true (of_decide_eq_true X8:0≤aZ);have c25b0:=eq_true (of_decide_eq_true X8:aZ≤(a0.size:Int));simp only [Option.some.injEq,Prod.mk.injEq] at H;obtain ⟨rfl,rfl,rfl,rfl,rfl⟩:=H;go_enter Tryz.func47,Tryz.ntmps47;go_wp2_with (first|((with_reducible refine gd 2 ?_);refine be 2 #[.int .i64 0,.string ⟨#[]⟩,.int .i64 0] 61 ?_;intro aG hg bL hbox hb;have aH:=am (hbox);have aI:=sG (w:=w) hg X13;have aJ:=sG (w:=w) hg X13;replace HB:=bS X13 hb;clear hb hbox hg;have p3:0≤(0:Int):=(by omega);have q3:0 < a0.size:=(by have:(0:Int) < (a0.size:Int):=of_decide_eq_true X8;omega);have aK:∀ h:0 < a0.size,((a0[0]'h).toNat:Int) = bt a0 0:=q2C a0 0;clear p3;have aM:(0 < (a0.size:Int)) = True:=eq_true (of_decide_eq_true X8);replace q3:=eq_true q3)|((with_reducible refine gc 80 ?_);refine gL (some 16) Tryz.func80 #[.int .u8 (bt a0 0)] ?_;(with_reducible refine (q1L.calls (bt a0 0) false _ A4.out).mono ?_);rintro e w' ⟨rfl,⟨nd,rfl⟩⟩;refine ⟨_,rfl,?_⟩;(try (rw [q1U bL];generalize hq_:World.drewN bL _ = bL;replace aH:q0c (bL.heap[aG]? = some (.cells #[.int .i64 0,.string ⟨#[]⟩,.int .i64 0] 61 (0,0))):=⟨X113⟩;replace HB:q0c (Below w.heap.size w bL):=⟨X114⟩;clear hq_)))|((with_reducible refine gc 82 ?_);refine gL (some 29) Tryz.func82 #[.int .u8 (bt a0 0)] ?_;(with_reducible refine (q1R.calls (bt a0 0) true _ aX.out).mono ?_);rintro e w' ⟨rfl,⟨nd,rfl⟩⟩;refine ⟨_,rfl,?_⟩;(try (rw [q1U bL];generalize hq_:World.drewN bL _ = bL;replace aH:q0c (bL.heap[aG]? = some (.cells #[.int .i64 0,.string ⟨#[]⟩,.int .i64 0] 61 (0,0))):=⟨X113⟩;replace HB:q0c (Below w.heap.size w bL):=⟨X114⟩;clear hq_)))|((with_reducible refine gc 83 ?_);refine gL (some 31) Tryz.func83 #[.string a0] ?_;(with_reducible refine (q1c.calls k a0 aZ _ bB.out).mono ?_);rintro e w' ⟨rfl,⟨nd,rfl⟩⟩;refine ⟨_,rfl,?_⟩;(try (rw [q1U bL];generalize hq_:World.drewN bL _ = bL;replace aH:q0c (bL.heap[aG]? = some (.cells #[.int .i64 0,.string ⟨#[]⟩,.int .i64 0] 61 (0,0))):=⟨X113⟩;replace HB:q0c (Below w.heap.size w bL):=⟨X114⟩;clear hq_)))|((with_reducible refine gc 84 ?_);refine gL (some 39) Tryz.func84 #[.string (a0.extract 0 (aZ:Int).toNat)] ?_;(with_reducible refine (q0Q.calls k (a0.extract 0 (aZ:Int).toNat) bG true _ bJ.out).mono ?_);rintro e w27 ⟨rfl,hb⟩;refine ⟨_,rfl,?_⟩;replace aH:=kB aH hb;replace HB:=bS X115 hb;clear hb;have Z28:=bc3 aH))
        refine bodyPost_ret (q2p rfl _ _ aG 61 #[.int .i64 2,.string (a0.extract 0 (aZ:Int).toNat),.int .i64 0] (0,0) _ rfl (bq0 aH) Tryz.underlying61 rfl X22) rfl ?_;exact ⟨X14,X115⟩
       ·replace bK:=Bool.eq_false_iff.mpr bK;subst bK;replace H:=tN H;simp only [Option.some.injEq,Prod.mk.injEq] at H;obtain ⟨rfl,rfl,rfl,rfl,rfl⟩:=H;go_enter Tryz.func47,Tryz.ntmps47;go_wp2_with (first|((with_reducible refine gd 2 ?_);refine be 2 #[.int .i64 0,.string ⟨#[]⟩,.int .i64 0] 61 ?_;intro aG hg bM hbox hb;have aH:=am (hbox);have aI:=sG (w:=w) hg X13;have aJ:=sG (w:=w) hg X13;replace HB:=bS X13 hb;clear hb hbox hg;have p3:0≤(0:Int):=(by omega);have q3:0 < a0.size:=(by have:(0:Int) < (a0.size:Int):=of_decide_eq_true X8;omega);have aK:∀ h:0 < a0.size,((a0[0]'h).toNat:Int) = bt a0 0:=q2C a0 0;clear p3;have aM:(0 < (a0.size:Int)) = True:=eq_true (of_decide_eq_true X8);replace q3:=eq_true q3)|((with_reducible refine gc 80 ?_);refine gL (some 16) Tryz.func80 #[.int .u8 (bt a0 0)] ?_;(with_reducible refine (q1L.calls (bt a0 0) false _ A4.out).mono ?_);rintro e w' ⟨rfl,⟨nd,rfl⟩⟩;refine ⟨_,rfl,?_⟩;(try (rw [q1U bM];generalize hq_:World.drewN bM _ = bM;replace aH:q0c (bM.heap[aG]? = some (.cells #[.int .i64 0,.string ⟨#[]⟩,.int .i64 0] 61 (0,0))):=⟨X113⟩;replace HB:q0c (Below w.heap.size w bM):=⟨X114⟩;clear hq_)))|((with_reducible refine gc 82 ?_);refine gL (some 29) Tryz.func82 #[.int .u8 (bt a0 0)] ?_;(with_reducible refine (q1R.calls (bt a0 0) true _ aX.out).mono ?_);rintro e w' ⟨rfl,⟨nd,rfl⟩⟩;refine ⟨_,rfl,?_⟩;(try (rw [q1U bM];generalize hq_:World.drewN bM _ = bM;replace aH:q0c (bM.heap[aG]? = some (.cells #[.int .i64 0,.string ⟨#[]⟩,.int .i64 0] 61 (0,0))):=⟨X113⟩;replace HB:q0c (Below w.heap.size w bM):=⟨X114⟩;clear hq_)))|((with_reducible refine gc 83 ?_);refine gL (some 31) Tryz.func83 #[.string a0] ?_;(with_reducible refine (q1c.calls k a0 aZ _ bB.out).mono ?_);rintro e w' ⟨rfl,⟨nd,rfl⟩⟩;refine ⟨_,rfl,?_⟩;(try (rw [q1U bM];generalize hq_:World.drewN bM _ = bM;replace aH:q0c (bM.heap[aG]? = some (.cells #[.int .i64 0,.string ⟨#[]⟩,.int .i64 0] 61 (0,0))):=⟨X113⟩;replace HB:q0c (Below w.heap.size w bM):=⟨X114⟩;clear hq_)))|((with_reducible refine gc 84 ?_);refine gL (some 39) Tryz.func84 #[.string (a0.extract 0 (aZ:Int).toNat)] ?_;(with_reducible refine (q0Q.calls k (a0.extract 0 (aZ:Int).toNat) bG false _ bJ.out).mono ?_);rintro e w30 ⟨rfl,hb⟩;refine ⟨_,rfl,?_⟩;replace aH:=kB aH hb;replace HB:=bS X115 hb;clear hb;have Z31:=bc3 aH))
        refine bodyPost_ret (q2p rfl _ _ aG 61 #[.int .i64 0,.string ⟨#[]⟩,.int .i64 0] (0,0) _ rfl (bq0 aH) Tryz.underlying61 rfl X22) rfl ?_;exact ⟨X14,X115⟩
      ·exact iN bF H
     ·exact iN bE H
   ·replace aY:=Bool.eq_false_iff.mpr aY;subst aY;replace H:=tN H;by_cases bN:(bt a0 0) = 34
    ·rw [if_pos bN] at H;have c32b0:=eT bN;have c32b1:=eF bN;clear bN;obtain ⟨⟨bO,bP⟩,bQ,H⟩:=oB H;(try dsimp only at H);have bR:=am bQ;clear bQ;simp only [Option.some.injEq,Prod.mk.injEq] at H;obtain ⟨rfl,rfl,rfl,rfl,rfl⟩:=H;go_enter Tryz.func47,Tryz.ntmps47;go_wp2_with (first|((with_reducible refine gd 2 ?_);refine be 2 #[.int .i64 0,.string ⟨#[]⟩,.int .i64 0] 61 ?_;intro aG hg bT hbox hb;have aH:=am (hbox);have aI:=sG (w:=w) hg X13;have aJ:=sG (w:=w) hg X13;replace HB:=bS X13 hb;clear hb hbox hg;have p3:0≤(0:Int):=(by omega);have q3:0 < a0.size:=(by have:(0:Int) < (a0.size:Int):=of_decide_eq_true X8;omega);have aK:∀ h:0 < a0.size,((a0[0]'h).toNat:Int) = bt a0 0:=q2C a0 0;clear p3;have aM:(0 < (a0.size:Int)) = True:=eq_true (of_decide_eq_true X8);replace q3:=eq_true q3)|((with_reducible refine gc 80 ?_);refine gL (some 16) Tryz.func80 #[.int .u8 (bt a0 0)] ?_;(with_reducible refine (q1L.calls (bt a0 0) false _ A4.out).mono ?_);rintro e w' ⟨rfl,⟨nd,rfl⟩⟩;refine ⟨_,rfl,?_⟩;(try (rw [q1U bT];generalize hq_:World.drewN bT _ = bT;replace aH:q0c (bT.heap[aG]? = some (.cells #[.int .i64 0,.string ⟨#[]⟩,.int .i64 0] 61 (0,0))):=⟨X113⟩;replace HB:q0c (Below w.heap.size w bT):=⟨X114⟩;clear hq_)))|((with_reducible refine gc 82 ?_);refine gL (some 29) Tryz.func82 #[.int .u8 (bt a0 0)] ?_;(with_reducible refine (q1R.calls (bt a0 0) false _ aX.out).mono ?_);rintro e w' ⟨rfl,⟨nd,rfl⟩⟩;refine ⟨_,rfl,?_⟩;(try (rw [q1U bT];generalize hq_:World.drewN bT _ = bT;replace aH:q0c (bT.heap[aG]? = some (.cells #[.int .i64 0,.string ⟨#[]⟩,.int .i64 0] 61 (0,0))):=⟨X113⟩;replace HB:q0c (Below w.heap.size w bT):=⟨X114⟩;clear hq_)))|((with_reducible refine gc 85 ?_);refine gL (some 55) Tryz.func85 #[.string a0] ?_;(with_reducible refine (q0R.calls k a0 bO bP _ bR.out).mono ?_);rintro e w' ⟨rfl,⟨nd,rfl⟩⟩;refine ⟨_,rfl,?_⟩;(try (rw [q1U bT];generalize hq_:World.drewN bT _ = bT;replace aH:q0c (bT.heap[aG]? = some (.cells #[.int .i64 0,.string ⟨#[]⟩,.int .i64 0] 61 (0,0))):=⟨X113⟩;replace HB:q0c (Below w.heap.size w bT):=⟨X114⟩;clear hq_));have Z35:=bc3 aH))
     refine bodyPost_ret (q2p rfl _ _ aG 61 #[.int .i64 3,.string bO,.int .i64 0] (0,0) _ rfl (bq0 aH) Tryz.underlying61 rfl X22) rfl ?_;exact ⟨X14,X115⟩
    ·rw [if_neg bN] at H;have c32b0:=nF bN;have c32b1:=nT bN;obtain ⟨bU,bV,H⟩:=oB H;(try dsimp only at H);have bW:=am bV;clear bV;by_cases bX:bU≥0
     ·rw [if_pos bX] at H;have c37b0:decide (0≤bU) = true:=decide_eq_true bX;clear bX;by_cases bY:0≤1
      ·rw [if_pos bY] at H;have c38b0:=eq_true bY;have c38b1:=dT bY;clear bY;by_cases bZ:1≤(a0.size:Int)
       ·rw [if_pos bZ] at H;have c39b0:=eq_true bZ;have c39b1:=dT bZ;clear bZ;simp only [Option.some.injEq,Prod.mk.injEq] at H;obtain ⟨rfl,rfl,rfl,rfl,rfl⟩:=H;go_enter Tryz.func47,Tryz.ntmps47;go_wp2_with (first|((with_reducible refine gd 2 ?_);refine be 2 #[.int .i64 0,.string ⟨#[]⟩,.int .i64 0] 61 ?_;intro aG hg cA hbox hb;have aH:=am (hbox);have aI:=sG (w:=w) hg X13;have aJ:=sG (w:=w) hg X13;replace HB:=bS X13 hb;clear hb hbox hg;have p3:0≤(0:Int):=(by omega);have q3:0 < a0.size:=(by have:(0:Int) < (a0.size:Int):=of_decide_eq_true X8;omega);have aK:∀ h:0 < a0.size,((a0[0]'h).toNat:Int) = bt a0 0:=q2C a0 0;clear p3;have aM:(0 < (a0.size:Int)) = True:=eq_true (of_decide_eq_true X8);replace q3:=eq_true q3)|((with_reducible refine gc 80 ?_);refine gL (some 16) Tryz.func80 #[.int .u8 (bt a0 0)] ?_;(with_reducible refine (q1L.calls (bt a0 0) false _ A4.out).mono ?_);rintro e w' ⟨rfl,⟨nd,rfl⟩⟩;refine ⟨_,rfl,?_⟩;(try (rw [q1U cA];generalize hq_:World.drewN cA _ = cA;replace aH:q0c (cA.heap[aG]? = some (.cells #[.int .i64 0,.string ⟨#[]⟩,.int .i64 0] 61 (0,0))):=⟨X113⟩;replace HB:q0c (Below w.heap.size w cA):=⟨X114⟩;clear hq_)))|((with_reducible refine gc 82 ?_);refine gL (some 29) Tryz.func82 #[.int .u8 (bt a0 0)] ?_;(with_reducible refine (q1R.calls (bt a0 0) false _ aX.out).mono ?_);rintro e w' ⟨rfl,⟨nd,rfl⟩⟩;refine ⟨_,rfl,?_⟩;(try (rw [q1U cA];generalize hq_:World.drewN cA _ = cA;replace aH:q0c (cA.heap[aG]? = some (.cells #[.int .i64 0,.string ⟨#[]⟩,.int .i64 0] 61 (0,0))):=⟨X113⟩;replace HB:q0c (Below w.heap.size w cA):=⟨X114⟩;clear hq_)))|((with_reducible refine gc 86 ?_);refine gL (some 66) Tryz.func86 #[.string ⟨#[123,125,40,41,91,93,47,59,58,126,64,61,94,44,46,124,43,42,60,62,45]⟩,.int .u8 (bt a0 0)] ?_;(with_reducible refine (q1V.calls (⟨#[123,125,40,41,91,93,47,59,58,126,64,61,94,44,46,124,43,42,60,62,45]⟩:ByteArray) (bt a0 0) bU _ bW.out).mono ?_);rintro e w' ⟨rfl,⟨nd,rfl⟩⟩;refine ⟨_,rfl,?_⟩;(try (rw [q1U cA];generalize hq_:World.drewN cA _ = cA;replace aH:q0c (cA.heap[aG]? = some (.cells #[.int .i64 0,.string ⟨#[]⟩,.int .i64 0] 61 (0,0))):=⟨X113⟩;replace HB:q0c (Below w.heap.size w cA):=⟨X114⟩;clear hq_));have Z41:=bc3 aH))
        refine bodyPost_ret (q2p rfl _ _ aG 61 #[.int .i64 4,.string (a0.extract 0 1),.int .i64 0] (0,0) _ rfl (bq0 aH) Tryz.underlying61 rfl X22) rfl ?_;exact ⟨X14,X115⟩
       ·exact iN bZ H
      ·exact iN bY H
     ·rw [if_neg bX] at H;have c37b0:decide (0≤bU) = false:=decide_eq_false bX;clear bX;simp only [Option.some.injEq,Prod.mk.injEq] at H;obtain ⟨rfl,rfl,rfl,rfl,rfl⟩:=H;go_enter Tryz.func47,Tryz.ntmps47;go_wp2_with (first|((with_reducible refine gd 2 ?_);refine be 2 #[.int .i64 0,.string ⟨#[]⟩,.int .i64 0] 61 ?_;intro aG hg cC hbox hb;have aH:=am (hbox);have aI:=sG (w:=w) hg X13;have aJ:=sG (w:=w) hg X13;replace HB:=bS X13 hb;clear hb hbox hg;have p3:0≤(0:Int):=(by omega);have q3:0 < a0.size:=(by have:(0:Int) < (a0.size:Int):=of_decide_eq_true X8;omega);have aK:∀ h:0 < a0.size,((a0[0]'h).toNat:Int) = bt a0 0:=q2C a0 0;clear p3;have aM:(0 < (a0.size:Int)) = True:=eq_true (of_decide_eq_true X8);replace q3:=eq_true q3)|((with_reducible refine gc 80 ?_);refine gL (some 16) Tryz.func80 #[.int .u8 (bt a0 0)] ?_;(with_reducible refine (q1L.calls (bt a0 0) false _ A4.out).mono ?_);rintro e w' ⟨rfl,⟨nd,rfl⟩⟩;refine ⟨_,rfl,?_⟩;(try (rw [q1U cC];generalize hq_:World.drewN cC _ = cC;replace aH:q0c (cC.heap[aG]? = some (.cells #[.int .i64 0,.string ⟨#[]⟩,.int .i64 0] 61 (0,0))):=⟨X113⟩;replace HB:q0c (Below w.heap.size w cC):=⟨X114⟩;clear hq_)))|((with_reducible refine gc 82 ?_);refine gL (some 29) Tryz.func82 #[.int .u8 (bt a0 0)] ?_;(with_reducible refine (q1R.calls (bt a0 0) false _ aX.out).mono ?_);rintro e w' ⟨rfl,⟨nd,rfl⟩⟩;refine ⟨_,rfl,?_⟩;(try (rw [q1U cC];generalize hq_:World.drewN cC _ = cC;replace aH:q0c (cC.heap[aG]? = some (.cells #[.int .i64 0,.string ⟨#[]⟩,.int .i64 0] 61 (0,0))):=⟨X113⟩;replace HB:q0c (Below w.heap.size w cC):=⟨X114⟩;clear hq_)))|((with_reducible refine gc 86 ?_);refine gL (some 66) Tryz.func86 #[.string ⟨#[123,125,40,41,91,93,47,59,58,126,64,61,94,44,46,124,43,42,60,62,45]⟩,.int .u8 (bt a0 0)] ?_;(with_reducible refine (q1V.calls (⟨#[123,125,40,41,91,93,47,59,58,126,64,61,94,44,46,124,43,42,60,62,45]⟩:ByteArray) (bt a0 0) bU _ bW.out).mono ?_);rintro e w' ⟨rfl,⟨nd,rfl⟩⟩;refine ⟨_,rfl,?_⟩;(try (rw [q1U cC];generalize hq_:World.drewN cC _ = cC;replace aH:q0c (cC.heap[aG]? = some (.cells #[.int .i64 0,.string ⟨#[]⟩,.int .i64 0] 61 (0,0))):=⟨X113⟩;replace HB:q0c (Below w.heap.size w cC):=⟨X114⟩;clear hq_));have Z43:=bc3 aH))
      refine bodyPost_ret (q2p rfl _ _ aG 61 #[.int .i64 0,.string ⟨#[]⟩,.int .i64 0] (0,0) _ rfl (bq0 aH) Tryz.underlying61 rfl X22) rfl ?_;exact ⟨X14,X115⟩
 ·exact iN c2 H
mutual
def q0C.l0:Nat → ByteArray → List (S61) → Int → Int → Option ((List (S61)) × Int × Int)
 | 0,_,_,_,_=>none
 | k + 1,x0,x5,x6,x7=>if x7 < (x0.size:Int) then (if 0≤x7 then (if (bt x0 x7) = 10 then (q0C.l0 k x0 x5 (wrap64 (x6 + 1)) (wrap64 (x7 + 1))) else (if (bt x0 x7) = 32 then (q0C.j1 k x0 x5 x6 x7 (bt x0 x7) ((bt x0 x7) == 32)) else (if (bt x0 x7) = 9 then (q0C.j1 k x0 x5 x6 x7 (bt x0 x7) ((bt x0 x7) == 9)) else (q0C.j1 k x0 x5 x6 x7 (bt x0 x7) ((bt x0 x7) == 13))))) else (none)) else (some (x5,0,0))
def q0C.j1:Nat → ByteArray → List (S61) → Int → Int → Int → Bool → Option ((List (S61)) × Int × Int)
 | 0,_,_,_,_,_,_=>none
 | k + 1,x0,x5,x6,x7,aA,aC=>if aC = true then (q0C.l0 k x0 x5 x6 (wrap64 (x7 + 1))) else (if aA = 35 then (q0C.l1 k x0 x5 x6 x7) else (if 0≤x7 then (if x7≤(x0.size:Int) then ((q2y.f k (x0.extract (x7:Int).toNat x0.size)).bind fun aD=>(if aD.2.2.2.2 = 0 then (if x5.length < 4398046511104 then (q0C.l0 k x0 (x5++[(⟨aD.1,aD.2.1,x6⟩:S61)]) x6 (wrap64 (x7 + aD.2.2.2.1))) else (none)) else (some (([]:List (S61)),x6,aD.2.2.2.2)))) else (none)) else (none)))
def q0C.l1:Nat → ByteArray → List (S61) → Int → Int → Option ((List (S61)) × Int × Int)
 | 0,_,_,_,_=>none
 | k + 1,x0,x5,x6,x7=>if x7 < (x0.size:Int) then (if 0≤x7 then (if (bt x0 x7) = 10 then (q0C.l0 k x0 x5 x6 x7) else (q0C.l1 k x0 x5 x6 (wrap64 (x7 + 1)))) else (none)) else (q0C.l0 k x0 x5 x6 x7)
end
def q0C.f (k:Nat) (a0:ByteArray):Option ((List (S61)) × Int × Int):=if (a0.size:Int) > 20000 then (some (([]:List (S61)),0,3)) else (q0C.l0 k a0 ([]:List (S61)) 1 0)
theorem q0C.mono_l:∀ k,(∀ y0 y1 y2 y3,LeO (q0C.l0 k y0 y1 y2 y3) (q0C.l0 (k + 1) y0 y1 y2 y3))∧(∀ y0 y1 y2 y3 y4 y5,LeO (q0C.j1 k y0 y1 y2 y3 y4 y5) (q0C.j1 (k + 1) y0 y1 y2 y3 y4 y5))∧(∀ y0 y1 y2 y3,LeO (q0C.l1 k y0 y1 y2 y3) (q0C.l1 (k + 1) y0 y1 y2 y3))
 | 0=>⟨fun _ _ _ _ r h=>by simp [q0C.l0] at h,fun _ _ _ _ _ _ r h=>by simp [q0C.j1] at h,fun _ _ _ _ r h=>by simp [q0C.l1] at h⟩
 | k + 1=>by
  obtain ⟨aA,aC,aD⟩:=q0C.mono_l k;refine ⟨?_,?_,?_⟩
  ·intro y0 y1 y2 y3;unfold q0C.l0;exact X164
  ·intro y0 y1 y2 y3 y4 y5;unfold q0C.j1;exact X164
  ·intro y0 y1 y2 y3;unfold q0C.l1;exact X164
theorem q0C.mono:∀ a0 k,LeO (q0C.f k a0) (q0C.f (k + 1) a0):=by
 intro a0 k;obtain ⟨aA,aC,aD⟩:=q0C.mono_l k;unfold q0C.f;exact X164
theorem q0C.calls (k:Nat) (a0:ByteArray) (r1:List (S61)) (r2:Int) (r3:Int) (w:World) (h:q0C.f k a0 = some (r1,r2,r3)) :
  Calls Tryz.prog 21 #[.string a0] w fun e w'=>∃ aA:Value,e = .returned (.tuple #[aA,.int .i64 r2,.int .i64 r3])∧Kd.R k61 61 w' w.heap.size (fun _=>True) aA r1∧Below w.heap.size w w':=by
 have hu61:=Tryz.underlying61;have HB:=am (Below.refl w.heap.size w);have H:=h;clear h;unfold q0C.f at H;by_cases c2:(a0.size:Int) > 20000
 ·rw [if_pos c2] at H;have c2b0:decide (20000 < (a0.size:Int)) = true:=decide_eq_true c2;have c2b1:decide (20000 < a0.size) = true:=decide_eq_true (by omega);clear c2;simp only [Option.some.injEq,Prod.mk.injEq] at H;obtain ⟨rfl,rfl,rfl⟩:=H;go_enter Tryz.func21,Tryz.ntmps21;go_wp2
  go_ret3
  exact ⟨_,X14,X101,X13⟩
 ·rw [if_neg c2] at H;have c2b0:decide (20000 < (a0.size:Int)) = false:=decide_eq_false c2;have c2b1:decide (20000 < a0.size) = false:=decide_eq_false (by omega);clear c2;have H':=am H;clear H;go_enter Tryz.func21,Tryz.ntmps21;go_wp2
  go_loopg [5,6,7] k (fun kq v5 v6 v7 w'=>∃ (aC:List (S61)) (aD:Int) (aE:Int),v6 = .int .i64 aD∧v7 = .int .i64 aE∧q0c (q0C.l0 kq a0 aC aD aE = some (r1,r2,r3))∧q0c (kq≤k)∧q0c (Kd.R k61 61 w' w.heap.size (fun _=>True) v5 aC)∧q0c (Below w.heap.size w w'))
  case atStart=>exact ⟨(([]:List (S61))),(1),(0),X4,X4,H',⟨Nat.le_refl _⟩,⟨X101⟩,⟨X13⟩⟩
  case round=>
   clear H';(try clear c2 c2b0 c2b1 p2);obtain ⟨aC,aD,aE,rfl,rfl,HA,aG,aH,HB⟩:=hrel;cases gk with
   | zero=>exact absurd HA.out (by simp [q0C.l0])
   | succ k1=>
    have H:=HA.out;clear HA;simp only [q0C.l0] at H;by_cases c3:aE < (a0.size:Int)
    ·rw [if_pos c3] at H;have c3b0:=dT c3;clear c3;by_cases c4:0≤aE
     ·rw [if_pos c4] at H;have c4b0:=dT c4;clear c4;by_cases c6:(bt a0 aE) = 10
      ·rw [if_pos c6] at H;have c6b0:=eT c6;have c6b1:=eF c6;clear c6;have H':=am H;clear H;have p5:0≤(aE:Int):=of_decide_eq_true X8;have q5:aE < (a0.size:Int):=of_decide_eq_true X8;have aI:=q2C a0 aE;replace p5:=eq_true p5;replace q5:=eq_true q5;go_wp2
       go_roundg k1
       case measure=>have:=aG.out;omega
       case rel=>exact ⟨(aC),(wrap64 (aD + 1)),(wrap64 (aE + 1)),X4,X4,H',⟨by have:=aG.out;omega⟩,⟨aR aH.out⟩,⟨X13⟩⟩
      ·rw [if_neg c6] at H;have c6b0:=nF c6;have c6b1:=nT c6;have aJ:=am H;clear H;have p5:0≤(aE:Int):=of_decide_eq_true X8;have q5:aE < (a0.size:Int):=of_decide_eq_true X8;have aI:=q2C a0 aE;replace p5:=eq_true p5;replace q5:=eq_true q5;go_upto_if 48 with (fail)
       go_cut [48] (fun aK wc=>∃ (kq:Nat) (aM:Bool),aK = .bool aM∧q0c (q0C.j1 kq a0 aC aD aE (bt a0 aE) aM = some (r1,r2,r3))∧q0c (kq≤k1)∧q0c (Kd.R k61 61 wc w.heap.size (fun _=>True) u5 aC)∧q0c (Below w.heap.size w wc))
       case first=>
        have H:=aJ.out;clear aJ;by_cases c8:(bt a0 aE) = 32
        ·rw [if_pos c8] at H;have c8b0:=eT c8;have c8b1:=eF c8;clear c8;(first | rw [c8b0]|(simp only [q2G,q2L];rw [c8b0]) | skip);have H':=am H;clear H;go_wp2
         go_meet
         case rel=>exact ⟨_,(((bt a0 aE) == 32)),X4,H',⟨X165⟩,⟨aR aH.out⟩,⟨X13⟩⟩
        ·rw [if_neg c8] at H;have c8b0:=nF c8;have c8b1:=nT c8;(first | rw [c8b0]|(simp only [q2G,q2L];rw [c8b0]) | skip);by_cases c9:(bt a0 aE) = 9
         ·rw [if_pos c9] at H;have c9b0:=eT c9;have c9b1:=eF c9;clear c9;have H':=am H;clear H;go_wp2
          go_meet
          case rel=>exact ⟨_,(((bt a0 aE) == 9)),X4,H',⟨X165⟩,⟨aR aH.out⟩,⟨X13⟩⟩
         ·rw [if_neg c9] at H;have c9b0:=nF c9;have c9b1:=nT c9;have H':=am H;clear H;go_wp2
          go_meet
          case rel=>exact ⟨_,(((bt a0 aE) == 13)),X4,H',⟨X165⟩,⟨aR aH.out⟩,⟨X13⟩⟩
       case rest=>
        clear aJ;(try clear c2 c2b0 c2b1);(try clear p2 p2);(try clear c3 c3b0 c4 c4b0);(try clear p5 p5);(try clear q5 q5);(try clear aI c6 c6b0 c6b1 p6 c8 c8b0 c8b1 c9 c9b0 c9b1);obtain ⟨kq,aM,rfl,HA,aQ,aH,HB⟩:=hcut;cases kq with
        | zero=>exact absurd HA.out (by simp [q0C.j1])
        | succ aT=>
         have H:=HA.out;clear HA;simp only [q0C.j1] at H;by_cases c10:aM = true
         ·subst c10;replace H:=tP H;have H':=am H;clear H;go_wp2
          go_roundg aT
          case measure=>have:=aG.out;have:=aQ.out;omega
          case rel=>exact ⟨(aC),(aD),(wrap64 (aE + 1)),X4,X4,H',⟨by have:=aG.out;have:=aQ.out;omega⟩,⟨aR aH.out⟩,⟨X13⟩⟩
         ·replace c10:=Bool.eq_false_iff.mpr c10;subst c10;replace H:=tN H;by_cases aU:(bt a0 aE) = 35
          ·rw [if_pos aU] at H;have c11b0:=eT aU;have c11b1:=eF aU;clear aU;have H':=am H;clear H;go_wp2
           go_loopg [7] aT (fun kq v7 w'=>∃ (aW:Int),v7 = .int .i64 aW∧q0c (q0C.l1 kq a0 aC aD aW = some (r1,r2,r3))∧q0c (kq≤aT)∧q0c (Kd.R k61 61 w' w.heap.size (fun _=>True) u5 aC)∧q0c (Below w.heap.size w w'))
           case atStart=>exact ⟨(aE),X4,H',⟨Nat.le_refl _⟩,⟨aR aH.out⟩,⟨X13⟩⟩
           case round=>
            clear H';(try clear c1 c2 c2b0 c2b1);(try clear p2 p2);(try clear c3 c3b0 c4 c4b0);(try clear p5 p5);(try clear q5 q5);(try clear aI c6 c6b0 c6b1);(try clear p6 p6);(try clear c8 c8b0 c8b1 c9 c9b0 c9b1 c10 aU c11b0 c11b1);obtain ⟨aW,rfl,HA,aX,aH,HB⟩:=hrel;cases gk with
            | zero=>exact absurd HA.out (by simp [q0C.l1])
            | succ k3=>
             have H:=HA.out;clear HA;simp only [q0C.l1] at H;by_cases aY:aW < (a0.size:Int)
             ·rw [if_pos aY] at H;have c12b0:=dT aY;clear aY;by_cases aZ:0≤aW
              ·rw [if_pos aZ] at H;have c13b0:=dT aZ;clear aZ;by_cases bA:(bt a0 aW) = 10
               ·rw [if_pos bA] at H;have c15b0:=eT bA;have c15b1:=eF bA;clear bA;have H':=am H;clear H;have bB:0≤(aW:Int):=of_decide_eq_true X8;have bC:aW < (a0.size:Int):=of_decide_eq_true X8;have bD:=q2C a0 aW;replace bB:=eq_true bB;replace bC:=eq_true bC;go_wp2
                go_roundg k3
                case measure=>have:=aG.out;have:=aQ.out;have:=aX.out;omega
                case rel=>exact ⟨(aC),(aD),(aW),X4,X4,H',⟨X166⟩,⟨aR aH.out⟩,⟨X13⟩⟩
               ·rw [if_neg bA] at H;have c15b0:=nF bA;have c15b1:=nT bA;have H':=am H;clear H;have bB:0≤(aW:Int):=of_decide_eq_true X8;have bC:aW < (a0.size:Int):=of_decide_eq_true X8;have bD:=q2C a0 aW;replace bB:=eq_true bB;replace bC:=eq_true bC;go_wp2
                go_roundg k3
                case measure=>have:=aG.out;have:=aQ.out;have:=aX.out;omega
                case rel=>exact ⟨(wrap64 (aW + 1)),X4,H',⟨X166⟩,⟨aR aH.out⟩,⟨X13⟩⟩
              ·exact iN aZ H
             ·rw [if_neg aY] at H;have c12b0:=dF aY;clear aY;have H':=am H;clear H;go_wp2
              go_roundg k3
              case measure=>have:=aG.out;have:=aQ.out;have:=aX.out;omega
              case rel=>exact ⟨(aC),(aD),(aW),X4,X4,H',⟨X166⟩,⟨aR aH.out⟩,⟨X13⟩⟩
          ·rw [if_neg aU] at H;have c11b0:=nF aU;have c11b1:=nT aU;by_cases bE:0≤aE
           ·rw [if_pos bE] at H;have c16b0:=eq_true bE;have c16b1:=dT bE;clear bE;by_cases bF:aE≤(a0.size:Int)
            ·rw [if_pos bF] at H;have c17b0:=eq_true bF;have c17b1:=dT bF;clear bF;obtain ⟨⟨bG,bH,bI,bJ,bK⟩,bL,H⟩:=oB H;(try dsimp only at H);have bM:=am bL;clear bL;by_cases bN:bK = 0
             ·rw [if_pos bN] at H;have c19b0:=eT bN;have c19b1:=eF bN;clear bN;by_cases bO:aC.length < 4398046511104
              ·rw [if_pos bO] at H;have bP:=am bO;clear bO;obtain ⟨bQ,bR⟩:∃ y_:List (S61),y_ = (aC++[(⟨bG,bH,aD⟩:S61)]):=⟨_,rfl⟩;rw [← bR] at H;(try rw [oG bQ] at H)
               have bU:=am bR;clear bR;have H':=am H;clear H;go_wp2_with (first|((with_reducible refine gc 47 ?_);refine gL (some 25) Tryz.func47 #[.string (a0.extract (aE:Int).toNat a0.size)] ?_;(with_reducible refine (q2y.calls aT (a0.extract (aE:Int).toNat a0.size) bG bH bI bJ bK _ bM.out).mono ?_);rintro e w21 ⟨rfl,hb⟩;refine ⟨_,rfl,?_⟩;replace aH:=am (Kd.R_below (aR aH.out) hb);replace HB:=bS X13 hb;clear hb)|((with_reducible refine gd 8 ?_);refine be 8 #[.int .i64 0,.string ⟨#[]⟩,.int .i64 0] 61 ?_;intro bV hg w22 hbox hb;replace aH:=am (Kd.R_below (Kd.R_elderB (aR aH.out) bV (Nat.le_of_eq hg.symm)) hb);have bW:=am (hbox);have bX:=sG (w:=w) hg X13;have bY:=sG (w:=w) hg X13;replace HB:=bS X13 hb;clear hb hbox hg;have Z23:=bc3 bW)|((with_reducible refine q1l (b:=.append) (xs:=#[.tmp 35,.tmp 37]) rfl ?_);at_builtin;refine Kd.R_append k61 (w0:=w) w.heap.size rfl (.tmp 35) (.tmp 37) 49 61 (.agg #[(.int .i64 0),(.string ⟨#[]⟩),(.int .i64 0)]) 32 rfl Tryz.underlying49 info61 rfl (by decide) (by omega) u5 aC (⟨bG,bH,aD⟩:S61) [.int .i64 bG,.string bH,.int .i64 aD] (fun k_=>k_≠bV) (fun _=>False) rfl X64 ?aP (fun _ hk=>hk.elim) ?aF ?aO ?aB ?aS ?aL ?_;(case aP=>exact k61_mkM _ _ _ (⟨bG,bH,aD⟩:S61));(case aB=>exact X167);(case aF=>exact (fun k_ hk=>Kd.freshB (g:=bV) (o:=.cells #[.int .i64 bG,.string bH,.int .i64 aD] 61 (0,0)) X168 k_ hk));(case aO=>exact (aR (Kd.R_mono (fxR bV 2 (.int .i64 aD) (fxR bV 2 (.int .i64 bI) (fxR bV 1 (.string bH) (fxR bV 0 (.int .i64 bG) (Kd.R_mono aH.out (fun k_ hk=>(⟨hk,hk.2⟩:_∧k_≠bV))))))) (fun _ hk=>hk.1.2))));(case aS=>exact (q0j X167));(case aL=>have:=bP.out;omega);intro v130 w24 ho hb hg hat;rw [← bU.out] at ho;replace bW:=am (q1k (g:=bV) (o:=.cells #[.int .i64 bG,.string bH,.int .i64 aD] 61 (0,0)) X168 hg (Kd.R_away aH.out (fun _ hk=>hk.2)));replace HB:=am (hb);have bZ:=am (ho);clear aH;clear ho hb hg hat))
               go_roundg aT
               case measure=>have:=aG.out;have:=aQ.out;omega
               case rel=>exact ⟨(bQ),(aD),(wrap64 (aE + bJ)),X4,X4,H',⟨by have:=aG.out;have:=aQ.out;omega⟩,⟨aR (Kd.R_mono bZ.out (fun _ hk=>trivial))⟩,⟨X167⟩⟩
              ·exact iN bO H
             ·rw [if_neg bN] at H;have c19b0:=nF bN;have c19b1:=nT bN;simp only [Option.some.injEq,Prod.mk.injEq] at H;obtain ⟨rfl,rfl,rfl⟩:=H;go_wp2_with (first|((with_reducible refine gc 47 ?_);refine gL (some 25) Tryz.func47 #[.string (a0.extract (aE:Int).toNat a0.size)] ?_;(with_reducible refine (q2y.calls aT (a0.extract (aE:Int).toNat a0.size) bG bH bI bJ bK _ bM.out).mono ?_);rintro e w25 ⟨rfl,hb⟩;refine ⟨_,rfl,?_⟩;replace aH:=am (Kd.R_below (aR aH.out) hb);replace HB:=bS X13 hb;clear hb)|((with_reducible refine gd 8 ?_);refine be 8 #[.int .i64 0,.string ⟨#[]⟩,.int .i64 0] 61 ?_;intro bV hg w26 hbox hb;replace aH:=am (Kd.R_below (Kd.R_elderB (aR aH.out) bV (Nat.le_of_eq hg.symm)) hb);have bW:=am (hbox);have bX:=sG (w:=w) hg X13;have bY:=sG (w:=w) hg X13;replace HB:=bS X13 hb;clear hb hbox hg;have Z27:=bc3 bW))
              go_ret3
              exact ⟨_,X14,X101,X167⟩
            ·exact iN bF H
           ·exact iN bE H
     ·exact iN c4 H
    ·rw [if_neg c3] at H;have c3b0:=dF c3;clear c3;simp only [Option.some.injEq,Prod.mk.injEq] at H;obtain ⟨rfl,rfl,rfl⟩:=H;go_wp2
     go_ret3
     exact ⟨_,X14,aR aH.out,X13⟩
end Go.Proofs.YtmffocankommaaaGreatDoor.B
