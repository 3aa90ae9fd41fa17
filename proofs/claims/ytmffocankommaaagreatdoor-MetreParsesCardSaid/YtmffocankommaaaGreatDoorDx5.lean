/- Printed walks: what each function of the program computes. Condition: the Lean function gives a value. -/
import Derived.Test.YtmffocankommaaaGreatDoorDYZed
import Derived.Test.YtmffocankommaaaGreatDoorProg
import Derived.Below
import Derived.Deep.Draws
import Derived.Deep.AppendLies
import Derived.Maps.AppendAt
import Derived.OwnWalk
import Derived.Laws.BytesArg
import Derived.Laws.MakeOwn
import Derived.Laws.OwnMore
import Derived.Deep.OwnRows
import Derived.Tactics
import Derived.Lib.ConvBytes
import Derived.Laws.Slices
import Derived.WalkKit
import Derived.KernelRfl
import Derived.RowKit3
import Derived.Deep.LoopGhost
import Derived.Deep.QuietTactic
import Derived.BigQuiet
import Derived.WideLaws
import Derived.Deep.DeepCutAuto
import Derived.Deep.CutBlock
import Derived.Deep.RegionHeld3
import Derived.Laws.Rows
import Derived.Lib.AppendStr
import Derived.ArgAppend
import Derived.Laws.IdiomCopy
import Derived.OrdersHeld
import Derived.Laws.BitsLemmas
import Derived.RowKit
import Derived.Test.YtmffocankommaaaGreatDoorDShelf
import Derived.Shelf.Spec.SlicesGrow
import Derived.Test.YtmffocankommaaaGreatDoorDWWords
import Derived.Test.YtmffocankommaaaGreatDoorDWLast
import Derived.Test.YtmffocankommaaaGreatDoorDWTab
import Derived.Test.YtmffocankommaaaGreatDoorDWApart
import Derived.Test.YtmffocankommaaaGreatDoorDWFoot
import Derived.Test.YtmffocankommaaaGreatDoorDWKept
import Derived.Test.YtmffocankommaaaGreatDoorDWShare
import Derived.Test.YtmffocankommaaaGreatDoorDWN
import Derived.Test.YtmffocankommaaaGreatDoorDWFootNe
import Derived.Test.YtmffocankommaaaGreatDoorDWEqStruct
import Derived.Test.YtmffocankommaaaGreatDoorDWRepsOne
import Derived.Test.YtmffocankommaaaGreatDoorDWInv
import Derived.Test.YtmffocankommaaaGreatDoorDWGuard
import Derived.Test.YtmffocankommaaaGreatDoorDWNEv
import Derived.Test.YtmffocankommaaaGreatDoorDWMore
import Derived.Test.YtmffocankommaaaGreatDoorDYWords
import Derived.Test.YtmffocankommaaaGreatDoorDYShort
namespace Go.Proofs.YtmffocankommaaaGreatDoor.P
open Go.RowKit Go.Proofs.YtmffocankommaaaGreatDoorW.PrintWords Go.Proofs.YtmffocankommaaaGreatDoorW.PrintLast Go.Proofs.YtmffocankommaaaGreatDoorW.PrintMore Go.Proofs.YtmffocankommaaaGreatDoorY Go.Proofs.YtmffocankommaaaGreatDoorS Go.Proofs.YtmffocankommaaaGreatDoorS _root_.Go.Proofs.Tryz
attribute [local go_sem] q2U q3x q3u q3V q3S q3i q3f q3v q3w
set_option linter.unusedVariables false
set_option linter.unusedSimpArgs false
set_option maxHeartbeats 8000000
set_option maxRecDepth 100000
def errW:Option Int→Value
 | none=>.nilIface
 | some c=>.iface 0 (iv c)
theorem q5p:errW none=.nilIface:=rfl
theorem q5q (c:Int):errW (some c)=.iface 0 (iv c):=rfl

theorem q6v:(Tryz.prog.info? 9).map (fun i=>(i.zero,i.size,i.bytes))=some (some (.string ⟨#[]⟩),1,16):=by kernel_rfl
theorem q7S:(Tryz.prog.info? 28).map (fun i=>(i.zero,i.size,i.bytes))=some (some (.agg #[(iv 0),(.string ⟨#[]⟩),(iv 0),(.slice none 0 0)]),4,56):=by kernel_rfl
theorem q7Y:(Tryz.prog.info? 43).map (fun i=>(i.zero,i.size,i.bytes))=some (some (.slice none 0 0),1,24):=by kernel_rfl
theorem v2M:(Tryz.prog.info? 61).map (fun i=>(i.zero,i.size,i.bytes))=some (some (.agg #[(iv 0),(.string ⟨#[]⟩),(iv 0)]),3,32):=by kernel_rfl
theorem v2S:(Tryz.prog.info? 68).map (fun i=>(i.zero,i.size,i.bytes))=some (some (.agg #[(.string ⟨#[]⟩),(iv 0),(.string ⟨#[]⟩),(iv 0),(.slice none 0 0)]),5,72):=by kernel_rfl
theorem v2N:(Tryz.prog.info? 70).map (fun i=>(i.zero,i.size,i.bytes))=some (some (.agg #[(.string ⟨#[]⟩),(iv 0),(iv 0)]),3,32):=by kernel_rfl
structure S61 where
 f0:Int
 f1:q0b
 f2:Int
def z61:S61:=⟨(0:Int),(⟨#[]⟩:q0b),(0:Int)⟩
def k61:Kd S61:=Kd.iso (Kd.pair (Kd.int .i64) (Kd.pair Kd.string (Kd.int .i64))) (fun x:S61=>(x.f0,x.f1,x.f2))
theorem v2m {w:World} {x:S61} {cs:List Value} (h:k61.K w x cs):cs=[iv x.f0,.string x.f1,iv x.f2]:=by
 obtain⟨_,_,rfl,rfl,⟨_,_,rfl,rfl,rfl⟩⟩:=h;exact rfl
theorem v1i (w:World) (base:Nat) (ok:Nat→Prop) (x:S61)  : k61.M w base ok x [iv x.f0,.string x.f1,iv x.f2]:=⟨[iv x.f0],[.string x.f1,iv x.f2],rfl,rfl,⟨[.string x.f1],[iv x.f2],rfl,rfl,rfl⟩⟩
def q2G (xs:List S61) (i:Int):S61:=xs.getD i.toNat z61
theorem q5b {w:World} {A:Option Addr} {n:Nat} {xs:List S61} (h:Kd.C k61 w A n xs) (i:Int) (h0:0≤i) (h1:i<n):∃ ad,A=some ad∧w.cell? (ad.add (i.toNat*3))=some (iv (q2G xs i).f0)∧w.cell? ⟨(ad.add (i.toNat*3)).block,(ad.add (i.toNat*3)).off+1,none⟩=some (.string (q2G xs i).f1)∧w.cell? ⟨(ad.add (i.toNat*3)).block,(ad.add (i.toNat*3)).off+2,none⟩=some (iv (q2G xs i).f2):=by
 obtain⟨ad,c,e,_,hK,aA⟩:=Kd.C_get h z61 i h0 h1;have hc:∀ j u,c[j]?=some u→w.cell? (ad.add (i.toNat*3+j))=some u:=aA;obtain rfl:=v2m hK;exact⟨ad,e,hc 0 _ rfl,X0,X1⟩

structure S28 where
 f0:Int
 f1:q0b
 f2:Int
 f3:(List S28)
def z28:S28:=⟨(0:Int),(⟨#[]⟩:q0b),(0:Int),([]:List S28)⟩
def F28 (d:Kd S28):Kd S28:=Kd.iso (Kd.pair (Kd.int .i64) (Kd.pair Kd.string (Kd.pair (Kd.int .i64) (Kd.slice 28 d)))) (fun x:S28=>(x.f0,x.f1,x.f2,x.f3))
theorem v2G:Kd.Mono F28:=Kd.mono_iso _ (Kd.mono_pair (Kd.mono_const _) (Kd.mono_pair (Kd.mono_const _) (Kd.mono_pair (Kd.mono_const _) (Kd.mono_slice 28 Kd.mono_id))))
theorem sub28:Kd.Sub F28 [28]:=Kd.sub_iso _ (Kd.sub_pair (Kd.sub_const _ (by decide)) (Kd.sub_pair (Kd.sub_const _ (by decide)) (Kd.sub_pair (Kd.sub_const _ (by decide)) (Kd.sub_slice 28 (by decide) Kd.sub_id))))
theorem sz28:∀ n,(Kd.upto F28 4 [28] n).sz=4:=Kd.upto_sz (fun _=>rfl)
def k28:Kd S28:=Kd.fix F28 4 [28] sz28 (Kd.upto_E sub28)
theorem q7c {w:World} {x:S28} {cs:List Value} (h:k28.K w x cs):∃ A3 c3,cs=[iv x.f0,.string x.f1,iv x.f2,sl A3 x.f3 c3]∧x.f3.length≤c3∧k28.C w A3 x.f3.length x.f3:=by
 obtain⟨n,h⟩:=h;cases n with
 | zero=>exact h.elim
 | succ n=>
  obtain⟨_,_,rfl,rfl,⟨_,_,rfl,rfl,⟨_,_,rfl,rfl,⟨A3,c3,rfl,l3,g3⟩⟩⟩⟩:=h;exact⟨A3,c3,rfl,l3,Kd.fix_C g3⟩
theorem v2v (w:World) (x:S28) {A3:Option Addr} {c3:Nat} (l3:x.f3.length≤c3) (g3:k28.C w A3 x.f3.length x.f3):k28.K w x [iv x.f0,.string x.f1,iv x.f2,sl A3 x.f3 c3]:=by
 obtain⟨n3,q3⟩:=Kd.fix_C_back v2G g3;have r3:=Kd.upto_C_le v2G sz28 (show n3≤n3 by omega) q3;exact⟨n3+1,⟨[iv x.f0],[.string x.f1,iv x.f2,sl A3 x.f3 c3],rfl,rfl,⟨[.string x.f1],[iv x.f2,sl A3 x.f3 c3],rfl,rfl,⟨[iv x.f2],[sl A3 x.f3 c3],rfl,rfl,⟨A3,c3,rfl,l3,r3⟩⟩⟩⟩⟩
theorem q5J {W:World} {ok:Nat→Prop} {x:S28} {cs:List Value} (h:Kd.FK k28 W ok x cs):∃ A3 c3,cs=[iv x.f0,.string x.f1,iv x.f2,sl A3 x.f3 c3]∧x.f3.length≤c3∧Kd.F k28 W ok A3 x.f3.length x.f3:=by
 obtain⟨A3,c3,rfl,l3,_⟩:=q7c (Kd.FK_now h);exact⟨A3,c3,rfl,l3,(fun W' hW=>by obtain⟨aA,aC,he,l3_,aD⟩:=q7c (h W' hW);injection (q0d (show some (Value.slice A3 x.f3.length c3)=some (Value.slice aA x.f3.length aC) from congrArg (fun l=>l[3]?) he)) with ha_ _ _;rw[ha_];exact aD)⟩
theorem q5r (W:World) (ok:Nat→Prop) (x:S28) {A3:Option Addr} {c3:Nat} (l3:x.f3.length≤c3) (g3:Kd.F k28 W ok A3 x.f3.length x.f3):Kd.FK k28 W ok x [iv x.f0,.string x.f1,iv x.f2,sl A3 x.f3 c3]:=fun W2 hW=>v2v W2 x l3 (g3 W2 hW)
def q1o (xs:List S28) (i:Int):S28:=xs.getD i.toNat z28
theorem q4K {w:World} {A:Option Addr} {n:Nat} {xs:List S28} (h:Kd.C k28 w A n xs) (i:Int) (h0:0≤i) (h1:i<n):∃ ad A3 c3,A=some ad∧w.cell? (ad.add (i.toNat*4))=some (iv (q1o xs i).f0)∧w.cell? ⟨(ad.add (i.toNat*4)).block,(ad.add (i.toNat*4)).off+1,none⟩=some (.string (q1o xs i).f1)∧w.cell? ⟨(ad.add (i.toNat*4)).block,(ad.add (i.toNat*4)).off+2,none⟩=some (iv (q1o xs i).f2)∧w.cell? ⟨(ad.add (i.toNat*4)).block,(ad.add (i.toNat*4)).off+3,none⟩=some (sl A3 (q1o xs i).f3 c3)∧(q1o xs i).f3.length≤c3∧k28.C w A3 (q1o xs i).f3.length (q1o xs i).f3:=by
 obtain⟨ad,c,e,_,hK,aA⟩:=Kd.C_get h z28 i h0 h1;have hc:∀ j u,c[j]?=some u→w.cell? (ad.add (i.toNat*4+j))=some u:=aA;obtain⟨A3,c3,rfl,l3,g3⟩:=q7c hK;exact⟨ad,A3,c3,e,hc 0 _ rfl,X0,X1,X2,l3,g3⟩

structure S68 where
 f0:q0b
 f1:S28
def z68:S68:=⟨(⟨#[]⟩:q0b),z28⟩
def k68:Kd S68:=Kd.iso (Kd.pair Kd.string k28) (fun x:S68=>(x.f0,x.f1))
theorem v1y {w:World} {x:S68} {cs:List Value} (h:k68.K w x cs):∃ A4 c4,cs=[.string x.f0,iv x.f1.f0,.string x.f1.f1,iv x.f1.f2,sl A4 x.f1.f3 c4]∧x.f1.f3.length≤c4∧k28.C w A4 x.f1.f3.length x.f1.f3:=by
 obtain⟨_,_,rfl,rfl,s1⟩:=h;obtain⟨A4,c4,rfl,l4,g4⟩:=q7c s1;exact⟨A4,c4,rfl,l4,g4⟩
theorem k68_mk (w:World) (x:S68) {A4:Option Addr} {c4:Nat} (l4:x.f1.f3.length≤c4) (g4:k28.C w A4 x.f1.f3.length x.f1.f3):k68.K w x [.string x.f0,iv x.f1.f0,.string x.f1.f1,iv x.f1.f2,sl A4 x.f1.f3 c4]:=⟨[.string x.f0],[iv x.f1.f0,.string x.f1.f1,iv x.f1.f2,sl A4 x.f1.f3 c4],rfl,rfl,(v2v w x.f1 l4 g4)⟩
theorem v0u (W:World) (ok:Nat→Prop) (x:S68) {A4:Option Addr} {c4:Nat} (l4:x.f1.f3.length≤c4) (g4:Kd.F k28 W ok A4 x.f1.f3.length x.f1.f3):Kd.FK k68 W ok x [.string x.f0,iv x.f1.f0,.string x.f1.f1,iv x.f1.f2,sl A4 x.f1.f3 c4]:=fun W2 hW=>k68_mk W2 x l4 (g4 W2 hW)
def q1F (xs:List S68) (i:Int):S68:=xs.getD i.toNat z68
theorem q5E {w:World} {A:Option Addr} {n:Nat} {xs:List S68} (h:Kd.C k68 w A n xs) (i:Int) (h0:0≤i) (h1:i<n):∃ ad A4 c4,A=some ad∧w.cell? (ad.add (i.toNat*5))=some (.string (q1F xs i).f0)∧w.cell? ⟨(ad.add (i.toNat*5)).block,(ad.add (i.toNat*5)).off+1,none⟩=some (iv (q1F xs i).f1.f0)∧w.cell? ⟨(ad.add (i.toNat*5)).block,(ad.add (i.toNat*5)).off+2,none⟩=some (.string (q1F xs i).f1.f1)∧w.cell? ⟨(ad.add (i.toNat*5)).block,(ad.add (i.toNat*5)).off+3,none⟩=some (iv (q1F xs i).f1.f2)∧w.cell? ⟨(ad.add (i.toNat*5)).block,(ad.add (i.toNat*5)).off+4,none⟩=some (sl A4 (q1F xs i).f1.f3 c4)∧(q1F xs i).f1.f3.length≤c4∧k28.C w A4 (q1F xs i).f1.f3.length (q1F xs i).f1.f3:=by
 obtain⟨ad,c,e,_,hK,aA⟩:=Kd.C_get h z68 i h0 h1;have hc:∀ j u,c[j]?=some u→w.cell? (ad.add (i.toNat*5+j))=some u:=aA;obtain⟨A4,c4,rfl,l4,g4⟩:=v1y hK;exact⟨ad,A4,c4,e,hc 0 _ rfl,X0,X1,X2,by rw[← q4R _ _ 4 (by omega)];exact hc 4 _ rfl,l4,g4⟩

structure S70 where
 f0:q0b
 f1:Int
 f2:Int
def z70:S70:=⟨(⟨#[]⟩:q0b),(0:Int),(0:Int)⟩
def k70:Kd S70:=Kd.iso (Kd.pair Kd.string (Kd.pair (Kd.int .i64) (Kd.int .i64))) (fun x:S70=>(x.f0,x.f1,x.f2))
theorem v1T {w:World} {x:S70} {cs:List Value} (h:k70.K w x cs):cs=[.string x.f0,iv x.f1,iv x.f2]:=by
 obtain⟨_,_,rfl,rfl,⟨_,_,rfl,rfl,rfl⟩⟩:=h;exact rfl
theorem v0U (w:World) (base:Nat) (ok:Nat→Prop) (x:S70)  : k70.M w base ok x [.string x.f0,iv x.f1,iv x.f2]:=⟨[.string x.f0],[iv x.f1,iv x.f2],rfl,rfl,⟨[iv x.f1],[iv x.f2],rfl,rfl,rfl⟩⟩
def q2K (xs:List S70) (i:Int):S70:=xs.getD i.toNat z70
theorem q5K {w:World} {A:Option Addr} {n:Nat} {xs:List S70} (h:Kd.C k70 w A n xs) (i:Int) (h0:0≤i) (h1:i<n):∃ ad,A=some ad∧w.cell? (ad.add (i.toNat*3))=some (.string (q2K xs i).f0)∧w.cell? ⟨(ad.add (i.toNat*3)).block,(ad.add (i.toNat*3)).off+1,none⟩=some (iv (q2K xs i).f1)∧w.cell? ⟨(ad.add (i.toNat*3)).block,(ad.add (i.toNat*3)).off+2,none⟩=some (iv (q2K xs i).f2):=by
 obtain⟨ad,c,e,_,hK,aA⟩:=Kd.C_get h z70 i h0 h1;have hc:∀ j u,c[j]?=some u→w.cell? (ad.add (i.toNat*3+j))=some u:=aA;obtain rfl:=v1T hK;exact⟨ad,e,hc 0 _ rfl,X0,X1⟩

def q2Y (xs:List (List q0b)) (i:Int):(List q0b):=xs.getD i.toNat ([]:List q0b)
theorem q5o {w:World} {A:Option Addr} {n:Nat} {xs:List (List q0b)} (h:Kd.C (Kd.slice 9 Kd.string) w A n xs) (i:Int) (h0:0≤i) (h1:i<n):∃ ad A0 c0,A=some ad∧w.cell? (ad.add i.toNat)=some (sl A0 (q2Y xs i) c0)∧(q2Y xs i).length≤c0∧Kd.string.C w A0 (q2Y xs i).length (q2Y xs i):=by
 obtain⟨ad,c,e,_,hK,aA⟩:=Kd.C_get h ([]:List q0b) i h0 h1;have hc:∀ j u,c[j]?=some u→w.cell? (ad.add (i.toNat*1+j))=some u:=aA;obtain⟨A0,c0,rfl,l0,g0⟩:=hK;exact⟨ad,A0,c0,e,X3,l0,g0⟩

structure S30 where
 f0:q0b
 f1:(List S68)
 f2:(List S70)
 f3:(List (List q0b))
 f4:S28
theorem eqA70 (d:Nat) (w:World) (x0 y0:q0b) (x1 y1:Int) (x2 y2:Int) :
  (Op.equalIn (d+2) 70 (.agg #[.string x0,iv x1,iv x2]) (.agg #[.string y0,iv y1,iv y2])).run prog w=.ok (x0.toList == y0.toList && (x1 == y1 && (x2 == y2))) w:=by
 refine eqA_of underlying70 X4 ?_;refine q9S (by rfl) (by go_simp;rfl) (by go_simp;rfl) (by go_simp) ?_;refine q9S (by rfl) (by go_simp;rfl) (by go_simp;rfl) (by go_simp) ?_;exact v1E (by rfl) (by go_simp;rfl) (by go_simp;rfl) (by go_simp)
def q3Q.f (a0:Int):Option (Bool):=if a0≥97 then (some (decide (a0≤122))) else (some false)
theorem q3Q.calls (a0:Int) (r:Bool) (w:World) (h:q3Q.f a0=some r) :
  Calls prog 80 #[.int .u8 a0] w fun e w'=>e=.returned (.bool r)∧q3t w w':=by
 have H:=h;clear h;unfold q3Q.f at H;by_cases c2:a0≥97
 ·rw[if_pos c2]at H;have AA:decide (97≤a0)=true:=q0p c2;clear c2;obtain rfl:=q0d H;go_enter func80,ntmps80;go_wp2
  go_ret
  exact⟨X7,X18⟩
 ·rw[if_neg c2]at H;have AA:decide (97≤a0)=false:=q0z c2;clear c2;obtain rfl:=q0d H;go_enter func80,ntmps80;go_wp2
  go_ret
  exact⟨X7,X18⟩

def q3E.f (a0:Int):Option (Bool):=if a0≥48 then (some (decide (a0≤57))) else (some false)
theorem q3E.calls (a0:Int) (r:Bool) (w:World) (h:q3E.f a0=some r) :
  Calls prog 82 #[.int .u8 a0] w fun e w'=>e=.returned (.bool r)∧q3t w w':=by
 have H:=h;clear h;unfold q3E.f at H;by_cases c2:a0≥48
 ·rw[if_pos c2]at H;have AA:decide (48≤a0)=true:=q0p c2;clear c2;obtain rfl:=q0d H;go_enter func82,ntmps82;go_wp2
  go_ret
  exact⟨X7,X18⟩
 ·rw[if_neg c2]at H;have AA:decide (48≤a0)=false:=q0z c2;clear c2;obtain rfl:=q0d H;go_enter func82,ntmps82;go_wp2
  go_ret
  exact⟨X7,X18⟩

mutual
def q1s.j0:Nat→q0b→Bool→Option (Int)
 | 0,_,_=>none
 | k+1,x0,aA=>if aA=true then (some 0) else (q1s.l0 k x0 1)
def q1s.l0:Nat→q0b→Int→Option (Int)
 | 0,_,_=>none
 | k+1,x0,x3=>if x3<(x0.size:Int) then (if 0≤x3 then ((q3Q.f (bt x0 x3)).bind fun aA=>(if aA=true then (q1s.j2 k x0 x3 (bt x0 x3) true) else ((q3E.f (bt x0 x3)).bind fun aC=>(q1s.j2 k x0 x3 (bt x0 x3) aC)))) else (none)) else (some x3)
def q1s.j2:Nat→q0b→Int→Int→Bool→Option (Int)
 | 0,_,_,_,_=>none
 | k+1,x0,x3,x4,aA=>if aA=true then (q1s.l0 k x0 (wrap64 (x3+1))) else (if x4=45 then (if (wrap64 (x3+1))<(x0.size:Int) then (if 0≤(wrap64 (x3+1)) then ((q3Q.f (bt x0 (wrap64 (x3+1)))).bind fun aC=>(if aC=true then (q1s.l0 k x0 (wrap64 (x3+2))) else ((q3E.f (bt x0 (wrap64 (x3+1)))).bind fun aD=>(if aD=true then (q1s.l0 k x0 (wrap64 (x3+2))) else (some x3))))) else (none)) else (some x3)) else (some x3))
end
def q1s.f (k:Nat) (a0:q0b):Option (Int):=if a0.toList=([]:List UInt8) then (q1s.j0 k a0 true) else (if 0<(a0.size:Int) then ((q3Q.f (bt a0 0)).bind fun aA=>(q1s.j0 k a0 (!aA))) else (none))
theorem q1s.mono_l:∀ k,(∀ y0 y1,LeO (q1s.j0 k y0 y1) (q1s.j0 (k+1) y0 y1))∧(∀ y0 y1,LeO (q1s.l0 k y0 y1) (q1s.l0 (k+1) y0 y1))∧(∀ y0 y1 y2 y3,LeO (q1s.j2 k y0 y1 y2 y3) (q1s.j2 (k+1) y0 y1 y2 y3))
 | 0=>⟨fun _ _ r h=>by simp [q1s.j0]at h,fun _ _ r h=>by simp [q1s.l0]at h,fun _ _ _ _ r h=>by simp [q1s.j2]at h⟩
 | k+1=>by
  obtain⟨aA,aC,aD⟩:=q1s.mono_l k;refine⟨?_,?_,?_⟩
  ·intro y0 y1;unfold q1s.j0;exact X114
  ·intro y0 y1;unfold q1s.l0;exact X114
  ·intro y0 y1 y2 y3;unfold q1s.j2;exact X114
theorem q1s.mono:∀ a0 k,LeO (q1s.f k a0) (q1s.f (k+1) a0):=by
 intro a0 k;obtain⟨aA,aC,aD⟩:=q1s.mono_l k;unfold q1s.f;exact X114
theorem q1s.calls (k:Nat) (a0:q0b) (r:Int) (w:World) (h:q1s.f k a0=some r) :
  Calls prog 81 #[.string a0] w fun e w'=>e=.returned (iv r)∧q3t w w':=by
 have H:=h;clear h;unfold q1s.f at H;have aA:=am H;clear H;go_enter func81,ntmps81;go_upto_region 1 with (fail)
 go_cut [12] (fun aC wc=>∃ (kq:Nat) (aD:Bool),aC=.bool aD∧q0i (q1s.j0 kq a0 aD=some r)∧q0i (kq≤k)∧q3t w wc)
 case first=>
  have H:=aA.out;clear aA;by_cases c3:a0.toList=([]:List UInt8)
  ·rw[if_pos c3]at H;have AA:=eT c3;have AB:=eF c3;clear c3;(first|rw[AA]|(simp only[q4g,q4q];rw[AA])|skip);have H':=am H;clear H;go_wp2
   go_meet
   case rel=>exact⟨_,(true),X7,H',⟨X8⟩,X18⟩
  ·rw[if_neg c3]at H;have AA:=nF c3;have AB:=nT c3;(first|rw[AA]|(simp only[q4g,q4q];rw[AA])|skip);by_cases c4:0<(a0.size:Int)
   ·rw[if_pos c4]at H;have AC:=dT c4;have AD:decide (0<a0.size)=true:=q0p (by omega);clear c4;obtain⟨aE,A6,H⟩:=oA H;(try dsimp only at H);have H':=am H;clear H;have p5:0≤(0:Int):=(by omega);have q5:0<a0.size:=(by have:(0:Int)<(a0.size:Int):=q0a X16;omega);have aH:∀ h:0<a0.size,((a0[0]'h).toNat:Int)=bt a0 0:=q4d a0 0;clear p5;have aI:(0<(a0.size:Int))=True:=q0c (q0a X16);replace q5:=q0c q5;go_wp2_with (first|(go_at_call 80;(with_reducible refine(q3Q.calls (bt a0 0) aE _ A6.out).mono ?_);rintro e w' ⟨rfl,⟨nd,rfl⟩⟩))
    go_meet
    case rel=>exact⟨_,(!aE),X7,H',⟨X8⟩,X18⟩
   ·exact iN c4 H
 case rest=>
  clear aA;(try clear p2 c3 AA AB c4 AC AD);(try clear p5 p5);(try clear q5 q5);(try clear aH aI);obtain⟨kq,aD,rfl,HA,aJ,⟨mc1,rfl⟩⟩:=hcut;cases kq with
  | zero=>exact absurd HA.out (by simp [q1s.j0])
  | succ aK=>
   have H:=HA.out;clear HA;simp only[q1s.j0]at H;by_cases c7:aD=true
   ·subst c7;replace H:=tP H;obtain rfl:=q0d H;go_wp2
    go_ret
    exact⟨X7,X18⟩
   ·replace c7:=fI c7;subst c7;replace H:=tN H;have H':=am H;clear H;go_wp2
    go_loopg [3] aK (fun kq v3 w'=>∃ (aM:Int),v3=iv aM∧q0i (q1s.l0 kq a0 aM=some r)∧q0i (kq≤aK)∧q3t w w')
    case atStart=>exact⟨(1),X7,H',⟨q0f _⟩,X18⟩
    case round=>
     clear H';(try clear c1);(try clear p2 p2);(try clear c3 AA AB c4 AC AD);(try clear p5 p5);(try clear q5 q5);(try clear aH aI c7);obtain⟨aM,rfl,HA,aQ,⟨m2,rfl⟩⟩:=hrel;cases gk with
     | zero=>exact absurd HA.out (by simp [q1s.l0])
     | succ k2=>
      have H:=HA.out;clear HA;simp only[q1s.l0]at H;by_cases c8:aM<(a0.size:Int)
      ·rw[if_pos c8]at H;have AF:=dT c8;clear c8;by_cases c9:0≤aM
       ·rw[if_pos c9]at H;have AI:=dT c9;clear c9;have aT:=am H;clear H;have aU:0≤(aM:Int):=q0a X16;have aW:aM<(a0.size:Int):=q0a X16;have aX:=q4d a0 aM;replace aU:=q0c aU;replace aW:=q0c aW;go_upto_region 7 with (fail)
        go_cut [21] (fun aY wc=>∃ (kq:Nat) (aZ:Bool),aY=.bool aZ∧q0i (q1s.j2 kq a0 aM (bt a0 aM) aZ=some r)∧q0i (kq≤k2)∧q3t w wc)
        case first=>
         have H:=aT.out;clear aT;obtain⟨bA,bC,H⟩:=oA H;(try dsimp only at H);by_cases bD:bA=true
         ·subst bD;replace H:=tP H;have H':=am H;clear H;go_wp2_with (first|((with_reducible refine gc 80 ?_);refine gCc (some 23) func80 (q3Q.calls (bt a0 aM) true _ bC.out) ?_;rintro w' ⟨nd,rfl⟩))
          go_meet
          case rel=>exact⟨_,(true),X7,H',⟨(X94 aJ aQ)⟩,X18⟩
         ·replace bD:=fI bD;subst bD;replace H:=tN H;obtain⟨bE,bG,H⟩:=oA H;(try dsimp only at H);have H':=am H;clear H;go_wp2_with (first|((with_reducible refine gc 80 ?_);refine gCc (some 23) func80 (q3Q.calls (bt a0 aM) false _ bC.out) ?_;rintro w' ⟨nd,rfl⟩)|(go_at_call 82;(with_reducible refine(q3E.calls (bt a0 aM) bE _ bG.out).mono ?_);rintro e w' ⟨rfl,⟨nd,rfl⟩⟩))
          go_meet
          case rel=>exact⟨_,(bE),X7,H',⟨(X94 aJ aQ)⟩,X18⟩
        case rest=>
         clear aT;(try clear c1 p1 q1 hx1);(try clear p2 p2);(try clear c3 AA AB c4 AC AD);(try clear p5 p5);(try clear q5 q5);(try clear aH aI c7 c8 AF c9 AI);(try clear aU aU);(try clear aW aW);(try clear aX bD);obtain⟨kq,aZ,rfl,HA,bH,⟨mc10,rfl⟩⟩:=hcut;cases kq with
         | zero=>exact absurd HA.out (by simp [q1s.j2])
         | succ bI=>
          have H:=HA.out;clear HA;simp only[q1s.j2]at H;by_cases bJ:aZ=true
          ·subst bJ;replace H:=tP H;have H':=am H;clear H;go_wp2
           go_roundg bI
           case measure=>have:=aJ.out;have:=aQ.out;have:=bH.out;omega
           case rel=>exact⟨(wrap64 (aM+1)),X7,H',⟨(X91 aJ aQ bH)⟩,X18⟩
          ·replace bJ:=fI bJ;subst bJ;replace H:=tN H;by_cases bK:(bt a0 aM)=45
           ·rw[if_pos bK]at H;have AG:=eT bK;have AH:=eF bK;clear bK;by_cases bL:(wrap64 (aM+1))<(a0.size:Int)
            ·rw[if_pos bL]at H;have AE:=dT bL;clear bL;obtain⟨bM,bN⟩:∃ j_:Int,(wrap64 (aM+1))=j_:=⟨_,rfl⟩;replace H:(if 0≤(bM) then ((q3Q.f (bt a0 (bM))).bind fun bO=>(if bO=true then (q1s.l0 bI a0 (wrap64 (aM+2))) else ((q3E.f (bt a0 (bM))).bind fun bP=>(if bP=true then (q1s.l0 bI a0 (wrap64 (aM+2))) else (some aM))))) else (none))=some r:=by first|(rw[bN]at H;exact H)|(simp only[bN]at H ⊢;exact H)
             (try rw[bN]at AE);have hji18w:(IntKind.i64.wrap (aM+1))=bM:=(q4g _).trans bN;by_cases bQ:0≤(bM)
             ·rw[if_pos bQ]at H;have AJ:=dT bQ;clear bQ;obtain⟨bO,bT,H⟩:=oA H;(try dsimp only at H);by_cases bU:bO=true
              ·subst bU;replace H:=tP H;have H':=am H;clear H;have bV:0≤((bM):Int):=q0a X16;have bW:(bM)<(a0.size:Int):=q0a X16;have bX:=q4d a0 (bM);replace bV:=q0c bV;replace bW:=q0c bW;go_wp2_with (first|(go_at_call 80;(with_reducible refine(q3Q.calls (bt a0 (bM)) true _ bT.out).mono ?_);rintro e w' ⟨rfl,⟨nd,rfl⟩⟩))
               go_roundg bI
               case measure=>have:=aJ.out;have:=aQ.out;have:=bH.out;omega
               case rel=>exact⟨(wrap64 (aM+2)),X7,H',⟨(X91 aJ aQ bH)⟩,X18⟩
              ·replace bU:=fI bU;subst bU;replace H:=tN H;obtain⟨bP,bZ,H⟩:=oA H;(try dsimp only at H);by_cases cA:bP=true
               ·subst cA;replace H:=tP H;have H':=am H;clear H;have bV:0≤((bM):Int):=q0a X16;have bW:(bM)<(a0.size:Int):=q0a X16;have bX:=q4d a0 (bM);replace bV:=q0c bV;replace bW:=q0c bW;go_wp2_with (first|(go_at_call 80;(with_reducible refine(q3Q.calls (bt a0 (bM)) false _ bT.out).mono ?_);rintro e w' ⟨rfl,⟨nd,rfl⟩⟩;have cC:0≤((bM):Int):=q0a X16;have cD:(bM)<(a0.size:Int):=q0a X16;have cE:=q4d a0 (bM);replace cC:=q0c cC;replace cD:=q0c cD)|(go_at_call 82;(with_reducible refine(q3E.calls (bt a0 (bM)) true _ bZ.out).mono ?_);rintro e w' ⟨rfl,⟨nd,rfl⟩⟩))
                go_roundg bI
                case measure=>have:=aJ.out;have:=aQ.out;have:=bH.out;omega
                case rel=>exact⟨(wrap64 (aM+2)),X7,H',⟨(X91 aJ aQ bH)⟩,X18⟩
               ·replace cA:=fI cA;subst cA;replace H:=tN H;obtain rfl:=q0d H;have bV:0≤((bM):Int):=q0a X16;have bW:(bM)<(a0.size:Int):=q0a X16;have bX:=q4d a0 (bM);replace bV:=q0c bV;replace bW:=q0c bW;go_wp2_with (first|(go_at_call 80;(with_reducible refine(q3Q.calls (bt a0 (bM)) false _ bT.out).mono ?_);rintro e w' ⟨rfl,⟨nd,rfl⟩⟩;have cC:0≤((bM):Int):=q0a X16;have cD:(bM)<(a0.size:Int):=q0a X16;have cE:=q4d a0 (bM);replace cC:=q0c cC;replace cD:=q0c cD)|(go_at_call 82;(with_reducible refine(q3E.calls (bt a0 (bM)) false _ bZ.out).mono ?_);rintro e w' ⟨rfl,⟨nd,rfl⟩⟩))
                go_ret
                exact⟨by first|rfl|(simp;done)|(simp only[← bN] <;> (first|rfl|simp))|(simp [*];done),X18⟩
             ·exact iN bQ H
            ·rw[if_neg bL]at H;have AE:=dF bL;clear bL;obtain rfl:=q0d H;go_wp2
             go_ret
             exact⟨X7,X18⟩
           ·rw[if_neg bK]at H;have AG:=nF bK;have AH:=nT bK;obtain rfl:=q0d H;go_wp2
            go_ret
            exact⟨X7,X18⟩
       ·exact iN c9 H
      ·rw[if_neg c8]at H;have AF:=dF c8;clear c8;obtain rfl:=q0d H;go_wp2
       go_ret
       exact⟨X7,X18⟩

def q2i.l0:Nat→q0b→Int→Option (Int)
 | 0,_,_=>none
 | k+1,x0,x3=>if x3<(x0.size:Int) then (if 0≤x3 then ((q3E.f (bt x0 x3)).bind fun aA=>(if aA=true then (q2i.l0 k x0 (wrap64 (x3+1))) else (some x3))) else (none)) else (some x3)
def q2i.f (k:Nat) (a0:q0b):Option (Int):=q2i.l0 k a0 0
theorem q2i.mono_l:∀ k,(∀ y0 y1,LeO (q2i.l0 k y0 y1) (q2i.l0 (k+1) y0 y1))
 | 0=>fun _ _ r h=>by simp [q2i.l0]at h
 | k+1=>by
  have aA:=q2i.mono_l k
  ·intro y0 y1;unfold q2i.l0;exact X60
theorem q2i.mono:∀ a0 k,LeO (q2i.f k a0) (q2i.f (k+1) a0):=by
 intro a0 k;have aA:=q2i.mono_l k;unfold q2i.f;exact X60
theorem q2i.calls (k:Nat) (a0:q0b) (r:Int) (w:World) (h:q2i.f k a0=some r) :
  Calls prog 83 #[.string a0] w fun e w'=>e=.returned (iv r)∧q3t w w':=by
 have H:(q2i.l0 k a0 0)=some r:=h;clear h;have H':=am H;clear H;go_enter func83,ntmps83;go_wp2
 go_loopg [3] k (fun kq v3 w'=>∃ (aA:Int),v3=iv aA∧q0i (q2i.l0 kq a0 aA=some r)∧q0i (kq≤k)∧q3t w w')
 case atStart=>exact⟨(0),X7,H',⟨q0f _⟩,X18⟩
 case round=>
  clear H';obtain⟨aA,rfl,HA,aC,⟨m1,rfl⟩⟩:=hrel;cases gk with
  | zero=>exact absurd HA.out (by simp [q2i.l0])
  | succ k1=>
   have H:=HA.out;clear HA;simp only[q2i.l0]at H;by_cases c2:aA<(a0.size:Int)
   ·rw[if_pos c2]at H;have AA:=dT c2;clear c2;by_cases c3:0≤aA
    ·rw[if_pos c3]at H;have AB:=dT c3;clear c3;obtain⟨aD,A5,H⟩:=oA H;(try dsimp only at H);by_cases c6:aD=true
     ·subst c6;replace H:=tP H;have H':=am H;clear H;have p4:0≤(aA:Int):=q0a X16;have q4:aA<(a0.size:Int):=q0a X16;have aG:=q4d a0 aA;replace p4:=q0c p4;replace q4:=q0c q4;go_wp2_with (first|(go_at_call 82;(with_reducible refine(q3E.calls (bt a0 aA) true _ A5.out).mono ?_);rintro e w' ⟨rfl,⟨nd,rfl⟩⟩))
      go_roundg k1
      case measure=>have:=aC.out;omega
      case rel=>exact⟨(wrap64 (aA+1)),X7,H',⟨by have:=aC.out;omega⟩,X18⟩
     ·replace c6:=fI c6;subst c6;replace H:=tN H;obtain rfl:=q0d H;have p4:0≤(aA:Int):=q0a X16;have q4:aA<(a0.size:Int):=q0a X16;have aG:=q4d a0 aA;replace p4:=q0c p4;replace q4:=q0c q4;go_wp2_with (first|(go_at_call 82;(with_reducible refine(q3E.calls (bt a0 aA) false _ A5.out).mono ?_);rintro e w' ⟨rfl,⟨nd,rfl⟩⟩))
      go_ret
      exact⟨X7,X18⟩
    ·exact iN c3 H
   ·rw[if_neg c2]at H;have AA:=dF c2;clear c2;obtain rfl:=q0d H;go_wp2
    go_ret
    exact⟨X7,X18⟩

mutual
def q1E.j0:Nat→q0b→Bool→Option (Int × Bool)
 | 0,_,_=>none
 | k+1,x0,aA=>if aA=true then (some (0,false)) else (if x0.size≤9223372036854775807 then (((some (q5y x0))).bind fun aC=>(q1E.l0 k 0 aC (aC.length:Int) 0)) else (none))
def q1E.l0:Nat→Int→List Int→Int→Int→Option (Int × Bool)
 | 0,_,_,_,_=>none
 | k+1,x4,aA,aC,aD=>if aD<aC then (if 0≤aD then (if aD<(aA.length:Int) then (q1E.l0 k (wrap64 ((wrap64 (10*x4))+(((rd aA aD) - 48) % 256))) aA aC (wrap64 (aD+1))) else (none)) else (none)) else (some (x4,true))
end
def q1E.f (k:Nat) (a0:q0b):Option (Int × Bool):=if a0.toList=([]:List UInt8) then (q1E.j0 k a0 true) else (if (a0.size:Int) > 6 then (q1E.j0 k a0 true) else ((q2i.f k a0).bind fun aA=>(if aA=(a0.size:Int) then (if (a0.size:Int) > 1 then (if 0<(a0.size:Int) then (q1E.j0 k a0 ((bt a0 0) == 48)) else (none)) else (q1E.j0 k a0 false)) else (q1E.j0 k a0 true))))
theorem q1E.mono_l:∀ k,(∀ y0 y1,LeO (q1E.j0 k y0 y1) (q1E.j0 (k+1) y0 y1))∧(∀ y0 y1 y2 y3,LeO (q1E.l0 k y0 y1 y2 y3) (q1E.l0 (k+1) y0 y1 y2 y3))
 | 0=>⟨fun _ _ r h=>by simp [q1E.j0]at h,fun _ _ _ _ r h=>by simp [q1E.l0]at h⟩
 | k+1=>by
  obtain⟨aA,aC⟩:=q1E.mono_l k;refine⟨?_,?_⟩
  ·intro y0 y1;unfold q1E.j0;exact X116
  ·intro y0 y1 y2 y3;unfold q1E.l0;exact X116
theorem q1E.mono:∀ a0 k,LeO (q1E.f k a0) (q1E.f (k+1) a0):=by
 intro a0 k;obtain⟨aA,aC⟩:=q1E.mono_l k;unfold q1E.f;exact X116
theorem q1E.calls (k:Nat) (a0:q0b) (r1:Int) (r2:Bool) (w:World) (h:q1E.f k a0=some (r1,r2)) :
  Calls prog 84 #[.string a0] w fun e w'=>e=.returned (.tuple #[iv r1,.bool r2])∧Below w.heap.size w w':=by
 have HB:=am (q0r w.heap.size w);have H:=h;clear h;unfold q1E.f at H;have aA:=am H;clear H;go_enter func84,ntmps84;go_upto_region 1 with (fail)
 go_cut [30] (fun aC wc=>∃ (kq:Nat) (aD:Bool),aC=.bool aD∧q0i (q1E.j0 kq a0 aD=some (r1,r2))∧q0i (kq≤k)∧q0i (Below w.heap.size w wc))
 case first=>
  have H:=aA.out;clear aA;by_cases c3:a0.toList=([]:List UInt8)
  ·rw[if_pos c3]at H;have AA:=eT c3;have AB:=eF c3;clear c3;(first|rw[AA]|(simp only[q4g,q4q];rw[AA])|skip);have H':=am H;clear H;go_wp2
   go_meet
   case rel=>exact⟨_,(true),X7,H',⟨X8⟩,⟨X6⟩⟩
  ·rw[if_neg c3]at H;have AA:=nF c3;have AB:=nT c3;(first|rw[AA]|(simp only[q4g,q4q];rw[AA])|skip);by_cases c4:(a0.size:Int) > 6
   ·rw[if_pos c4]at H;have AC:decide (6<(a0.size:Int))=true:=q0p c4;have AD:decide (6<a0.size)=true:=q0p (by omega);clear c4;have H':=am H;clear H;go_wp2
    go_meet
    case rel=>exact⟨_,(true),X7,H',⟨X8⟩,⟨X6⟩⟩
   ·rw[if_neg c4]at H;have AC:decide (6<(a0.size:Int))=false:=q0z c4;have AD:decide (6<a0.size)=false:=q0z (by omega);clear c4;obtain⟨aE,A5,H⟩:=oA H;(try dsimp only at H);by_cases c6:aE=(a0.size:Int)
    ·rw[if_pos c6]at H;have AE:=eT c6;have AF:=eF c6;clear c6;by_cases c7:(a0.size:Int) > 1
     ·rw[if_pos c7]at H;have AG:decide (1<(a0.size:Int))=true:=q0p c7;have AH:decide (1<a0.size)=true:=q0p (by omega);clear c7;by_cases c8:0<(a0.size:Int)
      ·rw[if_pos c8]at H;have AI:=dT c8;have AJ:decide (0<a0.size)=true:=q0p (by omega);clear c8;have H':=am H;clear H;go_wp2_with (first|(go_at_call 83;(with_reducible refine(q2i.calls k a0 aE _ A5.out).mono ?_);rintro e w' ⟨rfl,⟨nd,rfl⟩⟩;have p9:0≤(0:Int):=(by omega);have q9:0<a0.size:=(by have:(0:Int)<(a0.size:Int):=q0a X16;omega);have aH:∀ h:0<a0.size,((a0[0]'h).toNat:Int)=bt a0 0:=q4d a0 0;clear p9;have aI:(0<(a0.size:Int))=True:=q0c (q0a X16);replace q9:=q0c q9))
       go_meet
       case rel=>exact⟨_,(((bt a0 0) == 48)),X7,H',⟨X8⟩,⟨X6⟩⟩
      ·exact iN c8 H
     ·rw[if_neg c7]at H;have AG:decide (1<(a0.size:Int))=false:=q0z c7;have AH:decide (1<a0.size)=false:=q0z (by omega);clear c7;have H':=am H;clear H;go_wp2_with (first|(go_at_call 83;(with_reducible refine(q2i.calls k a0 aE _ A5.out).mono ?_);rintro e w' ⟨rfl,⟨nd,rfl⟩⟩))
      go_meet
      case rel=>exact⟨_,(false),X7,H',⟨X8⟩,⟨X6⟩⟩
    ·rw[if_neg c6]at H;have AE:=nF c6;have AF:=nT c6;have H':=am H;clear H;go_wp2_with (first|(go_at_call 83;(with_reducible refine(q2i.calls k a0 aE _ A5.out).mono ?_);rintro e w' ⟨rfl,⟨nd,rfl⟩⟩))
     go_meet
     case rel=>exact⟨_,(true),X7,H',⟨X8⟩,⟨X6⟩⟩
 case rest=>
  clear aA;(try clear p2 c3 AA AB c4 AC AD c6 AE AF c7 AG AH c8 AI AJ);(try clear p9 p9);(try clear q9 q9);(try clear aH aI);obtain⟨kq,aD,rfl,HA,aJ,HB⟩:=hcut;cases kq with
  | zero=>exact absurd HA.out (by simp [q1E.j0])
  | succ aK=>
   have H:=HA.out;clear HA;simp only[q1E.j0]at H;by_cases c10:aD=true
   ·subst c10;replace H:=tP H;replace H:=iJ2 H;obtain⟨rfl,rfl⟩:=H;go_wp2
    go_ret2
    exact⟨X11,X6⟩
   ·replace c10:=fI c10;subst c10;replace H:=tN H;by_cases aM:a0.size≤9223372036854775807
    ·rw[if_pos aM]at H;have AK:=q0c aM;have AL:=dT aM;try have AM:(9223372036854775807<a0.size)=False:=eq_false (q1D.2 aM)
     clear aM;obtain⟨aQ,aU,H⟩:=oA H;(try dsimp only at H);have H':=am H;clear H;go_wp2_with (first|(refine convU_ ?_;refine(v2i (P:=prog) 9 72 5 underlying9 underlying72 underlying5 a0 (by first|assumption|omega|(have:=q0a (by assumption);omega)) _ aU.out _).mono ?_;rintro e w13 ⟨v109,rfl,aW,hb⟩;refine⟨_,rfl,?_⟩;have aX:=am (q2o (q0n (ok':=fun k_=>True) aW (fun k_ hk_=>trivial)) (q1H X6));replace HB:=bS X6 hb;clear hb;(try clear aW);obtain⟨aY,aZ,bA⟩:=q1R aX.out;subst bA))
     go_loopg [4,34] aK (fun kq v4 bB w'=>∃ (bC:Int) (bD:Int),v4=iv bC∧bB=iv bD∧q0i (q1E.l0 kq bC aQ (aQ.length:Int) bD=some (r1,r2))∧q0i (kq≤aK)∧q0i (Kd.V (Kd.int .u8) 5 w' w.heap.size (fun _=>True) (sl aY aQ aZ) aQ)∧q0i (Below w.heap.size w w'))
     case atStart=>exact⟨(0),(0),X7,X7,H',⟨q0f _⟩,⟨aV aX.out⟩,⟨X6⟩⟩
     case round=>
      clear H';(try clear c1);(try clear p2 p2);(try clear c3 AA AB c4 AC AD c6 AE AF c7 AG AH c8 AI AJ);(try clear p9 p9);(try clear q9 q9);(try clear aH aI c10 aM AK AL AM);obtain⟨bC,bD,rfl,rfl,HA,bE,bF,HB⟩:=hrel;cases gk with
      | zero=>exact absurd HA.out (by simp [q1E.l0])
      | succ k2=>
       have H:=HA.out;clear HA;simp only[q1E.l0]at H;by_cases bG:bD<(aQ.length:Int)
       ·rw[if_pos bG]at H;have AN:=dT bG;clear bG;by_cases bH:0≤bD
        ·rw[if_pos bH]at H;have AP:=dT bH;clear bH;by_cases bI:bD<(aQ.length:Int)
         ·rw[if_pos bI]at H;have AQ:=dT bI;clear bI;have H':=am H;clear H;have bJ:0≤(bD:Int):=q0a X16;have bK:bD<(aQ.length:Int):=q0a X16;obtain⟨ad111,AO,hx111_0⟩:=Kd.at_int (q1a bF.out).2.2 bD bJ bK;cases AO;replace bJ:=q0c bJ;replace bK:=q0c bK;go_wp2
          go_roundg k2
          case measure=>have:=aJ.out;have:=bE.out;omega
          case rel=>exact⟨(wrap64 ((wrap64 (10*bC))+(((rd aQ bD) - 48) % 256))),(wrap64 (bD+1)),X7,X7,H',⟨by have:=aJ.out;have:=bE.out;omega⟩,⟨aV bF.out⟩,⟨X6⟩⟩
         ·exact iN bI H
        ·exact iN bH H
       ·rw[if_neg bG]at H;have AN:=dF bG;clear bG;replace H:=iJ2 H;obtain⟨rfl,rfl⟩:=H;go_wp2
        go_ret2
        exact⟨X11,X6⟩
    ·exact iN aM H
def q4B.f (a0:Int):Option (Bool):=if a0≥32 then (if a0≤126 then (some (a0 != 34)) else (some false)) else (some false)
theorem q4B.calls (a0:Int) (r:Bool) (w:World) (h:q4B.f a0=some r) :
  Calls prog 113 #[.int .u8 a0] w fun e w'=>e=.returned (.bool r)∧q3t w w':=by
 have H:=h;clear h;unfold q4B.f at H;by_cases c2:a0≥32
 ·rw[if_pos c2]at H;have AA:decide (32≤a0)=true:=q0p c2;clear c2;by_cases c3:a0≤126
  ·rw[if_pos c3]at H;have AB:=dT c3;clear c3;obtain rfl:=q0d H;go_enter func113,ntmps113;go_wp2
   go_ret
   exact⟨X7,X18⟩
  ·rw[if_neg c3]at H;have AB:=dF c3;clear c3;obtain rfl:=q0d H;go_enter func113,ntmps113;go_wp2
   go_ret
   exact⟨X7,X18⟩
 ·rw[if_neg c2]at H;have AA:decide (32≤a0)=false:=q0z c2;clear c2;obtain rfl:=q0d H;go_enter func113,ntmps113;go_wp2
  go_ret
  exact⟨X7,X18⟩

mutual
def q1G.j1:Nat→q0b→Int→Option (q0b × Int)
 | 0,_,_=>none
 | k+1,x0,x4=>if x4=(x0.size:Int) then (q1G.j2 k x0 x4 true) else (if 0≤x4 then (if x4<(x0.size:Int) then (q1G.j2 k x0 x4 ((bt x0 x4) != 34)) else (none)) else (none))
def q1G.j2:Nat→q0b→Int→Bool→Option (q0b × Int)
 | 0,_,_,_=>none
 | k+1,x0,x4,aA=>if aA=true then (some ((⟨#[]⟩:q0b),2)) else (if (wrap64 (x4 - 1)) > 60 then (some ((⟨#[]⟩:q0b),3)) else (if 1≤x4 then (if x4≤(x0.size:Int) then (some (x0.extract 1 (x4:Int).toNat,0)) else (none)) else (none)))
def q1G.l0:Nat→q0b→Int→Option (q0b × Int)
 | 0,_,_=>none
 | k+1,x0,x4=>if x4<(x0.size:Int) then (if 0≤x4 then ((q4B.f (bt x0 x4)).bind fun aA=>(if aA=true then (q1G.l0 k x0 (wrap64 (x4+1))) else (q1G.j1 k x0 x4))) else (none)) else (q1G.j1 k x0 x4)
end
def q1G.f (k:Nat) (a0:q0b):Option (q0b × Int):=q1G.l0 k a0 1
theorem q1G.mono_l:∀ k,(∀ y0 y1,LeO (q1G.j1 k y0 y1) (q1G.j1 (k+1) y0 y1))∧(∀ y0 y1 y2,LeO (q1G.j2 k y0 y1 y2) (q1G.j2 (k+1) y0 y1 y2))∧(∀ y0 y1,LeO (q1G.l0 k y0 y1) (q1G.l0 (k+1) y0 y1))
 | 0=>⟨fun _ _ r h=>by simp [q1G.j1]at h,fun _ _ _ r h=>by simp [q1G.j2]at h,fun _ _ r h=>by simp [q1G.l0]at h⟩
 | k+1=>by
  obtain⟨aA,aC,aD⟩:=q1G.mono_l k;refine⟨?_,?_,?_⟩
  ·intro y0 y1;unfold q1G.j1;exact X96
  ·intro y0 y1 y2;unfold q1G.j2;exact X96
  ·intro y0 y1;unfold q1G.l0;exact X96
theorem q1G.mono:∀ a0 k,LeO (q1G.f k a0) (q1G.f (k+1) a0):=by
 intro a0 k;obtain⟨aA,aC,aD⟩:=q1G.mono_l k;unfold q1G.f;exact X96
theorem q1G.calls (k:Nat) (a0:q0b) (r1:q0b) (r2:Int) (w:World) (h:q1G.f k a0=some (r1,r2)) :
  Calls prog 85 #[.string a0] w fun e w'=>e=.returned (.tuple #[.string r1,iv r2])∧q3t w w':=by
 have H:=h;clear h;unfold q1G.f at H;have aA:=am H;clear H;go_enter func85,ntmps85;go_upto_block 0 with (fail)
 go_cut [4] (fun v4 wc=>∃ (kq:Nat) (aC:Int),v4=iv aC∧q0i (q1G.j1 kq a0 aC=some (r1,r2))∧q0i (kq≤k)∧q3t w wc)
 case first=>
  have H:=aA.out;clear aA;have H':=am H;clear H;go_wp2
  go_loopg [4] k (fun kq v4 w'=>∃ (aC:Int),v4=iv aC∧q0i (q1G.l0 kq a0 aC=some (r1,r2))∧q0i (kq≤k)∧q3t w w')
  case atStart=>exact⟨(1),X7,H',⟨q0f _⟩,X18⟩
  case round=>
   clear H';(try clear p2);obtain⟨aC,rfl,HA,aD,⟨m1,rfl⟩⟩:=hrel;cases gk with
   | zero=>exact absurd HA.out (by simp [q1G.l0])
   | succ k1=>
    have H:=HA.out;clear HA;simp only[q1G.l0]at H;by_cases c3:aC<(a0.size:Int)
    ·rw[if_pos c3]at H;have AA:=dT c3;clear c3;(first|rw[AA]|(simp only[q4g,q4q];rw[AA])|skip);by_cases c4:0≤aC
     ·rw[if_pos c4]at H;have AC:=dT c4;clear c4;obtain⟨aE,A6,H⟩:=oA H;(try dsimp only at H);by_cases c7:aE=true
      ·subst c7;replace H:=tP H;have H':=am H;clear H;have p5:0≤(aC:Int):=q0a X16;have q5:aC<(a0.size:Int):=q0a X16;have aH:=q4d a0 aC;replace p5:=q0c p5;replace q5:=q0c q5;go_wp2_with (first|(go_at_call 113;(with_reducible refine(q4B.calls (bt a0 aC) true _ A6.out).mono ?_);rintro e w' ⟨rfl,⟨nd,rfl⟩⟩))
       go_roundg k1
       case measure=>have:=aD.out;omega
       case rel=>exact⟨(wrap64 (aC+1)),X7,H',⟨by have:=aD.out;omega⟩,X18⟩
      ·replace c7:=fI c7;subst c7;replace H:=tN H;have H':=am H;clear H;have p5:0≤(aC:Int):=q0a X16;have q5:aC<(a0.size:Int):=q0a X16;have aH:=q4d a0 aC;replace p5:=q0c p5;replace q5:=q0c q5;go_wp2_with (first|(go_at_call 113;(with_reducible refine(q4B.calls (bt a0 aC) false _ A6.out).mono ?_);rintro e w' ⟨rfl,⟨nd,rfl⟩⟩))
       go_meet
       case rel=>exact⟨_,(aC),X7,H',⟨by have:=aD.out;first|omega|exact q0f _⟩,X18⟩
     ·exact iN c4 H
    ·rw[if_neg c3]at H;have AA:=dF c3;clear c3;(first|rw[AA]|(simp only[q4g,q4q];rw[AA])|skip);have H':=am H;clear H;go_wp2
     go_meet
     case rel=>exact⟨_,(aC),X7,H',⟨by have:=aD.out;first|omega|exact q0f _⟩,X18⟩
 case rest=>
  clear aA;(try clear p2 p2);(try clear c3 AA c4 AC);(try clear p5 p5);(try clear q5 q5);(try clear aH p6 c7);obtain⟨kq,aC,rfl,HA,aI,⟨mc1,rfl⟩⟩:=hcut;cases kq with
  | zero=>exact absurd HA.out (by simp [q1G.j1])
  | succ aJ=>
   have H:=HA.out;clear HA;simp only[q1G.j1]at H;have aK:=am H;clear H;go_upto_region 4 with (fail)
   go_cut [17] (fun aM wc=>∃ (kq:Nat) (aQ:Bool),aM=.bool aQ∧q0i (q1G.j2 kq a0 aC aQ=some (r1,r2))∧q0i (kq≤aJ)∧q3t w wc)
   case first=>
    have H:=aK.out;clear aK;by_cases c9:aC=(a0.size:Int)
    ·rw[if_pos c9]at H;have AB:=eT c9;have AD:=eF c9;clear c9;(first|rw[AB]|(simp only[q4g,q4q];rw[AB])|skip);have H':=am H;clear H;go_wp2
     go_meet
     case rel=>exact⟨_,(true),X7,H',⟨by have:=aI.out;first|omega|exact q0f _⟩,X18⟩
    ·rw[if_neg c9]at H;have AB:=nF c9;have AD:=nT c9;(first|rw[AB]|(simp only[q4g,q4q];rw[AB])|skip);by_cases c10:0≤aC
     ·rw[if_pos c10]at H;have AE:=dT c10;clear c10;by_cases aT:aC<(a0.size:Int)
      ·rw[if_pos aT]at H;have AF:=dT aT;clear aT;have H':=am H;clear H;have aU:0≤(aC:Int):=q0a X16;have aW:aC<(a0.size:Int):=q0a X16;have aX:=q4d a0 aC;replace aU:=q0c aU;replace aW:=q0c aW;go_wp2
       go_meet
       case rel=>exact⟨_,(((bt a0 aC) != 34)),X7,H',⟨by have:=aI.out;first|omega|exact q0f _⟩,X18⟩
      ·exact iN aT H
     ·exact iN c10 H
   case rest=>
    clear aK;(try clear c1 p1 q1 hx1);(try clear p2 p2);(try clear c3 AA c4 AC);(try clear p5 p5);(try clear q5 q5);(try clear aH);(try clear p6 p6);(try clear c7 c8 c9 AB AD c10 AE aT AF);(try clear aU aU);(try clear aW aW);(try clear aX);obtain⟨kq,aQ,rfl,HA,HJ7,⟨mc7,rfl⟩⟩:=hcut;cases kq with
    | zero=>exact absurd HA.out (by simp [q1G.j2])
    | succ kj7=>
     have H:=HA.out;clear HA;simp only[q1G.j2]at H;by_cases aY:aQ=true
     ·subst aY;replace H:=tP H;replace H:=iJ2 H;obtain⟨rfl,rfl⟩:=H;go_wp2
      go_ret2
      exact⟨X7,X18⟩
     ·replace aY:=fI aY;subst aY;replace H:=tN H;by_cases aZ:(wrap64 (aC - 1)) > 60
      ·rw[if_pos aZ]at H;have AG:decide (60<(wrap64 (aC - 1)))=true:=q0p aZ;clear aZ;replace H:=iJ2 H;obtain⟨rfl,rfl⟩:=H;go_wp2
       go_ret2
       exact⟨X7,X18⟩
      ·rw[if_neg aZ]at H;have AG:decide (60<(wrap64 (aC - 1)))=false:=q0z aZ;clear aZ;by_cases bA:1≤aC
       ·rw[if_pos bA]at H;have AH:=q0c bA;have AI:=dT bA;clear bA;by_cases bB:aC≤(a0.size:Int)
        ·rw[if_pos bB]at H;have AJ:=q0c bB;have AK:=dT bB;clear bB;replace H:=iJ2 H;obtain⟨rfl,rfl⟩:=H;go_wp2
         go_ret2
         exact⟨X7,X18⟩
        ·exact iN bB H
       ·exact iN bA H



def q3k.f (a0:q0b) (a1:Int):Option (Int):=some (Lib.indexByte a0.data.toList a1.toNat.toUInt8)
theorem q3k.calls (a0:q0b) (a1:Int) (r:Int) (w:World) (h:q3k.f a0 a1=some r) :
  Calls prog 86 #[.string a0,.int .u8 a1] w fun e w'=>e=.returned (iv r)∧q3t w w':=by
 refine(Tryz.strings_IndexByte a0 a1 w).mono ?_;rintro e w' ⟨rfl,rfl⟩;obtain rfl:=q0d h;exact⟨rfl,q3t.refl _⟩


def q3B.f (k:Nat) (a0:q0b):Option (Int × q0b × Int × Int × Int):=if 0<(a0.size:Int) then ((q3Q.f (bt a0 0)).bind fun aA=>(if aA=true then ((q1s.f k a0).bind fun aC=>(if aC > 20 then (some (0,(⟨#[]⟩:q0b),0,0,3)) else (if 0≤aC then (if aC≤(a0.size:Int) then (some (1,a0.extract 0 (aC:Int).toNat,0,aC,0)) else (none)) else (none)))) else ((q3E.f (bt a0 0)).bind fun aD=>(if aD=true then ((q2i.f k a0).bind fun aE=>(if aE > 6 then (some (0,(⟨#[]⟩:q0b),0,0,3)) else (if 0≤aE then (if aE≤(a0.size:Int) then ((q1E.f k (a0.extract 0 (aE:Int).toNat)).bind fun aG=>(if aG.2=true then (some (2,a0.extract 0 (aE:Int).toNat,0,aE,0)) else (some (0,(⟨#[]⟩:q0b),0,0,2)))) else (none)) else (none)))) else (if (bt a0 0)=34 then ((q1G.f k a0).bind fun aH=>(some (3,aH.1,0,wrap64 ((aH.1.size:Int)+2),aH.2))) else ((q3k.f (⟨#[123,125,40,41,91,93,47,59,58,126,64,61,94,44,46,124,43,42,60,62,45]⟩:q0b) (bt a0 0)).bind fun aI=>(if aI≥0 then (if 0≤1 then (if 1≤(a0.size:Int) then (some (4,a0.extract 0 1,0,1,0)) else (none)) else (none)) else (some (0,(⟨#[]⟩:q0b),0,0,2))))))))) else (none)
theorem q3B.mono:∀ a0 k,LeO (q3B.f k a0) (q3B.f (k+1) a0):=by
 intro a0 k;unfold q3B.f;exact(by repeat' (with_reducible first|exact q1E.mono _ _|exact q2i.mono _ _|exact q1s.mono _ _|exact q1G.mono _ _|exact LeO.refl _|exact LeO.none _|refine LeO.ite ?_ ?_|refine LeO.bind ?_ (fun _=>?_)))
theorem q3B.calls (k:Nat) (a0:q0b) (r1:Int) (r2:q0b) (r3:Int) (r4:Int) (r5:Int) (w:World) (h:q3B.f k a0=some (r1,r2,r3,r4,r5)) :
  Calls prog 47 #[.string a0] w fun e w'=>e=.returned (.tuple #[.agg #[iv r1,.string r2,iv r3],iv r4,iv r5])∧Below w.heap.size w w':=by
 have hu61:=underlying61;have HB:=am (q0r w.heap.size w);have H:=h;clear h;unfold q3B.f at H;by_cases c2:0<(a0.size:Int)
 ·rw[if_pos c2]at H;have AT:=dT c2;have AU:decide (0<a0.size)=true:=q0p (by omega);clear c2;obtain⟨aA,A4,H⟩:=oA H;(try dsimp only at H);go_enter func47,ntmps47;go_wp2_with (first|((with_reducible refine gd 2 ?_);refine be 2 zTt 61 ?_;intro aD hg w8 hbox hb;have aE:=am (hbox);have GW113:=sG (w:=w) hg X6;have aG:=sG (w:=w) hg X6;replace HB:=bS X6 hb;clear hb hbox hg;have p3:0≤(0:Int):=(by omega);have q3:0<a0.size:=(by have:(0:Int)<(a0.size:Int):=q0a X16;omega);have hx3:∀ h:0<a0.size,((a0[0]'h).toNat:Int)=bt a0 0:=q4d a0 0;clear p3;have qi3:(0<(a0.size:Int))=True:=q0c (q0a X16);replace q3:=q0c q3)|((with_reducible refine gc 80 ?_);refine gCc (some 16) func80 (q3Q.calls (bt a0 0) aA _ A4.out) ?_;rintro w' ⟨nd,rfl⟩;(try (rw[q3c w8];generalize hq_:World.drewN w8 _=w8;replace aE:q0i (w8.heap[aD]?=some (.cells zTt 61 (0,0))):=⟨X100⟩;replace HB:q0i (Below w.heap.size w w8):=⟨X208⟩;clear hq_));refine q5g ?_))
  by_cases c5:aA=true
  ·subst c5;replace H:=tP H;obtain⟨aH,A6,H⟩:=oA H;(try dsimp only at H);refine on_ ?_;go_wp2_with (first|((with_reducible refine gc 81 ?_);refine gCc (some 18) func81 (q1s.calls k a0 aH _ A6.out) ?_;rintro w' ⟨nd,rfl⟩;(try (rw[q3c w8];generalize hq_:World.drewN w8 _=w8;replace aE:q0i (w8.heap[aD]?=some (.cells zTt 61 (0,0))):=⟨X100⟩;replace HB:q0i (Below w.heap.size w w8):=⟨X208⟩;clear hq_));have Z9:=bc3 aE;refine q5g ?_))
   by_cases c7:aH > 20
   ·rw[if_pos c7]at H;have AE:decide (20<aH)=true:=q0p c7;clear c7;replace H:=iJ5 H;obtain⟨rfl,rfl,rfl,rfl,rfl⟩:=H;refine on_ ?_;go_wp2
    refine bodyPost_ret (q2P rfl _ _ aD 61 zTt (0,0) _ rfl (bq0 aE) underlying61 rfl X4) rfl ?_;exact⟨X11,(X10 HB aG)⟩
   ·rw[if_neg c7]at H;have AE:decide (20<aH)=false:=q0z c7;clear c7;by_cases c10:0≤aH
    ·rw[if_pos c10]at H;have AF:=q0c c10;have AG:=dT c10;clear c10;by_cases aJ:aH≤(a0.size:Int)
     ·rw[if_pos aJ]at H;have AH:=q0c aJ;have AI:=dT aJ;clear aJ;replace H:=iJ5 H;obtain⟨rfl,rfl,rfl,rfl,rfl⟩:=H;refine on_ ?_;go_wp2
      refine bodyPost_ret (q2P rfl _ _ aD 61 #[iv 1,.string (a0.extract 0 (aH:Int).toNat),iv 0] (0,0) _ rfl (bq0 aE) underlying61 rfl X4) rfl ?_;exact⟨X11,(X10 HB aG)⟩
     ·exact iN aJ H
    ·exact iN c10 H
  ·replace c5:=fI c5;subst c5;replace H:=tN H;obtain⟨aK,aQ,H⟩:=oA H;(try dsimp only at H);refine on_ ?_;go_wp2_with (first|((with_reducible refine gc 82 ?_);refine gCc (some 29) func82 (q3E.calls (bt a0 0) aK _ aQ.out) ?_;rintro w' ⟨nd,rfl⟩;(try (rw[q3c w8];generalize hq_:World.drewN w8 _=w8;replace aE:q0i (w8.heap[aD]?=some (.cells zTt 61 (0,0))):=⟨X100⟩;replace HB:q0i (Below w.heap.size w w8):=⟨X208⟩;clear hq_));refine q5g ?_))
   by_cases aT:aK=true
   ·subst aT;replace H:=tP H;obtain⟨aU,aX,H⟩:=oA H;(try dsimp only at H);by_cases aY:aU > 6
    ·rw[if_pos aY]at H;have AA:decide (6<aU)=true:=q0p aY;clear aY;replace H:=iJ5 H;obtain⟨rfl,rfl,rfl,rfl,rfl⟩:=H;refine on_ ?_;go_wp2_with (first|((with_reducible refine gc 83 ?_);refine gCc (some 31) func83 (q2i.calls k a0 aU _ aX.out) ?_;rintro w' ⟨nd,rfl⟩;(try (rw[q3c w8];generalize hq_:World.drewN w8 _=w8;replace aE:q0i (w8.heap[aD]?=some (.cells zTt 61 (0,0))):=⟨X100⟩;replace HB:q0i (Below w.heap.size w w8):=⟨X208⟩;clear hq_));have Z19:=bc3 aE))
     refine bodyPost_ret (q2P rfl _ _ aD 61 zTt (0,0) _ rfl (bq0 aE) underlying61 rfl X4) rfl ?_;exact⟨X11,(X10 HB aG)⟩
    ·rw[if_neg aY]at H;have AA:decide (6<aU)=false:=q0z aY;clear aY;refine on_ ?_;go_wp2_with (first|((with_reducible refine gc 83 ?_);refine gCc (some 31) func83 (q2i.calls k a0 aU _ aX.out) ?_;rintro w' ⟨nd,rfl⟩;(try (rw[q3c w8];generalize hq_:World.drewN w8 _=w8;replace aE:q0i (w8.heap[aD]?=some (.cells zTt 61 (0,0))):=⟨X100⟩;replace HB:q0i (Below w.heap.size w w8):=⟨X208⟩;clear hq_));refine q5g ?_))
     by_cases aZ:0≤aU
     ·rw[if_pos aZ]at H;have AJ:=q0c aZ;have AK:=dT aZ;clear aZ;by_cases bA:aU≤(a0.size:Int)
      ·rw[if_pos bA]at H;have AL:=q0c bA;have AM:=dT bA;clear bA;obtain⟨⟨bB,bC⟩,bE,H⟩:=oA H;(try dsimp only at H);refine on_ ?_;go_wp2_with (first|((with_reducible refine gc 84 ?_);refine gCc (some 39) func84 (q1E.calls k (a0.extract 0 (aU:Int).toNat) bB bC _ bE.out) ?_;rintro w27 hb;replace aE:=kB aE hb;replace HB:=bS (X10 HB aG) hb;clear hb;have Z28:=bc3 aE;refine q5g ?_))
       by_cases bF:bC=true
       ·subst bF;replace H:=tP H;have AN:=q0c (q0a X16:0≤aU);have AO:=q0c (q0a X16:aU≤(a0.size:Int));replace H:=iJ5 H;obtain⟨rfl,rfl,rfl,rfl,rfl⟩:=H;refine on_ ?_;go_wp2
        refine bodyPost_ret (q2P rfl _ _ aD 61 #[iv 2,.string (a0.extract 0 (aU:Int).toNat),iv 0] (0,0) _ rfl (bq0 aE) underlying61 rfl X4) rfl ?_;exact⟨X11,(X10 HB aG)⟩
       ·replace bF:=fI bF;subst bF;replace H:=tN H;replace H:=iJ5 H;obtain⟨rfl,rfl,rfl,rfl,rfl⟩:=H;refine on_ ?_;go_wp2
        refine bodyPost_ret (q2P rfl _ _ aD 61 zTt (0,0) _ rfl (bq0 aE) underlying61 rfl X4) rfl ?_;exact⟨X11,(X10 HB aG)⟩
      ·exact iN bA H
     ·exact iN aZ H
   ·replace aT:=fI aT;subst aT;replace H:=tN H;by_cases bG:(bt a0 0)=34
    ·rw[if_pos bG]at H;have AB:=eT bG;have AC:=eF bG;clear bG;obtain⟨⟨bH,bI⟩,bK,H⟩:=oA H;(try dsimp only at H);replace H:=iJ5 H;obtain⟨rfl,rfl,rfl,rfl,rfl⟩:=H;refine on_ ?_;go_wp2_with (first|((with_reducible refine gc 85 ?_);refine gCc (some 55) func85 (q1G.calls k a0 bH bI _ bK.out) ?_;rintro w' ⟨nd,rfl⟩;(try (rw[q3c w8];generalize hq_:World.drewN w8 _=w8;replace aE:q0i (w8.heap[aD]?=some (.cells zTt 61 (0,0))):=⟨X100⟩;replace HB:q0i (Below w.heap.size w w8):=⟨X208⟩;clear hq_));have Z35:=bc3 aE))
     refine bodyPost_ret (q2P rfl _ _ aD 61 #[iv 3,.string bH,iv 0] (0,0) _ rfl (bq0 aE) underlying61 rfl X4) rfl ?_;exact⟨X11,(X10 HB aG)⟩
    ·rw[if_neg bG]at H;have AB:=nF bG;have AC:=nT bG;obtain⟨bL,bN,H⟩:=oA H;(try dsimp only at H);refine on_ ?_;go_wp2_with (first|((with_reducible refine gc 86 ?_);refine gCc (some 66) func86 (q3k.calls (⟨#[123,125,40,41,91,93,47,59,58,126,64,61,94,44,46,124,43,42,60,62,45]⟩:q0b) (bt a0 0) bL _ bN.out) ?_;rintro w' ⟨nd,rfl⟩;(try (rw[q3c w8];generalize hq_:World.drewN w8 _=w8;replace aE:q0i (w8.heap[aD]?=some (.cells zTt 61 (0,0))):=⟨X100⟩;replace HB:q0i (Below w.heap.size w w8):=⟨X208⟩;clear hq_));have Z41:=bc3 aE;refine q5g ?_))
     by_cases bO:bL≥0
     ·rw[if_pos bO]at H;have AD:decide (0≤bL)=true:=q0p bO;clear bO;by_cases bP:0≤1
      ·rw[if_pos bP]at H;have AP:=q0c bP;have AQ:=dT bP;clear bP;by_cases bQ:1≤(a0.size:Int)
       ·rw[if_pos bQ]at H;have AR:=q0c bQ;have AS:=dT bQ;clear bQ;replace H:=iJ5 H;obtain⟨rfl,rfl,rfl,rfl,rfl⟩:=H;refine on_ ?_;go_wp2
        refine bodyPost_ret (q2P rfl _ _ aD 61 #[iv 4,.string (a0.extract 0 1),iv 0] (0,0) _ rfl (bq0 aE) underlying61 rfl X4) rfl ?_;exact⟨X11,(X10 HB aG)⟩
       ·exact iN bQ H
      ·exact iN bP H
     ·rw[if_neg bO]at H;have AD:decide (0≤bL)=false:=q0z bO;clear bO;replace H:=iJ5 H;obtain⟨rfl,rfl,rfl,rfl,rfl⟩:=H;refine on_ ?_;go_wp2
      refine bodyPost_ret (q2P rfl _ _ aD 61 zTt (0,0) _ rfl (bq0 aE) underlying61 rfl X4) rfl ?_;exact⟨X11,(X10 HB aG)⟩
 ·exact iN c2 H
mutual
def q0V.l0:Nat→q0b→List (S61)→Int→Int→Option ((List (S61)) × Int × Int)
 | 0,_,_,_,_=>none
 | k+1,x0,x5,x6,x7=>if x7<(x0.size:Int) then (if 0≤x7 then (if (bt x0 x7)=10 then (q0V.l0 k x0 x5 (wrap64 (x6+1)) (wrap64 (x7+1))) else (if (bt x0 x7)=32 then (q0V.j1 k x0 x5 x6 x7 (bt x0 x7) ((bt x0 x7) == 32)) else (if (bt x0 x7)=9 then (q0V.j1 k x0 x5 x6 x7 (bt x0 x7) ((bt x0 x7) == 9)) else (q0V.j1 k x0 x5 x6 x7 (bt x0 x7) ((bt x0 x7) == 13))))) else (none)) else (some (x5,0,0))
def q0V.j1:Nat→q0b→List (S61)→Int→Int→Int→Bool→Option ((List (S61)) × Int × Int)
 | 0,_,_,_,_,_,_=>none
 | k+1,x0,x5,x6,x7,aA,aC=>if aC=true then (q0V.l0 k x0 x5 x6 (wrap64 (x7+1))) else (if aA=35 then (q0V.l1 k x0 x5 x6 x7) else (if 0≤x7 then (if x7≤(x0.size:Int) then ((q3B.f k (x0.extract (x7:Int).toNat x0.size)).bind fun aD=>(if aD.2.2.2.2=0 then (if x5.length<4398046511104 then (q0V.l0 k x0 (x5++[(⟨aD.1,aD.2.1,x6⟩:S61)]) x6 (wrap64 (x7+aD.2.2.2.1))) else (none)) else (some (([]:List (S61)),x6,aD.2.2.2.2)))) else (none)) else (none)))
def q0V.l1:Nat→q0b→List (S61)→Int→Int→Option ((List (S61)) × Int × Int)
 | 0,_,_,_,_=>none
 | k+1,x0,x5,x6,x7=>if x7<(x0.size:Int) then (if 0≤x7 then (if (bt x0 x7)=10 then (q0V.l0 k x0 x5 x6 x7) else (q0V.l1 k x0 x5 x6 (wrap64 (x7+1)))) else (none)) else (q0V.l0 k x0 x5 x6 x7)
end
def q0V.f (k:Nat) (a0:q0b):Option ((List (S61)) × Int × Int):=if (a0.size:Int) > 20000 then (some (([]:List (S61)),0,3)) else (q0V.l0 k a0 ([]:List (S61)) 1 0)
theorem q0V.mono_l:∀ k,(∀ y0 y1 y2 y3,LeO (q0V.l0 k y0 y1 y2 y3) (q0V.l0 (k+1) y0 y1 y2 y3))∧(∀ y0 y1 y2 y3 y4 y5,LeO (q0V.j1 k y0 y1 y2 y3 y4 y5) (q0V.j1 (k+1) y0 y1 y2 y3 y4 y5))∧(∀ y0 y1 y2 y3,LeO (q0V.l1 k y0 y1 y2 y3) (q0V.l1 (k+1) y0 y1 y2 y3))
 | 0=>⟨fun _ _ _ _ r h=>by simp [q0V.l0]at h,fun _ _ _ _ _ _ r h=>by simp [q0V.j1]at h,fun _ _ _ _ r h=>by simp [q0V.l1]at h⟩
 | k+1=>by
  obtain⟨aA,aC,aD⟩:=q0V.mono_l k;refine⟨?_,?_,?_⟩
  ·intro y0 y1 y2 y3;unfold q0V.l0;exact X245
  ·intro y0 y1 y2 y3 y4 y5;unfold q0V.j1;exact X245
  ·intro y0 y1 y2 y3;unfold q0V.l1;exact X245
theorem q0V.mono:∀ a0 k,LeO (q0V.f k a0) (q0V.f (k+1) a0):=by
 intro a0 k;obtain⟨aA,aC,aD⟩:=q0V.mono_l k;unfold q0V.f;exact X245
theorem q0V.calls (k:Nat) (a0:q0b) (r1:List (S61)) (r2:Int) (r3:Int) (w:World) (h:q0V.f k a0=some (r1,r2,r3)) :
  Calls prog 21 #[.string a0] w fun e w'=>∃ aA:Value,e=.returned (.tuple #[aA,iv r2,iv r3])∧Kd.R k61 61 w' w.heap.size (fun _=>True) aA r1∧Below w.heap.size w w':=by
 have hu61:=underlying61;have HB:=am (q0r w.heap.size w);have H:=h;clear h;unfold q0V.f at H;by_cases c2:(a0.size:Int) > 20000
 ·rw[if_pos c2]at H;have AB:decide (20000<(a0.size:Int))=true:=q0p c2;have AC:decide (20000<a0.size)=true:=q0p (by omega);clear c2;replace H:=iJ3 H;obtain⟨rfl,rfl,rfl⟩:=H;go_enter func21,ntmps21;go_wp2
  go_ret3
  exact⟨_,X11,X104,X6⟩
 ·rw[if_neg c2]at H;have AB:decide (20000<(a0.size:Int))=false:=q0z c2;have AC:decide (20000<a0.size)=false:=q0z (by omega);clear c2;have H':=am H;clear H;go_enter func21,ntmps21;go_wp2
  go_loopg [5,6,7] k (fun kq v5 v6 v7 w'=>∃ (aC:List (S61)) (aD:Int) (aE:Int),v6=iv aD∧v7=iv aE∧q0i (q0V.l0 kq a0 aC aD aE=some (r1,r2,r3))∧q0i (kq≤k)∧q0i (Kd.R k61 61 w' w.heap.size (fun _=>True) v5 aC)∧q0i (Below w.heap.size w w'))
  case atStart=>exact⟨(([]:List (S61))),(1),(0),X7,X7,H',⟨q0f _⟩,⟨X104⟩,⟨X6⟩⟩
  case round=>
   clear H';(try clear c2 AB AC p2);obtain⟨aC,aD,aE,rfl,rfl,HA,aG,aH,HB⟩:=hrel;cases gk with
   | zero=>exact absurd HA.out (by simp [q0V.l0])
   | succ k1=>
    have H:=HA.out;clear HA;simp only[q0V.l0]at H;by_cases c3:aE<(a0.size:Int)
    ·rw[if_pos c3]at H;have AD:=dT c3;clear c3;by_cases c4:0≤aE
     ·rw[if_pos c4]at H;have AL:=dT c4;clear c4;by_cases c6:(bt a0 aE)=10
      ·rw[if_pos c6]at H;have AE:=eT c6;have AF:=eF c6;clear c6;have H':=am H;clear H;have p5:0≤(aE:Int):=q0a X16;have q5:aE<(a0.size:Int):=q0a X16;have aI:=q4d a0 aE;replace p5:=q0c p5;replace q5:=q0c q5;go_wp2
       go_roundg k1
       case measure=>have:=aG.out;omega
       case rel=>exact⟨(aC),(wrap64 (aD+1)),(wrap64 (aE+1)),X7,X7,H',⟨by have:=aG.out;omega⟩,⟨aR aH.out⟩,⟨X6⟩⟩
      ·rw[if_neg c6]at H;have AE:=nF c6;have AF:=nT c6;have aJ:=am H;clear H;have p5:0≤(aE:Int):=q0a X16;have q5:aE<(a0.size:Int):=q0a X16;have aI:=q4d a0 aE;replace p5:=q0c p5;replace q5:=q0c q5;go_upto_if 48 with (fail)
       go_cut [48] (fun aK wc=>∃ (kq:Nat) (aM:Bool),aK=.bool aM∧q0i (q0V.j1 kq a0 aC aD aE (bt a0 aE) aM=some (r1,r2,r3))∧q0i (kq≤k1)∧q0i (Kd.R k61 61 wc w.heap.size (fun _=>True) u5 aC)∧q0i (Below w.heap.size w wc))
       case first=>
        have H:=aJ.out;clear aJ;by_cases c8:(bt a0 aE)=32
        ·rw[if_pos c8]at H;have AA:=eT c8;have AG:=eF c8;clear c8;(first|rw[AA]|(simp only[q4g,q4q];rw[AA])|skip);have H':=am H;clear H;go_wp2
         go_meet
         case rel=>exact⟨_,(((bt a0 aE) == 32)),X7,H',⟨(X90 aG)⟩,⟨aR aH.out⟩,⟨X6⟩⟩
        ·rw[if_neg c8]at H;have AA:=nF c8;have AG:=nT c8;(first|rw[AA]|(simp only[q4g,q4q];rw[AA])|skip);by_cases c9:(bt a0 aE)=9
         ·rw[if_pos c9]at H;have AH:=eT c9;have AI:=eF c9;clear c9;have H':=am H;clear H;go_wp2
          go_meet
          case rel=>exact⟨_,(((bt a0 aE) == 9)),X7,H',⟨(X90 aG)⟩,⟨aR aH.out⟩,⟨X6⟩⟩
         ·rw[if_neg c9]at H;have AH:=nF c9;have AI:=nT c9;have H':=am H;clear H;go_wp2
          go_meet
          case rel=>exact⟨_,(((bt a0 aE) == 13)),X7,H',⟨(X90 aG)⟩,⟨aR aH.out⟩,⟨X6⟩⟩
       case rest=>
        clear aJ;(try clear c2 AB AC);(try clear p2 p2);(try clear c3 AD c4 AL);(try clear p5 p5);(try clear q5 q5);(try clear aI c6 AE AF p6 c8 AA AG c9 AH AI);obtain⟨kq,aM,rfl,HA,aQ,aH,HB⟩:=hcut;cases kq with
        | zero=>exact absurd HA.out (by simp [q0V.j1])
        | succ aT=>
         have H:=HA.out;clear HA;simp only[q0V.j1]at H;by_cases c10:aM=true
         ·subst c10;replace H:=tP H;have H':=am H;clear H;go_wp2
          go_roundg aT
          case measure=>have:=aG.out;have:=aQ.out;omega
          case rel=>exact⟨(aC),(aD),(wrap64 (aE+1)),X7,X7,H',⟨by have:=aG.out;have:=aQ.out;omega⟩,⟨aR aH.out⟩,⟨X6⟩⟩
         ·replace c10:=fI c10;subst c10;replace H:=tN H;by_cases aU:(bt a0 aE)=35
          ·rw[if_pos aU]at H;have AJ:=eT aU;have AK:=eF aU;clear aU;have H':=am H;clear H;go_wp2
           go_loopg [7] aT (fun kq v7 w'=>∃ (aW:Int),v7=iv aW∧q0i (q0V.l1 kq a0 aC aD aW=some (r1,r2,r3))∧q0i (kq≤aT)∧q0i (Kd.R k61 61 w' w.heap.size (fun _=>True) u5 aC)∧q0i (Below w.heap.size w w'))
           case atStart=>exact⟨(aE),X7,H',⟨q0f _⟩,⟨aR aH.out⟩,⟨X6⟩⟩
           case round=>
            clear H';(try clear c1 c2 AB AC);(try clear p2 p2);(try clear c3 AD c4 AL);(try clear p5 p5);(try clear q5 q5);(try clear aI c6 AE AF);(try clear p6 p6);(try clear c8 AA AG c9 AH AI c10 aU AJ AK);obtain⟨aW,rfl,HA,aX,aH,HB⟩:=hrel;cases gk with
            | zero=>exact absurd HA.out (by simp [q0V.l1])
            | succ k3=>
             have H:=HA.out;clear HA;simp only[q0V.l1]at H;by_cases aY:aW<(a0.size:Int)
             ·rw[if_pos aY]at H;have AM:=dT aY;clear aY;by_cases aZ:0≤aW
              ·rw[if_pos aZ]at H;have AR:=dT aZ;clear aZ;by_cases bA:(bt a0 aW)=10
               ·rw[if_pos bA]at H;have AN:=eT bA;have AO:=eF bA;clear bA;have H':=am H;clear H;have bB:0≤(aW:Int):=q0a X16;have bC:aW<(a0.size:Int):=q0a X16;have bD:=q4d a0 aW;replace bB:=q0c bB;replace bC:=q0c bC;go_wp2
                go_roundg k3
                case measure=>have:=aG.out;have:=aQ.out;have:=aX.out;omega
                case rel=>exact⟨(aC),(aD),(aW),X7,X7,H',⟨(X91 aG aQ aX)⟩,⟨aR aH.out⟩,⟨X6⟩⟩
               ·rw[if_neg bA]at H;have AN:=nF bA;have AO:=nT bA;have H':=am H;clear H;have bB:0≤(aW:Int):=q0a X16;have bC:aW<(a0.size:Int):=q0a X16;have bD:=q4d a0 aW;replace bB:=q0c bB;replace bC:=q0c bC;go_wp2
                go_roundg k3
                case measure=>have:=aG.out;have:=aQ.out;have:=aX.out;omega
                case rel=>exact⟨(wrap64 (aW+1)),X7,H',⟨(X91 aG aQ aX)⟩,⟨aR aH.out⟩,⟨X6⟩⟩
              ·exact iN aZ H
             ·rw[if_neg aY]at H;have AM:=dF aY;clear aY;have H':=am H;clear H;go_wp2
              go_roundg k3
              case measure=>have:=aG.out;have:=aQ.out;have:=aX.out;omega
              case rel=>exact⟨(aC),(aD),(aW),X7,X7,H',⟨(X91 aG aQ aX)⟩,⟨aR aH.out⟩,⟨X6⟩⟩
          ·rw[if_neg aU]at H;have AJ:=nF aU;have AK:=nT aU;by_cases bE:0≤aE
           ·rw[if_pos bE]at H;have AS:=q0c bE;have AT:=dT bE;clear bE;by_cases bF:aE≤(a0.size:Int)
            ·rw[if_pos bF]at H;have AU:=q0c bF;have AV:=dT bF;clear bF;obtain⟨⟨bG,bH,bI,bJ,bK⟩,bM,H⟩:=oA H;(try dsimp only at H);by_cases bN:bK=0
             ·rw[if_pos bN]at H;have AP:=eT bN;have AQ:=eF bN;clear bN;by_cases bO:aC.length<4398046511104
              ·rw[if_pos bO]at H;have bP:=am bO;clear bO;obtain⟨bQ,bR⟩:∃ y_:List (S61),y_=(aC++[(⟨bG,bH,aD⟩:S61)]):=⟨_,rfl⟩;rw[← bR]at H;(try rw[oG bQ]at H)
               have bU:=am bR;clear bR;have H':=am H;clear H;go_wp2_with (first|((with_reducible refine gc 47 ?_);refine gCc (some 25) func47 (q3B.calls aT (a0.extract (aE:Int).toNat a0.size) bG bH bI bJ bK _ bM.out) ?_;rintro w21 hb;replace aH:=am (q1t (aR aH.out) hb);replace HB:=bS X6 hb;clear hb)|((with_reducible refine gd 8 ?_);refine be 8 zTt 61 ?_;intro bV hg w22 hbox hb;replace aH:=am (q1t (q3U (aR aH.out) bV (q0w hg.symm)) hb);have bW:=am (hbox);have bX:=sG (w:=w) hg X6;have bY:=sG (w:=w) hg X6;replace HB:=bS X6 hb;clear hb hbox hg;have Z23:=bc3 bW)|((with_reducible refine q2S (b:=.append) (xs:=#[.tmp 35,.tmp 37]) rfl ?_);at_builtin;refine Kd.R_append k61 (w0:=w) w.heap.size rfl (.tmp 35) (.tmp 37) 49 61 (.agg #[(iv 0),(.string ⟨#[]⟩),(iv 0)]) 32 rfl underlying49 v2M rfl (by decide) (by omega) u5 aC (⟨bG,bH,aD⟩:S61) [iv bG,.string bH,iv aD] (fun k_=>k_≠bV) (fun _=>False) rfl X70 ?aP (fun _ hk=>hk.elim) ?aF ?aO ?aB ?aS ?aL ?_;(case aP=>exact v1i _ _ _ (⟨bG,bH,aD⟩:S61));(case aB=>exact(X10 HB bY));(case aF=>exact(fun k_ hk=>q0u (g:=bV) (o:=.cells #[iv bG,.string bH,iv aD] 61 (0,0)) X249 k_ hk));(case aO=>exact(aR (q0j (fxR bV 2 (iv aD) (f3R bV (iv bI) (.string bH) (iv bG) aH.out oKk) oKk) (fun _ hk=>hk.2))));(case aS=>exact(q1H (X10 HB bY)));(case aL=>have:=bP.out;omega);intro v130 w24 ho hb hg hat;rw[← bU.out]at ho;replace bW:=am (q4T (g:=bV) (o:=.cells #[iv bG,.string bH,iv aD] 61 (0,0)) X249 hg (Kd.R_away aH.out (fun _ hk=>hk.2)));replace HB:=am (hb);have bZ:=am (ho);clear aH;clear ho hb hg hat))
               go_roundg aT
               case measure=>have:=aG.out;have:=aQ.out;omega
               case rel=>exact⟨(bQ),(aD),(wrap64 (aE+bJ)),X7,X7,H',⟨by have:=aG.out;have:=aQ.out;omega⟩,⟨aR (q0j bZ.out (fun _ hk=>trivial))⟩,⟨(X10 HB bY)⟩⟩
              ·exact iN bO H
             ·rw[if_neg bN]at H;have AP:=nF bN;have AQ:=nT bN;replace H:=iJ3 H;obtain⟨rfl,rfl,rfl⟩:=H;go_wp2_with (first|((with_reducible refine gc 47 ?_);refine gCc (some 25) func47 (q3B.calls aT (a0.extract (aE:Int).toNat a0.size) bG bH bI bJ bK _ bM.out) ?_;rintro w25 hb;replace aH:=am (q1t (aR aH.out) hb);replace HB:=bS X6 hb;clear hb)|((with_reducible refine gd 8 ?_);refine be 8 zTt 61 ?_;intro bV hg w26 hbox hb;replace aH:=am (q1t (q3U (aR aH.out) bV (q0w hg.symm)) hb);have bW:=am (hbox);have bX:=sG (w:=w) hg X6;have bY:=sG (w:=w) hg X6;replace HB:=bS X6 hb;clear hb hbox hg;have Z27:=bc3 bW))
              go_ret3
              exact⟨_,X11,X104,(X10 HB bY)⟩
            ·exact iN bF H
           ·exact iN bE H
     ·exact iN c4 H
    ·rw[if_neg c3]at H;have AD:=dF c3;clear c3;replace H:=iJ3 H;obtain⟨rfl,rfl,rfl⟩:=H;go_wp2
     go_ret3
     exact⟨_,X11,aR aH.out,X6⟩
/-- A state of type 54 at block g of W; what its slices lead to came in by w0. -/
def q1f (w0 W:World) (g:Nat) (f0:List (S61)) (f1:Int) (f2:Bool):Prop:=∃ A0 c0,W.heap[g]?=some (.cells #[sl A0 f0 c0,iv f1,.bool f2] 54 (0,0))∧w0.heap.size≤g∧Kd.C k61 w0 A0 f0.length f0
theorem q1f.grown {w0 W:World} {g:Nat} {f0:List (S61)} {f1:Int} {f2:Bool} {W1:World} {row:Option Nat} (h:q1f w0 W g f0 f1 f2) (hw:W.grownBy W1 row) (hne:some g≠row):q1f w0 W1 g f0 f1 f2:=by
 obtain⟨A0,c0,hb,hg,aA⟩:=h;exact⟨A0,c0,q4T hb hw hne,hg,aA⟩
theorem q1f.own_neN {w0 W:World} {g:Nat} {f0:List (S61)} {f1:Int} {f2:Bool} {α:Type} {d:Kd α} {e:Nat} {base:Nat} {ok:Nat→Prop} {v:Value} {xs:List α} (h:q1f w0 W g f0 f1 f2) (ho:Kd.N d e W base ok v xs) (ht:e≠54):some g≠v.ownBlock:=by
 obtain⟨A0,c0,hb,hg,hr0⟩:=h;exact q3n ho hb ht
theorem q1f.fresh {w0 W:World} {g:Nat} {f0:List (S61)} {f1:Int} {f2:Bool} (h:q1f w0 W g f0 f1 f2):∀ k,W.heap.size≤k→k≠g:=by
 obtain⟨A0,c0,hb,hg,hr0⟩:=h;exact q0u hb
theorem q1f.below {w0 W:World} {g:Nat} {f0:List (S61)} {f1:Int} {f2:Bool} {W1:World} (h:q1f w0 W g f0 f1 f2) (hw:Below W.heap.size W W1):q1f w0 W1 g f0 f1 f2:=h.grown (q5F hw none) (by simp)
theorem q1f.alloc {w0 W:World} {g:Nat} {f0:List (S61)} {f1:Int} {f2:Bool} (h:q1f w0 W g f0 f1 f2) (o:Obj):q1f w0 (W.alloc o) g f0 f1 f2:=h.below (q2j (q0r _ _) o)
theorem q1f.drewN {w0 W:World} {g:Nat} {f0:List (S61)} {f1:Int} {f2:Bool} (h:q1f w0 W g f0 f1 f2) (m:Nat):q1f w0 (W.drewN m) g f0 f1 f2:=h
theorem q1f.drew {w0 W:World} {g:Nat} {f0:List (S61)} {f1:Int} {f2:Bool} (h:q1f w0 W g f0 f1 f2):q1f w0 W.drew g f0 f1 f2:=h
theorem q1f.apart {w0 W:World} {g:Nat} {f0:List (S61)} {f1:Int} {f2:Bool} {α:Type} {d:Kd α} {e:Nat} {base:Nat} {ok:Nat→Prop} {v:Value} {xs:List α} (h:q1f w0 W g f0 f1 f2) (ho:d.R e W base ok v xs) (ht:∀ q,q ∈ e::d.E→q≠54):d.R e W base (fun k=>ok k∧k≠g) v xs:=by
 obtain⟨A0,c0,hb,hg,hr0⟩:=h;exact q0E ho hb ht
theorem q1f.own_ne {w0 W:World} {g:Nat} {f0:List (S61)} {f1:Int} {f2:Bool} {α:Type} {d:Kd α} {e:Nat} {base:Nat} {ok:Nat→Prop} {v:Value} {xs:List α} (h:q1f w0 W g f0 f1 f2) (ho:d.R e W base ok v xs) (ht:e≠54):some g≠v.ownBlock:=by
 obtain⟨A0,c0,hb,hg,hr0⟩:=h;exact q3a ho hb ht
theorem q1f.lt {w0 W:World} {g:Nat} {f0:List (S61)} {f1:Int} {f2:Bool} (h:q1f w0 W g f0 f1 f2):g<W.heap.size:=by
 obtain⟨A0,c0,hb,hg,hr0⟩:=h;exact q4N hb
theorem q1f.ge {w0 W:World} {g:Nat} {f0:List (S61)} {f1:Int} {f2:Bool} (h:q1f w0 W g f0 f1 f2):w0.heap.size≤g:=by
 obtain⟨A0,c0,hb,hg,hr0⟩:=h;exact hg
theorem q1f.farB {w0 W:World} {g:Nat} {f0:List (S61)} {f1:Int} {f2:Bool} {b o:Nat} {sp:_} {u:Value} (hne:g≠b) (h:q1f w0 W g f0 f1 f2):q1f w0 (W.setCell ⟨b,o,sp⟩ u) g f0 f1 f2:=by
 obtain⟨A0,c0,hb,hg,aA⟩:=h;exact⟨A0,c0,q1M hb hne u,hg,aA⟩
theorem q1f.far {w0 W:World} {g:Nat} {f0:List (S61)} {f1:Int} {f2:Bool} {p:Addr} (h:q1f w0 W g f0 f1 f2) (hne:g≠p.block) (u:Value):q1f w0 (W.setCell p u) g f0 f1 f2:=by
 obtain⟨A0,c0,hb,hg,aA⟩:=h;exact⟨A0,c0,q1M hb hne u,hg,aA⟩
theorem v0P {W:World} {g:Nat} {A0:Option Addr} {c0:Nat} {f0:List (S61)} {f1:Int} {f2:Bool} (h:W.heap[g]?=some (.cells #[sl A0 f0 c0,iv f1,.bool f2] 54 (0,0))):W.cell? ⟨g,0,none⟩=some (sl A0 f0 c0):=(q0X h 0).trans rfl
theorem q7z {W:World} {g:Nat} {A0:Option Addr} {c0:Nat} {f0:List (S61)} {f1:Int} {f2:Bool} (h:W.heap[g]?=some (.cells #[sl A0 f0 c0,iv f1,.bool f2] 54 (0,0))):W.cell? ⟨g,1,none⟩=some (iv f1):=(q0X h 1).trans rfl
theorem q1f.set_1 {w0 W:World} {g:Nat} {f0:List (S61)} {f1:Int} {f2:Bool} (h:q1f w0 W g f0 f1 f2) (x:Int):q1f w0 (W.setCell ⟨g,1,none⟩ (iv x)) g f0 x f2:=by
 obtain⟨A0,c0,hb,hg,aA⟩:=h;exact⟨A0,c0,by simpa using q7r hb 1 (iv x),hg,aA⟩
theorem q7q {W:World} {g:Nat} {A0:Option Addr} {c0:Nat} {f0:List (S61)} {f1:Int} {f2:Bool} (h:W.heap[g]?=some (.cells #[sl A0 f0 c0,iv f1,.bool f2] 54 (0,0))):W.cell? ⟨g,2,none⟩=some (.bool f2):=(q0X h 2).trans rfl
theorem tS54 {w0:World} {W:World} {g:Nat} {f0:List (S61)} {f1:Int} {f2:Bool} (h:q0i (q1f w0 W g f0 f1 f2)):∃ A0 c0,W.cell? ⟨g,0,none⟩=some (sl A0 f0 c0)∧W.cell? ⟨g,1,none⟩=some (iv f1)∧W.cell? ⟨g,2,none⟩=some (.bool f2)∧W.frozen? ⟨g,1,none⟩=false∧W.frozen? ⟨g,2,none⟩=false∧Kd.C k61 w0 A0 f0.length f0:=by
 obtain⟨A,c,b,_,r⟩:=h.out;exact⟨A,c,v0P b,q7z b,q7q b,q1m b 1,q1m b 2,r⟩
theorem q1f.set_2 {w0 W:World} {g:Nat} {f0:List (S61)} {f1:Int} {f2:Bool} (h:q1f w0 W g f0 f1 f2) (x:Bool):q1f w0 (W.setCell ⟨g,2,none⟩ (.bool x)) g f0 f1 x:=by
 obtain⟨A0,c0,hb,hg,aA⟩:=h;exact⟨A0,c0,by simpa using q7r hb 2 (.bool x),hg,aA⟩
def q1u.f (aA:List (S61)) (aC:Int) (aD:Bool):Option (Int × q0b × Int × Int × Bool):=if aD=true then (some (0,(⟨#[]⟩:q0b),0,aC,aD)) else (if aC=(aA.length:Int) then (some (0,(⟨#[]⟩:q0b),0,aC,aD)) else (if 0≤aC then (if aC<(aA.length:Int) then (some ((q2G aA aC).f0,(q2G aA aC).f1,(q2G aA aC).f2,aC,aD)) else (none)) else (none)))
def q1u.T1:Bool × List (List Nat × List Nat):=(true,[([],[]),([0],[0]),([1],[1]),([2],[2]),([3],[3]),([4],[4]),([5,4],[4,5]),([6,4],[4,6]),([7,4],[4,7]),([4],[4]),([9,4],[4,9]),([10,4],[4,10]),([11,4],[4,11]),([12,4],[4,12]),([8,13,4],[4,8,13]),([4,14],[4,14])])
def q1u.B1:List Nat:=[0,1,3,7,15,31,63,127,255,31,543,1567,3615,7711,16383,32767]
theorem q1u.tab1:rtab .any (q5Z Tryz.f48 1)=q1u.T1:=by kernel_rfl
theorem q1u.bits1:q4i q1u.T1.2 q1u.B1=true:=by kernel_rfl
def q1u.T3:Bool × List (List Nat × List Nat):=(true,[([],[]),([0],[0]),([1],[1]),([2],[2]),([],[]),([4],[4]),([5],[5]),([6],[6]),([3,7],[3,7]),([8],[8]),([9,0,1,2,3,4,5,6,7,8,9],[9])])
def q1u.B3:List Nat:=[0,1,3,7,0,16,48,112,255,511,1023]
theorem q1u.tab3:rtab .any (q5Z Tryz.f48 3)=q1u.T3:=by kernel_rfl
theorem q1u.bits3:q4i q1u.T3.2 q1u.B3=true:=by kernel_rfl
theorem q1u.calls (g:Nat) (aA:List (S61)) (aC:Int) (aD:Bool) (r1:Int) (r2:q0b) (r3:Int) (r4:Int) (r5:Bool) (w0 w:World) (hI:q1f w0 w g aA aC aD) (hB:Below w0.heap.size w0 w) (h:q1u.f aA aC aD=some (r1,r2,r3,r4,r5)) :
  Calls prog 48 #[.pointer (some ⟨g,0,none⟩)] w fun e w'=>e=.returned (.agg #[iv r1,.string r2,iv r3])∧q1f w0 w' g aA r4 r5∧Below w0.heap.size w0 w'∧q2e w w' g none:=by
 have hu61:=underlying61;have aE:=am hI;have HK:=am (q2D w g none);have HL:=am hB.size;have HGL:=am (q1f.lt hI);clear hI;have aG:=am hB.size;have HB:=am hB;clear hB;have H:=h;clear h;unfold q1u.f at H;go_enter func48,ntmps48;go_wp2_with (first|((with_reducible refine gd 2 ?_);(try (refine q2p (by rfl) ?_;dsimp only));refine be 2 zTt 61 ?_;intro aH hg w3 hbox hb;replace HB:=bS X250 hb;have aI:=am (hbox);have aJ:=am ((X120:w.heap.size≤aH));have aK:=am ((q0m aG.out (X120:w.heap.size≤aH):w0.heap.size≤aH));replace HK:=am (q0e X112 (q0M hb g none) (.inl rfl));have aM:=am ((X251:g≠aH));have aQ:=am ((X252:aH≠g));replace aE:=am (q1f.below X253 hb);clear hb hbox hg;refine q5g ?_))
 by_cases c2:aD=true
 ·subst c2;replace H:=tP H;replace H:=iJ5 H;obtain⟨rfl,rfl,rfl,rfl,rfl⟩:=H;refine on_ ?_;try go_wp2
  replace aI:=am (q0B aI.out);replace aE:=am (q1f.drew aE.out);replace HK:=am (q3q HK.out);replace HB:=am (q1U HB.out);obtain⟨aT,aU,aY,aZ,bA,_,_,_⟩:=tS54 aE;refine q4P (n:=16) (S:=fun w'=>dd3 w' g (sl aT aA aU) (iv aC) (.bool true)) (ds:=[]) (lb 16 0) X4 rfl rfl ⟨(aY).trans rfl,(aZ).trans rfl,(bA).trans rfl⟩ (fun hHeld=>?_);refine q3W q1u.tab1 q1u.bits1 (fun HT_ HW_=>?_);generalize w3.drew=w4 at aI aE HK HB hHeld ⊢
  refine pu 0 (some 3) (lb 16 1) HT_ ?_;refine pu 1 (some 4) (lb 16 3) HT_ ?_;refine pu 2 (some 5) (lb 16 7) HT_ ?_;refine tk 3 (some 6) (lb 16 15) HT_ HW_ hHeld ?_;refine pu 4 (some 7) (lb 16 31) HT_ ?_;refine pn 5 (some 8) (lb 16 63) HT_ ?_;refine pn 6 (some 9) (lb 16 127) HT_ ?_;refine pn 7 (some 10) (lb 16 255) HT_ ?_;refine pn 8 (some 11) (lb 16 511) HT_ ?_;refine pn 9 (some 12) (lb 16 1023) HT_ ?_;refine pn 10 (some 13) (lb 16 2047) HT_ ?_;refine pn 11 (some 14) (lb 16 4095) HT_ ?_;refine pn 12 (some 15) (lb 16 8191) HT_ ?_;refine pn 13 (some 16) (lb 16 16383) HT_ ?_;refine pn 14 (some 17) (lb 16 32767) HT_ ?_;refine pu 15 (some 18) (lb 16 65535) HT_ ?_;refine q5N (q4z HT_.out X4) ?_;have AK:=aQ.out;have AL:=aM.out;have Z7:=bc3 aI;try go_wp2
  refine bodyPost_ret (results_cell_row rfl _ _ aH 61 zTt (0,0) _ rfl (bq0 aI) underlying61 rfl X4) rfl ?_;exact⟨X11,(X42 aE aM),(X48 HB aE aK),(X50 HK aJ)⟩
 ·replace c2:=fI c2;subst c2;replace H:=tN H;by_cases c8:aC=(aA.length:Int)
  ·rw[if_pos c8]at H;have AA:=eT c8;have AB:=eF c8;clear c8;replace H:=iJ5 H;obtain⟨rfl,rfl,rfl,rfl,rfl⟩:=H;refine on_ ?_;try go_wp2
   replace aI:=am (q0B aI.out);replace aE:=am (q1f.drew aE.out);replace HK:=am (q3q HK.out);replace HB:=am (q1U HB.out);obtain⟨bB,bC,bF,bG,bH,_,_,_⟩:=tS54 aE;refine q4P (n:=16) (S:=fun w'=>dd3 w' g (sl bB aA bC) (iv aC) (.bool false)) (ds:=[]) (lb 16 0) X4 rfl rfl ⟨(bF).trans rfl,(bG).trans rfl,(bH).trans rfl⟩ (fun hHeld=>?_);refine q3W q1u.tab1 q1u.bits1 (fun HT_ HW_=>?_);generalize w3.drew=w10 at aI aE HK HB hHeld ⊢
   refine pu 0 (some 3) (lb 16 1) HT_ ?_;refine pu 1 (some 4) (lb 16 3) HT_ ?_;refine pu 2 (some 5) (lb 16 7) HT_ ?_;refine tk 3 (some 6) (lb 16 15) HT_ HW_ hHeld ?_;refine pu 4 (some 7) (lb 16 31) HT_ ?_;refine pu 5 (some 8) (lb 16 63) HT_ ?_;refine pu 6 (some 9) (lb 16 127) HT_ ?_;refine pu 7 (some 10) (lb 16 255) HT_ ?_;refine pu 9 (some 12) (lb 16 767) HT_ ?_;refine pu 10 (some 13) (lb 16 1791) HT_ ?_;refine pu 11 (some 14) (lb 16 3839) HT_ ?_;refine tk 8 (some 11) (lb 16 4095) HT_ HW_ hHeld ?_;refine tk 12 (some 15) (lb 16 8191) HT_ HW_ hHeld ?_;refine pu 13 (some 16) (lb 16 16383) HT_ ?_;refine pu 14 (some 17) (lb 16 32767) HT_ ?_;refine pu 15 (some 18) (lb 16 65535) HT_ ?_;refine q5N (q4z HT_.out X4) ?_;have AD:=aQ.out;have AE:=aM.out;have Z13:=bc3 aI;try go_wp2
   refine bodyPost_ret (results_cell_row rfl _ _ aH 61 zTt (0,0) _ rfl (bq0 aI) underlying61 rfl X4) rfl ?_;exact⟨X11,(X42 aE aM),(X48 HB aE aK),(X50 HK aJ)⟩
  ·rw[if_neg c8]at H;have AA:=nF c8;have AB:=nT c8;by_cases bI:0≤aC
   ·rw[if_pos bI]at H;have AF:=dT bI;clear bI;by_cases bJ:aC<(aA.length:Int)
    ·rw[if_pos bJ]at H;have AG:=dT bJ;clear bJ;replace H:=iJ5 H;obtain⟨rfl,rfl,rfl,rfl,rfl⟩:=H;refine on_ ?_;try go_wp2
     replace aI:=am (q0B aI.out);replace aE:=am (q1f.drew aE.out);replace HK:=am (q3q HK.out);replace HB:=am (q1U HB.out);obtain⟨bK,bL,bO,bP,bQ,_,_,_⟩:=tS54 aE;refine q4P (n:=16) (S:=fun w'=>dd3 w' g (sl bK aA bL) (iv aC) (.bool false)) (ds:=[]) (lb 16 0) X4 rfl rfl ⟨(bO).trans rfl,(bP).trans rfl,(bQ).trans rfl⟩ (fun hHeld=>?_);refine q3W q1u.tab1 q1u.bits1 (fun HT_ HW_=>?_);generalize w3.drew=bR at aI aE HK HB hHeld ⊢
     refine pu 0 (some 3) (lb 16 1) HT_ ?_;refine pu 1 (some 4) (lb 16 3) HT_ ?_;refine pu 2 (some 5) (lb 16 7) HT_ ?_;refine tk 3 (some 6) (lb 16 15) HT_ HW_ hHeld ?_;refine pu 4 (some 7) (lb 16 31) HT_ ?_;refine pu 5 (some 8) (lb 16 63) HT_ ?_;refine pu 6 (some 9) (lb 16 127) HT_ ?_;refine pu 7 (some 10) (lb 16 255) HT_ ?_;refine pu 9 (some 12) (lb 16 767) HT_ ?_;refine pu 10 (some 13) (lb 16 1791) HT_ ?_;refine pu 11 (some 14) (lb 16 3839) HT_ ?_;refine tk 8 (some 11) (lb 16 4095) HT_ HW_ hHeld ?_;refine tk 12 (some 15) (lb 16 8191) HT_ HW_ hHeld ?_;refine pu 13 (some 16) (lb 16 16383) HT_ ?_;refine pu 14 (some 17) (lb 16 32767) HT_ ?_;refine pu 15 (some 18) (lb 16 65535) HT_ ?_;refine q5N (q4z HT_.out X4) ?_;try go_wp2
     replace aI:=am (q0B aI.out);replace aE:=am (q1f.drew aE.out);replace HK:=am (q3q HK.out);replace HB:=am (q1U HB.out);obtain⟨_,bT,bX,bY,bZ,_,_,bW⟩:=tS54 aE;have cA:0≤(aC:Int):=q0a X16;have cC:aC<(aA.length:Int):=q0a X16;obtain⟨cD,AC,cE,cF,cG⟩:=q5b bW aC cA cC;have cH:=cG;have cI:=cF;have cJ:=cE;cases AC;replace cE:=q0s HB.out cE;replace cF:=q0s HB.out cF;replace cG:=q0s HB.out cG;replace cA:=q0c cA;replace cC:=q0c cC;refine q4P (n:=11) (S:=fun w'=>cc3 w' g (sl (some cD) aA bT) (iv aC) (.bool false) (w'.cell? (cD.add ((aC).toNat*3))=some (iv ((q2G aA aC).f0))∧w'.cell? ⟨(cD.add ((aC).toNat*3)).block,(cD.add ((aC).toNat*3)).off+1,none⟩=some (.string ((q2G aA aC).f1))∧w'.cell? ⟨(cD.add ((aC).toNat*3)).block,(cD.add ((aC).toNat*3)).off+2,none⟩=some (iv ((q2G aA aC).f2)))) (ds:=[]) (lb 11 0) X4 rfl rfl ⟨(bX).trans rfl,(bY).trans rfl,(bZ).trans rfl,(q0s HB.out cJ),(q0s HB.out cI),(q0s HB.out cH)⟩ (fun hHeld=>?_);refine q3W q1u.tab3 q1u.bits3 (fun HT_ HW_=>?_);generalize bR.drew=cK at aI aE HK HB cE cF cG hHeld ⊢
     refine pu 0 (some 20) (lb 11 1) HT_ ?_;refine pu 1 (some 21) (lb 11 3) HT_ ?_;refine pu 2 (some 22) (lb 11 7) HT_ ?_;refine pu 4 (some 24) (lb 11 23) HT_ ?_;refine pu 5 (some 25) (lb 11 55) HT_ ?_;refine pu 6 (some 26) (lb 11 119) HT_ ?_;refine tk 3 (some 23) (lb 11 127) HT_ HW_ hHeld ?_;refine tk 7 (some 27) (lb 11 255) HT_ HW_ hHeld ?_;refine pu 8 (some 28) (lb 11 511) HT_ ?_;refine tk 9 (some 29) (lb 11 1023) HT_ HW_ hHeld ?_;refine oo 10 none (lb 11 2047) HT_ (fun K hK=>?_);have AM:cK.cell? ⟨aH,0,none⟩=some (iv 0):=(q0X aI.out 0).trans rfl;have AH:=q1m aI.out 0;have AN:cK.cell? ⟨aH,1,none⟩=some (.string eBb):=(q0X aI.out 1).trans rfl;have AI:=q1m aI.out 1;have AO:cK.cell? ⟨aH,2,none⟩=some (iv 0):=(q0X aI.out 2).trans rfl;have AJ:=q1m aI.out 2;refine q7J (w1:=?_) (by rfl) rfl ?_ ?_;rotate_left
     ·go_simp;rfl
     refine hK.out _ _ ⟨((cf3 (X140 aM) (hHeld.1))),((cf3 (X140 aM) (hHeld.2.1))),((cf3 (X140 aM) (hHeld.2.2.1))),((cf3 X257 (hHeld.2.2.2.1))),((cf3 X258 (hHeld.2.2.2.2.1))),((cf3 X259 (hHeld.2.2.2.2.2)))⟩ (fun hHeld=>?_);clear hK K;refine q5N (q4z HT_.out X4) ?_;try go_wp2
     refine bodyPost_ret (results_cell_row rfl _ _ aH 61 #[iv ((q2G aA aC).f0),.string ((q2G aA aC).f1),iv ((q2G aA aC).f2)] (0,0) _ rfl (bq0 aI) underlying61 rfl X4) rfl ?_;exact⟨X11,(X42 aE aM),(X48 HB aE aK),(X50 HK aJ)⟩
    ·exact iN bJ H
   ·exact iN bI H

def q1B.f (aA:List (S61)) (aC:Int) (aD:Bool) (a1:Int) (a2:q0b):Option (Bool × Int × Bool):=(q1u.f aA aC aD).bind fun aE=>(if aE.1=a1 then (some ((aE.2.1.toList == a2.toList),aE.2.2.2.1,aE.2.2.2.2)) else (some (false,aE.2.2.2.1,aE.2.2.2.2)))
theorem q1B.calls (g:Nat) (aA:List (S61)) (aC:Int) (aD:Bool) (a1:Int) (a2:q0b) (r1:Bool) (r2:Int) (r3:Bool) (w0 w:World) (hI:q1f w0 w g aA aC aD) (hB:Below w0.heap.size w0 w) (h:q1B.f aA aC aD a1 a2=some (r1,r2,r3)) :
  Calls prog 22 #[.pointer (some ⟨g,0,none⟩),iv a1,.string a2] w fun e w'=>e=.returned (.bool r1)∧q1f w0 w' g aA r2 r3∧Below w0.heap.size w0 w'∧q2e w w' g none:=by
 have hu61:=underlying61;have aE:=am hI;have HK:=am (q2D w g none);have HL:=am hB.size;have HGL:=am (q1f.lt hI);clear hI;have aG:=am hB.size;have HB:=am hB;clear hB;have H:=h;clear h;unfold q1B.f at H;obtain⟨⟨aH,aI,aJ,aK,aM⟩,A4,H⟩:=oA H;(try dsimp only at H);go_enter func22,ntmps22;go_wp2_with (first|((with_reducible refine gc 48 ?_);refine gCc (some 9) func48 (q1u.calls g aA aC aD aH aI aJ aK aM w0 _ X253 X250 A4.out) ?_;rintro w6 ⟨hi,hb,hk⟩;replace HK:=am (q0e X112 hk (.inl rfl));replace HB:=am (hb);replace aE:=am (hi);clear hi hb hk)|((with_reducible refine gd 7 ?_);refine be 7 zTt 61 ?_;intro aT hg w7 hbox hb;replace HB:=bS X250 hb;have aU:=am (hbox);have aW:=am ((X120:w.heap.size≤aT));have aX:=am ((q0m aG.out (X120:w.heap.size≤aT):w0.heap.size≤aT));replace HK:=am (q0e X112 (q0M hb g none) (.inl rfl));have aY:=am ((X260:g≠aT));have aZ:=am ((X261:aT≠g));replace aE:=am (q1f.below X253 hb);clear hb hbox hg;have AC:=aZ.out;have AD:=aY.out;have Z9:=bc3 aU;refine q5g ?_))
 by_cases c5:aH=a1
 ·rw[if_pos c5]at H;have AA:=eT c5;have AB:=eF c5;clear c5;replace H:=iJ3 H;obtain⟨rfl,rfl,rfl⟩:=H;refine on_ ?_;go_wp2
  go_ret
  exact⟨X11,(X42 aE aY),(X48 HB aE aX),(X50 HK aW)⟩
 ·rw[if_neg c5]at H;have AA:=nF c5;have AB:=nT c5;replace H:=iJ3 H;obtain⟨rfl,rfl,rfl⟩:=H;refine on_ ?_;go_wp2
  go_ret
  exact⟨X11,(X42 aE aY),(X48 HB aE aX),(X50 HK aW)⟩

def q2d.f (aA:List (S61)) (aC:Int) (aD:Bool) (a1:Int):Option (q0b × Int × Bool):=(q1u.f aA aC aD).bind fun aE=>(if aE.1=a1 then (some (aE.2.1,wrap64 (aE.2.2.2.1+1),aE.2.2.2.2)) else (some ((⟨#[]⟩:q0b),aE.2.2.2.1,true)))
theorem q2d.calls (g:Nat) (aA:List (S61)) (aC:Int) (aD:Bool) (a1:Int) (r1:q0b) (r2:Int) (r3:Bool) (w0 w:World) (hI:q1f w0 w g aA aC aD) (hB:Below w0.heap.size w0 w) (h:q2d.f aA aC aD a1=some (r1,r2,r3)) :
  Calls prog 23 #[.pointer (some ⟨g,0,none⟩),iv a1] w fun e w'=>e=.returned (.string r1)∧q1f w0 w' g aA r2 r3∧Below w0.heap.size w0 w'∧q2e w w' g none:=by
 have hu61:=underlying61;have aE:=am hI;have HK:=am (q2D w g none);have HL:=am hB.size;have HGL:=am (q1f.lt hI);clear hI;have aG:=am hB.size;have HB:=am hB;clear hB;have H:=h;clear h;unfold q2d.f at H;obtain⟨⟨aH,aI,aJ,aK,aM⟩,A3,H⟩:=oA H;(try dsimp only at H);go_enter func23,ntmps23;go_wp2_with (first|((with_reducible refine gc 48 ?_);refine gCc (some 7) func48 (q1u.calls g aA aC aD aH aI aJ aK aM w0 _ X253 X250 A3.out) ?_;rintro w5 ⟨hi,hb,hk⟩;replace HK:=am (q0e X112 hk (.inl rfl));replace HB:=am (hb);replace aE:=am (hi);clear hi hb hk)|((with_reducible refine gd 5 ?_);refine be 5 zTt 61 ?_;intro aT hg w6 hbox hb;replace HB:=bS X250 hb;have aU:=am (hbox);have aW:=am ((X120:w.heap.size≤aT));have aX:=am ((q0m aG.out (X120:w.heap.size≤aT):w0.heap.size≤aT));replace HK:=am (q0e X112 (q0M hb g none) (.inl rfl));have aY:=am ((X260:g≠aT));have aZ:=am ((X261:aT≠g));replace aE:=am (q1f.below X253 hb);clear hb hbox hg;have AC:=aZ.out;have AD:=aY.out;have Z8:=bc3 aU;obtain⟨_,_,_,_,_,_,_,_⟩:=tS54 aE;refine q5g ?_))
 by_cases c4:aH=a1
 ·rw[if_pos c4]at H;have AA:=eT c4;have AB:=eF c4;clear c4;replace H:=iJ3 H;obtain⟨rfl,rfl,rfl⟩:=H;refine on_ ?_;go_wp2
  go_ret
  exact⟨X11,(X42 aE aY),(X48 HB aE aX),(X50 HK aW)⟩
 ·rw[if_neg c4]at H;have AA:=nF c4;have AB:=nT c4;replace H:=iJ3 H;obtain⟨rfl,rfl,rfl⟩:=H;refine on_ ?_;go_wp2
  go_ret
  exact⟨X11,(X42 aE aY),(X48 HB aE aX),(X50 HK aW)⟩

def q0J.f (aA:List (S61)) (aC:Int) (aD:Bool) (a1:q0b):Option (Bool × Int × Bool):=(q1B.f aA aC aD 4 a1).bind fun aE=>(if aE.1=true then (some (true,wrap64 (aE.2.1+1),aE.2.2)) else (some (false,aE.2.1,aE.2.2)))
theorem q0J.calls (g:Nat) (aA:List (S61)) (aC:Int) (aD:Bool) (a1:q0b) (r1:Bool) (r2:Int) (r3:Bool) (w0 w:World) (hI:q1f w0 w g aA aC aD) (hB:Below w0.heap.size w0 w) (h:q0J.f aA aC aD a1=some (r1,r2,r3)) :
  Calls prog 49 #[.pointer (some ⟨g,0,none⟩),.string a1] w fun e w'=>e=.returned (.bool r1)∧q1f w0 w' g aA r2 r3∧Below w0.heap.size w0 w'∧q2e w w' g none:=by
 have aE:=am hI;have HK:=am (q2D w g none);have HL:=am hB.size;have HGL:=am (q1f.lt hI);clear hI;have HW0:=am hB.size;have HB:=am hB;clear hB;have H:=h;clear h;unfold q0J.f at H;obtain⟨⟨aG,aH,aI⟩,A3,H⟩:=oA H;(try dsimp only at H);by_cases c4:aG=true
 ·subst c4;replace H:=tP H;replace H:=iJ3 H;obtain⟨rfl,rfl,rfl⟩:=H;go_enter func49,ntmps49;go_wp2_with (first|((with_reducible refine gc 22 ?_);refine gCc (some 7) func22 (q1B.calls g aA aC aD 4 a1 true aH aI w0 _ X253 X250 A3.out) ?_;rintro w5 ⟨hi,hb,hk⟩;replace HK:=am (q0e X112 hk (.inl rfl));replace HB:=am (hb);replace aE:=am (hi);clear hi hb hk;obtain⟨_,_,_,_,_,_,_,_⟩:=tS54 aE))
  go_ret
  exact⟨X11,X253,X250,X112⟩
 ·replace c4:=fI c4;subst c4;replace H:=tN H;replace H:=iJ3 H;obtain⟨rfl,rfl,rfl⟩:=H;go_enter func49,ntmps49;go_wp2_with (first|((with_reducible refine gc 22 ?_);refine gCc (some 7) func22 (q1B.calls g aA aC aD 4 a1 false aH aI w0 _ X253 X250 A3.out) ?_;rintro w7 ⟨hi,hb,hk⟩;replace HK:=am (q0e X112 hk (.inl rfl));replace HB:=am (hb);replace aE:=am (hi);clear hi hb hk))
  go_ret
  exact⟨X11,X253,X250,X112⟩

def q1c.f (aA:List (S61)) (aC:Int) (aD:Bool) (a1:q0b):Option (Int × Bool):=(q0J.f aA aC aD a1).bind fun aE=>(if aE.1=true then (some (aE.2.1,aE.2.2)) else (some (aE.2.1,true)))
theorem q1c.calls (g:Nat) (aA:List (S61)) (aC:Int) (aD:Bool) (a1:q0b) (r1:Int) (r2:Bool) (w0 w:World) (hI:q1f w0 w g aA aC aD) (hB:Below w0.heap.size w0 w) (h:q1c.f aA aC aD a1=some (r1,r2)) :
  Calls prog 24 #[.pointer (some ⟨g,0,none⟩),.string a1] w fun e w'=>e=.returned (.tuple #[])∧q1f w0 w' g aA r1 r2∧Below w0.heap.size w0 w'∧q2e w w' g none:=by
 have aE:=am hI;have HK:=am (q2D w g none);have HL:=am hB.size;have HGL:=am (q1f.lt hI);clear hI;have HW0:=am hB.size;have HB:=am hB;clear hB;have H:=h;clear h;unfold q1c.f at H;obtain⟨⟨aG,aH,aI⟩,A3,H⟩:=oA H;(try dsimp only at H);by_cases c4:aG=true
 ·subst c4;replace H:=tP H;replace H:=iJ2 H;obtain⟨rfl,rfl⟩:=H;go_enter func24,ntmps24;go_wp2_with (first|((with_reducible refine gc 49 ?_);refine gCc (some 6) func49 (q0J.calls g aA aC aD a1 true aH aI w0 _ X253 X250 A3.out) ?_;rintro w5 ⟨hi,hb,hk⟩;replace HK:=am (q0e X112 hk (.inl rfl));replace HB:=am (hb);replace aE:=am (hi);clear hi hb hk))
  first|go_end0|((try simp only[Exit.inBlock,Exit.then]);refine bodyPost_ret (results_none rfl _ _ _) rfl ?_)
  exact⟨X11,X253,X250,X112⟩
 ·replace c4:=fI c4;subst c4;replace H:=tN H;replace H:=iJ2 H;obtain⟨rfl,rfl⟩:=H;go_enter func24,ntmps24;go_wp2_with (first|((with_reducible refine gc 49 ?_);refine gCc (some 6) func49 (q0J.calls g aA aC aD a1 false aH aI w0 _ X253 X250 A3.out) ?_;rintro w6 ⟨hi,hb,hk⟩;replace HK:=am (q0e X112 hk (.inl rfl));replace HB:=am (hb);replace aE:=am (hi);clear hi hb hk;obtain⟨_,_,_,_,_,_,_,_⟩:=tS54 aE))
  first|go_end0|((try simp only[Exit.inBlock,Exit.then]);refine bodyPost_ret (results_none rfl _ _ _) rfl ?_)
  exact⟨X11,X253,X250,X112⟩
end Go.Proofs.YtmffocankommaaaGreatDoor.P
