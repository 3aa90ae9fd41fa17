/- Printed walks: what each function of the program computes. Condition: the Lean function gives a value. -/
import Derived.Test.YtmffocankommaaaDoorDYZed
import Derived.Test.YtmffocankommaaaDoorProg
import Derived.Below
import Derived.Deep.Draws
import Derived.Deep.AppendLies
import Derived.Maps.AppendAt
import Derived.OwnWalk
import Derived.Laws.BytesArg
import Derived.Laws.MakeOwn
import Derived.Laws.OwnMore
import Derived.Deep.OwnRows
import Derived.Tactics
import Derived.Lib.ConvBytes
import Derived.Laws.Slices
import Derived.WalkKit
import Derived.KernelRfl
import Derived.RowKit3
import Derived.Deep.LoopGhost
import Derived.Deep.QuietTactic
import Derived.BigQuiet
import Derived.WideLaws
import Derived.Deep.DeepCutAuto
import Derived.Deep.CutBlock
import Derived.Deep.RegionHeld3
import Derived.Laws.Rows
import Derived.Lib.AppendStr
import Derived.ArgAppend
import Derived.Laws.IdiomCopy
import Derived.OrdersHeld
import Derived.Laws.BitsLemmas
import Derived.RowKit
import Derived.Test.YtmffocankommaaaDoorDShelf
import Derived.Shelf.Spec.SlicesGrow
import Derived.Test.YtmffocankommaaaDoorDWWords
import Derived.Test.YtmffocankommaaaDoorDWLast
import Derived.Test.YtmffocankommaaaDoorDWTab
import Derived.Test.YtmffocankommaaaDoorDWApart
import Derived.Test.YtmffocankommaaaDoorDWFoot
import Derived.Test.YtmffocankommaaaDoorDWKept
import Derived.Test.YtmffocankommaaaDoorDWShare
import Derived.Test.YtmffocankommaaaDoorDWN
import Derived.Test.YtmffocankommaaaDoorDWEqStruct
import Derived.Test.YtmffocankommaaaDoorDWRepsOne
import Derived.Test.YtmffocankommaaaDoorDWInv
import Derived.Test.YtmffocankommaaaDoorDWGuard
import Derived.Test.YtmffocankommaaaDoorDWNEv
import Derived.Test.YtmffocankommaaaDoorDWMore
import Derived.Test.YtmffocankommaaaDoorDYWords
import Derived.Test.YtmffocankommaaaDoorDYShort
namespace Go.Proofs.YtmffocankommaaaDoor.J
open Go.RowKit Go.Proofs.YtmffocankommaaaDoorW.PrintWords Go.Proofs.YtmffocankommaaaDoorW.PrintLast Go.Proofs.YtmffocankommaaaDoorW.PrintMore Go.Proofs.YtmffocankommaaaDoorY Go.Proofs.YtmffocankommaaaDoorS Go.Proofs.YtmffocankommaaaDoorS _root_.Go.Proofs.Tryd
attribute [local go_sem] q1X q2F q2H q3c q3b q2u q2t q2E q2G
set_option linter.unusedVariables false
set_option linter.unusedSimpArgs false
set_option maxHeartbeats 8000000
set_option maxRecDepth 100000
def errW:Option Int → Value
 | none=>.nilIface
 | some c=>.iface 0 (iv c)
theorem q8s:errW none = .nilIface:=rfl
theorem q8w (c:Int):errW (some c) = .iface 0 (iv c):=rfl

theorem q4K:(Tryd.prog.info? 9).map (fun i=>(i.zero,i.size,i.bytes)) = some (some (.string ⟨#[]⟩),1,16):=by kernel_rfl
theorem q8F:(Tryd.prog.info? 25).map (fun i=>(i.zero,i.size,i.bytes)) = some (some (.agg #[(iv 0),(.string ⟨#[]⟩),(iv 0),(.slice none 0 0)]),4,56):=by kernel_rfl
theorem info36:(Tryd.prog.info? 36).map (fun i=>(i.zero,i.size,i.bytes)) = some (some (.agg #[(iv 0),(.string ⟨#[]⟩),(iv 0)]),3,32):=by kernel_rfl
theorem q9z:(Tryd.prog.info? 39).map (fun i=>(i.zero,i.size,i.bytes)) = some (some (.slice none 0 0),1,24):=by kernel_rfl
theorem v2J:(Tryd.prog.info? 86).map (fun i=>(i.zero,i.size,i.bytes)) = some (some (.agg #[(.string ⟨#[]⟩),(iv 0),(.string ⟨#[]⟩),(iv 0),(.slice none 0 0)]),5,72):=by kernel_rfl
theorem v2M:(Tryd.prog.info? 88).map (fun i=>(i.zero,i.size,i.bytes)) = some (some (.agg #[(.string ⟨#[]⟩),(iv 0),(iv 0)]),3,32):=by kernel_rfl
structure S36 where
 f0:Int
 f1:q0a
 f2:Int
def z36:S36:=⟨(0:Int),(⟨#[]⟩:q0a),(0:Int)⟩
def k36:Kd S36:=Kd.iso (Kd.pair (Kd.int .i64) (Kd.pair Kd.string (Kd.int .i64))) (fun x:S36=>(x.f0,x.f1,x.f2))
theorem v1M {w:World} {x:S36} {cs:List Value} (h:k36.K w x cs):cs = [iv x.f0,.string x.f1,iv x.f2]:=by
 obtain ⟨_,_,rfl,rfl,⟨_,_,rfl,rfl,rfl⟩⟩:=h;exact rfl
theorem k36_mkM (w:World) (base:Nat) (ok:Nat → Prop) (x:S36)  : k36.M w base ok x [iv x.f0,.string x.f1,iv x.f2]:=⟨[iv x.f0],[.string x.f1,iv x.f2],rfl,rfl,⟨[.string x.f1],[iv x.f2],rfl,rfl,rfl⟩⟩
def q5i (xs:List S36) (i:Int):S36:=xs.getD i.toNat z36
theorem at_T36 {w:World} {A:Option Addr} {n:Nat} {xs:List S36} (h:Kd.C k36 w A n xs) (i:Int) (h0:0≤i) (h1:i < n):∃ ad,A = some ad∧w.cell? (ad.add (i.toNat * 3)) = some (iv (q5i xs i).f0)∧w.cell? ⟨(ad.add (i.toNat * 3)).block,(ad.add (i.toNat * 3)).off + 1,none⟩ = some (.string (q5i xs i).f1)∧w.cell? ⟨(ad.add (i.toNat * 3)).block,(ad.add (i.toNat * 3)).off + 2,none⟩ = some (iv (q5i xs i).f2):=by
 obtain ⟨ad,c,e,_,hK,aA⟩:=Kd.C_get h z36 i h0 h1;have hc:∀ j u,c[j]? = some u → w.cell? (ad.add (i.toNat * 3 + j)) = some u:=aA;obtain rfl:=v1M hK;exact ⟨ad,e,hc 0 _ rfl,X0,X1⟩

structure S25 where
 f0:Int
 f1:q0a
 f2:Int
 f3:(List S25)
def z25:S25:=⟨(0:Int),(⟨#[]⟩:q0a),(0:Int),([]:List S25)⟩
def F25 (d:Kd S25):Kd S25:=Kd.iso (Kd.pair (Kd.int .i64) (Kd.pair Kd.string (Kd.pair (Kd.int .i64) (Kd.slice 25 d)))) (fun x:S25=>(x.f0,x.f1,x.f2,x.f3))
theorem v3d:Kd.Mono F25:=Kd.mono_iso _ (Kd.mono_pair (Kd.mono_const _) (Kd.mono_pair (Kd.mono_const _) (Kd.mono_pair (Kd.mono_const _) (Kd.mono_slice 25 Kd.mono_id))))
theorem sub25:Kd.Sub F25 [25]:=Kd.sub_iso _ (Kd.sub_pair (Kd.sub_const _ (by decide)) (Kd.sub_pair (Kd.sub_const _ (by decide)) (Kd.sub_pair (Kd.sub_const _ (by decide)) (Kd.sub_slice 25 (by decide) Kd.sub_id))))
theorem sz25:∀ n,(Kd.upto F25 4 [25] n).sz = 4:=Kd.upto_sz (fun _=>rfl)
def k25:Kd S25:=Kd.fix F25 4 [25] sz25 (Kd.upto_E sub25)
theorem q6R {w:World} {x:S25} {cs:List Value} (h:k25.K w x cs):∃ A3 c3,cs = [iv x.f0,.string x.f1,iv x.f2,sl A3 x.f3 c3]∧x.f3.length≤c3∧k25.C w A3 x.f3.length x.f3:=by
 obtain ⟨n,h⟩:=h;cases n with
 | zero=>exact h.elim
 | succ n=>
  obtain ⟨_,_,rfl,rfl,⟨_,_,rfl,rfl,⟨_,_,rfl,rfl,⟨A3,c3,rfl,l3,g3⟩⟩⟩⟩:=h;exact ⟨A3,c3,rfl,l3,Kd.fix_C g3⟩
theorem v3e (w:World) (x:S25) {A3:Option Addr} {c3:Nat} (l3:x.f3.length≤c3) (g3:k25.C w A3 x.f3.length x.f3):k25.K w x [iv x.f0,.string x.f1,iv x.f2,sl A3 x.f3 c3]:=by
 obtain ⟨n3,q3⟩:=Kd.fix_C_back v3d g3;have r3:=Kd.upto_C_le v3d sz25 (show n3≤n3 by omega) q3;exact ⟨n3 + 1,⟨[iv x.f0],[.string x.f1,iv x.f2,sl A3 x.f3 c3],rfl,rfl,⟨[.string x.f1],[iv x.f2,sl A3 x.f3 c3],rfl,rfl,⟨[iv x.f2],[sl A3 x.f3 c3],rfl,rfl,⟨A3,c3,rfl,l3,r3⟩⟩⟩⟩⟩
theorem q5w {W:World} {ok:Nat → Prop} {x:S25} {cs:List Value} (h:Kd.FK k25 W ok x cs):∃ A3 c3,cs = [iv x.f0,.string x.f1,iv x.f2,sl A3 x.f3 c3]∧x.f3.length≤c3∧Kd.F k25 W ok A3 x.f3.length x.f3:=by
 obtain ⟨A3,c3,rfl,l3,_⟩:=q6R (Kd.FK_now h);exact ⟨A3,c3,rfl,l3,(fun W' hW=>by obtain ⟨aA,aC,he,l3_,aD⟩:=q6R (h W' hW);injection (q0d (show some (Value.slice A3 x.f3.length c3) = some (Value.slice aA x.f3.length aC) from congrArg (fun l=>l[3]?) he)) with ha_ _ _;rw [ha_];exact aD)⟩
theorem q5b (W:World) (ok:Nat → Prop) (x:S25) {A3:Option Addr} {c3:Nat} (l3:x.f3.length≤c3) (g3:Kd.F k25 W ok A3 x.f3.length x.f3):Kd.FK k25 W ok x [iv x.f0,.string x.f1,iv x.f2,sl A3 x.f3 c3]:=fun W2 hW=>v3e W2 x l3 (g3 W2 hW)
def q0A (xs:List S25) (i:Int):S25:=xs.getD i.toNat z25
theorem q4w {w:World} {A:Option Addr} {n:Nat} {xs:List S25} (h:Kd.C k25 w A n xs) (i:Int) (h0:0≤i) (h1:i < n):∃ ad A3 c3,A = some ad∧w.cell? (ad.add (i.toNat * 4)) = some (iv (q0A xs i).f0)∧w.cell? ⟨(ad.add (i.toNat * 4)).block,(ad.add (i.toNat * 4)).off + 1,none⟩ = some (.string (q0A xs i).f1)∧w.cell? ⟨(ad.add (i.toNat * 4)).block,(ad.add (i.toNat * 4)).off + 2,none⟩ = some (iv (q0A xs i).f2)∧w.cell? ⟨(ad.add (i.toNat * 4)).block,(ad.add (i.toNat * 4)).off + 3,none⟩ = some (sl A3 (q0A xs i).f3 c3)∧(q0A xs i).f3.length≤c3∧k25.C w A3 (q0A xs i).f3.length (q0A xs i).f3:=by
 obtain ⟨ad,c,e,_,hK,aA⟩:=Kd.C_get h z25 i h0 h1;have hc:∀ j u,c[j]? = some u → w.cell? (ad.add (i.toNat * 4 + j)) = some u:=aA;obtain ⟨A3,c3,rfl,l3,g3⟩:=q6R hK;exact ⟨ad,A3,c3,e,hc 0 _ rfl,X0,X1,X2,l3,g3⟩

structure S86 where
 f0:q0a
 f1:S25
def z86:S86:=⟨(⟨#[]⟩:q0a),z25⟩
def k86:Kd S86:=Kd.iso (Kd.pair Kd.string k25) (fun x:S86=>(x.f0,x.f1))
theorem v1F {w:World} {x:S86} {cs:List Value} (h:k86.K w x cs):∃ A4 c4,cs = [.string x.f0,iv x.f1.f0,.string x.f1.f1,iv x.f1.f2,sl A4 x.f1.f3 c4]∧x.f1.f3.length≤c4∧k25.C w A4 x.f1.f3.length x.f1.f3:=by
 obtain ⟨_,_,rfl,rfl,s1⟩:=h;obtain ⟨A4,c4,rfl,l4,g4⟩:=q6R s1;exact ⟨A4,c4,rfl,l4,g4⟩
theorem k86_mk (w:World) (x:S86) {A4:Option Addr} {c4:Nat} (l4:x.f1.f3.length≤c4) (g4:k25.C w A4 x.f1.f3.length x.f1.f3):k86.K w x [.string x.f0,iv x.f1.f0,.string x.f1.f1,iv x.f1.f2,sl A4 x.f1.f3 c4]:=⟨[.string x.f0],[iv x.f1.f0,.string x.f1.f1,iv x.f1.f2,sl A4 x.f1.f3 c4],rfl,rfl,(v3e w x.f1 l4 g4)⟩
theorem v0c (W:World) (ok:Nat → Prop) (x:S86) {A4:Option Addr} {c4:Nat} (l4:x.f1.f3.length≤c4) (g4:Kd.F k25 W ok A4 x.f1.f3.length x.f1.f3):Kd.FK k86 W ok x [.string x.f0,iv x.f1.f0,.string x.f1.f1,iv x.f1.f2,sl A4 x.f1.f3 c4]:=fun W2 hW=>k86_mk W2 x l4 (g4 W2 hW)
def q1e (xs:List S86) (i:Int):S86:=xs.getD i.toNat z86
theorem q6N {w:World} {A:Option Addr} {n:Nat} {xs:List S86} (h:Kd.C k86 w A n xs) (i:Int) (h0:0≤i) (h1:i < n):∃ ad A4 c4,A = some ad∧w.cell? (ad.add (i.toNat * 5)) = some (.string (q1e xs i).f0)∧w.cell? ⟨(ad.add (i.toNat * 5)).block,(ad.add (i.toNat * 5)).off + 1,none⟩ = some (iv (q1e xs i).f1.f0)∧w.cell? ⟨(ad.add (i.toNat * 5)).block,(ad.add (i.toNat * 5)).off + 2,none⟩ = some (.string (q1e xs i).f1.f1)∧w.cell? ⟨(ad.add (i.toNat * 5)).block,(ad.add (i.toNat * 5)).off + 3,none⟩ = some (iv (q1e xs i).f1.f2)∧w.cell? ⟨(ad.add (i.toNat * 5)).block,(ad.add (i.toNat * 5)).off + 4,none⟩ = some (sl A4 (q1e xs i).f1.f3 c4)∧(q1e xs i).f1.f3.length≤c4∧k25.C w A4 (q1e xs i).f1.f3.length (q1e xs i).f1.f3:=by
 obtain ⟨ad,c,e,_,hK,aA⟩:=Kd.C_get h z86 i h0 h1;have hc:∀ j u,c[j]? = some u → w.cell? (ad.add (i.toNat * 5 + j)) = some u:=aA;obtain ⟨A4,c4,rfl,l4,g4⟩:=v1F hK;exact ⟨ad,A4,c4,e,hc 0 _ rfl,X0,X1,X2,by rw [← q4z _ _ 4 (by omega)];exact hc 4 _ rfl,l4,g4⟩

structure S88 where
 f0:q0a
 f1:Int
 f2:Int
def z88:S88:=⟨(⟨#[]⟩:q0a),(0:Int),(0:Int)⟩
def k88:Kd S88:=Kd.iso (Kd.pair Kd.string (Kd.pair (Kd.int .i64) (Kd.int .i64))) (fun x:S88=>(x.f0,x.f1,x.f2))
theorem v1s {w:World} {x:S88} {cs:List Value} (h:k88.K w x cs):cs = [.string x.f0,iv x.f1,iv x.f2]:=by
 obtain ⟨_,_,rfl,rfl,⟨_,_,rfl,rfl,rfl⟩⟩:=h;exact rfl
theorem k88_mk (w:World) (x:S88)  : k88.K w x [.string x.f0,iv x.f1,iv x.f2]:=⟨[.string x.f0],[iv x.f1,iv x.f2],rfl,rfl,⟨[iv x.f1],[iv x.f2],rfl,rfl,rfl⟩⟩
theorem k88_mkM (w:World) (base:Nat) (ok:Nat → Prop) (x:S88)  : k88.M w base ok x [.string x.f0,iv x.f1,iv x.f2]:=⟨[.string x.f0],[iv x.f1,iv x.f2],rfl,rfl,⟨[iv x.f1],[iv x.f2],rfl,rfl,rfl⟩⟩
theorem k88_mkF (W:World) (ok:Nat → Prop) (x:S88):Kd.FK k88 W ok x [.string x.f0,iv x.f1,iv x.f2]:=fun W2 _=>k88_mk W2 x
def q2p (xs:List S88) (i:Int):S88:=xs.getD i.toNat z88
theorem q6M {w:World} {A:Option Addr} {n:Nat} {xs:List S88} (h:Kd.C k88 w A n xs) (i:Int) (h0:0≤i) (h1:i < n):∃ ad,A = some ad∧w.cell? (ad.add (i.toNat * 3)) = some (.string (q2p xs i).f0)∧w.cell? ⟨(ad.add (i.toNat * 3)).block,(ad.add (i.toNat * 3)).off + 1,none⟩ = some (iv (q2p xs i).f1)∧w.cell? ⟨(ad.add (i.toNat * 3)).block,(ad.add (i.toNat * 3)).off + 2,none⟩ = some (iv (q2p xs i).f2):=by
 obtain ⟨ad,c,e,_,hK,aA⟩:=Kd.C_get h z88 i h0 h1;have hc:∀ j u,c[j]? = some u → w.cell? (ad.add (i.toNat * 3 + j)) = some u:=aA;obtain rfl:=v1s hK;exact ⟨ad,e,hc 0 _ rfl,X0,X1⟩

def q2M (xs:List (List q0a)) (i:Int):(List q0a):=xs.getD i.toNat ([]:List q0a)
theorem q5Y {w:World} {A:Option Addr} {n:Nat} {xs:List (List q0a)} (h:Kd.C (Kd.slice 9 Kd.string) w A n xs) (i:Int) (h0:0≤i) (h1:i < n):∃ ad A0 c0,A = some ad∧w.cell? (ad.add i.toNat) = some (sl A0 (q2M xs i) c0)∧(q2M xs i).length≤c0∧Kd.string.C w A0 (q2M xs i).length (q2M xs i):=by
 obtain ⟨ad,c,e,_,hK,aA⟩:=Kd.C_get h ([]:List q0a) i h0 h1;have hc:∀ j u,c[j]? = some u → w.cell? (ad.add (i.toNat * 1 + j)) = some u:=aA;obtain ⟨A0,c0,rfl,l0,g0⟩:=hK;exact ⟨ad,A0,c0,e,X3,l0,g0⟩

structure S44 where
 f0:q0a
 f1:(List S86)
 f2:(List S88)
 f3:(List (List q0a))
 f4:S25
theorem eqA88 (d:Nat) (w:World) (x0 y0:q0a) (x1 y1:Int) (x2 y2:Int) :
  (Op.equalIn (d + 2) 88 (.agg #[.string x0,iv x1,iv x2]) (.agg #[.string y0,iv y1,iv y2])).run prog w = .ok (x0.toList == y0.toList && (x1 == y1 && (x2 == y2))) w:=by
 refine eqA_of underlying88 X4 ?_;refine q9A (by rfl) (by go_simp;rfl) (by go_simp;rfl) (by go_simp) ?_;refine q9A (by rfl) (by go_simp;rfl) (by go_simp;rfl) (by go_simp) ?_;exact v1O (by rfl) (by go_simp;rfl) (by go_simp;rfl) (by go_simp)
def q3l.f (a0:Int):Option (Bool):=if a0≥97 then (some (decide (a0≤122))) else (some false)
theorem q3l.calls (a0:Int) (r:Bool) (w:World) (h:q3l.f a0 = some r) :
  Calls prog 109 #[.int .u8 a0] w fun e w'=>e = .returned (.bool r)∧q3Q w w':=by
 have H:=h;clear h;unfold q3l.f at H;by_cases c2:a0≥97
 ·rw [if_pos c2] at H;have c2b0:decide (97≤a0) = true:=q0w c2;clear c2;obtain rfl:=q0d H;go_enter func109,ntmps109;go_wp2
  go_ret
  exact ⟨X7,X18⟩
 ·rw [if_neg c2] at H;have c2b0:decide (97≤a0) = false:=q0S c2;clear c2;obtain rfl:=q0d H;go_enter func109,ntmps109;go_wp2
  go_ret
  exact ⟨X7,X18⟩

def q3w.f (a0:Int):Option (Bool):=if a0≥48 then (some (decide (a0≤57))) else (some false)
theorem q3w.calls (a0:Int) (r:Bool) (w:World) (h:q3w.f a0 = some r) :
  Calls prog 110 #[.int .u8 a0] w fun e w'=>e = .returned (.bool r)∧q3Q w w':=by
 have H:=h;clear h;unfold q3w.f at H;by_cases c2:a0≥48
 ·rw [if_pos c2] at H;have c2b0:decide (48≤a0) = true:=q0w c2;clear c2;obtain rfl:=q0d H;go_enter func110,ntmps110;go_wp2
  go_ret
  exact ⟨X7,X18⟩
 ·rw [if_neg c2] at H;have c2b0:decide (48≤a0) = false:=q0S c2;clear c2;obtain rfl:=q0d H;go_enter func110,ntmps110;go_wp2
  go_ret
  exact ⟨X7,X18⟩

mutual
def q0W.j0:Nat → q0a → Bool → Option (Int)
 | 0,_,_=>none
 | k + 1,x0,aA=>if aA = true then (some 0) else (q0W.l0 k x0 1)
def q0W.l0:Nat → q0a → Int → Option (Int)
 | 0,_,_=>none
 | k + 1,x0,x3=>if x3 < (x0.size:Int) then (if 0≤x3 then ((q3l.f (bt x0 x3)).bind fun aA=>(if aA = true then (q0W.j2 k x0 x3 (bt x0 x3) true) else ((q3w.f (bt x0 x3)).bind fun aC=>(q0W.j2 k x0 x3 (bt x0 x3) aC)))) else (none)) else (some x3)
def q0W.j2:Nat → q0a → Int → Int → Bool → Option (Int)
 | 0,_,_,_,_=>none
 | k + 1,x0,x3,x4,aA=>if aA = true then (q0W.l0 k x0 (wrap64 (x3 + 1))) else (if x4 = 45 then (if (wrap64 (x3 + 1)) < (x0.size:Int) then (if 0≤(wrap64 (x3 + 1)) then ((q3l.f (bt x0 (wrap64 (x3 + 1)))).bind fun aC=>(if aC = true then (q0W.l0 k x0 (wrap64 (x3 + 2))) else ((q3w.f (bt x0 (wrap64 (x3 + 1)))).bind fun aD=>(if aD = true then (q0W.l0 k x0 (wrap64 (x3 + 2))) else (some x3))))) else (none)) else (some x3)) else (some x3))
end
def q0W.f (k:Nat) (a0:q0a):Option (Int):=if a0.toList = ([]:List UInt8) then (q0W.j0 k a0 true) else (if 0 < (a0.size:Int) then ((q3l.f (bt a0 0)).bind fun aA=>(q0W.j0 k a0 (!aA))) else (none))
theorem q0W.mono_l:∀ k,(∀ y0 y1,LeO (q0W.j0 k y0 y1) (q0W.j0 (k + 1) y0 y1))∧(∀ y0 y1,LeO (q0W.l0 k y0 y1) (q0W.l0 (k + 1) y0 y1))∧(∀ y0 y1 y2 y3,LeO (q0W.j2 k y0 y1 y2 y3) (q0W.j2 (k + 1) y0 y1 y2 y3))
 | 0=>⟨fun _ _ r h=>by simp [q0W.j0] at h,fun _ _ r h=>by simp [q0W.l0] at h,fun _ _ _ _ r h=>by simp [q0W.j2] at h⟩
 | k + 1=>by
  obtain ⟨aA,aC,aD⟩:=q0W.mono_l k;refine ⟨?_,?_,?_⟩
  ·intro y0 y1;unfold q0W.j0;exact X108
  ·intro y0 y1;unfold q0W.l0;exact X108
  ·intro y0 y1 y2 y3;unfold q0W.j2;exact X108
theorem q0W.mono:∀ a0 k,LeO (q0W.f k a0) (q0W.f (k + 1) a0):=by
 intro a0 k;obtain ⟨aA,aC,aD⟩:=q0W.mono_l k;unfold q0W.f;exact X108
theorem q0W.calls (k:Nat) (a0:q0a) (r:Int) (w:World) (h:q0W.f k a0 = some r) :
  Calls prog 101 #[.string a0] w fun e w'=>e = .returned (iv r)∧q3Q w w':=by
 have H:=h;clear h;unfold q0W.f at H;have aA:=am H;clear H;go_enter func101,ntmps101;go_upto_region 1 with (fail)
 go_cut [12] (fun aC wc=>∃ (kq:Nat) (aD:Bool),aC = .bool aD∧q0j (q0W.j0 kq a0 aD = some r)∧q0j (kq≤k)∧q3Q w wc)
 case first=>
  have H:=aA.out;clear aA;by_cases c3:a0.toList = ([]:List UInt8)
  ·rw [if_pos c3] at H;have c3b0:=eT c3;have c3b1:=eF c3;clear c3;(first | rw [c3b0]|(simp only [q3O,q3U];rw [c3b0]) | skip);have H':=am H;clear H;go_wp2
   go_meet
   case rel=>exact ⟨_,(true),X7,H',⟨X8⟩,X18⟩
  ·rw [if_neg c3] at H;have c3b0:=nF c3;have c3b1:=nT c3;(first | rw [c3b0]|(simp only [q3O,q3U];rw [c3b0]) | skip);by_cases c4:0 < (a0.size:Int)
   ·rw [if_pos c4] at H;have c4b0:=dT c4;have c4b1:decide (0 < a0.size) = true:=q0w (by omega);clear c4;obtain ⟨aE,A6,H⟩:=oA H;(try dsimp only at H);have H':=am H;clear H;have p5:0≤(0:Int):=(by omega);have q5:0 < a0.size:=(by have:(0:Int) < (a0.size:Int):=q0b X12;omega);have aH:∀ h:0 < a0.size,((a0[0]'h).toNat:Int) = bt a0 0:=q5n a0 0;clear p5;have aI:(0 < (a0.size:Int)) = True:=q0c (q0b X12);replace q5:=q0c q5;go_wp2_with (first|(go_at_call 109;(with_reducible refine (q3l.calls (bt a0 0) aE _ A6.out).mono ?_);rintro e w' ⟨rfl,⟨nd,rfl⟩⟩))
    go_meet
    case rel=>exact ⟨_,(!aE),X7,H',⟨X8⟩,X18⟩
   ·exact iN c4 H
 case rest=>
  clear aA;(try clear c1 p2 c3 c3b0 c3b1 c4 c4b0 c4b1);(try clear p5 p5);(try clear q5 q5);(try clear aH aI);obtain ⟨kq,aD,rfl,HA,aJ,⟨mc1,rfl⟩⟩:=hcut;cases kq with
  | zero=>exact absurd HA.out (by simp [q0W.j0])
  | succ aK=>
   have H:=HA.out;clear HA;simp only [q0W.j0] at H;by_cases c7:aD = true
   ·subst c7;replace H:=tP H;obtain rfl:=q0d H;go_wp2
    go_ret
    exact ⟨X7,X18⟩
   ·replace c7:=fI c7;subst c7;replace H:=tN H;have H':=am H;clear H;go_wp2
    go_loopg [3] aK (fun kq v3 w'=>∃ (aM:Int),v3 = iv aM∧q0j (q0W.l0 kq a0 aM = some r)∧q0j (kq≤aK)∧q3Q w w')
    case atStart=>exact ⟨(1),X7,H',⟨q0f _⟩,X18⟩
    case round=>
     clear H';(try clear c1);(try clear p2 p2);(try clear c3 c3b0 c3b1 c4 c4b0 c4b1);(try clear p5 p5);(try clear q5 q5);(try clear aH aI c7);obtain ⟨aM,rfl,HA,aQ,⟨m2,rfl⟩⟩:=hrel;cases gk with
     | zero=>exact absurd HA.out (by simp [q0W.l0])
     | succ k2=>
      have H:=HA.out;clear HA;simp only [q0W.l0] at H;by_cases c8:aM < (a0.size:Int)
      ·rw [if_pos c8] at H;have c8b0:=dT c8;clear c8;by_cases c9:0≤aM
       ·rw [if_pos c9] at H;have c9b0:=dT c9;clear c9;have aT:=am H;clear H;have aU:0≤(aM:Int):=q0b X12;have aW:aM < (a0.size:Int):=q0b X12;have aX:=q5n a0 aM;replace aU:=q0c aU;replace aW:=q0c aW;go_upto_region 7 with (fail)
        go_cut [21] (fun aY wc=>∃ (kq:Nat) (aZ:Bool),aY = .bool aZ∧q0j (q0W.j2 kq a0 aM (bt a0 aM) aZ = some r)∧q0j (kq≤k2)∧q3Q w wc)
        case first=>
         have H:=aT.out;clear aT;obtain ⟨bA,bC,H⟩:=oA H;(try dsimp only at H);by_cases bD:bA = true
         ·subst bD;replace H:=tP H;have H':=am H;clear H;go_wp2_with (first|((with_reducible refine gc 109 ?_);refine gL (some 23) func109 #[.int .u8 (bt a0 aM)] ?_;(with_reducible refine (q3l.calls (bt a0 aM) true _ bC.out).mono ?_);rintro e w' ⟨rfl,⟨nd,rfl⟩⟩;refine ⟨_,rfl,?_⟩))
          go_meet
          case rel=>exact ⟨_,(true),X7,H',⟨X109⟩,X18⟩
         ·replace bD:=fI bD;subst bD;replace H:=tN H;obtain ⟨bE,bG,H⟩:=oA H;(try dsimp only at H);have H':=am H;clear H;go_wp2_with (first|((with_reducible refine gc 109 ?_);refine gL (some 23) func109 #[.int .u8 (bt a0 aM)] ?_;(with_reducible refine (q3l.calls (bt a0 aM) false _ bC.out).mono ?_);rintro e w' ⟨rfl,⟨nd,rfl⟩⟩;refine ⟨_,rfl,?_⟩)|(go_at_call 110;(with_reducible refine (q3w.calls (bt a0 aM) bE _ bG.out).mono ?_);rintro e w' ⟨rfl,⟨nd,rfl⟩⟩))
          go_meet
          case rel=>exact ⟨_,(bE),X7,H',⟨X109⟩,X18⟩
        case rest=>
         clear aT;(try clear c1 p1 q1 hx1);(try clear p2 p2);(try clear c3 c3b0 c3b1 c4 c4b0 c4b1);(try clear p5 p5);(try clear q5 q5);(try clear aH aI c7 c8 c8b0 c9 c9b0 c10);(try clear aU aU);(try clear aW aW);(try clear aX bD);obtain ⟨kq,aZ,rfl,HA,bH,⟨mc10,rfl⟩⟩:=hcut;cases kq with
         | zero=>exact absurd HA.out (by simp [q0W.j2])
         | succ bI=>
          have H:=HA.out;clear HA;simp only [q0W.j2] at H;by_cases bJ:aZ = true
          ·subst bJ;replace H:=tP H;have H':=am H;clear H;go_wp2
           go_roundg bI
           case measure=>have:=aJ.out;have:=aQ.out;have:=bH.out;omega
           case rel=>exact ⟨(wrap64 (aM + 1)),X7,H',⟨X110⟩,X18⟩
          ·replace bJ:=fI bJ;subst bJ;replace H:=tN H;by_cases bK:(bt a0 aM) = 45
           ·rw [if_pos bK] at H;have c16b0:=eT bK;have c16b1:=eF bK;clear bK;by_cases bL:(wrap64 (aM + 1)) < (a0.size:Int)
            ·rw [if_pos bL] at H;have c17b0:=dT bL;clear bL;obtain ⟨bM,bN⟩:∃ j_:Int,(wrap64 (aM + 1)) = j_:=⟨_,rfl⟩;replace H:(if 0≤(bM) then ((q3l.f (bt a0 (bM))).bind fun bO=>(if bO = true then (q0W.l0 bI a0 (wrap64 (aM + 2))) else ((q3w.f (bt a0 (bM))).bind fun bP=>(if bP = true then (q0W.l0 bI a0 (wrap64 (aM + 2))) else (some aM))))) else (none)) = some r:=by first|(rw [bN] at H;exact H)|(simp only [bN] at H ⊢;exact H)
             (try rw [bN] at c17b0);have hji18w:(IntKind.i64.wrap (aM + 1)) = bM:=(q3O _).trans bN;by_cases bQ:0≤(bM)
             ·rw [if_pos bQ] at H;have c19b0:=dT bQ;clear bQ;obtain ⟨bO,bT,H⟩:=oA H;(try dsimp only at H);by_cases bU:bO = true
              ·subst bU;replace H:=tP H;have H':=am H;clear H;have bV:0≤((bM):Int):=q0b X12;have bW:(bM) < (a0.size:Int):=q0b X12;have bX:=q5n a0 (bM);replace bV:=q0c bV;replace bW:=q0c bW;go_wp2_with (first|(go_at_call 109;(with_reducible refine (q3l.calls (bt a0 (bM)) true _ bT.out).mono ?_);rintro e w' ⟨rfl,⟨nd,rfl⟩⟩))
               go_roundg bI
               case measure=>have:=aJ.out;have:=aQ.out;have:=bH.out;omega
               case rel=>exact ⟨(wrap64 (aM + 2)),X7,H',⟨X110⟩,X18⟩
              ·replace bU:=fI bU;subst bU;replace H:=tN H;obtain ⟨bP,bZ,H⟩:=oA H;(try dsimp only at H);by_cases cA:bP = true
               ·subst cA;replace H:=tP H;have H':=am H;clear H;have bV:0≤((bM):Int):=q0b X12;have bW:(bM) < (a0.size:Int):=q0b X12;have bX:=q5n a0 (bM);replace bV:=q0c bV;replace bW:=q0c bW;go_wp2_with (first|(go_at_call 109;(with_reducible refine (q3l.calls (bt a0 (bM)) false _ bT.out).mono ?_);rintro e w' ⟨rfl,⟨nd,rfl⟩⟩;have cC:0≤((bM):Int):=q0b X12;have cD:(bM) < (a0.size:Int):=q0b X12;have cE:=q5n a0 (bM);replace cC:=q0c cC;replace cD:=q0c cD)|(go_at_call 110;(with_reducible refine (q3w.calls (bt a0 (bM)) true _ bZ.out).mono ?_);rintro e w' ⟨rfl,⟨nd,rfl⟩⟩))
                go_roundg bI
                case measure=>have:=aJ.out;have:=aQ.out;have:=bH.out;omega
                case rel=>exact ⟨(wrap64 (aM + 2)),X7,H',⟨X110⟩,X18⟩
               ·replace cA:=fI cA;subst cA;replace H:=tN H;obtain rfl:=q0d H;have bV:0≤((bM):Int):=q0b X12;have bW:(bM) < (a0.size:Int):=q0b X12;have bX:=q5n a0 (bM);replace bV:=q0c bV;replace bW:=q0c bW;go_wp2_with (first|(go_at_call 109;(with_reducible refine (q3l.calls (bt a0 (bM)) false _ bT.out).mono ?_);rintro e w' ⟨rfl,⟨nd,rfl⟩⟩;have cC:0≤((bM):Int):=q0b X12;have cD:(bM) < (a0.size:Int):=q0b X12;have cE:=q5n a0 (bM);replace cC:=q0c cC;replace cD:=q0c cD)|(go_at_call 110;(with_reducible refine (q3w.calls (bt a0 (bM)) false _ bZ.out).mono ?_);rintro e w' ⟨rfl,⟨nd,rfl⟩⟩))
                go_ret
                exact ⟨by first | rfl|(simp;done)|(simp only [← bN] <;> (first | rfl | simp))|(simp [*];done),X18⟩
             ·exact iN bQ H
            ·rw [if_neg bL] at H;have c17b0:=dF bL;clear bL;obtain rfl:=q0d H;go_wp2
             go_ret
             exact ⟨X7,X18⟩
           ·rw [if_neg bK] at H;have c16b0:=nF bK;have c16b1:=nT bK;obtain rfl:=q0d H;go_wp2
            go_ret
            exact ⟨X7,X18⟩
       ·exact iN c9 H
      ·rw [if_neg c8] at H;have c8b0:=dF c8;clear c8;obtain rfl:=q0d H;go_wp2
       go_ret
       exact ⟨X7,X18⟩

def q1T.l0:Nat → q0a → Int → Option (Int)
 | 0,_,_=>none
 | k + 1,x0,x3=>if x3 < (x0.size:Int) then (if 0≤x3 then ((q3w.f (bt x0 x3)).bind fun aA=>(if aA = true then (q1T.l0 k x0 (wrap64 (x3 + 1))) else (some x3))) else (none)) else (some x3)
def q1T.f (k:Nat) (a0:q0a):Option (Int):=q1T.l0 k a0 0
theorem q1T.mono_l:∀ k,(∀ y0 y1,LeO (q1T.l0 k y0 y1) (q1T.l0 (k + 1) y0 y1))
 | 0=>fun _ _ r h=>by simp [q1T.l0] at h
 | k + 1=>by
  have aA:=q1T.mono_l k
  ·intro y0 y1;unfold q1T.l0;exact X70
theorem q1T.mono:∀ a0 k,LeO (q1T.f k a0) (q1T.f (k + 1) a0):=by
 intro a0 k;have aA:=q1T.mono_l k;unfold q1T.f;exact X70
theorem q1T.calls (k:Nat) (a0:q0a) (r:Int) (w:World) (h:q1T.f k a0 = some r) :
  Calls prog 111 #[.string a0] w fun e w'=>e = .returned (iv r)∧q3Q w w':=by
 have H:(q1T.l0 k a0 0) = some r:=h;clear h;have H':=am H;clear H;go_enter func111,ntmps111;go_wp2
 go_loopg [3] k (fun kq v3 w'=>∃ (aA:Int),v3 = iv aA∧q0j (q1T.l0 kq a0 aA = some r)∧q0j (kq≤k)∧q3Q w w')
 case atStart=>exact ⟨(0),X7,H',⟨q0f _⟩,X18⟩
 case round=>
  clear H';(try clear c1);obtain ⟨aA,rfl,HA,aC,⟨m1,rfl⟩⟩:=hrel;cases gk with
  | zero=>exact absurd HA.out (by simp [q1T.l0])
  | succ k1=>
   have H:=HA.out;clear HA;simp only [q1T.l0] at H;by_cases c2:aA < (a0.size:Int)
   ·rw [if_pos c2] at H;have c2b0:=dT c2;clear c2;by_cases c3:0≤aA
    ·rw [if_pos c3] at H;have c3b0:=dT c3;clear c3;obtain ⟨aD,A5,H⟩:=oA H;(try dsimp only at H);by_cases c6:aD = true
     ·subst c6;replace H:=tP H;have H':=am H;clear H;have p4:0≤(aA:Int):=q0b X12;have q4:aA < (a0.size:Int):=q0b X12;have aG:=q5n a0 aA;replace p4:=q0c p4;replace q4:=q0c q4;go_wp2_with (first|(go_at_call 110;(with_reducible refine (q3w.calls (bt a0 aA) true _ A5.out).mono ?_);rintro e w' ⟨rfl,⟨nd,rfl⟩⟩))
      go_roundg k1
      case measure=>have:=aC.out;omega
      case rel=>exact ⟨(wrap64 (aA + 1)),X7,H',⟨by have:=aC.out;omega⟩,X18⟩
     ·replace c6:=fI c6;subst c6;replace H:=tN H;obtain rfl:=q0d H;have p4:0≤(aA:Int):=q0b X12;have q4:aA < (a0.size:Int):=q0b X12;have aG:=q5n a0 aA;replace p4:=q0c p4;replace q4:=q0c q4;go_wp2_with (first|(go_at_call 110;(with_reducible refine (q3w.calls (bt a0 aA) false _ A5.out).mono ?_);rintro e w' ⟨rfl,⟨nd,rfl⟩⟩))
      go_ret
      exact ⟨X7,X18⟩
    ·exact iN c3 H
   ·rw [if_neg c2] at H;have c2b0:=dF c2;clear c2;obtain rfl:=q0d H;go_wp2
    go_ret
    exact ⟨X7,X18⟩

mutual
def q1z.j0:Nat → q0a → Bool → Option (Int × Bool)
 | 0,_,_=>none
 | k + 1,x0,aA=>if aA = true then (some (0,false)) else (if x0.size≤9223372036854775807 then (((some (q5F x0))).bind fun aC=>(q1z.l0 k 0 aC (aC.length:Int) 0)) else (none))
def q1z.l0:Nat → Int → List Int → Int → Int → Option (Int × Bool)
 | 0,_,_,_,_=>none
 | k + 1,x4,aA,aC,aD=>if aD < aC then (if 0≤aD then (if aD < (aA.length:Int) then (q1z.l0 k (wrap64 ((wrap64 (10 * x4)) + (((rd aA aD) - 48) % 256))) aA aC (wrap64 (aD + 1))) else (none)) else (none)) else (some (x4,true))
end
def q1z.f (k:Nat) (a0:q0a):Option (Int × Bool):=if a0.toList = ([]:List UInt8) then (q1z.j0 k a0 true) else (if (a0.size:Int) > 6 then (q1z.j0 k a0 true) else ((q1T.f k a0).bind fun aA=>(if aA = (a0.size:Int) then (if (a0.size:Int) > 1 then (if 0 < (a0.size:Int) then (q1z.j0 k a0 ((bt a0 0) == 48)) else (none)) else (q1z.j0 k a0 false)) else (q1z.j0 k a0 true))))
theorem q1z.mono_l:∀ k,(∀ y0 y1,LeO (q1z.j0 k y0 y1) (q1z.j0 (k + 1) y0 y1))∧(∀ y0 y1 y2 y3,LeO (q1z.l0 k y0 y1 y2 y3) (q1z.l0 (k + 1) y0 y1 y2 y3))
 | 0=>⟨fun _ _ r h=>by simp [q1z.j0] at h,fun _ _ _ _ r h=>by simp [q1z.l0] at h⟩
 | k + 1=>by
  obtain ⟨aA,aC⟩:=q1z.mono_l k;refine ⟨?_,?_⟩
  ·intro y0 y1;unfold q1z.j0;exact X111
  ·intro y0 y1 y2 y3;unfold q1z.l0;exact X111
theorem q1z.mono:∀ a0 k,LeO (q1z.f k a0) (q1z.f (k + 1) a0):=by
 intro a0 k;obtain ⟨aA,aC⟩:=q1z.mono_l k;unfold q1z.f;exact X111
theorem q1z.calls (k:Nat) (a0:q0a) (r1:Int) (r2:Bool) (w:World) (h:q1z.f k a0 = some (r1,r2)) :
  Calls prog 112 #[.string a0] w fun e w'=>e = .returned (.tuple #[iv r1,.bool r2])∧Below w.heap.size w w':=by
 have HB:=am (q0i w.heap.size w);have H:=h;clear h;unfold q1z.f at H;have aA:=am H;clear H;go_enter func112,ntmps112;go_upto_region 1 with (fail)
 go_cut [30] (fun aC wc=>∃ (kq:Nat) (aD:Bool),aC = .bool aD∧q0j (q1z.j0 kq a0 aD = some (r1,r2))∧q0j (kq≤k)∧q0j (Below w.heap.size w wc))
 case first=>
  have H:=aA.out;clear aA;by_cases c3:a0.toList = ([]:List UInt8)
  ·rw [if_pos c3] at H;have c3b0:=eT c3;have c3b1:=eF c3;clear c3;(first | rw [c3b0]|(simp only [q3O,q3U];rw [c3b0]) | skip);have H':=am H;clear H;go_wp2
   go_meet
   case rel=>exact ⟨_,(true),X7,H',⟨X8⟩,⟨X6⟩⟩
  ·rw [if_neg c3] at H;have c3b0:=nF c3;have c3b1:=nT c3;(first | rw [c3b0]|(simp only [q3O,q3U];rw [c3b0]) | skip);by_cases c4:(a0.size:Int) > 6
   ·rw [if_pos c4] at H;have c4b0:decide (6 < (a0.size:Int)) = true:=q0w c4;have c4b1:decide (6 < a0.size) = true:=q0w (by omega);clear c4;have H':=am H;clear H;go_wp2
    go_meet
    case rel=>exact ⟨_,(true),X7,H',⟨X8⟩,⟨X6⟩⟩
   ·rw [if_neg c4] at H;have c4b0:decide (6 < (a0.size:Int)) = false:=q0S c4;have c4b1:decide (6 < a0.size) = false:=q0S (by omega);clear c4;obtain ⟨aE,A5,H⟩:=oA H;(try dsimp only at H);by_cases c6:aE = (a0.size:Int)
    ·rw [if_pos c6] at H;have c6b0:=eT c6;have c6b1:=eF c6;clear c6;by_cases c7:(a0.size:Int) > 1
     ·rw [if_pos c7] at H;have c7b0:decide (1 < (a0.size:Int)) = true:=q0w c7;have c7b1:decide (1 < a0.size) = true:=q0w (by omega);clear c7;by_cases c8:0 < (a0.size:Int)
      ·rw [if_pos c8] at H;have c8b0:=dT c8;have c8b1:decide (0 < a0.size) = true:=q0w (by omega);clear c8;have H':=am H;clear H;go_wp2_with (first|(go_at_call 111;(with_reducible refine (q1T.calls k a0 aE _ A5.out).mono ?_);rintro e w' ⟨rfl,⟨nd,rfl⟩⟩;have p9:0≤(0:Int):=(by omega);have q9:0 < a0.size:=(by have:(0:Int) < (a0.size:Int):=q0b X12;omega);have aH:∀ h:0 < a0.size,((a0[0]'h).toNat:Int) = bt a0 0:=q5n a0 0;clear p9;have aI:(0 < (a0.size:Int)) = True:=q0c (q0b X12);replace q9:=q0c q9))
       go_meet
       case rel=>exact ⟨_,(((bt a0 0) == 48)),X7,H',⟨X8⟩,⟨X6⟩⟩
      ·exact iN c8 H
     ·rw [if_neg c7] at H;have c7b0:decide (1 < (a0.size:Int)) = false:=q0S c7;have c7b1:decide (1 < a0.size) = false:=q0S (by omega);clear c7;have H':=am H;clear H;go_wp2_with (first|(go_at_call 111;(with_reducible refine (q1T.calls k a0 aE _ A5.out).mono ?_);rintro e w' ⟨rfl,⟨nd,rfl⟩⟩))
      go_meet
      case rel=>exact ⟨_,(false),X7,H',⟨X8⟩,⟨X6⟩⟩
    ·rw [if_neg c6] at H;have c6b0:=nF c6;have c6b1:=nT c6;have H':=am H;clear H;go_wp2_with (first|(go_at_call 111;(with_reducible refine (q1T.calls k a0 aE _ A5.out).mono ?_);rintro e w' ⟨rfl,⟨nd,rfl⟩⟩))
     go_meet
     case rel=>exact ⟨_,(true),X7,H',⟨X8⟩,⟨X6⟩⟩
 case rest=>
  clear aA;(try clear c1 p2 c3 c3b0 c3b1 c4 c4b0 c4b1 c6 c6b0 c6b1 c7 c7b0 c7b1 c8 c8b0 c8b1);(try clear p9 p9);(try clear q9 q9);(try clear aH aI);obtain ⟨kq,aD,rfl,HA,aJ,HB⟩:=hcut;cases kq with
  | zero=>exact absurd HA.out (by simp [q1z.j0])
  | succ aK=>
   have H:=HA.out;clear HA;simp only [q1z.j0] at H;by_cases c10:aD = true
   ·subst c10;replace H:=tP H;simp only [Option.some.injEq,Prod.mk.injEq] at H;obtain ⟨rfl,rfl⟩:=H;go_wp2
    go_ret2
    exact ⟨X11,X6⟩
   ·replace c10:=fI c10;subst c10;replace H:=tN H;by_cases aM:a0.size≤9223372036854775807
    ·rw [if_pos aM] at H;have c11b0:=q0c aM;have c11b1:=dT aM;try have c11b2:(9223372036854775807 < a0.size) = False:=eq_false (q2l.2 aM)
     clear aM;obtain ⟨aQ,aU,H⟩:=oA H;(try dsimp only at H);have H':=am H;clear H;go_wp2_with (first|(refine convU_ ?_;refine (v2F (P:=prog) 9 31 5 underlying9 underlying31 underlying5 a0 (by first | assumption | omega|(have:=q0b (by assumption);omega)) _ aU.out _).mono ?_;rintro e w13 ⟨v109,rfl,aW,hb⟩;refine ⟨_,rfl,?_⟩;have aX:=am (q2R (q0v (ok':=fun k_=>True) aW (fun k_ hk_=>trivial)) (q1c X6));replace HB:=bS X6 hb;clear hb;(try clear aW);obtain ⟨aY,aZ,bA⟩:=q2a aX.out;subst bA))
     go_loopg [4,34] aK (fun kq v4 bB w'=>∃ (bC:Int) (bD:Int),v4 = iv bC∧bB = iv bD∧q0j (q1z.l0 kq bC aQ (aQ.length:Int) bD = some (r1,r2))∧q0j (kq≤aK)∧q0j (Kd.V (Kd.int .u8) 5 w' w.heap.size (fun _=>True) (sl aY aQ aZ) aQ)∧q0j (Below w.heap.size w w'))
     case atStart=>exact ⟨(0),(0),X7,X7,H',⟨q0f _⟩,⟨aV aX.out⟩,⟨X6⟩⟩
     case round=>
      clear H';(try clear c1);(try clear p2 p2);(try clear c3 c3b0 c3b1 c4 c4b0 c4b1 c6 c6b0 c6b1 c7 c7b0 c7b1 c8 c8b0 c8b1);(try clear p9 p9);(try clear q9 q9);(try clear aH aI c10 aM c11b0 c11b1 c11b2);obtain ⟨bC,bD,rfl,rfl,HA,bE,bF,HB⟩:=hrel;cases gk with
      | zero=>exact absurd HA.out (by simp [q1z.l0])
      | succ k2=>
       have H:=HA.out;clear HA;simp only [q1z.l0] at H;by_cases bG:bD < (aQ.length:Int)
       ·rw [if_pos bG] at H;have c15b0:=dT bG;clear bG;by_cases bH:0≤bD
        ·rw [if_pos bH] at H;have c16b0:=dT bH;clear bH;by_cases bI:bD < (aQ.length:Int)
         ·rw [if_pos bI] at H;have c17b0:=dT bI;clear bI;have H':=am H;clear H;have bJ:0≤(bD:Int):=q0b X12;have bK:bD < (aQ.length:Int):=q0b X12;obtain ⟨ad111,e111,hx111_0⟩:=Kd.at_int (q0y bF.out).2.2 bD bJ bK;cases e111;replace bJ:=q0c bJ;replace bK:=q0c bK;go_wp2
          go_roundg k2
          case measure=>have:=aJ.out;have:=bE.out;omega
          case rel=>exact ⟨(wrap64 ((wrap64 (10 * bC)) + (((rd aQ bD) - 48) % 256))),(wrap64 (bD + 1)),X7,X7,H',⟨by have:=aJ.out;have:=bE.out;omega⟩,⟨aV bF.out⟩,⟨X6⟩⟩
         ·exact iN bI H
        ·exact iN bH H
       ·rw [if_neg bG] at H;have c15b0:=dF bG;clear bG;simp only [Option.some.injEq,Prod.mk.injEq] at H;obtain ⟨rfl,rfl⟩:=H;go_wp2
        go_ret2
        exact ⟨X11,X6⟩
    ·exact iN aM H
def q8H.f (a0:Int):Option (Bool):=if a0≥32 then (if a0≤126 then (some (a0 != 34)) else (some false)) else (some false)
mutual
def q2r.j1:Nat → q0a → Int → Option (q0a × Int)
 | 0,_,_=>none
 | k + 1,x0,x4=>if x4 = (x0.size:Int) then (q2r.j2 k x0 x4 true) else (if 0≤x4 then (if x4 < (x0.size:Int) then (q2r.j2 k x0 x4 ((bt x0 x4) != 34)) else (none)) else (none))
def q2r.j2:Nat → q0a → Int → Bool → Option (q0a × Int)
 | 0,_,_,_=>none
 | k + 1,x0,x4,aA=>if aA = true then (some ((⟨#[]⟩:q0a),2)) else (if (wrap64 (x4 - 1)) > 60 then (some ((⟨#[]⟩:q0a),3)) else (if 1≤x4 then (if x4≤(x0.size:Int) then (some (x0.extract 1 (x4:Int).toNat,0)) else (none)) else (none)))
def q2r.l0:Nat → q0a → Int → Option (q0a × Int)
 | 0,_,_=>none
 | k + 1,x0,x4=>if x4 < (x0.size:Int) then (if 0≤x4 then ((q8H.f (bt x0 x4)).bind fun aA=>(if aA = true then (q2r.l0 k x0 (wrap64 (x4 + 1))) else (q2r.j1 k x0 x4))) else (none)) else (q2r.j1 k x0 x4)
end
def q2r.f (k:Nat) (a0:q0a):Option (q0a × Int):=q2r.l0 k a0 1
theorem q2r.mono_l:∀ k,(∀ y0 y1,LeO (q2r.j1 k y0 y1) (q2r.j1 (k + 1) y0 y1))∧(∀ y0 y1 y2,LeO (q2r.j2 k y0 y1 y2) (q2r.j2 (k + 1) y0 y1 y2))∧(∀ y0 y1,LeO (q2r.l0 k y0 y1) (q2r.l0 (k + 1) y0 y1))
 | 0=>⟨fun _ _ r h=>by simp [q2r.j1] at h,fun _ _ _ r h=>by simp [q2r.j2] at h,fun _ _ r h=>by simp [q2r.l0] at h⟩
 | k + 1=>by
  obtain ⟨aA,aC,aD⟩:=q2r.mono_l k;refine ⟨?_,?_,?_⟩
  ·intro y0 y1;unfold q2r.j1;exact X158
  ·intro y0 y1 y2;unfold q2r.j2;exact X158
  ·intro y0 y1;unfold q2r.l0;exact X158
theorem q2r.mono:∀ a0 k,LeO (q2r.f k a0) (q2r.f (k + 1) a0):=by
 intro a0 k;obtain ⟨aA,aC,aD⟩:=q2r.mono_l k;unfold q2r.f;exact X158


def q3r.f (a0:q0a) (a1:Int):Option (Int):=some (Lib.indexByte a0.data.toList a1.toNat.toUInt8)
theorem q3r.calls (a0:q0a) (a1:Int) (r:Int) (w:World) (h:q3r.f a0 a1 = some r) :
  Calls prog 114 #[.string a0,.int .u8 a1] w fun e w'=>e = .returned (iv r)∧q3Q w w':=by
 refine (Tryd.strings_IndexByte a0 a1 w).mono ?_;rintro e w' ⟨rfl,rfl⟩;obtain rfl:=q0d h;exact ⟨rfl,q3Q.refl _⟩


def q3Y.f (k:Nat) (a0:q0a):Option (Int × q0a × Int × Int × Int):=if 0 < (a0.size:Int) then ((q3l.f (bt a0 0)).bind fun aA=>(if aA = true then ((q0W.f k a0).bind fun aC=>(if aC > 20 then (none) else (if 0≤aC then (if aC≤(a0.size:Int) then (some (1,a0.extract 0 (aC:Int).toNat,0,aC,0)) else (none)) else (none)))) else ((q3w.f (bt a0 0)).bind fun aD=>(if aD = true then ((q1T.f k a0).bind fun aE=>(if aE > 6 then (none) else (if 0≤aE then (if aE≤(a0.size:Int) then ((q1z.f k (a0.extract 0 (aE:Int).toNat)).bind fun aG=>(if aG.2 = true then (some (2,a0.extract 0 (aE:Int).toNat,0,aE,0)) else (none))) else (none)) else (none)))) else (if (bt a0 0) = 34 then (none) else ((q3r.f (⟨#[123,125,40,41,91,93,47,59,58,126,64,61,94,44,46,124,43,42,60,62,45]⟩:q0a) (bt a0 0)).bind fun aI=>(if aI≥0 then (if 0≤1 then (if 1≤(a0.size:Int) then (some (4,a0.extract 0 1,0,1,0)) else (none)) else (none)) else (none)))))))) else (none)
theorem q3Y.mono:∀ a0 k,LeO (q3Y.f k a0) (q3Y.f (k + 1) a0):=by
 intro a0 k;unfold q3Y.f;exact (by repeat' (with_reducible first | exact q1z.mono _ _ | exact q1T.mono _ _ | exact q0W.mono _ _ | exact q2r.mono _ _ | exact LeO.refl _ | exact LeO.none _ | refine LeO.ite ?_ ?_ | refine LeO.bind ?_ (fun _=>?_)))
theorem q3Y.calls (k:Nat) (a0:q0a) (r1:Int) (r2:q0a) (r3:Int) (r4:Int) (r5:Int) (w:World) (h:q3Y.f k a0 = some (r1,r2,r3,r4,r5)) :
  Calls prog 79 #[.string a0] w fun e w'=>e = .returned (.tuple #[.agg #[iv r1,.string r2,iv r3],iv r4,iv r5])∧Below w.heap.size w w':=by
 have hu36:=underlying36;have HB:=am (q0i w.heap.size w);have H:=h;clear h;unfold q3Y.f at H;by_cases c2:0 < (a0.size:Int)
 ·rw [if_pos c2] at H;have c2b0:=dT c2;have c2b1:decide (0 < a0.size) = true:=q0w (by omega);clear c2;obtain ⟨aA,A4,H⟩:=oA H;(try dsimp only at H);by_cases c5:aA = true
  ·subst c5;replace H:=tP H;obtain ⟨aD,A6,H⟩:=oA H;(try dsimp only at H);by_cases c7:aD > 20
   ·exact iP c7 H
   ·rw [if_neg c7] at H;have c7b0:decide (20 < aD) = false:=q0S c7;clear c7;by_cases c10:0≤aD
    ·rw [if_pos c10] at H;have c10b0:=q0c c10;have c10b1:=dT c10;clear c10;by_cases aQ:aD≤(a0.size:Int)
     ·rw [if_pos aQ] at H;have c11b0:=q0c aQ;have c11b1:=dT aQ;clear aQ;simp only [Option.some.injEq,Prod.mk.injEq] at H;obtain ⟨rfl,rfl,rfl,rfl,rfl⟩:=H;go_enter func79,ntmps79;go_wp2_with (first|((with_reducible refine gd 2 ?_);refine be 2 #[iv 0,.string (⟨#[]⟩:q0a),iv 0] 36 ?_;intro aG hg aT hbox hb;have aH:=am (hbox);have aI:=sG (w:=w) hg X6;have aJ:=sG (w:=w) hg X6;replace HB:=bS X6 hb;clear hb hbox hg;have p3:0≤(0:Int):=(by omega);have q3:0 < a0.size:=(by have:(0:Int) < (a0.size:Int):=q0b X12;omega);have aK:∀ h:0 < a0.size,((a0[0]'h).toNat:Int) = bt a0 0:=q5n a0 0;clear p3;have aM:(0 < (a0.size:Int)) = True:=q0c (q0b X12);replace q3:=q0c q3)|((with_reducible refine gc 109 ?_);refine gL (some 16) func109 #[.int .u8 (bt a0 0)] ?_;(with_reducible refine (q3l.calls (bt a0 0) true _ A4.out).mono ?_);rintro e w' ⟨rfl,⟨nd,rfl⟩⟩;refine ⟨_,rfl,?_⟩;(try (rw [q4G aT];generalize hq_:World.drewN aT _ = aT;replace aH:q0j (aT.heap[aG]? = some (.cells #[iv 0,.string (⟨#[]⟩:q0a),iv 0] 36 (0,0))):=⟨X159⟩;replace HB:q0j (Below w.heap.size w aT):=⟨X160⟩;clear hq_)))|((with_reducible refine gc 101 ?_);refine gL (some 18) func101 #[.string a0] ?_;(with_reducible refine (q0W.calls k a0 aD _ A6.out).mono ?_);rintro e w' ⟨rfl,⟨nd,rfl⟩⟩;refine ⟨_,rfl,?_⟩;(try (rw [q4G aT];generalize hq_:World.drewN aT _ = aT;replace aH:q0j (aT.heap[aG]? = some (.cells #[iv 0,.string (⟨#[]⟩:q0a),iv 0] 36 (0,0))):=⟨X159⟩;replace HB:q0j (Below w.heap.size w aT):=⟨X160⟩;clear hq_));have Z13:=bc3 aH))
      refine bodyPost_ret (q5z rfl _ _ aG 36 #[iv 1,.string (a0.extract 0 (aD:Int).toNat),iv 0] (0,0) _ rfl (bq0 aH) underlying36 rfl X4) rfl ?_;exact ⟨X11,(X10 HB aJ)⟩
     ·exact iN aQ H
    ·exact iN c10 H
  ·replace c5:=fI c5;subst c5;replace H:=tN H;obtain ⟨aU,aX,H⟩:=oA H;(try dsimp only at H);by_cases aY:aU = true
   ·subst aY;replace H:=tP H;obtain ⟨aZ,bB,H⟩:=oA H;(try dsimp only at H);by_cases bC:aZ > 6
    ·exact iP bC H
    ·rw [if_neg bC] at H;have c17b0:decide (6 < aZ) = false:=q0S bC;clear bC;by_cases bE:0≤aZ
     ·rw [if_pos bE] at H;have c20b0:=q0c bE;have c20b1:=dT bE;clear bE;by_cases bF:aZ≤(a0.size:Int)
      ·rw [if_pos bF] at H;have c21b0:=q0c bF;have c21b1:=dT bF;clear bF;obtain ⟨⟨bG,bH⟩,bJ,H⟩:=oA H;(try dsimp only at H);by_cases bK:bH = true
       ·subst bK;replace H:=tP H;have c24b0:=q0c (q0b X12:0≤aZ);have c25b0:=q0c (q0b X12:aZ≤(a0.size:Int));simp only [Option.some.injEq,Prod.mk.injEq] at H;obtain ⟨rfl,rfl,rfl,rfl,rfl⟩:=H;go_enter func79,ntmps79;go_wp2_with (first|((with_reducible refine gd 2 ?_);refine be 2 #[iv 0,.string (⟨#[]⟩:q0a),iv 0] 36 ?_;intro aG hg bL hbox hb;have aH:=am (hbox);have aI:=sG (w:=w) hg X6;have aJ:=sG (w:=w) hg X6;replace HB:=bS X6 hb;clear hb hbox hg;have p3:0≤(0:Int):=(by omega);have q3:0 < a0.size:=(by have:(0:Int) < (a0.size:Int):=q0b X12;omega);have aK:∀ h:0 < a0.size,((a0[0]'h).toNat:Int) = bt a0 0:=q5n a0 0;clear p3;have aM:(0 < (a0.size:Int)) = True:=q0c (q0b X12);replace q3:=q0c q3)|((with_reducible refine gc 109 ?_);refine gL (some 16) func109 #[.int .u8 (bt a0 0)] ?_;(with_reducible refine (q3l.calls (bt a0 0) false _ A4.out).mono ?_);rintro e w' ⟨rfl,⟨nd,rfl⟩⟩;refine ⟨_,rfl,?_⟩;(try (rw [q4G bL];generalize hq_:World.drewN bL _ = bL;replace aH:q0j (bL.heap[aG]? = some (.cells #[iv 0,.string (⟨#[]⟩:q0a),iv 0] 36 (0,0))):=⟨X159⟩;replace HB:q0j (Below w.heap.size w bL):=⟨X160⟩;clear hq_)))|((with_reducible refine gc 110 ?_);refine gL (some 29) func110 #[.int .u8 (bt a0 0)] ?_;(with_reducible refine (q3w.calls (bt a0 0) true _ aX.out).mono ?_);rintro e w' ⟨rfl,⟨nd,rfl⟩⟩;refine ⟨_,rfl,?_⟩;(try (rw [q4G bL];generalize hq_:World.drewN bL _ = bL;replace aH:q0j (bL.heap[aG]? = some (.cells #[iv 0,.string (⟨#[]⟩:q0a),iv 0] 36 (0,0))):=⟨X159⟩;replace HB:q0j (Below w.heap.size w bL):=⟨X160⟩;clear hq_)))|((with_reducible refine gc 111 ?_);refine gL (some 31) func111 #[.string a0] ?_;(with_reducible refine (q1T.calls k a0 aZ _ bB.out).mono ?_);rintro e w' ⟨rfl,⟨nd,rfl⟩⟩;refine ⟨_,rfl,?_⟩;(try (rw [q4G bL];generalize hq_:World.drewN bL _ = bL;replace aH:q0j (bL.heap[aG]? = some (.cells #[iv 0,.string (⟨#[]⟩:q0a),iv 0] 36 (0,0))):=⟨X159⟩;replace HB:q0j (Below w.heap.size w bL):=⟨X160⟩;clear hq_)))|((with_reducible refine gc 112 ?_);refine gL (some 39) func112 #[.string (a0.extract 0 (aZ:Int).toNat)] ?_;(with_reducible refine (q1z.calls k (a0.extract 0 (aZ:Int).toNat) bG true _ bJ.out).mono ?_);rintro e w27 ⟨rfl,hb⟩;refine ⟨_,rfl,?_⟩;replace aH:=kB aH hb;replace HB:=bS (X10 HB aJ) hb;clear hb;have Z28:=bc3 aH))
        refine bodyPost_ret (q5z rfl _ _ aG 36 #[iv 2,.string (a0.extract 0 (aZ:Int).toNat),iv 0] (0,0) _ rfl (bq0 aH) underlying36 rfl X4) rfl ?_;exact ⟨X11,(X10 HB aJ)⟩
       ·exact iN bK H
      ·exact iN bF H
     ·exact iN bE H
   ·replace aY:=fI aY;subst aY;replace H:=tN H;by_cases bN:(bt a0 0) = 34
    ·exact iP bN H
    ·rw [if_neg bN] at H;have c32b0:=nF bN;have c32b1:=nT bN;obtain ⟨bU,bW,H⟩:=oA H;(try dsimp only at H);by_cases bX:bU≥0
     ·rw [if_pos bX] at H;have c37b0:decide (0≤bU) = true:=q0w bX;clear bX;by_cases bY:0≤1
      ·rw [if_pos bY] at H;have c38b0:=q0c bY;have c38b1:=dT bY;clear bY;by_cases bZ:1≤(a0.size:Int)
       ·rw [if_pos bZ] at H;have c39b0:=q0c bZ;have c39b1:=dT bZ;clear bZ;simp only [Option.some.injEq,Prod.mk.injEq] at H;obtain ⟨rfl,rfl,rfl,rfl,rfl⟩:=H;go_enter func79,ntmps79;go_wp2_with (first|((with_reducible refine gd 2 ?_);refine be 2 #[iv 0,.string (⟨#[]⟩:q0a),iv 0] 36 ?_;intro aG hg cA hbox hb;have aH:=am (hbox);have aI:=sG (w:=w) hg X6;have aJ:=sG (w:=w) hg X6;replace HB:=bS X6 hb;clear hb hbox hg;have p3:0≤(0:Int):=(by omega);have q3:0 < a0.size:=(by have:(0:Int) < (a0.size:Int):=q0b X12;omega);have aK:∀ h:0 < a0.size,((a0[0]'h).toNat:Int) = bt a0 0:=q5n a0 0;clear p3;have aM:(0 < (a0.size:Int)) = True:=q0c (q0b X12);replace q3:=q0c q3)|((with_reducible refine gc 109 ?_);refine gL (some 16) func109 #[.int .u8 (bt a0 0)] ?_;(with_reducible refine (q3l.calls (bt a0 0) false _ A4.out).mono ?_);rintro e w' ⟨rfl,⟨nd,rfl⟩⟩;refine ⟨_,rfl,?_⟩;(try (rw [q4G cA];generalize hq_:World.drewN cA _ = cA;replace aH:q0j (cA.heap[aG]? = some (.cells #[iv 0,.string (⟨#[]⟩:q0a),iv 0] 36 (0,0))):=⟨X159⟩;replace HB:q0j (Below w.heap.size w cA):=⟨X160⟩;clear hq_)))|((with_reducible refine gc 110 ?_);refine gL (some 29) func110 #[.int .u8 (bt a0 0)] ?_;(with_reducible refine (q3w.calls (bt a0 0) false _ aX.out).mono ?_);rintro e w' ⟨rfl,⟨nd,rfl⟩⟩;refine ⟨_,rfl,?_⟩;(try (rw [q4G cA];generalize hq_:World.drewN cA _ = cA;replace aH:q0j (cA.heap[aG]? = some (.cells #[iv 0,.string (⟨#[]⟩:q0a),iv 0] 36 (0,0))):=⟨X159⟩;replace HB:q0j (Below w.heap.size w cA):=⟨X160⟩;clear hq_)))|((with_reducible refine gc 114 ?_);refine gL (some 66) func114 #[.string (⟨#[123,125,40,41,91,93,47,59,58,126,64,61,94,44,46,124,43,42,60,62,45]⟩:q0a),.int .u8 (bt a0 0)] ?_;(with_reducible refine (q3r.calls (⟨#[123,125,40,41,91,93,47,59,58,126,64,61,94,44,46,124,43,42,60,62,45]⟩:q0a) (bt a0 0) bU _ bW.out).mono ?_);rintro e w' ⟨rfl,⟨nd,rfl⟩⟩;refine ⟨_,rfl,?_⟩;(try (rw [q4G cA];generalize hq_:World.drewN cA _ = cA;replace aH:q0j (cA.heap[aG]? = some (.cells #[iv 0,.string (⟨#[]⟩:q0a),iv 0] 36 (0,0))):=⟨X159⟩;replace HB:q0j (Below w.heap.size w cA):=⟨X160⟩;clear hq_));have Z41:=bc3 aH))
        refine bodyPost_ret (q5z rfl _ _ aG 36 #[iv 4,.string (a0.extract 0 1),iv 0] (0,0) _ rfl (bq0 aH) underlying36 rfl X4) rfl ?_;exact ⟨X11,(X10 HB aJ)⟩
       ·exact iN bZ H
      ·exact iN bY H
     ·exact iN bX H
 ·exact iN c2 H
mutual
def q1g.l0:Nat → q0a → List (S36) → Int → Int → Option ((List (S36)) × Int × Int)
 | 0,_,_,_,_=>none
 | k + 1,x0,x5,x6,x7=>if x7 < (x0.size:Int) then (if 0≤x7 then (if (bt x0 x7) = 10 then (q1g.l0 k x0 x5 (wrap64 (x6 + 1)) (wrap64 (x7 + 1))) else (if (bt x0 x7) = 32 then (q1g.j1 k x0 x5 x6 x7 (bt x0 x7) ((bt x0 x7) == 32)) else (if (bt x0 x7) = 9 then (q1g.j1 k x0 x5 x6 x7 (bt x0 x7) ((bt x0 x7) == 9)) else (q1g.j1 k x0 x5 x6 x7 (bt x0 x7) ((bt x0 x7) == 13))))) else (none)) else (some (x5,0,0))
def q1g.j1:Nat → q0a → List (S36) → Int → Int → Int → Bool → Option ((List (S36)) × Int × Int)
 | 0,_,_,_,_,_,_=>none
 | k + 1,x0,x5,x6,x7,aA,aC=>if aC = true then (q1g.l0 k x0 x5 x6 (wrap64 (x7 + 1))) else (if aA = 35 then (none) else (if 0≤x7 then (if x7≤(x0.size:Int) then ((q3Y.f k (x0.extract (x7:Int).toNat x0.size)).bind fun aD=>(if aD.2.2.2.2 = 0 then (if x5.length < 4398046511104 then (q1g.l0 k x0 (x5++[(⟨aD.1,aD.2.1,x6⟩:S36)]) x6 (wrap64 (x7 + aD.2.2.2.1))) else (none)) else (none))) else (none)) else (none)))
def q1g.l1:Nat → q0a → List (S36) → Int → Int → Option ((List (S36)) × Int × Int)
 | 0,_,_,_,_=>none
 | k + 1,x0,x5,x6,x7=>if x7 < (x0.size:Int) then (if 0≤x7 then (if (bt x0 x7) = 10 then (q1g.l0 k x0 x5 x6 x7) else (q1g.l1 k x0 x5 x6 (wrap64 (x7 + 1)))) else (none)) else (q1g.l0 k x0 x5 x6 x7)
end
def q1g.f (k:Nat) (a0:q0a):Option ((List (S36)) × Int × Int):=if (a0.size:Int) > 20000 then (none) else (q1g.l0 k a0 ([]:List (S36)) 1 0)
theorem q1g.mono_l:∀ k,(∀ y0 y1 y2 y3,LeO (q1g.l0 k y0 y1 y2 y3) (q1g.l0 (k + 1) y0 y1 y2 y3))∧(∀ y0 y1 y2 y3 y4 y5,LeO (q1g.j1 k y0 y1 y2 y3 y4 y5) (q1g.j1 (k + 1) y0 y1 y2 y3 y4 y5))∧(∀ y0 y1 y2 y3,LeO (q1g.l1 k y0 y1 y2 y3) (q1g.l1 (k + 1) y0 y1 y2 y3))
 | 0=>⟨fun _ _ _ _ r h=>by simp [q1g.l0] at h,fun _ _ _ _ _ _ r h=>by simp [q1g.j1] at h,fun _ _ _ _ r h=>by simp [q1g.l1] at h⟩
 | k + 1=>by
  obtain ⟨aA,aC,aD⟩:=q1g.mono_l k;refine ⟨?_,?_,?_⟩
  ·intro y0 y1 y2 y3;unfold q1g.l0;exact X188
  ·intro y0 y1 y2 y3 y4 y5;unfold q1g.j1;exact X188
  ·intro y0 y1 y2 y3;unfold q1g.l1;exact X188
theorem q1g.mono:∀ a0 k,LeO (q1g.f k a0) (q1g.f (k + 1) a0):=by
 intro a0 k;obtain ⟨aA,aC,aD⟩:=q1g.mono_l k;unfold q1g.f;exact X188
theorem q1g.calls (k:Nat) (a0:q0a) (r1:List (S36)) (r2:Int) (r3:Int) (w:World) (h:q1g.f k a0 = some (r1,r2,r3)) :
  Calls prog 33 #[.string a0] w fun e w'=>∃ aA:Value,e = .returned (.tuple #[aA,iv r2,iv r3])∧Kd.R k36 36 w' w.heap.size (fun _=>True) aA r1∧Below w.heap.size w w':=by
 have hu36:=underlying36;have HB:=am (q0i w.heap.size w);have H:=h;clear h;unfold q1g.f at H;by_cases c2:(a0.size:Int) > 20000
 ·exact iP c2 H
 ·rw [if_neg c2] at H;have c2b0:decide (20000 < (a0.size:Int)) = false:=q0S c2;have c2b1:decide (20000 < a0.size) = false:=q0S (by omega);clear c2;have H':=am H;clear H;go_enter func33,ntmps33;go_wp2
  go_loopg [5,6,7] k (fun kq v5 v6 v7 w'=>∃ (aC:List (S36)) (aD:Int) (aE:Int),v6 = iv aD∧v7 = iv aE∧q0j (q1g.l0 kq a0 aC aD aE = some (r1,r2,r3))∧q0j (kq≤k)∧q0j (Kd.R k36 36 w' w.heap.size (fun _=>True) v5 aC)∧q0j (Below w.heap.size w w'))
  case atStart=>exact ⟨(([]:List (S36))),(1),(0),X7,X7,H',⟨q0f _⟩,⟨X21⟩,⟨X6⟩⟩
  case round=>
   clear H';(try clear c2 c2b0 c2b1 p2);obtain ⟨aC,aD,aE,rfl,rfl,HA,aG,aH,HB⟩:=hrel;cases gk with
   | zero=>exact absurd HA.out (by simp [q1g.l0])
   | succ k1=>
    have H:=HA.out;clear HA;simp only [q1g.l0] at H;by_cases c3:aE < (a0.size:Int)
    ·rw [if_pos c3] at H;have c3b0:=dT c3;clear c3;by_cases c4:0≤aE
     ·rw [if_pos c4] at H;have c4b0:=dT c4;clear c4;by_cases c6:(bt a0 aE) = 10
      ·rw [if_pos c6] at H;have c6b0:=eT c6;have c6b1:=eF c6;clear c6;have H':=am H;clear H;have p5:0≤(aE:Int):=q0b X12;have q5:aE < (a0.size:Int):=q0b X12;have aI:=q5n a0 aE;replace p5:=q0c p5;replace q5:=q0c q5;go_wp2
       go_roundg k1
       case measure=>have:=aG.out;omega
       case rel=>exact ⟨(aC),(wrap64 (aD + 1)),(wrap64 (aE + 1)),X7,X7,H',⟨by have:=aG.out;omega⟩,⟨aR aH.out⟩,⟨X6⟩⟩
      ·rw [if_neg c6] at H;have c6b0:=nF c6;have c6b1:=nT c6;have aJ:=am H;clear H;have p5:0≤(aE:Int):=q0b X12;have q5:aE < (a0.size:Int):=q0b X12;have aI:=q5n a0 aE;replace p5:=q0c p5;replace q5:=q0c q5;go_upto_if 48 with (fail)
       go_cut [48] (fun aK wc=>∃ (kq:Nat) (aM:Bool),aK = .bool aM∧q0j (q1g.j1 kq a0 aC aD aE (bt a0 aE) aM = some (r1,r2,r3))∧q0j (kq≤k1)∧q0j (Kd.R k36 36 wc w.heap.size (fun _=>True) u5 aC)∧q0j (Below w.heap.size w wc))
       case first=>
        have H:=aJ.out;clear aJ;by_cases c8:(bt a0 aE) = 32
        ·rw [if_pos c8] at H;have c8b0:=eT c8;have c8b1:=eF c8;clear c8;(first | rw [c8b0]|(simp only [q3O,q3U];rw [c8b0]) | skip);have H':=am H;clear H;go_wp2
         go_meet
         case rel=>exact ⟨_,(((bt a0 aE) == 32)),X7,H',⟨(X27 aG)⟩,⟨aR aH.out⟩,⟨X6⟩⟩
        ·rw [if_neg c8] at H;have c8b0:=nF c8;have c8b1:=nT c8;(first | rw [c8b0]|(simp only [q3O,q3U];rw [c8b0]) | skip);by_cases c9:(bt a0 aE) = 9
         ·rw [if_pos c9] at H;have c9b0:=eT c9;have c9b1:=eF c9;clear c9;have H':=am H;clear H;go_wp2
          go_meet
          case rel=>exact ⟨_,(((bt a0 aE) == 9)),X7,H',⟨(X27 aG)⟩,⟨aR aH.out⟩,⟨X6⟩⟩
         ·rw [if_neg c9] at H;have c9b0:=nF c9;have c9b1:=nT c9;have H':=am H;clear H;go_wp2
          go_meet
          case rel=>exact ⟨_,(((bt a0 aE) == 13)),X7,H',⟨(X27 aG)⟩,⟨aR aH.out⟩,⟨X6⟩⟩
       case rest=>
        clear aJ;(try clear c2 c2b0 c2b1);(try clear p2 p2);(try clear c3 c3b0 c4 c4b0);(try clear p5 p5);(try clear q5 q5);(try clear aI c6 c6b0 c6b1 p6 c8 c8b0 c8b1 c9 c9b0 c9b1);obtain ⟨kq,aM,rfl,HA,aQ,aH,HB⟩:=hcut;cases kq with
        | zero=>exact absurd HA.out (by simp [q1g.j1])
        | succ aT=>
         have H:=HA.out;clear HA;simp only [q1g.j1] at H;by_cases c10:aM = true
         ·subst c10;replace H:=tP H;have H':=am H;clear H;go_wp2
          go_roundg aT
          case measure=>have:=aG.out;have:=aQ.out;omega
          case rel=>exact ⟨(aC),(aD),(wrap64 (aE + 1)),X7,X7,H',⟨by have:=aG.out;have:=aQ.out;omega⟩,⟨aR aH.out⟩,⟨X6⟩⟩
         ·replace c10:=fI c10;subst c10;replace H:=tN H;by_cases aU:(bt a0 aE) = 35
          ·exact iP aU H
          ·rw [if_neg aU] at H;have c11b0:=nF aU;have c11b1:=nT aU;by_cases bE:0≤aE
           ·rw [if_pos bE] at H;have c16b0:=q0c bE;have c16b1:=dT bE;clear bE;by_cases bF:aE≤(a0.size:Int)
            ·rw [if_pos bF] at H;have c17b0:=q0c bF;have c17b1:=dT bF;clear bF;obtain ⟨⟨bG,bH,bI,bJ,bK⟩,bM,H⟩:=oA H;(try dsimp only at H);by_cases bN:bK = 0
             ·rw [if_pos bN] at H;have c19b0:=eT bN;have c19b1:=eF bN;clear bN;by_cases bO:aC.length < 4398046511104
              ·rw [if_pos bO] at H;have bP:=am bO;clear bO;obtain ⟨bQ,bR⟩:∃ y_:List (S36),y_ = (aC++[(⟨bG,bH,aD⟩:S36)]):=⟨_,rfl⟩;rw [← bR] at H;(try rw [oG bQ] at H)
               have bU:=am bR;clear bR;have H':=am H;clear H;go_wp2_with (first|((with_reducible refine gc 79 ?_);refine gL (some 25) func79 #[.string (a0.extract (aE:Int).toNat a0.size)] ?_;(with_reducible refine (q3Y.calls aT (a0.extract (aE:Int).toNat a0.size) bG bH bI bJ bK _ bM.out).mono ?_);rintro e w21 ⟨rfl,hb⟩;refine ⟨_,rfl,?_⟩;replace aH:=am (q2k (aR aH.out) hb);replace HB:=bS X6 hb;clear hb)|((with_reducible refine gd 8 ?_);refine be 8 #[iv 0,.string (⟨#[]⟩:q0a),iv 0] 36 ?_;intro bV hg w22 hbox hb;replace aH:=am (q2k (Kd.R_elderB (aR aH.out) bV (q1d hg.symm)) hb);have bW:=am (hbox);have bX:=sG (w:=w) hg X6;have bY:=sG (w:=w) hg X6;replace HB:=bS X6 hb;clear hb hbox hg;have Z23:=bc3 bW)|((with_reducible refine q1J (b:=.append) (xs:=#[.tmp 35,.tmp 37]) rfl ?_);at_builtin;refine Kd.R_append k36 (w0:=w) w.heap.size rfl (.tmp 35) (.tmp 37) 32 36 (.agg #[(iv 0),(.string ⟨#[]⟩),(iv 0)]) 32 rfl underlying32 info36 rfl (by decide) (by omega) u5 aC (⟨bG,bH,aD⟩:S36) [iv bG,.string bH,iv aD] (fun k_=>k_≠bV) (fun _=>False) rfl X35 ?aP (fun _ hk=>hk.elim) ?aF ?aO ?aB ?aS ?aL ?_;(case aP=>exact k36_mkM _ _ _ (⟨bG,bH,aD⟩:S36));(case aB=>exact (X10 HB bY));(case aF=>exact (fun k_ hk=>q1i (g:=bV) (o:=.cells #[iv bG,.string bH,iv aD] 36 (0,0)) X192 k_ hk));(case aO=>exact (aR (q0n (fxR bV 2 (iv aD) (fxR bV 2 (iv bI) (fxR bV 1 (.string bH) (fxR bV 0 (iv bG) aH.out (fun _ hk=>hk.2)) (fun _ hk=>hk.2)) (fun _ hk=>hk.2)) (fun _ hk=>hk.2)) (fun _ hk=>hk.2))));(case aS=>exact (q1c (X10 HB bY)));(case aL=>have:=bP.out;omega);intro v130 w24 ho hb hg hat;rw [← bU.out] at ho;replace bW:=am (q4T (g:=bV) (o:=.cells #[iv bG,.string bH,iv aD] 36 (0,0)) X192 hg (Kd.R_away aH.out (fun _ hk=>hk.2)));replace HB:=am (hb);have bZ:=am (ho);clear aH;clear ho hb hg hat))
               go_roundg aT
               case measure=>have:=aG.out;have:=aQ.out;omega
               case rel=>exact ⟨(bQ),(aD),(wrap64 (aE + bJ)),X7,X7,H',⟨by have:=aG.out;have:=aQ.out;omega⟩,⟨aR (q0n bZ.out (fun _ hk=>trivial))⟩,⟨(X10 HB bY)⟩⟩
              ·exact iN bO H
             ·exact iN bN H
            ·exact iN bF H
           ·exact iN bE H
     ·exact iN c4 H
    ·rw [if_neg c3] at H;have c3b0:=dF c3;clear c3;simp only [Option.some.injEq,Prod.mk.injEq] at H;obtain ⟨rfl,rfl,rfl⟩:=H;go_wp2
     go_ret3
     exact ⟨_,X11,aR aH.out,X6⟩
/-- A state of type 70 at block g of W; what its slices lead to came in by w0. -/
def q0K (w0 W:World) (g:Nat) (f0:List (S36)) (f1:Int) (f2:Bool):Prop:=∃ A0 c0,W.heap[g]? = some (.cells #[sl A0 f0 c0,iv f1,.bool f2] 70 (0,0))∧w0.heap.size≤g∧Kd.C k36 w0 A0 f0.length f0
theorem q0K.grown {w0 W:World} {g:Nat} {f0:List (S36)} {f1:Int} {f2:Bool} {W1:World} {row:Option Nat} (h:q0K w0 W g f0 f1 f2) (hw:W.grownBy W1 row) (hne:some g≠row):q0K w0 W1 g f0 f1 f2:=by
 obtain ⟨A0,c0,hb,hg,aA⟩:=h;exact ⟨A0,c0,q4T hb hw hne,hg,aA⟩
theorem q0K.own_neN {w0 W:World} {g:Nat} {f0:List (S36)} {f1:Int} {f2:Bool} {α:Type} {d:Kd α} {e:Nat} {base:Nat} {ok:Nat → Prop} {v:Value} {xs:List α} (h:q0K w0 W g f0 f1 f2) (ho:Kd.N d e W base ok v xs) (ht:e≠70):some g≠v.ownBlock:=by
 obtain ⟨A0,c0,hb,hg,hr0⟩:=h;exact Kd.N_ne ho hb ht
theorem q0K.fresh {w0 W:World} {g:Nat} {f0:List (S36)} {f1:Int} {f2:Bool} (h:q0K w0 W g f0 f1 f2):∀ k,W.heap.size≤k → k≠g:=by
 obtain ⟨A0,c0,hb,hg,hr0⟩:=h;exact q1i hb
theorem q0K.below {w0 W:World} {g:Nat} {f0:List (S36)} {f1:Int} {f2:Bool} {W1:World} (h:q0K w0 W g f0 f1 f2) (hw:Below W.heap.size W W1):q0K w0 W1 g f0 f1 f2:=h.grown (q5Z hw none) (by simp)
theorem q0K.alloc {w0 W:World} {g:Nat} {f0:List (S36)} {f1:Int} {f2:Bool} (h:q0K w0 W g f0 f1 f2) (o:Obj):q0K w0 (W.alloc o) g f0 f1 f2:=h.below (q2o (q0i _ _) o)
theorem q0K.drewN {w0 W:World} {g:Nat} {f0:List (S36)} {f1:Int} {f2:Bool} (h:q0K w0 W g f0 f1 f2) (m:Nat):q0K w0 (W.drewN m) g f0 f1 f2:=h
theorem q0K.drew {w0 W:World} {g:Nat} {f0:List (S36)} {f1:Int} {f2:Bool} (h:q0K w0 W g f0 f1 f2):q0K w0 W.drew g f0 f1 f2:=h
theorem q0K.apart {w0 W:World} {g:Nat} {f0:List (S36)} {f1:Int} {f2:Bool} {α:Type} {d:Kd α} {e:Nat} {base:Nat} {ok:Nat → Prop} {v:Value} {xs:List α} (h:q0K w0 W g f0 f1 f2) (ho:d.R e W base ok v xs) (ht:∀ q,q ∈ e :: d.E → q≠70):d.R e W base (fun k=>ok k∧k≠g) v xs:=by
 obtain ⟨A0,c0,hb,hg,hr0⟩:=h;exact q1v ho hb ht
theorem q0K.own_ne {w0 W:World} {g:Nat} {f0:List (S36)} {f1:Int} {f2:Bool} {α:Type} {d:Kd α} {e:Nat} {base:Nat} {ok:Nat → Prop} {v:Value} {xs:List α} (h:q0K w0 W g f0 f1 f2) (ho:d.R e W base ok v xs) (ht:e≠70):some g≠v.ownBlock:=by
 obtain ⟨A0,c0,hb,hg,hr0⟩:=h;exact q2Z ho hb ht
theorem q0K.lt {w0 W:World} {g:Nat} {f0:List (S36)} {f1:Int} {f2:Bool} (h:q0K w0 W g f0 f1 f2):g < W.heap.size:=by
 obtain ⟨A0,c0,hb,hg,hr0⟩:=h;exact q3V hb
theorem q0K.ge {w0 W:World} {g:Nat} {f0:List (S36)} {f1:Int} {f2:Bool} (h:q0K w0 W g f0 f1 f2):w0.heap.size≤g:=by
 obtain ⟨A0,c0,hb,hg,hr0⟩:=h;exact hg
theorem q0K.farB {w0 W:World} {g:Nat} {f0:List (S36)} {f1:Int} {f2:Bool} {b o:Nat} {sp:_} {u:Value} (hne:g≠b) (h:q0K w0 W g f0 f1 f2):q0K w0 (W.setCell ⟨b,o,sp⟩ u) g f0 f1 f2:=by
 obtain ⟨A0,c0,hb,hg,aA⟩:=h;exact ⟨A0,c0,q2B hb hne u,hg,aA⟩
theorem q2K {W:World} {g:Nat} {A0:Option Addr} {c0:Nat} {f0:List (S36)} {f1:Int} {f2:Bool} (h:W.heap[g]? = some (.cells #[sl A0 f0 c0,iv f1,.bool f2] 70 (0,0))):W.cell? ⟨g,0,none⟩ = some (sl A0 f0 c0):=(q1h h 0).trans rfl
theorem q2L {W:World} {g:Nat} {A0:Option Addr} {c0:Nat} {f0:List (S36)} {f1:Int} {f2:Bool} (h:W.heap[g]? = some (.cells #[sl A0 f0 c0,iv f1,.bool f2] 70 (0,0))):W.cell? ⟨g,1,none⟩ = some (iv f1):=(q1h h 1).trans rfl
theorem q0K.set_1 {w0 W:World} {g:Nat} {f0:List (S36)} {f1:Int} {f2:Bool} (h:q0K w0 W g f0 f1 f2) (x:Int):q0K w0 (W.setCell ⟨g,1,none⟩ (iv x)) g f0 x f2:=by
 obtain ⟨A0,c0,hb,hg,aA⟩:=h;exact ⟨A0,c0,by simpa using q9h hb 1 (iv x),hg,aA⟩
theorem q2J {W:World} {g:Nat} {A0:Option Addr} {c0:Nat} {f0:List (S36)} {f1:Int} {f2:Bool} (h:W.heap[g]? = some (.cells #[sl A0 f0 c0,iv f1,.bool f2] 70 (0,0))):W.cell? ⟨g,2,none⟩ = some (.bool f2):=(q1h h 2).trans rfl
theorem q0K.set_2 {w0 W:World} {g:Nat} {f0:List (S36)} {f1:Int} {f2:Bool} (h:q0K w0 W g f0 f1 f2) (x:Bool):q0K w0 (W.setCell ⟨g,2,none⟩ (.bool x)) g f0 f1 x:=by
 obtain ⟨A0,c0,hb,hg,aA⟩:=h;exact ⟨A0,c0,by simpa using q9h hb 2 (.bool x),hg,aA⟩
def q0P.f (aA:List (S36)) (aC:Int) (aD:Bool):Option (Int × q0a × Int × Int × Bool):=if aD = true then (some (0,(⟨#[]⟩:q0a),0,aC,aD)) else (if aC = (aA.length:Int) then (some (0,(⟨#[]⟩:q0a),0,aC,aD)) else (if 0≤aC then (if aC < (aA.length:Int) then (some ((q5i aA aC).f0,(q5i aA aC).f1,(q5i aA aC).f2,aC,aD)) else (none)) else (none)))
def q0P.T1:Bool × List (List Nat × List Nat):=(true,[([],[]),([0],[0]),([1],[1]),([2],[2]),([3],[3]),([4],[4]),([5,4],[4,5]),([6,4],[4,6]),([7,4],[4,7]),([4],[4]),([9,4],[4,9]),([10,4],[4,10]),([11,4],[4,11]),([12,4],[4,12]),([8,13,4],[4,8,13]),([4,14],[4,14])])
def q0P.B1:List Nat:=[0,1,3,7,15,31,63,127,255,31,543,1567,3615,7711,16383,32767]
theorem q0P.tab1:rtab .any (q5m Tryd.f94 1) = q0P.T1:=by kernel_rfl
theorem q0P.bits1:q3G q0P.T1.2 q0P.B1 = true:=by kernel_rfl
def q0P.T3:Bool × List (List Nat × List Nat):=(true,[([],[]),([0],[0]),([1],[1]),([2],[2]),([],[]),([4],[4]),([5],[5]),([6],[6]),([3,7],[3,7]),([8],[8]),([9,0,1,2,3,4,5,6,7,8,9],[9])])
def q0P.B3:List Nat:=[0,1,3,7,0,16,48,112,255,511,1023]
theorem q0P.tab3:rtab .any (q5m Tryd.f94 3) = q0P.T3:=by kernel_rfl
theorem q0P.bits3:q3G q0P.T3.2 q0P.B3 = true:=by kernel_rfl
theorem q0P.calls (g:Nat) (aA:List (S36)) (aC:Int) (aD:Bool) (r1:Int) (r2:q0a) (r3:Int) (r4:Int) (r5:Bool) (w0 w:World) (hI:q0K w0 w g aA aC aD) (hB:Below w0.heap.size w0 w) (h:q0P.f aA aC aD = some (r1,r2,r3,r4,r5)) :
  Calls prog 94 #[.pointer (some ⟨g,0,none⟩)] w fun e w'=>e = .returned (.agg #[iv r1,.string r2,iv r3])∧q0K w0 w' g aA r4 r5∧Below w0.heap.size w0 w'∧q2g w w' g none:=by
 have hu36:=underlying36;have aE:=am hI;have HK:=am (q3k w g none);have HL:=am hB.size;have HGL:=am (q0K.lt hI);clear hI;have aG:=am hB.size;have HB:=am hB;clear hB;have H:=h;clear h;unfold q0P.f at H;by_cases c2:aD = true
 ·subst c2;replace H:=tP H;simp only [Option.some.injEq,Prod.mk.injEq] at H;obtain ⟨rfl,rfl,rfl,rfl,rfl⟩:=H;go_enter func94,ntmps94;try go_wp2_with (first|((with_reducible refine gd 2 ?_);(try (refine q1l (by rfl) ?_;dsimp only));refine be 2 #[iv 0,.string (⟨#[]⟩:q0a),iv 0] 36 ?_;intro aH hg w3 hbox hb;replace HB:=bS X193 hb;have aI:=am (hbox);have aJ:=am ((X194:w.heap.size≤aH));have aK:=am ((q0k aG.out (X194:w.heap.size≤aH):w0.heap.size≤aH));replace HK:=am (q0e X195 (q0z hb g none) (.inl rfl));have aM:=am ((by rw [hg];exact q1p (q0K.lt (show q0K w0 _ g aA aC true from X196)):g≠aH));have aQ:=am ((by rw [hg];exact q1D (q0K.lt (show q0K w0 _ g aA aC true from X196)):aH≠g));replace aE:=am (q0K.below X196 hb);clear hb hbox hg))
  replace aI:=am (q1b aI.out);replace aE:=am (q0K.drew aE.out);replace HK:=am (q3P HK.out);replace HB:=am (q0l HB.out);obtain ⟨aT,aU,aW,aX,HSz5_0⟩:=aE.out;have aY:=q2K aW;have aZ:=q2L aW;have bA:=q2J aW;have Y5_1:=q0B aW 1;have Y5_2:=q0B aW 2;clear aW aX;refine q4o (n:=16) (S:=fun w'=>dd3 w' g (sl aT aA aU) (iv aC) (.bool true)) (ds:=[]) (lb 16 0) X4 rfl rfl ⟨(aY).trans rfl,(aZ).trans rfl,(bA).trans rfl⟩ (fun hHeld=>?_);refine q3u q0P.tab1 q0P.bits1 (fun HT_ HW_=>?_);generalize w3.drew = w4 at aI aE HK HB hHeld ⊢
  refine pu 0 (some 3) (lb 16 1) HT_ ?_;refine pu 1 (some 4) (lb 16 3) HT_ ?_;refine pu 2 (some 5) (lb 16 7) HT_ ?_;refine tk 3 (some 6) (lb 16 15) HT_ HW_ hHeld ?_;refine pu 4 (some 7) (lb 16 31) HT_ ?_;refine pn 5 (some 8) (lb 16 63) HT_ ?_;refine pn 6 (some 9) (lb 16 127) HT_ ?_;refine pn 7 (some 10) (lb 16 255) HT_ ?_;refine pn 8 (some 11) (lb 16 511) HT_ ?_;refine pn 9 (some 12) (lb 16 1023) HT_ ?_;refine pn 10 (some 13) (lb 16 2047) HT_ ?_;refine pn 11 (some 14) (lb 16 4095) HT_ ?_;refine pn 12 (some 15) (lb 16 8191) HT_ ?_;refine pn 13 (some 16) (lb 16 16383) HT_ ?_;refine pn 14 (some 17) (lb 16 32767) HT_ ?_;refine pu 15 (some 18) (lb 16 65535) HT_ ?_;refine q5c (q3Z HT_.out X4) ?_;have hnb6:=aQ.out;have hnc6:=aM.out;have Z7:=bc3 aI;try go_wp2
  refine bodyPost_ret (results_cell_row rfl _ _ aH 36 #[iv 0,.string (⟨#[]⟩:q0a),iv 0] (0,0) _ rfl (bq0 aI) underlying36 rfl X4) rfl ?_;exact ⟨X11,(X24 aE aM),(X26 HB aE aK),(X25 HK aJ)⟩
 ·replace c2:=fI c2;subst c2;replace H:=tN H;by_cases c8:aC = (aA.length:Int)
  ·rw [if_pos c8] at H;have c8b0:=eT c8;have c8b1:=eF c8;clear c8;simp only [Option.some.injEq,Prod.mk.injEq] at H;obtain ⟨rfl,rfl,rfl,rfl,rfl⟩:=H;go_enter func94,ntmps94;try go_wp2_with (first|((with_reducible refine gd 2 ?_);(try (refine q1l (by rfl) ?_;dsimp only));refine be 2 #[iv 0,.string (⟨#[]⟩:q0a),iv 0] 36 ?_;intro aH hg w9 hbox hb;replace HB:=bS X193 hb;have aI:=am (hbox);have aJ:=am ((X194:w.heap.size≤aH));have aK:=am ((q0k aG.out (X194:w.heap.size≤aH):w0.heap.size≤aH));replace HK:=am (q0e X195 (q0z hb g none) (.inl rfl));have aM:=am ((X200:g≠aH));have aQ:=am ((X201:aH≠g));replace aE:=am (q0K.below X196 hb);clear hb hbox hg))
   replace aI:=am (q1b aI.out);replace aE:=am (q0K.drew aE.out);replace HK:=am (q3P HK.out);replace HB:=am (q0l HB.out);obtain ⟨bB,bC,bD,bE,HSz11_0⟩:=aE.out;have bF:=q2K bD;have bG:=q2L bD;have bH:=q2J bD;have Y11_1:=q0B bD 1;have Y11_2:=q0B bD 2;clear bD bE;refine q4o (n:=16) (S:=fun w'=>dd3 w' g (sl bB aA bC) (iv aC) (.bool false)) (ds:=[]) (lb 16 0) X4 rfl rfl ⟨(bF).trans rfl,(bG).trans rfl,(bH).trans rfl⟩ (fun hHeld=>?_);refine q3u q0P.tab1 q0P.bits1 (fun HT_ HW_=>?_);generalize w9.drew = w10 at aI aE HK HB hHeld ⊢
   refine pu 0 (some 3) (lb 16 1) HT_ ?_;refine pu 1 (some 4) (lb 16 3) HT_ ?_;refine pu 2 (some 5) (lb 16 7) HT_ ?_;refine tk 3 (some 6) (lb 16 15) HT_ HW_ hHeld ?_;refine pu 4 (some 7) (lb 16 31) HT_ ?_;refine pu 5 (some 8) (lb 16 63) HT_ ?_;refine pu 6 (some 9) (lb 16 127) HT_ ?_;refine pu 7 (some 10) (lb 16 255) HT_ ?_;refine pu 9 (some 12) (lb 16 767) HT_ ?_;refine pu 10 (some 13) (lb 16 1791) HT_ ?_;refine pu 11 (some 14) (lb 16 3839) HT_ ?_;refine tk 8 (some 11) (lb 16 4095) HT_ HW_ hHeld ?_;refine tk 12 (some 15) (lb 16 8191) HT_ HW_ hHeld ?_;refine pu 13 (some 16) (lb 16 16383) HT_ ?_;refine pu 14 (some 17) (lb 16 32767) HT_ ?_;refine pu 15 (some 18) (lb 16 65535) HT_ ?_;refine q5c (q3Z HT_.out X4) ?_;have hnb12:=aQ.out;have hnc12:=aM.out;have Z13:=bc3 aI;try go_wp2
   refine bodyPost_ret (results_cell_row rfl _ _ aH 36 #[iv 0,.string (⟨#[]⟩:q0a),iv 0] (0,0) _ rfl (bq0 aI) underlying36 rfl X4) rfl ?_;exact ⟨X11,(X24 aE aM),(X26 HB aE aK),(X25 HK aJ)⟩
  ·rw [if_neg c8] at H;have c8b0:=nF c8;have c8b1:=nT c8;by_cases bI:0≤aC
   ·rw [if_pos bI] at H;have c14b0:=dT bI;clear bI;by_cases bJ:aC < (aA.length:Int)
    ·rw [if_pos bJ] at H;have c15b0:=dT bJ;clear bJ;simp only [Option.some.injEq,Prod.mk.injEq] at H;obtain ⟨rfl,rfl,rfl,rfl,rfl⟩:=H;go_enter func94,ntmps94;try go_wp2_with (first|((with_reducible refine gd 2 ?_);(try (refine q1l (by rfl) ?_;dsimp only));refine be 2 #[iv 0,.string (⟨#[]⟩:q0a),iv 0] 36 ?_;intro aH hg bK hbox hb;replace HB:=bS X193 hb;have aI:=am (hbox);have aJ:=am ((X194:w.heap.size≤aH));have aK:=am ((q0k aG.out (X194:w.heap.size≤aH):w0.heap.size≤aH));replace HK:=am (q0e X195 (q0z hb g none) (.inl rfl));have aM:=am ((X200:g≠aH));have aQ:=am ((X201:aH≠g));replace aE:=am (q0K.below X196 hb);clear hb hbox hg))
     replace aI:=am (q1b aI.out);replace aE:=am (q0K.drew aE.out);replace HK:=am (q3P HK.out);replace HB:=am (q0l HB.out);obtain ⟨bL,bM,bN,bO,HSz18_0⟩:=aE.out;have bP:=q2K bN;have bQ:=q2L bN;have bR:=q2J bN;have Y18_1:=q0B bN 1;have Y18_2:=q0B bN 2;clear bN bO;refine q4o (n:=16) (S:=fun w'=>dd3 w' g (sl bL aA bM) (iv aC) (.bool false)) (ds:=[]) (lb 16 0) X4 rfl rfl ⟨(bP).trans rfl,(bQ).trans rfl,(bR).trans rfl⟩ (fun hHeld=>?_);refine q3u q0P.tab1 q0P.bits1 (fun HT_ HW_=>?_);generalize bK.drew = bT at aI aE HK HB hHeld ⊢
     refine pu 0 (some 3) (lb 16 1) HT_ ?_;refine pu 1 (some 4) (lb 16 3) HT_ ?_;refine pu 2 (some 5) (lb 16 7) HT_ ?_;refine tk 3 (some 6) (lb 16 15) HT_ HW_ hHeld ?_;refine pu 4 (some 7) (lb 16 31) HT_ ?_;refine pu 5 (some 8) (lb 16 63) HT_ ?_;refine pu 6 (some 9) (lb 16 127) HT_ ?_;refine pu 7 (some 10) (lb 16 255) HT_ ?_;refine pu 9 (some 12) (lb 16 767) HT_ ?_;refine pu 10 (some 13) (lb 16 1791) HT_ ?_;refine pu 11 (some 14) (lb 16 3839) HT_ ?_;refine tk 8 (some 11) (lb 16 4095) HT_ HW_ hHeld ?_;refine tk 12 (some 15) (lb 16 8191) HT_ HW_ hHeld ?_;refine pu 13 (some 16) (lb 16 16383) HT_ ?_;refine pu 14 (some 17) (lb 16 32767) HT_ ?_;refine pu 15 (some 18) (lb 16 65535) HT_ ?_;refine q5c (q3Z HT_.out X4) ?_;try go_wp2
     replace aI:=am (q1b aI.out);replace aE:=am (q0K.drew aE.out);replace HK:=am (q3P HK.out);replace HB:=am (q0l HB.out);obtain ⟨ASz20_0,bU,bV,bW,bX⟩:=aE.out;have bY:=q2K bV;have bZ:=q2L bV;have cA:=q2J bV;have Y20_1:=q0B bV 1;have Y20_2:=q0B bV 2;clear bV bW;have cC:0≤(aC:Int):=q0b X12;have cD:aC < (aA.length:Int):=q0b X12;obtain ⟨cE,e133,cF,cG,cH⟩:=at_T36 bX aC cC cD;have cI:=cH;have cJ:=cG;have cK:=cF;cases e133;replace cF:=q0G HB.out cF;replace cG:=q0G HB.out cG;replace cH:=q0G HB.out cH;replace cC:=q0c cC;replace cD:=q0c cD;refine q4o (n:=11) (S:=fun w'=>cc3 w' g (sl (some cE) aA bU) (iv aC) (.bool false) (w'.cell? (cE.add ((aC).toNat * 3)) = some (iv ((q5i aA aC).f0))∧w'.cell? ⟨(cE.add ((aC).toNat * 3)).block,(cE.add ((aC).toNat * 3)).off + 1,none⟩ = some (.string ((q5i aA aC).f1))∧w'.cell? ⟨(cE.add ((aC).toNat * 3)).block,(cE.add ((aC).toNat * 3)).off + 2,none⟩ = some (iv ((q5i aA aC).f2)))) (ds:=[]) (lb 11 0) X4 rfl rfl ⟨(bY).trans rfl,(bZ).trans rfl,(cA).trans rfl,(q0G HB.out cK),(q0G HB.out cJ),(q0G HB.out cI)⟩ (fun hHeld=>?_);refine q3u q0P.tab3 q0P.bits3 (fun HT_ HW_=>?_);generalize bT.drew = cL at aI aE HK HB cF cG cH hHeld ⊢
     refine pu 0 (some 20) (lb 11 1) HT_ ?_;refine pu 1 (some 21) (lb 11 3) HT_ ?_;refine pu 2 (some 22) (lb 11 7) HT_ ?_;refine pu 4 (some 24) (lb 11 23) HT_ ?_;refine pu 5 (some 25) (lb 11 55) HT_ ?_;refine pu 6 (some 26) (lb 11 119) HT_ ?_;refine tk 3 (some 23) (lb 11 127) HT_ HW_ hHeld ?_;refine tk 7 (some 27) (lb 11 255) HT_ HW_ hHeld ?_;refine pu 8 (some 28) (lb 11 511) HT_ ?_;refine tk 9 (some 29) (lb 11 1023) HT_ HW_ hHeld ?_;refine oo 10 none (lb 11 2047) HT_ (fun K hK=>?_);have hs21:cL.cell? ⟨aH,0,none⟩ = some (iv 0):=(q1h aI.out 0).trans rfl;have hfs21:=q0B aI.out 0;have hs22:cL.cell? ⟨aH,1,none⟩ = some (.string (⟨#[]⟩:q0a)):=(q1h aI.out 1).trans rfl;have hfs22:=q0B aI.out 1;have hs23:cL.cell? ⟨aH,2,none⟩ = some (iv 0):=(q1h aI.out 2).trans rfl;have hfs23:=q0B aI.out 2;refine v1o (w1:=?_) (by rfl) rfl ?_ ?_;rotate_left
     ·go_simp;rfl
     refine hK.out _ _ ⟨((q4a (p:=⟨aH,_,none⟩) X202 _).trans (((q4a (p:=⟨aH,_,none⟩) X202 _).trans (((q4a (p:=⟨aH,_,none⟩) X202 _).trans (hHeld.1)))))),((q4a (p:=⟨aH,_,none⟩) X202 _).trans (((q4a (p:=⟨aH,_,none⟩) X202 _).trans (((q4a (p:=⟨aH,_,none⟩) X202 _).trans (hHeld.2.1)))))),((q4a (p:=⟨aH,_,none⟩) X202 _).trans (((q4a (p:=⟨aH,_,none⟩) X202 _).trans (((q4a (p:=⟨aH,_,none⟩) X202 _).trans (hHeld.2.2.1)))))),((q4a (p:=⟨aH,_,none⟩) X203 _).trans (((q4a (p:=⟨aH,_,none⟩) X203 _).trans (((q4a (p:=⟨aH,_,none⟩) X203 _).trans (hHeld.2.2.2.1)))))),((q4a (p:=⟨aH,_,none⟩) X204 _).trans (((q4a (p:=⟨aH,_,none⟩) X204 _).trans (((q4a (p:=⟨aH,_,none⟩) X204 _).trans (hHeld.2.2.2.2.1)))))),((q4a (p:=⟨aH,_,none⟩) X205 _).trans (((q4a (p:=⟨aH,_,none⟩) X205 _).trans (((q4a (p:=⟨aH,_,none⟩) X205 _).trans (hHeld.2.2.2.2.2))))))⟩ (fun hHeld=>?_);clear hK K;refine q5c (q3Z HT_.out X4) ?_;try go_wp2
     refine bodyPost_ret (results_cell_row rfl _ _ aH 36 #[iv ((q5i aA aC).f0),.string ((q5i aA aC).f1),iv ((q5i aA aC).f2)] (0,0) _ rfl (bq0 aI) underlying36 rfl X4) rfl ?_;exact ⟨X11,(X24 aE aM),(X26 HB aE aK),(X25 HK aJ)⟩
    ·exact iN bJ H
   ·exact iN bI H

def q1E.f (aA:List (S36)) (aC:Int) (aD:Bool) (a1:Int) (a2:q0a):Option (Bool × Int × Bool):=(q0P.f aA aC aD).bind fun aE=>(if aE.1 = a1 then (some ((aE.2.1.toList == a2.toList),aE.2.2.2.1,aE.2.2.2.2)) else (some (false,aE.2.2.2.1,aE.2.2.2.2)))
theorem q1E.calls (g:Nat) (aA:List (S36)) (aC:Int) (aD:Bool) (a1:Int) (a2:q0a) (r1:Bool) (r2:Int) (r3:Bool) (w0 w:World) (hI:q0K w0 w g aA aC aD) (hB:Below w0.heap.size w0 w) (h:q1E.f aA aC aD a1 a2 = some (r1,r2,r3)) :
  Calls prog 42 #[.pointer (some ⟨g,0,none⟩),iv a1,.string a2] w fun e w'=>e = .returned (.bool r1)∧q0K w0 w' g aA r2 r3∧Below w0.heap.size w0 w'∧q2g w w' g none:=by
 have hu36:=underlying36;have aE:=am hI;have HK:=am (q3k w g none);have HL:=am hB.size;have HGL:=am (q0K.lt hI);clear hI;have aG:=am hB.size;have HB:=am hB;clear hB;have H:=h;clear h;unfold q1E.f at H;obtain ⟨⟨aH,aI,aJ,aK,aM⟩,A4,H⟩:=oA H;(try dsimp only at H);by_cases c5:aH = a1
 ·rw [if_pos c5] at H;have c5b0:=eT c5;have c5b1:=eF c5;clear c5;simp only [Option.some.injEq,Prod.mk.injEq] at H;obtain ⟨rfl,rfl,rfl⟩:=H;go_enter func42,ntmps42;go_wp2_with (first|((with_reducible refine gc 94 ?_);refine gL (some 9) func94 #[.pointer (some ⟨g,0,none⟩)] ?_;(with_reducible refine (q0P.calls g aA aC aD aH aI aJ aK aM w0 _ ?side1 ?side2 A4.out).mono ?_);(case side1=>exact X196);(case side2=>exact X193);rintro e w6 ⟨rfl,hi,hb,hk⟩;refine ⟨_,rfl,?_⟩;replace HK:=am (q0e X195 hk (.inl rfl));replace HB:=am (hb);replace aE:=am (hi);clear hi hb hk)|((with_reducible refine gd 7 ?_);refine be 7 #[iv 0,.string (⟨#[]⟩:q0a),iv 0] 36 ?_;intro aT hg w7 hbox hb;replace HB:=bS X193 hb;have aU:=am (hbox);have aW:=am ((X194:w.heap.size≤aT));have aX:=am ((q0k aG.out (X194:w.heap.size≤aT):w0.heap.size≤aT));replace HK:=am (q0e X195 (q0z hb g none) (.inl rfl));have aY:=am ((X206:g≠aT));have aZ:=am ((X207:aT≠g));replace aE:=am (q0K.below X196 hb);clear hb hbox hg;have hnb8:=aZ.out;have hnc8:=aY.out;have Z9:=bc3 aU))
  go_ret
  exact ⟨X11,(X24 aE aY),(X26 HB aE aX),(X25 HK aW)⟩
 ·rw [if_neg c5] at H;have c5b0:=nF c5;have c5b1:=nT c5;simp only [Option.some.injEq,Prod.mk.injEq] at H;obtain ⟨rfl,rfl,rfl⟩:=H;go_enter func42,ntmps42;go_wp2_with (first|((with_reducible refine gc 94 ?_);refine gL (some 9) func94 #[.pointer (some ⟨g,0,none⟩)] ?_;(with_reducible refine (q0P.calls g aA aC aD aH aI aJ aK aM w0 _ ?side1 ?side2 A4.out).mono ?_);(case side1=>exact X196);(case side2=>exact X193);rintro e w10 ⟨rfl,hi,hb,hk⟩;refine ⟨_,rfl,?_⟩;replace HK:=am (q0e X195 hk (.inl rfl));replace HB:=am (hb);replace aE:=am (hi);clear hi hb hk)|((with_reducible refine gd 7 ?_);refine be 7 #[iv 0,.string (⟨#[]⟩:q0a),iv 0] 36 ?_;intro aT hg w11 hbox hb;replace HB:=bS X193 hb;have aU:=am (hbox);have aW:=am ((X194:w.heap.size≤aT));have aX:=am ((q0k aG.out (X194:w.heap.size≤aT):w0.heap.size≤aT));replace HK:=am (q0e X195 (q0z hb g none) (.inl rfl));have aY:=am ((X206:g≠aT));have aZ:=am ((X207:aT≠g));replace aE:=am (q0K.below X196 hb);clear hb hbox hg;have hnb12:=aZ.out;have hnc12:=aY.out;have Z13:=bc3 aU))
  go_ret
  exact ⟨X11,(X24 aE aY),(X26 HB aE aX),(X25 HK aW)⟩

def q0q.f (aA:List (S36)) (aC:Int) (aD:Bool) (a1:q0a):Option (Bool × Int × Bool):=(q1E.f aA aC aD 4 a1).bind fun aE=>(if aE.1 = true then (some (true,wrap64 (aE.2.1 + 1),aE.2.2)) else (some (false,aE.2.1,aE.2.2)))
theorem q0q.calls (g:Nat) (aA:List (S36)) (aC:Int) (aD:Bool) (a1:q0a) (r1:Bool) (r2:Int) (r3:Bool) (w0 w:World) (hI:q0K w0 w g aA aC aD) (hB:Below w0.heap.size w0 w) (h:q0q.f aA aC aD a1 = some (r1,r2,r3)) :
  Calls prog 81 #[.pointer (some ⟨g,0,none⟩),.string a1] w fun e w'=>e = .returned (.bool r1)∧q0K w0 w' g aA r2 r3∧Below w0.heap.size w0 w'∧q2g w w' g none:=by
 have aE:=am hI;have HK:=am (q3k w g none);have HL:=am hB.size;have HGL:=am (q0K.lt hI);clear hI;have HW0:=am hB.size;have HB:=am hB;clear hB;have H:=h;clear h;unfold q0q.f at H;obtain ⟨⟨aG,aH,aI⟩,A3,H⟩:=oA H;(try dsimp only at H);by_cases c4:aG = true
 ·subst c4;replace H:=tP H;simp only [Option.some.injEq,Prod.mk.injEq] at H;obtain ⟨rfl,rfl,rfl⟩:=H;go_enter func81,ntmps81;go_wp2_with (first|((with_reducible refine gc 42 ?_);refine gL (some 7) func42 #[.pointer (some ⟨g,0,none⟩),iv 4,.string a1] ?_;(with_reducible refine (q1E.calls g aA aC aD 4 a1 true aH aI w0 _ ?side1 ?side2 A3.out).mono ?_);(case side1=>exact X196);(case side2=>exact X193);rintro e w5 ⟨rfl,hi,hb,hk⟩;refine ⟨_,rfl,?_⟩;replace HK:=am (q0e X195 hk (.inl rfl));replace HB:=am (hb);replace aE:=am (hi);clear hi hb hk;obtain ⟨ASz6_0,cSz6_0,aK,aM,HSz6_0⟩:=aE.out;have Z6_0:=q2K aK;have Z6_1:=q2L aK;have Z6_2:=q2J aK;have Y6_1:=q0B aK 1;have Y6_2:=q0B aK 2;clear aK aM))
  go_ret
  exact ⟨X11,X196,X193,X195⟩
 ·replace c4:=fI c4;subst c4;replace H:=tN H;simp only [Option.some.injEq,Prod.mk.injEq] at H;obtain ⟨rfl,rfl,rfl⟩:=H;go_enter func81,ntmps81;go_wp2_with (first|((with_reducible refine gc 42 ?_);refine gL (some 7) func42 #[.pointer (some ⟨g,0,none⟩),iv 4,.string a1] ?_;(with_reducible refine (q1E.calls g aA aC aD 4 a1 false aH aI w0 _ ?side1 ?side2 A3.out).mono ?_);(case side1=>exact X196);(case side2=>exact X193);rintro e w7 ⟨rfl,hi,hb,hk⟩;refine ⟨_,rfl,?_⟩;replace HK:=am (q0e X195 hk (.inl rfl));replace HB:=am (hb);replace aE:=am (hi);clear hi hb hk))
  go_ret
  exact ⟨X11,X196,X193,X195⟩

def q1m.f (aA:List (S36)) (aC:Int) (aD:Bool) (a1:q0a):Option (Int × Bool):=(q0q.f aA aC aD a1).bind fun aE=>(if aE.1 = true then (some (aE.2.1,aE.2.2)) else (some (aE.2.1,true)))
theorem q1m.calls (g:Nat) (aA:List (S36)) (aC:Int) (aD:Bool) (a1:q0a) (r1:Int) (r2:Bool) (w0 w:World) (hI:q0K w0 w g aA aC aD) (hB:Below w0.heap.size w0 w) (h:q1m.f aA aC aD a1 = some (r1,r2)) :
  Calls prog 44 #[.pointer (some ⟨g,0,none⟩),.string a1] w fun e w'=>e = .returned (.tuple #[])∧q0K w0 w' g aA r1 r2∧Below w0.heap.size w0 w'∧q2g w w' g none:=by
 have aE:=am hI;have HK:=am (q3k w g none);have HL:=am hB.size;have HGL:=am (q0K.lt hI);clear hI;have HW0:=am hB.size;have HB:=am hB;clear hB;have H:=h;clear h;unfold q1m.f at H;obtain ⟨⟨aG,aH,aI⟩,A3,H⟩:=oA H;(try dsimp only at H);by_cases c4:aG = true
 ·subst c4;replace H:=tP H;simp only [Option.some.injEq,Prod.mk.injEq] at H;obtain ⟨rfl,rfl⟩:=H;go_enter func44,ntmps44;go_wp2_with (first|((with_reducible refine gc 81 ?_);refine gL (some 6) func81 #[.pointer (some ⟨g,0,none⟩),.string a1] ?_;(with_reducible refine (q0q.calls g aA aC aD a1 true aH aI w0 _ ?side1 ?side2 A3.out).mono ?_);(case side1=>exact X196);(case side2=>exact X193);rintro e w5 ⟨rfl,hi,hb,hk⟩;refine ⟨_,rfl,?_⟩;replace HK:=am (q0e X195 hk (.inl rfl));replace HB:=am (hb);replace aE:=am (hi);clear hi hb hk))
  first | go_end0|((try simp only [Exit.inBlock,Exit.then]);refine bodyPost_ret (results_none rfl _ _ _) rfl ?_)
  exact ⟨X11,X196,X193,X195⟩
 ·replace c4:=fI c4;subst c4;replace H:=tN H;simp only [Option.some.injEq,Prod.mk.injEq] at H;obtain ⟨rfl,rfl⟩:=H;go_enter func44,ntmps44;go_wp2_with (first|((with_reducible refine gc 81 ?_);refine gL (some 6) func81 #[.pointer (some ⟨g,0,none⟩),.string a1] ?_;(with_reducible refine (q0q.calls g aA aC aD a1 false aH aI w0 _ ?side1 ?side2 A3.out).mono ?_);(case side1=>exact X196);(case side2=>exact X193);rintro e w6 ⟨rfl,hi,hb,hk⟩;refine ⟨_,rfl,?_⟩;replace HK:=am (q0e X195 hk (.inl rfl));replace HB:=am (hb);replace aE:=am (hi);clear hi hb hk;obtain ⟨ASz7_0,cSz7_0,aK,aM,HSz7_0⟩:=aE.out;have Z7_0:=q2K aK;have Z7_1:=q2L aK;have Z7_2:=q2J aK;have Y7_1:=q0B aK 1;have Y7_2:=q0B aK 2;clear aK aM))
  first | go_end0|((try simp only [Exit.inBlock,Exit.then]);refine bodyPost_ret (results_none rfl _ _ _) rfl ?_)
  exact ⟨X11,X196,X193,X195⟩

def q2n.f (aA:List (S36)) (aC:Int) (aD:Bool) (a1:Int):Option (q0a × Int × Bool):=(q0P.f aA aC aD).bind fun aE=>(if aE.1 = a1 then (some (aE.2.1,wrap64 (aE.2.2.2.1 + 1),aE.2.2.2.2)) else (some ((⟨#[]⟩:q0a),aE.2.2.2.1,true)))
theorem q2n.calls (g:Nat) (aA:List (S36)) (aC:Int) (aD:Bool) (a1:Int) (r1:q0a) (r2:Int) (r3:Bool) (w0 w:World) (hI:q0K w0 w g aA aC aD) (hB:Below w0.heap.size w0 w) (h:q2n.f aA aC aD a1 = some (r1,r2,r3)) :
  Calls prog 43 #[.pointer (some ⟨g,0,none⟩),iv a1] w fun e w'=>e = .returned (.string r1)∧q0K w0 w' g aA r2 r3∧Below w0.heap.size w0 w'∧q2g w w' g none:=by
 have hu36:=underlying36;have aE:=am hI;have HK:=am (q3k w g none);have HL:=am hB.size;have HGL:=am (q0K.lt hI);clear hI;have aG:=am hB.size;have HB:=am hB;clear hB;have H:=h;clear h;unfold q2n.f at H;obtain ⟨⟨aH,aI,aJ,aK,aM⟩,A3,H⟩:=oA H;(try dsimp only at H);by_cases c4:aH = a1
 ·rw [if_pos c4] at H;have c4b0:=eT c4;have c4b1:=eF c4;clear c4;simp only [Option.some.injEq,Prod.mk.injEq] at H;obtain ⟨rfl,rfl,rfl⟩:=H;go_enter func43,ntmps43;go_wp2_with (first|((with_reducible refine gc 94 ?_);refine gL (some 7) func94 #[.pointer (some ⟨g,0,none⟩)] ?_;(with_reducible refine (q0P.calls g aA aC aD aH aI aJ aK aM w0 _ ?side1 ?side2 A3.out).mono ?_);(case side1=>exact X196);(case side2=>exact X193);rintro e w5 ⟨rfl,hi,hb,hk⟩;refine ⟨_,rfl,?_⟩;replace HK:=am (q0e X195 hk (.inl rfl));replace HB:=am (hb);replace aE:=am (hi);clear hi hb hk)|((with_reducible refine gd 5 ?_);refine be 5 #[iv 0,.string (⟨#[]⟩:q0a),iv 0] 36 ?_;intro aT hg w6 hbox hb;replace HB:=bS X193 hb;have aU:=am (hbox);have aW:=am ((X194:w.heap.size≤aT));have aX:=am ((q0k aG.out (X194:w.heap.size≤aT):w0.heap.size≤aT));replace HK:=am (q0e X195 (q0z hb g none) (.inl rfl));have aY:=am ((X206:g≠aT));have aZ:=am ((X207:aT≠g));replace aE:=am (q0K.below X196 hb);clear hb hbox hg;have hnb7:=aZ.out;have hnc7:=aY.out;have Z8:=bc3 aU;obtain ⟨ASz9_0,cSz9_0,bA,bB,HSz9_0⟩:=aE.out;have Z9_0:=q2K bA;have Z9_1:=q2L bA;have Z9_2:=q2J bA;have Y9_1:=q0B bA 1;have Y9_2:=q0B bA 2;clear bA bB))
  go_ret
  exact ⟨X11,(X24 aE aY),(X26 HB aE aX),(X25 HK aW)⟩
 ·rw [if_neg c4] at H;have c4b0:=nF c4;have c4b1:=nT c4;simp only [Option.some.injEq,Prod.mk.injEq] at H;obtain ⟨rfl,rfl,rfl⟩:=H;go_enter func43,ntmps43;go_wp2_with (first|((with_reducible refine gc 94 ?_);refine gL (some 7) func94 #[.pointer (some ⟨g,0,none⟩)] ?_;(with_reducible refine (q0P.calls g aA aC aD aH aI aJ aK aM w0 _ ?side1 ?side2 A3.out).mono ?_);(case side1=>exact X196);(case side2=>exact X193);rintro e w10 ⟨rfl,hi,hb,hk⟩;refine ⟨_,rfl,?_⟩;replace HK:=am (q0e X195 hk (.inl rfl));replace HB:=am (hb);replace aE:=am (hi);clear hi hb hk)|((with_reducible refine gd 5 ?_);refine be 5 #[iv 0,.string (⟨#[]⟩:q0a),iv 0] 36 ?_;intro aT hg w11 hbox hb;replace HB:=bS X193 hb;have aU:=am (hbox);have aW:=am ((X194:w.heap.size≤aT));have aX:=am ((q0k aG.out (X194:w.heap.size≤aT):w0.heap.size≤aT));replace HK:=am (q0e X195 (q0z hb g none) (.inl rfl));have aY:=am ((X206:g≠aT));have aZ:=am ((X207:aT≠g));replace aE:=am (q0K.below X196 hb);clear hb hbox hg;have hnb12:=aZ.out;have hnc12:=aY.out;have Z13:=bc3 aU;obtain ⟨ASz14_0,cSz14_0,bC,bD,HSz14_0⟩:=aE.out;have Z14_0:=q2K bC;have Z14_1:=q2L bC;have Z14_2:=q2J bC;have Y14_1:=q0B bC 1;have Y14_2:=q0B bC 2;clear bC bD))
  go_ret
  exact ⟨X11,(X24 aE aY),(X26 HB aE aX),(X25 HK aW)⟩
end Go.Proofs.YtmffocankommaaaDoor.J
