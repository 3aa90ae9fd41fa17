/- Walks written by hand, and the law about them. No condition but what the theorems state. -/
import Derived.Test.YtmffocankommaaaDoorDx34
import Derived.Test.YtmffocankommaaaDoorDLaw
import Derived.Test.YtmffocankommaaaDoorDLb
import Derived.Test.YtmffocankommaaaDoorDLc
import Derived.Test.YtmffocankommaaaDoorDYShort
import Derived.Test.YtmffocankommaaaDoorRows
import Derived.Deep.Slices
import Derived.ChangeArms
import Derived.OpenShut
import Derived.WalkKit
import Derived.ProofKit
import Derived.Deep.DeepHandedRow
import Derived.Lib.LaidTab
namespace Go.Proofs.YtmffocankommaaaDoor.J
open Go.RowKit Go.Proofs.YtmffocankommaaaDoorW.PrintWords Go.Proofs.YtmffocankommaaaDoorW.PrintLast Go.Proofs.YtmffocankommaaaDoorW.PrintMore Go.Proofs.YtmffocankommaaaDoorY Go.Proofs.YtmffocankommaaaDoorS
set_option linter.unusedVariables false
section
/-- A body without an error, of a height. -/
inductive Ok:Nat → S25 → Prop
 | mk (h:Nat) (a:Int) (b:q0a) (c:Int) (x:List S25) (hS:Shp a b c x = true) (hn:Nm a = true → q4i b) (hc:0≤c∧c≤9) (hl:x.length≤1048576) (hk:∀ y,y ∈ x → Ok h y):Ok (h + 1) ⟨a,b,c,x⟩
theorem Ok.le {h h':Nat} {n:S25} (k:Ok h n) (hh:h≤h'):Ok h' n:=by
 induction k generalizing h' with
 | mk h a b c x hS hn hc hl hk ih=>
  obtain ⟨g,rfl⟩:∃ g,h' = g + 1:=⟨h' - 1,by omega⟩
  exact .mk g a b c x hS hn hc hl (fun y hy=>ih y hy (by omega))
theorem v2v {h:Nat} {n:S25} (k:Ok h n):∀ d:Int,0≤d → d + h≤13 → q1q (fun k=>q0V.f k n.f0 n.f1 n.f2 n.f3 d) 0:=by
 induction k with
 | mk h a b c x hS hn hc hl hk ih=>
  intro d h0 hd
  have hw:wrap64 (d + 1) = d + 1:=by unfold wrap64;omega
  have L:∀ (m i:Nat),i + m = x.length → q1q (fun k=>q0V.l0 k d x (x.length:Int) (i:Int)) 0:=by
   intro m
   induction m with
   | zero=>
    intro i hi
    apply cSuc
    simp only [q0V.l0];exact cNO (cCon _)
   | succ m IH=>
    intro i hi
    have h:i < x.length:=by omega
    apply cSuc
    simp only [q0V.l0,rd25 h,q2f (show i≤1048576 by omega),hw]
    exact cPO (cPO (cPO (cBin (ih _ (List.getElem_mem h) (d + 1) (by omega) (by omega)) (cPos rfl (IH (i + 1) (by omega))))))
  have J:q1q (fun k=>q0V.j0 k d false a b c x) 0:=by
   apply cSuc
   simp only [q0V.j0]
   exact cND (cNO (cNO (L x.length 0 (by omega))))
  have s1:=q5Q a b c x hl
  apply cSuc
  simp only [q0V.f,q6x,Option.bind_some]
  refine cNO (cBin s1 (cPos hS ?_))
  by_cases hN:Nm a = true
  ·exact cPos hN (cBin (hn hN) J)
  ·exact cNeg hN J
theorem v0T {h:Nat} {n:S25} (k:Ok h n) (hh:h≤12) {m:Nat} {ys:List q0a} (hc:CntN n m ys) (hm:m≤200):q1q (fun k=>q2V.f k n.f0 n.f1 n.f2 n.f3) 0:=by
 unfold q2V.f
 exact cBin (v2v k 1 (by omega) (by omega)) (cPos rfl (cBin (q5s m n m ys (q0f _) hc (by omega)) (cNO (cCon _))))
section
variable (a0:q0a) {l1:List S86} {l2:List S88} {l3:List (List q0a)} {a4:Int} {a5:q0a} {a6:Int} {l7:List S25} {m n h:Nat} {ys:List q0a}
 (hL:CntN ⟨a4,a5,a6,l7⟩ m ys) (kL:Ok h ⟨a4,a5,a6,l7⟩) (hh:h≤12) (h3:∀ x,x ∈ l3 → SmOk x) (z3:l3.length≤3)
include hL kL hh h3 z3
theorem vg_l2 (q:Nat) (hq:q + m≤200):∀ (d i:Nat),i + d = l3.length → q1q (fun k=>q0D.l2 k (q:Int) l3 (l3.length:Int) ((i:Nat):Int) a0 l1 l2 l3 a4 a5 a6 l7) 0:=by
 intro d
 induction d with
 | zero=>
  intro i hi
  have hw:wrap64 ((q:Int) + (m:Int)) = (q:Int) + (m:Int):=by unfold wrap64;omega
  apply cSuc
  simp only [q0D.l2]
  refine cNO (cBin (v0T kL hh hL (by omega)) (cPos rfl (cBin (q5s m _ m ys (q0f _) hL (by omega)) ?_)))
  exact cNO (cCon _)
 | succ d IH=>
  intro i hi
  have hlt:i < l3.length:=by omega
  obtain ⟨b1,b2,b3⟩:=h3 _ (List.getElem_mem hlt)
  have b0:l3[i].length≠0:=fun e_=>b1 (List.length_eq_zero_iff.1 e_)
  obtain ⟨c,hc,hcc,hcx⟩:=q6K l3[i] (by omega) l3[i].length 0 (by omega)
  have hneg : ¬ c≥0:=fun k=>by
   obtain ⟨p,hp,hpu⟩:=hcx k
   exact hpu (b3 _ (List.getElem_mem hp))
  have hcf:q1q (fun k=>q1k.f k l3[i] ()) (decide (c≥0)):=by
   unfold q1k.f q0C.f
   exact cBin hc (cCon _)
  apply cSuc
  simp only [q0D.l2,rdl7 hlt,q2f (show i≤1048576 by omega)]
  exact cPO (cPO (cPO (cNO (cNO (cBin hcf (cNeg (by rw [decide_eq_false hneg];decide) (IH (i + 1) (by omega))))))))
variable (h2:∀ x,x ∈ l2 → CtOk x) (z2:l2.length≤3)
include h2 z2
theorem vg_l1 (q:Nat) (hq:q + m≤200):∀ (d i:Nat),i + d = l2.length → q1q (fun k=>q0D.l1 k (q:Int) l2 (l2.length:Int) ((i:Nat):Int) a0 l1 l2 l3 a4 a5 a6 l7) 0:=by
 intro d
 induction d with
 | zero=>
  intro i hi
  apply cSuc
  simp only [q0D.l1];exact cNO (vg_l2 a0 (l1:=l1) (l2:=l2) hL kL hh h3 z3 q hq l3.length 0 (by omega))
 | succ d IH=>
  intro i hi
  have hlt:i < l2.length:=by omega
  obtain ⟨hu,b1,b2,b3⟩:=h2 _ (List.getElem_mem hlt)
  apply cSuc
  simp only [q0D.l1,rd88 hlt,q2f (show i≤1048576 by omega)]
  exact cPO (cPO (cPO (cBin hu (cPos rfl (cNO (cNO (cNO (IH (i + 1) (by omega)))))))))
variable (h1:∀ x,x ∈ l1 → q4i x.f0∧∃ m ys,CntN x.f1 m ys∧m≤5∧Ok 12 x.f1) (z1:l1.length≤3)
include h1 z1
theorem vg_l0 (hm:m≤180):∀ (d i q:Nat),i + d = l1.length → q≤5 * i → q1q (fun k=>q0D.l0 k (q:Int) l1 (l1.length:Int) ((i:Nat):Int) a0 l1 l2 l3 a4 a5 a6 l7) 0:=by
 intro d
 induction d with
 | zero=>
  intro i q hi hq
  apply cSuc
  simp only [q0D.l0];exact cNO (vg_l1 a0 (l1:=l1) hL kL hh h3 z3 h2 z2 q (by omega) l2.length 0 (by omega))
 | succ d IH=>
  intro i q hi hq
  have hlt:i < l1.length:=by omega
  obtain ⟨hu,m',y',c1,c2,c3⟩:=h1 _ (List.getElem_mem hlt)
  have hw:wrap64 ((q:Int) + (m':Int)) = ((q + m':Nat):Int):=by unfold wrap64;omega
  apply cSuc
  simp only [q0D.l0,rd86 hlt,q2f (show i≤1048576 by omega)]
  refine cPO (cPO (cPO (cBin hu (cPos rfl (cBin (v0T c3 (q0f _) c1 (by omega)) (cPos rfl (cBin (q5s m' _ m' y' (q0f _) c1 (by omega)) ?_)))))))
  rw [hw]
  exact IH (i + 1) (q + m') (by omega) (by omega)
theorem q9M (h0:q1q (fun k=>q2v.f k a0) true) (hm:m≤180):q1q (fun k=>q0D.f k a0 l1 l2 l3 a4 a5 a6 l7) 0:=by
 unfold q0D.f
 refine cBin h0 (cPos rfl (cNO (cNO ?_)))
 rw [decide_eq_false (show ¬ (l3.length:Int) > 3 by omega)]
 apply cSuc
 simp only [q0D.j0]
 exact cND (vg_l0 a0 hL kL hh h3 z3 h2 z2 h1 z1 hm l1.length 0 0 (by omega) (by omega))
end
end
section
def U6:List (List UInt8):=[[99],[100],[109],[110],[115],[116]]
/-- The names of descriptions. -/
def UN (b:q0a):Prop:=b.data.toList ∈ U6
theorem un_is {b:q0a} {x:List UInt8} (h:b.data.toList = x):b = ⟨x.toArray⟩:=by
 cases b with
 | mk d=>simp only at h;subst h;simp
theorem v0Z:∀ x ∈ U6,q1N.f 20 ⟨x.toArray⟩ = some true:=by decide +kernel
theorem q5G {b:q0a} (h:UN b):q4i b:=by
 have e:=un_is (b:=b) rfl
 have h1:=v0Z _ h
 rw [← e] at h1
 exact ⟨20,fun k hk=>q7d (fun k=>q1N.mono b k) hk h1⟩
/-- A part of a line: its nodes, its names, its height. -/
def Pt (n:S25) (m:Nat) (ys:List q0a):Prop:=CntN n m ys∧n.f0≠5∧(∃ h,Ok h n∧h≤m∧h≤10)∧∀ y,y ∈ ys → UN y
inductive Rw:List S25 → Nat → Prop
 | nil:Rw [] 0
 | snoc (l:List S25) (x:S25) (m m':Nat) (ys:List q0a) (h:Rw l m) (hx:Pt x m' ys):Rw (l++[x]) (m + m')
theorem v2D {l:List S25} : ∀ {m:Nat} {ys:List q0a} {x:S25} {m':Nat} {ys':List q0a},CntL l m ys → CntN x m' ys' → CntL (l++[x]) (m + m') (ys++ys'):=by
 induction l with
 | nil=>
  intro m ys x m' ys' h hx
  obtain ⟨rfl,rfl⟩:=h.nil_inv
  have:=CntL.cons x [] m' 0 ys' [] hx .nil
  simpa using this
 | cons z l ih=>
  intro m ys x m' ys' h hx
  obtain ⟨m1,m2,y1,y2,rfl,rfl,h1,h2⟩:=h.inv
  have:=CntL.cons z _ m1 _ y1 _ h1 (ih h2 hx)
  rw [Nat.add_assoc,List.append_assoc]
  exact this
theorem Rw.cnt {l:List S25} {m:Nat} (h:Rw l m):∃ ys,CntL l m ys∧(∀ y,y ∈ ys → UN y)∧(∀ x,x ∈ l → ∃ m' ys',Pt x m' ys')∧l.length≤m:=by
 induction h with
 | nil=>exact ⟨[],.nil,fun y hy=>(by cases hy),fun x hx=>(by cases hx),q0f _⟩
 | snoc l x m m' ys h hx ih=>
  obtain ⟨zs,h1,h2,h3,h4⟩:=ih
  have hp:=hx.1.pos
  refine ⟨zs++ys,v2D h1 hx.1,fun y hy=>?_,fun y hy=>?_,by rw [List.length_append];simp only [List.length_cons,List.length_nil];omega⟩
  ·rcases List.mem_append.1 hy with k | k
   ·exact h2 y k
   ·exact hx.2.2.2 y k
  ·rcases List.mem_append.1 hy with k | k
   ·exact h3 y k
   ·rw [List.mem_singleton] at k
    subst k
    exact ⟨_,_,hx⟩
theorem Rw.last {l:List S25} {m:Nat} (h:Rw l m) (hp:1≤l.length) (hl:l.length≤1000):∃ l0 x m0 m1 ys,l = l0++[x]∧m = m0 + m1∧Rw l0 m0∧Pt x m1 ys∧la1 l = x∧l.take (l.length - 1) = l0∧l.length = l0.length + 1:=by
 cases h with
 | nil=>exact absurd hp (by simp)
 | snoc l0 x m0 m1 ys h hx=>
  have e:(l0++[x]).length = l0.length + 1:=by rw [List.length_append];rfl
  refine ⟨l0,x,m0,m1,ys,rfl,rfl,h,hx,?_,?_,e⟩
  ·unfold la1
   rw [e,show wrap64 (((l0.length + 1:Nat):Int) - 1) = ((l0.length:Nat):Int) by unfold wrap64;omega,rd25 (by rw [e];omega),List.getElem_append_right (Nat.le_refl _)]
   simp
  ·rw [e];simp
theorem sm_is {n:S25} {m:Nat} {ys:List q0a} (h:CntN n m ys) (hm:m≤1000):∃ t,q1q (fun k=>sm k n) t∧(t = true → m≤8):=by
 have hs:=q5M m n m ys (q0f _) h (by omega)
 obtain ⟨v,s1,s2⟩:=q5K n hs
 obtain rfl:=s1.same (q5s m n m ys (q0f _) h (by omega))
 unfold sm q1W.f
 by_cases h8:m≤8
 ·obtain ⟨q,hq⟩:=q7F n hs 30
  exact ⟨_,cBin s2 (cPO (cBin hq (cCon _))),fun _=>h8⟩
 ·exact ⟨false,cBin s2 (cNO (cCon _)),fun k=>by cases k⟩
theorem q7b (a:Int) (h:Shp a ⟨#[]⟩ 0 [] = true) (h5:a≠5) (hn:Nm a = false):Pt ⟨a,⟨#[]⟩,0,[]⟩ 1 []:=by
 have hn' : ¬ (a = 4∨a = 11∨a = 12):=of_decide_eq_false hn
 refine ⟨by have:=CntN.mk a ⟨#[]⟩ 0 [] 0 [] .nil;rwa [if_neg hn'] at this,h5,⟨1,.mk 0 _ _ _ _ h (fun k=>by rw [hn] at k;cases k) (by decide) (by simp) (fun y hy=>by cases hy),q0f _,by decide⟩,fun y hy=>by cases hy⟩
theorem v0C (a:Int) (b:q0a) (ha:a = 4∨a = 11) (hb:UN b):Pt ⟨a,b,0,[]⟩ 1 [b]:=by
 have hn:a = 4∨a = 11∨a = 12:=by omega
 refine ⟨by have:=CntN.mk a b 0 [] 0 [] .nil;rwa [if_pos hn] at this,by rcases ha with rfl | rfl <;> simp,⟨1,.mk 0 _ _ _ _ (by rcases ha with rfl | rfl <;> rfl) (fun _=>q5G hb) (by decide) (by simp) (fun y hy=>by cases hy),q0f _,by decide⟩,fun y hy=>by rw [List.mem_singleton] at hy;subst hy;exact hb⟩
/-- A node about one part. -/
theorem v0s (a:Int) (b:q0a) (c:Int) (x:S25) {m:Nat} {ys:List q0a} (hx:Pt x m ys) (hm:m≤9) (ha:(a = 7∧b = ⟨#[]⟩∧0≤c∧c≤9)∨(a = 8∧b = ⟨#[]⟩∧c = 0)∨(a = 12∧b = ⟨#[99]⟩∧c = 0)):∃ zs,Pt ⟨a,b,c,[x]⟩ (m + 1) zs:=by
 obtain ⟨h1,_,⟨h,k1,k2,_⟩,h3⟩:=hx
 have hc:CntL [x] m ys:=by simpa using CntL.cons x [] m 0 ys [] h1 .nil
 have hS:Shp a b c [x] = true:=by
  rcases ha with ⟨rfl,rfl,_⟩ | ⟨rfl,rfl,rfl⟩ | ⟨rfl,rfl,rfl⟩ <;> first | rfl|(simp [Shp,Nm,ShpT];done)
 refine ⟨_,CntN.mk a b c [x] m ys hc,by rcases ha with ⟨rfl,_⟩ | ⟨rfl,_⟩ | ⟨rfl,_⟩ <;> simp,⟨h + 1,.mk h _ _ _ _ hS (fun k=>?_) (by rcases ha with k | k | k <;> omega) (by simp) (fun y hy=>by rw [List.mem_singleton] at hy;subst hy;exact k1),by omega,by omega⟩,fun y hy=>?_⟩
 ·rcases ha with ⟨rfl,_⟩ | ⟨rfl,_⟩ | ⟨_,rfl,_⟩
  ·cases k
  ·cases k
  ·exact q5G (by unfold UN;decide)
 ·rcases List.mem_append.1 hy with k | k
  ·split at k
   ·rw [List.mem_singleton] at k
    subst k
    rcases ha with ⟨rfl,_⟩ | ⟨rfl,_⟩ | ⟨_,rfl,_⟩
    ·rename_i hh;omega
    ·rename_i hh;omega
    ·unfold UN;decide
   ·cases k
  ·exact h3 y k
/-- Two parts in a node: an alternative, or a sequence (which is no part by itself). -/
theorem v3a (a:Int) (x y:S25) {m m':Nat} {ys ys':List q0a} (hx:Pt x m ys) (hy:Pt y m' ys') (h8:m≤8) (h8':m'≤8) (ha:a = 5∨a = 6):∃ zs,CntN ⟨a,⟨#[]⟩,0,[x,y]⟩ (m + m' + 1) zs∧Ok (max m m' + 1) ⟨a,⟨#[]⟩,0,[x,y]⟩∧∀ z,z ∈ zs → UN z:=by
 obtain ⟨h1,h5,⟨h,k1,k2,_⟩,h3⟩:=hx
 obtain ⟨h1',h5',⟨h',k1',k2',_⟩,h3'⟩:=hy
 have hc:CntL [x,y] (m + m') (ys++ys'):=by
  have:=CntL.cons x [y] m (m' + 0) ys (ys'++[]) h1 (.cons y [] m' 0 ys' [] h1' .nil)
  simpa using this
 have hS:Shp a ⟨#[]⟩ 0 [x,y] = true:=by
  rcases ha with rfl | rfl
  ·simp [Shp,Nm,ShpT,no5,h5,h5']
  ·simp [Shp,Nm,ShpT]
 have hn : ¬ (a = 4∨a = 11∨a = 12):=by omega
 have hc':=CntN.mk a ⟨#[]⟩ 0 [x,y] (m + m') _ hc
 rw [if_neg hn,List.nil_append] at hc'
 refine ⟨_,hc',.mk _ _ _ _ _ hS (fun k=>absurd (q0b k) hn) (by decide) (by simp) (fun z hz=>?_),fun z hz=>?_⟩
 ·rcases List.mem_cons.1 hz with rfl | hz
  ·exact k1.le (by omega)
  ·rw [List.mem_singleton] at hz;subst hz;exact k1'.le (by omega)
 ·rcases List.mem_append.1 hz with k | k
  ·exact h3 z k
  ·exact h3' z k
end
section
theorem v1h (z:Int) (h:0≤z) (h2:z≤1000):wrap64 (1 + Int.tmod (wrap64 z) 3) = 1∨wrap64 (1 + Int.tmod (wrap64 z) 3) = 2∨wrap64 (1 + Int.tmod (wrap64 z) 3) = 3:=by
 have e:wrap64 z = z:=by unfold wrap64;omega
 rw [e,Int.tmod_eq_emod_of_nonneg h]
 unfold wrap64
 omega
theorem q9y (z:Int) (h:0≤z) (h2:z≤1000):Pt (v2e z) 1 []:=by
 unfold v2e
 rcases v1h z h h2 with e | e | e <;> rw [e]
 ·exact q7b 1 (by simp [Shp,Nm,ShpT]) (by decide) rfl
 ·exact q7b 2 (by simp [Shp,Nm,ShpT]) (by decide) rfl
 ·exact q7b 3 (by simp [Shp,Nm,ShpT]) (by decide) rfl
/-- What a step of the line gives. -/
def Gst (r:Nat → Option (List S25)) (l:List S25) (m:Nat):Prop:=∃ l' m',q1q r l'∧Rw l' m'∧m'≤m + 2∧l'.length≤l.length + 1
theorem rw_d {l:List S25} {m:Nat} (h:Rw l m) {b:Int} (h0:0≤b) (h1:b < 256):Rw (q3I l b) (m + 1)∧(q3I l b).length≤l.length + 1:=
 ⟨.snoc l _ m 1 [] h (q9y (b / 3) (by omega) (by omega)),by unfold q3I;rw [List.length_append];simp⟩
theorem q7C {l:List S25} {m:Nat} (h:Rw l m) {b:Int} (h0:0≤b) (h1:b < 256) {r:Nat → Option (List S25)} (hr:q1q r (q3I l b)):Gst r l m:=by
 obtain ⟨k1,k2⟩:=rw_d h h0 h1
 exact ⟨_,_,hr,k1,by omega,k2⟩
theorem q8e {l:List S25} {m:Nat} (h:Rw l m) {x:S25} {ys:List q0a} (hx:Pt x 1 ys) {r:Nat → Option (List S25)} (hr:q1q r (l++[x])):Gst r l m:=
 ⟨_,_,hr,.snoc l x m 1 ys h hx,by omega,by rw [List.length_append];simp⟩
theorem stp_1 {l:List S25} {m:Nat} (h:Rw l m) (hm:m≤100) {b:Int} (h0:0≤b) (h1:b < 256) (F:S25 → S25) (hF:∀ x m' ys,Pt x m' ys → m'≤8 → ∃ zs,Pt (F x) (m' + 1) zs):Gst (fun k=>q5J k l b (l.take (l.length - 1)++[F (la1 l)])) l m:=by
 have hlm:=h.cnt
 obtain ⟨_,_,_,_,hlm⟩:=hlm
 unfold q5J
 by_cases hp:1≤l.length
 ·obtain ⟨l0,x,m0,m1,ys,e1,e2,r0,px,ex,et,en⟩:=h.last hp (by omega)
  obtain ⟨t,ht,h8⟩:=sm_is px.1 (by omega)
  rw [ex]
  cases t with
  | false=>exact q7C h h0 h1 (cPos hp (cBin ht (cND (cCon _))))
  | true=>
   obtain ⟨zs,pz⟩:=hF x m1 ys px (h8 rfl)
   refine ⟨_,_,cPos hp (cBin ht (cPos rfl (cCon _))),by rw [et];exact .snoc l0 _ m0 _ zs r0 pz,by omega,?_⟩
   rw [et,List.length_append];simp only [List.length_cons,List.length_nil];omega
 ·exact q7C h h0 h1 (cNeg hp (cCon _))
theorem la2_is {l0:List S25} {x:S25} (hp:1≤l0.length) (hl:l0.length≤1000):la2 (l0++[x]) = la1 l0:=by
 have e:(l0++[x]).length = l0.length + 1:=by rw [List.length_append];rfl
 unfold la1 la2
 rw [e,show wrap64 (((l0.length + 1:Nat):Int) - 2) = ((l0.length - 1:Nat):Int) by unfold wrap64;omega,show wrap64 (((l0.length:Nat):Int) - 1) = ((l0.length - 1:Nat):Int) by unfold wrap64;omega,rd25 (by rw [e];omega),rd25 (by omega),List.getElem_append_left (by omega)]
theorem stp_2 {l:List S25} {m:Nat} (h:Rw l m) (hm:m≤100) {b:Int} (h0:0≤b) (h1:b < 256) (F:S25 → S25 → S25) (hF:∀ x y m' m'' ys zs,Pt x m' ys → Pt y m'' zs → m'≤8 → m''≤8 → ∃ m2 us,Pt (F x y) m2 us∧m2≤m' + m'' + 2):Gst (fun k=>q6L k l b (l.take (l.length - 2)++[F (la2 l) (la1 l)])) l m:=by
 have hlm:=h.cnt
 obtain ⟨_,_,_,_,hlm⟩:=hlm
 unfold q6L
 by_cases hp:2≤l.length
 ·obtain ⟨l0,x,m0,m1,ys,e1,e2,r0,px,ex,et,en⟩:=h.last (by omega) (by omega)
  obtain ⟨l00,y,m00,m01,zs,f1,f2,r00,py,fx,ft,fn⟩:=r0.last (by omega) (by omega)
  have ey:la2 l = y:=by rw [e1,la2_is (by omega) (by omega),fx]
  have et2:l.take (l.length - 2) = l00:=by
   rw [show l.length - 2 = l0.length - 1 by omega,e1,List.take_append_of_le_length (by omega)]
   exact ft
  obtain ⟨t,ht,h8⟩:=sm_is px.1 (by omega)
  obtain ⟨u,hu,h8'⟩:=sm_is py.1 (by omega)
  rw [ex,ey]
  cases t with
  | false=>exact q7C h h0 h1 (cPos hp (cBin ht (cND (cCon _))))
  | true=>
   cases u with
   | false=>exact q7C h h0 h1 (cPos hp (cBin ht (cPos rfl (cBin hu (cND (cCon _))))))
   | true=>
    obtain ⟨m2,us,pz,hm2⟩:=hF y x m01 m1 zs ys py px (h8' rfl) (h8 rfl)
    refine ⟨_,_,cPos hp (cBin ht (cPos rfl (cBin hu (cPos rfl (cCon _))))),by rw [et2];exact .snoc l00 _ m00 _ us r00 pz,by omega,?_⟩
    rw [et2,List.length_append];simp only [List.length_cons,List.length_nil];omega
 ·exact q7C h h0 h1 (cNeg hp (cCon _))
theorem q9Z (i:Int) (h0:0≤i) (h3:i < 3):UN (rdOf ByteArray.empty [⟨#[100]⟩,⟨#[115]⟩,⟨#[116]⟩] i):=by
 have:i = 0∨i = 1∨i = 2:=by omega
 rcases this with rfl | rfl | rfl <;> (show [_] ∈ U6;decide)
theorem un_mark (i:Int) (h0:0≤i) (h3:i < 2):UN (rdOf ByteArray.empty [⟨#[109]⟩,⟨#[110]⟩] i):=by
 have:i = 0∨i = 1:=by omega
 rcases this with rfl | rfl <;> (show [_] ∈ U6;decide)
theorem q9P {l:List S25} {m:Nat} (h:Rw l m) (hm:m≤100) {b names:Int} {counted:Bool} (h0:0≤b) (h1:b < 256) (hn:names≤3):Gst (fun k=>q3K.f k l b names counted) l m:=by
 have hlm:=h.cnt
 obtain ⟨_,_,_,_,hlm⟩:=hlm
 suffices Gst (fun k=>v2Q k l b names counted (b % 12)) l m by
  obtain ⟨l',m',hc,k⟩:=this
  refine ⟨l',m',?_,k⟩
  unfold q3K.f
  exact cPO hc
 obtain ⟨q,hq⟩:∃ q,b % 12 = q:=⟨_,rfl⟩
 rw [hq]
 have hc:q = 0∨q = 1∨q = 2∨q = 3∨q = 4∨q = 5∨q = 6∨q = 7∨q = 8∨q = 9∨q = 10∨q = 11:=by omega
 rcases hc with rfl | rfl | rfl | rfl | rfl | rfl | rfl | rfl | rfl | rfl | rfl | rfl
 ·exact q7C h h0 h1 (cCon _)
 ·exact q7C h h0 h1 (cCon _)
 ·exact q7C h h0 h1 (cCon _)
 ·show Gst (fun k=>if 0 < names then (if Int.tmod (b / 12) names < 3 then some (l++[⟨4,rdOf ByteArray.empty [⟨#[100]⟩,⟨#[115]⟩,⟨#[116]⟩] (Int.tmod (b / 12) names),0,[]⟩]) else none) else some (q3I l b)) l m
  by_cases hp:0 < names
  ·have hlt:Int.tmod (b / 12) names < 3:=by
    have:=Int.tmod_lt_of_pos (b / 12) hp
    omega
   exact q8e h (v0C 4 _ (.inl rfl) (q9Z _ (Int.tmod_nonneg _ (by omega)) hlt)) (cPos hp (cPos hlt (cCon _)))
  ·exact q7C h h0 h1 (cNeg hp (cCon _))
 ·exact stp_2 h hm h0 h1 (fun x y=>⟨6,⟨#[]⟩,0,[x,y]⟩) (fun x y m' m'' ys zs px py hx hy=>by
   obtain ⟨us,c1,c2,c3⟩:=v3a 6 x y px py hx hy (.inr rfl)
   exact ⟨_,us,⟨c1,(show (6:Int)≠5 by decide),⟨_,c2,by omega,by omega⟩,c3⟩,by omega⟩)
 ·exact stp_1 h hm h0 h1 (fun x=>⟨7,⟨#[]⟩,Int.tmod (b / 12) 4,[x]⟩) (fun x m' ys px hx=>v0s 7 _ _ x px (by omega) (.inl ⟨rfl,rfl,Int.tmod_nonneg _ (by omega),by have:=Int.tmod_lt_of_pos (b / 12) (show (0:Int) < 4 by decide);omega⟩))
 ·exact stp_1 h hm h0 h1 (fun x=>⟨8,⟨#[]⟩,0,[x]⟩) (fun x m' ys px hx=>v0s 8 _ _ x px (by omega) (.inr (.inl ⟨rfl,rfl,rfl⟩)))
 ·exact q8e h (q7b 9 (by simp [Shp,Nm,ShpT]) (by decide) rfl) (cCon _)
 ·exact q8e h (q7b 10 (by simp [Shp,Nm,ShpT]) (by decide) rfl) (cCon _)
 ·exact q8e h (v0C 11 _ (.inr rfl) (un_mark ((b / 12) % 2) (by omega) (by omega))) (cCon _)
 ·show Gst (fun k=>if counted = true then q5J k l b (l.take (l.length - 1)++[⟨12,⟨#[99]⟩,0,[la1 l]⟩]) else some (q3I l b)) l m
  cases counted with
  | false=>exact q7C h h0 h1 (cND (cCon _))
  | true=>
   obtain ⟨l',m',hc,k⟩:=stp_1 h hm h0 h1 (fun x=>⟨12,⟨#[99]⟩,0,[x]⟩) (fun x m' ys px hx=>v0s 12 _ _ x px (by omega) (.inr (.inr ⟨rfl,rfl,rfl⟩)))
   exact ⟨l',m',cPos rfl hc,k⟩
 ·exact stp_2 h hm h0 h1 (fun x y=>⟨7,⟨#[]⟩,2,[⟨5,⟨#[]⟩,0,[x,y]⟩]⟩) (fun x y m' m'' ys zs px py hx hy=>by
   obtain ⟨us,c1,c2,c3⟩:=v3a 5 x y px py hx hy (.inl rfl)
   have hcl:CntL [⟨5,⟨#[]⟩,0,[x,y]⟩] (m' + m'' + 1) us:=by simpa using CntL.cons _ [] _ 0 us [] c1 .nil
   have hc7:=CntN.mk 7 ⟨#[]⟩ 2 _ _ _ hcl
   rw [if_neg (by decide),List.nil_append] at hc7
   exact ⟨_,us,⟨hc7,(show (7:Int)≠5 by decide),⟨_,.mk _ _ _ _ _ (by simp [Shp,Nm,ShpT]) (fun k=>by cases k) (by decide) (by simp) (fun z hz=>by rw [List.mem_singleton] at hz;subst hz;exact c2),by omega,by omega⟩,c3⟩,by omega⟩)
theorem q7J {LL:List Int} (hLL:∀ x,x ∈ LL → 0≤x∧x < 256) {n:Int} (hn:n≤3) {b:Bool} : ∀ i,i≤16 → i≤LL.length → ∃ l m,q1q (fun k=>q8h k LL n b i) l∧Rw l m∧m≤2 * i
 | 0,_,_=>⟨[],0,cCon _,.nil,q0f _⟩
 | i + 1,h1,h2=>by
  obtain ⟨l,m,k1,k2,k3⟩:=q7J hLL hn (b:=b) i (by omega) (by omega)
  obtain ⟨r1,r2⟩:=hLL _ (v0S (show i < LL.length by omega))
  obtain ⟨l',m',s1,s2,s3,_⟩:=q9P k2 (by omega) (counted:=b) r1 r2 hn
  exact ⟨l',m',cBin k1 s1,s2,by omega⟩
end
section
theorem v2Z {l:List S25} {m:Nat} (h:Rw l m) (hm:m≤100):∃ m' ys,CntN (oneN l) m' ys∧m'≤m + 1∧Ok 12 (oneN l)∧∀ y,y ∈ ys → UN y:=by
 obtain ⟨ys,h1,h2,h3,h4⟩:=h.cnt
 unfold oneN
 by_cases e:l.length = 1
 ·rw [if_pos e]
  match l,e with
  | [x],_=>
   obtain ⟨m',zs,p1,p2,⟨g,p3,_,p4⟩,p5⟩:=h3 x (List.mem_singleton.2 rfl)
   have hr:q0A [x] 0 = x:=rfl
   rw [hr]
   obtain ⟨m1,m2,y1,y2,rfl,rfl,c1,c2⟩:=h1.inv
   exact ⟨m1,y1,c1,by omega,p3.le (by omega),fun y hy=>h2 y (List.mem_append_left _ hy)⟩
 ·rw [if_neg e]
  have hc:=CntN.mk 5 ⟨#[]⟩ 0 l m ys h1
  rw [if_neg (by decide),List.nil_append] at hc
  refine ⟨m + 1,ys,hc,q0f _,(Ok.mk 10 5 ⟨#[]⟩ 0 l ?_ (fun k=>by cases k) (by decide) (by omega) (fun y hy=>?_)).le (by decide),h2⟩
  ·have h5:no5 l = true:=by
    unfold no5
    rw [List.all_eq_true]
    intro x hx
    obtain ⟨_,_,_,k,_⟩:=h3 x hx
    exact q0w k
   simp [Shp,Nm,ShpT,h5,e]
  ·obtain ⟨_,_,_,_,⟨g,k,_,kk⟩,_⟩:=h3 y hy
   exact k.le kk
theorem q8I {x:List Int} (hx:∀ y,y ∈ x → 0≤y∧y < 256):∀ j,j≤x.length → Rw (q4e x j) j
 | 0,_=>.nil
 | j + 1,h=>by
  obtain ⟨r1,r2⟩:=hx _ (v0S (show j < x.length by omega))
  exact .snoc _ _ j 1 [] (q8I hx j (by omega)) (q9y _ r1 (by omega))
theorem v2E {l:List S86} : ∀ {n:Nat} {f:S86} {m:Nat} {ys:List q0a},CntF l n → CntN f.f1 m ys → CntF (l++[f]) (n + m):=by
 induction l with
 | nil=>
  intro n f m ys h hf
  cases h
  have:=CntF.cons f [] m 0 ys hf .nil
  simpa using this
 | cons g l ih=>
  intro n f m ys h hf
  cases h with
  | cons _ _ m1 n1 zs h1 h2=>
   have:=CntF.cons g _ m1 _ zs h1 (ih h2 hf)
   rw [Nat.add_assoc]
   exact this
theorem v1v (i:Nat) (h:i < 3):UN (rdOf ByteArray.empty q8J (i:Int)):=q9Z (i:Int) (by omega) (by omega)
theorem v0z {FL:List (List Int)} (hFL:∀ y,y ∈ FL → ∀ x,x ∈ y → 0≤x∧x < 256):∀ i,i≤3 → i≤FL.length → ∃ n,CntF (q4M FL i) n∧n≤5 * i∧∀ x,x ∈ q4M FL i → q4i x.f0∧∃ m ys,CntN x.f1 m ys∧m≤5∧Ok 12 x.f1
 | 0,_,_=>⟨0,.nil,q0f _,fun x hx=>by cases hx⟩
 | i + 1,h1,h2=>by
  obtain ⟨n,k1,k2,k3⟩:=v0z hFL i (by omega) (by omega)
  have hy:∀ y,y ∈ rdL FL (i:Int) → 0≤y∧y < 256:=by
   have:rdL FL (i:Int) = FL[i]'(by omega):=by
    unfold rdL
    rw [Int.toNat_natCast,List.getD_eq_getElem?_getD,List.getElem?_eq_getElem (by omega)]
    rfl
   rw [this]
   exact hFL _ (List.getElem_mem _)
  obtain ⟨m,ys,o1,o2,o3,_⟩:=v2Z (q8I hy (min (rdL FL (i:Int)).length 4) (by omega)) (by omega)
  refine ⟨n + m,v2E k1 (f:=q8b FL i) o1,by omega,fun x hx=>?_⟩
  rcases List.mem_append.1 hx with k | k
  ·exact k3 x k
  ·rw [List.mem_singleton] at k
   subst k
   exact ⟨q5G (v1v i (by omega)),m,ys,o1,by omega,o3⟩
theorem cnt_ok {d0 d1:Int} (h:0≤d1∧d1 < 256):(cntN d0 d1).length≤3∧∀ x,x ∈ cntN d0 d1 → CtOk x:=by
 unfold cntN
 split
 ·refine ⟨by simp,fun x hx=>?_⟩
  rw [List.mem_singleton] at hx
  subst hx
  exact ⟨q5G (show UN ⟨#[99]⟩ by unfold UN;decide),by show 0≤d1 % 2;omega,by show d1 % 2≤d1 % 2 + d1 / 2 % 3;omega,by show d1 % 2 + d1 / 2 % 3≤6;omega⟩
 ·exact ⟨by simp,fun x hx=>by cases hx⟩
theorem q7V {ns:List q0a} (h:∀ x,x ∈ ns → UN x):∀ j,j≤ns.length → ∀ x,x ∈ q4f ns j → UN x
 | 0,_,x,hx=>by cases hx
 | j + 1,hj,x,hx=>by
  unfold q4f at hx
  split at hx
  ·rcases List.mem_append.1 hx with k | k
   ·exact q7V h j (by omega) x k
   ·rw [List.mem_singleton] at k
    subst k
    rw [q6J (show j < ns.length by omega)]
    exact h _ (List.getElem_mem _)
  ·exact q7V h j (by omega) x hx
theorem asc_len {l:List St} (h:Asc l) (hu:∀ x,x ∈ l → x ∈ U6):l.length≤6:=by
 have hn:l.Nodup:=List.Pairwise.imp (fun {a b} hab=>fun e=>by subst e;exact irr a hab) h
 exact hn.length_le_of_subset hu
/-- What descriptions make is right, and its text leads to it again. -/
theorem v1L {FL:List (List Int)} {LL:List Int} {d0 d1 sm:Int} (hFL:∀ y,y ∈ FL → ∀ x,x ∈ y → 0≤x∧x < 256) (hLL:∀ x,x ∈ LL → 0≤x∧x < 256) (e1:0≤d1∧d1 < 256) :
  ∃ (k:Nat) (a0:q0a) (l1:List S86) (l2:List S88) (l3:List (List q0a)) (a4:Int) (a5:q0a) (a6:Int) (l7:List S25) (s:q0a),q2Y.f k = some true∧q3S.f k FL LL d0 d1 sm = some (a0,l1,l2,l3,a4,a5,a6,l7)∧q0R.f k a0 l1 l2 l3 a4 a5 a6 l7 = some (s,0)∧q3E.f k s = some (a0,l1,l2,l3,a4,a5,a6,l7,0,0)∧q0D.f k a0 l1 l2 l3 a4 a5 a6 l7 = some 0∧q0p.f k a0 l1 l2 l3 a4 a5 a6 l7 a0 l1 l2 l3 a4 a5 a6 l7 = some true:=by
 obtain ⟨n,f1,f2,f3⟩:=v0z hFL (min FL.length 3) (by omega) (by omega)
 have fl:=q5N FL (min FL.length 3)
 obtain ⟨c1,c2⟩:=cnt_ok (d0:=d0) e1
 obtain ⟨l,m,hl,hr,hm⟩:=q7J hLL (n:=(((q4M FL (min FL.length 3)).length:Nat):Int)) (by omega) (b:=decide (0 < (cntN d0 d1).length)) (min LL.length 16) (by omega) (by omega)
 obtain ⟨m',ys,o1,o2,o3,o4⟩:=v2Z hr (by omega)
 have hns:=q8K m' (oneN l) m' ys (q0f _) o1 (by omega)
 obtain ⟨q1,q2⟩:=q9H ys
 have hUn:∀ x,x ∈ NM ys → UN x:=fun x hx=>by
  have h1:x.data.toList ∈ q1C (NM ys):=List.mem_map.2 ⟨x,hx,rfl⟩
  obtain ⟨y,hy,e⟩:=List.mem_map.1 ((q2 _).1 h1)
  have:=o4 y hy
  unfold UN at this ⊢
  rw [← e]
  exact this
 have hNl:(NM ys).length≤6:=by
  have:=asc_len q1 (fun x hx=>by
   obtain ⟨y,hy,e⟩:=List.mem_map.1 hx
   rw [← e]
   exact hUn y hy)
  rwa [q4y] at this
 have hMl:=q5L (NM ys) (NM ys).length
 have hS:(q8M sm (q4f (NM ys) (NM ys).length)).length≤3∧∀ x,x ∈ q8M sm (q4f (NM ys) (NM ys).length) → SmOk x:=by
  unfold q8M
  split
  ·rename_i hc
   refine ⟨by simp,fun x hx=>?_⟩
   rw [List.mem_singleton] at hx
   subst hx
   exact ⟨fun e=>by rw [e] at hc;exact absurd hc.2 (by simp),by omega,fun x hx=>q5G (q7V hUn _ (q0f _) x hx)⟩
  ·exact ⟨by simp,fun x hx=>by cases hx⟩
 have hmade:q1q (fun k=>q3S.f k FL LL d0 d1 sm) (⟨#[109,97,100,101]⟩,q4M FL (min FL.length 3),cntN d0 d1,q8M sm (q4f (NM ys) (NM ys).length),(oneN l).f0,(oneN l).f1,(oneN l).f2,(oneN l).f3):=by
  unfold q3S.f
  exact cBin hl (cBin hns (cPO (cCon _)))
 have hname:q1q (fun k=>q2v.f k (⟨#[109,97,100,101]⟩:q0a)) true:=⟨20,fun k hk=>q7d (fun k=>q2v.mono _ k) hk (by decide +kernel)⟩
 have o1':CntN ⟨(oneN l).f0,(oneN l).f1,(oneN l).f2,(oneN l).f3⟩ m' ys:=(q7z _).symm ▸ o1
 have o3':Ok 12 ⟨(oneN l).f0,(oneN l).f1,(oneN l).f2,(oneN l).f3⟩:=(q7z _).symm ▸ o3
 have hv:=q9M (⟨#[109,97,100,101]⟩:q0a) (a4:=(oneN l).f0) (a5:=(oneN l).f1) (a6:=(oneN l).f2) (l7:=(oneN l).f3) o1' o3' (q0f _) hS.2 hS.1 c2 c1 f3 (by omega) hname (by omega)
 obtain ⟨s,e,v1,v2,g1,g2,hp⟩:=q9a (⟨#[109,97,100,101]⟩:q0a) (l2:=cntN d0 d1) (l3:=q8M sm (q4f (NM ys) (NM ys).length)) f1 o1' (by omega) (by omega) (by omega) (by omega) (fun x hx=>by have:=(hS.2 x hx).2.1;omega)
 obtain rfl:=v1.same hv
 have hsame:=v1n (a0:=(⟨#[109,97,100,101]⟩:q0a)) (a4:=(oneN l).f0) (a5:=(oneN l).f1) (a6:=(oneN l).f2) (l7:=(oneN l).f3) (l1:=q4M FL (min FL.length 3)) (l2:=cntN d0 d1) (l3:=q8M sm (q4f (NM ys) (NM ys).length)) (by omega) (fun x hx=>by
  obtain ⟨_,m1,y1,k1,k2,_⟩:=f3 x hx
  exact q5M m1 _ m1 y1 (q0f _) k1 (by omega)) (by omega) (by omega) (fun x hx=>by have:=(hS.2 x hx).2.1;omega) (q5M m' _ m' ys (q0f _) o1' (by omega))
 obtain ⟨K1,A1⟩:=q9f
 obtain ⟨K2,A2⟩:=hmade
 obtain ⟨K3,A3⟩:=g1
 obtain ⟨K4,A4⟩:=hp rfl
 obtain ⟨K5,A5⟩:=hv
 obtain ⟨K6,A6⟩:=hsame
 exact ⟨K1 + K2 + K3 + K4 + K5 + K6,_,_,_,_,_,_,_,_,s,A1 _ (by omega),A2 _ (by omega),A3 _ (by omega),A4 _ (by omega),A5 _ (by omega),A6 _ (by omega)⟩
end
section
theorem list_of {α:Type} (n:Nat) (Q:Nat → α → Prop) (h:∀ i,i < n → ∃ b,Q i b):∃ xs:List α,xs.length = n∧∀ i (hi:i < xs.length),Q i xs[i]:=by
 induction n with
 | zero=>exact ⟨[],rfl,fun i hi=>absurd hi (by simp)⟩
 | succ n ih=>
  obtain ⟨xs,hl,hx⟩:=ih (fun i hi=>h i (by omega))
  obtain ⟨b,hb⟩:=h n (by omega)
  refine ⟨xs++[b],by simp [hl],fun i hi=>?_⟩
  by_cases hin:i < xs.length
  ·rw [List.getElem_append_left hin]
   exact hx i hin
  ·have:i = n:=by simp at hi;omega
   subst this
   rw [List.getElem_append_right (by omega)]
   simp [hl,hb]
section
variable {H:Type} {enc:TypeId × Value → H} {w:World} {base:Nat} {sp:Nat → Bool} {held:Bool}
/-- Whatever reads as a slice of e is a row of values of the elements' kind. -/
theorem q7h {α:Type} (d:Kd α) (Pr:α → Prop) {t e:TypeId} {fuel:Nat} {cs:List Value} {x:DataW H × List MemPlace} (ht:Tryd.prog.underlying t = some (.slice e)) (hsz:Tryd.prog.cellsOf e = d.sz)
  (ih:∀ n,n < fuel → ∀ cs' x',DataW.trod enc Tryd.prog w base sp held n e cs' = some x' → ∃ a,d.K w a cs'∧Pr a)
  (h:DataW.trod enc Tryd.prog w base sp held fuel t cs = some x) :
  ∃ (xs:List α) (A:Option Addr) (c:Nat),cs = [.slice A xs.length c]∧xs.length≤c∧Kd.C d w A xs.length xs∧xs.length≤9223372036854775807∧∀ y,y ∈ xs → Pr y:=by
 rcases DataW.trod_slice ht h with ⟨rfl,rfl⟩ | ⟨a,len,cap,elems,rest,n,rfl,rfl,rfl,hb,hl,hm,hlen,hel,hsp,hns⟩
 ·exact ⟨[],none,0,rfl,q0f _,⟨rfl,by simp,fun h=>absurd h (by simp)⟩,by simp,fun y hy=>absurd hy (by simp)⟩
 ·have each:∀ i (hi:i < len),∃ b cs',w.cells? base (a.add (i * Tryd.prog.cellsOf e)) (Tryd.prog.cellsOf e) = some cs'∧d.K w b cs'∧Pr b:=by
   intro i hi
   have he:=hel i hi
   rw [List.getElem?_eq_getElem (by omega)] at he
   obtain ⟨cs',h1,h2⟩:=Option.bind_eq_some_iff.1 he
   obtain ⟨b,hK,hP⟩:=ih n (Nat.lt_succ_self n) cs' _ h2
   exact ⟨b,cs',h1,hK,hP⟩
  obtain ⟨xs,hxl,hx⟩:=list_of len (fun i b=>∃ cs',w.cells? base (a.add (i * Tryd.prog.cellsOf e)) (Tryd.prog.cellsOf e) = some cs'∧d.K w b cs'∧Pr b) (fun i hi=>each i hi)
  unfold maxLen at hm
  refine ⟨xs,some a,cap,by rw [hxl],by omega,⟨rfl,by omega,fun _=>⟨a,rfl,fun j p hj=>?_⟩⟩,by omega,fun y hy=>?_⟩
  ·obtain ⟨hj1,rfl⟩:=List.getElem?_eq_some_iff.1 hj
   obtain ⟨cs',h1,h2,_⟩:=hx j (by omega)
   obtain ⟨_,hcl,hcell⟩:=World.cells?_some h1
   refine ⟨cs',by rw [hcl,hsz],h2,fun i u hu=>?_⟩
   have hi:=(List.getElem?_eq_some_iff.1 hu).1
   have:=hcell i (by omega)
   rw [hu] at this
   rw [← this,← hsz,Addr.add_add]
  ·obtain ⟨j,hj,rfl⟩:=List.getElem_of_mem hy
   obtain ⟨_,_,_,h3⟩:=hx j hj
   exact h3
/-- A byte. -/
def By (x:Int):Prop:=0≤x∧x < 256
theorem q5p (fuel:Nat) (cs:List Value) (x:DataW H × List MemPlace) (h:DataW.trod enc Tryd.prog w base sp held fuel 5 cs = some x):∃ n:Int,kB.K w n cs∧By n:=by
 obtain ⟨n,rfl,_,hw⟩:=DataW.trod_int Tryd.underlying5 h
 refine ⟨n,rfl,?_⟩
 have h1:=q0b (Bool.and_eq_true_iff.1 (show (decide (IntKind.u8.min≤n) && decide (n≤IntKind.u8.max)) = true from hw)).1
 have h2:=q0b (Bool.and_eq_true_iff.1 (show (decide (IntKind.u8.min≤n) && decide (n≤IntKind.u8.max)) = true from hw)).2
 exact ⟨h1,Int.lt_of_le_of_lt h2 (by decide)⟩
theorem q8N (fuel:Nat) (cs:List Value) (x:DataW H × List MemPlace) (h:DataW.trod enc Tryd.prog w base sp held fuel 31 cs = some x):∃ n:List Int,(Kd.slice 5 kB).K w n cs∧∀ y,y ∈ n → By y:=by
 obtain ⟨xs,A,c,rfl,hl,hC,_,hP⟩:=q7h kB By Tryd.underlying31 (by kernel_rfl) (fun m _=>q5p m) h
 exact ⟨xs,⟨A,c,rfl,hl,hC⟩,hP⟩
set_option maxRecDepth 100000 in
theorem q9n (fuel:Nat) (cs:List Value) (x:DataW H × List MemPlace) (h:DataW.trod enc Tryd.prog w base sp held fuel 52 cs = some x) :
  ∃ (A0:Option Addr) (c0:Nat) (FL:List (List Int)) (A1:Option Addr) (c1:Nat) (LL:List Int) (d0 d1 sm:Int),cs = [.slice A0 FL.length c0,.slice A1 LL.length c1,.int .u8 d0,.int .u8 d1,.int .u8 sm]∧
   Kd.C (Kd.slice 5 kB) w A0 FL.length FL∧FL.length≤c0∧kB.C w A1 LL.length LL∧LL.length≤c1∧(∀ y,y ∈ FL → ∀ x,x ∈ y → By x)∧(∀ x,x ∈ LL → By x)∧By d0∧By d1∧By sm:=by
 obtain ⟨xs,n,rfl,rfl,hcl,hxl,hf⟩:=DataW.trod_struct Tryd.underlying52 h
 have hc:Tryd.prog.cellsOf 52 = 5:=by kernel_rfl
 rw [hc] at hcl
 match xs,hxl,cs,hcl with
 | [y0,y1,y2,y3],_,[v0,v1,v2,v3,v4],_=>
 have c49:Tryd.prog.cellsOf 49 = 1:=by kernel_rfl
 have c31:Tryd.prog.cellsOf 31 = 1:=by kernel_rfl
 have c50:Tryd.prog.cellsOf 50 = 2:=by kernel_rfl
 have c5:Tryd.prog.cellsOf 5 = 1:=by kernel_rfl
 have g0:DataW.trod enc Tryd.prog w base sp held n 49 [v0] = some y0:=by
  have g:=hf 0 _ rfl
  simp [c49] at g
  exact g
 have g1:DataW.trod enc Tryd.prog w base sp held n 31 [v1] = some y1:=by
  have g:=hf 1 _ rfl
  simp [c31] at g
  exact g
 have g2:DataW.trod enc Tryd.prog w base sp held n 50 [v2,v3] = some y2:=by
  have g:=hf 2 _ rfl
  simp [c50] at g
  exact g
 have g3:DataW.trod enc Tryd.prog w base sp held n 5 [v4] = some y3:=by
  have g:=hf 3 _ rfl
  simp [c5] at g
  exact g
 obtain ⟨FL,A0,k0,e0,m0,r0,_,p0⟩:=q7h (Kd.slice 5 kB) (fun y=>∀ x,x ∈ y → By x) Tryd.underlying49 (by kernel_rfl) (fun m _=>q8N m) g0
 obtain ⟨LL,A1,k1,e1,m1,r1,_,p1⟩:=q7h kB By Tryd.underlying31 (by kernel_rfl) (fun m _=>q5p m) g1
 obtain ⟨zs,q,rfl,rfl,_,hzl,hz⟩:=DataW.trod_array Tryd.underlying50 g2
 have z0:=hz 0 (by decide)
 have z1:=hz 1 (by decide)
 rw [c5] at z0 z1
 match zs,hzl with
 | [a,b],_=>
 obtain ⟨d0,f0,b0⟩:=q5p q _ _ (show DataW.trod enc Tryd.prog w base sp held q 5 [v2] = some a from z0)
 obtain ⟨d1,f1,b1⟩:=q5p q _ _ (show DataW.trod enc Tryd.prog w base sp held q 5 [v3] = some b from z1)
 obtain ⟨d2,f2,b2⟩:=q5p _ _ _ g3
 obtain rfl:v0 = .slice A0 FL.length k0:=by simpa using e0
 obtain rfl:v1 = .slice A1 LL.length k1:=by simpa using e1
 obtain rfl:v2 = .int .u8 d0:=by simpa using (show [v2] = [Value.int .u8 d0] from f0)
 obtain rfl:v3 = .int .u8 d1:=by simpa using (show [v3] = [Value.int .u8 d1] from f1)
 obtain rfl:v4 = .int .u8 d2:=by simpa using (show [v4] = [Value.int .u8 d2] from f2)
 exact ⟨A0,k0,FL,A1,k1,LL,d0,d1,d2,rfl,r0,m0,r1,m1,p0,p1,b0,b1,b2⟩
end
end
end Go.Proofs.YtmffocankommaaaDoor.J
section
namespace Go.Proofs.YtmffocankommaaaDoor.WitM
open Go.ChangeShapes Go.WideShapes Go.ChangeAt Go.RowKit
/-- The values of a table's datum. -/
def vals (d:DataW Unit):Array Value:=
 match d with
 | .agg l=>(l.map fun
  | .lit (.int .u8 n)=>Value.int .u8 n
  | .lit (.int .u64 n)=>Value.int .u64 n
  | _=>.bool false).toArray
 | _=>#[]
def held (v:Array Value):Obj → Obj
 | .cells _ t frozen=>.cells v t frozen
 | o=>o
noncomputable def laidWorld (os:Os):World:=
 {World.holding Tryd.prog os ⟨#[],#[],[]⟩ with heap:=(((World.holding Tryd.prog os ⟨#[],#[],[]⟩).heap.modify 1 (held (vals Rows.laid_internal_strconv_uint64pow10))).modify 2 (held (vals Rows.laid_math_bits_deBruijn32tab))).modify 3 (held (vals Rows.laid_math_bits_deBruijn64tab))}
def zero:Value:=.agg #[.slice none 0 0,.slice none 0 0,.int .u8 0,.int .u8 0,.int .u8 0]
theorem laid_met (os:Os):laidMet Tryd.prog Rows.metreMadeRow.laid ((laidWorld os).forCall (fun _ _=>0) ⟨#[],#[zero],[]⟩).memory:=
 laidMet_of_run' 8 (by kernel_rfl) (by kernel_rfl)
theorem reads (os:Os) {H:Type} (enc:TypeId × Value → H):∃ ds places,DataW.whole enc Tryd.prog ((laidWorld os).forCall (fun _ _=>0) ⟨#[],#[zero],[]⟩).memory Tryd.f5.params.toList Rows.metreMadeSpec.vars false #[zero].toList 8 = some (ds,[],places):=by
 have h:(match DataW.whole enc Tryd.prog ((laidWorld os).forCall (fun _ _=>0) ⟨#[],#[zero],[]⟩).memory Tryd.f5.params.toList Rows.metreMadeSpec.vars false #[zero].toList 8 with
  | some (ds,[],_)=>true
  | _=>false) = true:=by kernel_rfl
 split at h
 ·rename_i ds p he
  exact ⟨ds,p,he⟩
 ·cases h
end Go.Proofs.YtmffocankommaaaDoor.WitM
end
