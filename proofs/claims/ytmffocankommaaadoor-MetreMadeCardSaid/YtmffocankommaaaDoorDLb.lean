/- Walks written by hand, and the law about them. No condition but what the theorems state. -/
import Derived.Test.YtmffocankommaaaDoorDx34
import Derived.Test.YtmffocankommaaaDoorDYShort
namespace Go.Proofs.YtmffocankommaaaDoor.J
open Go.RowKit Go.Proofs.YtmffocankommaaaDoorW.PrintWords Go.Proofs.YtmffocankommaaaDoorW.PrintLast Go.Proofs.YtmffocankommaaaDoorW.PrintMore Go.Proofs.YtmffocankommaaaDoorY Go.Proofs.YtmffocankommaaaDoorS
set_option linter.unusedVariables false
section
theorem elN {W:World} {base c:Nat} {ok:Nat → Prop} {ad:Addr} {l:List S25} (h:Kd.N k25 25 W base ok (.slice (some ad) l.length c) l) (i:Int) (h0:0≤i) (h1:i < (l.length:Int)) :
  ∃ A3 c3,W.cell? (ad.add (i.toNat * 4)) = some (.int .i64 (q0A l i).f0)∧W.cell? ⟨(ad.add (i.toNat * 4)).block,(ad.add (i.toNat * 4)).off + 1,none⟩ = some (.string (q0A l i).f1)∧W.cell? ⟨(ad.add (i.toNat * 4)).block,(ad.add (i.toNat * 4)).off + 2,none⟩ = some (.int .i64 (q0A l i).f2)∧W.cell? ⟨(ad.add (i.toNat * 4)).block,(ad.add (i.toNat * 4)).off + 3,none⟩ = some (.slice A3 (q0A l i).f3.length c3)∧(q0A l i).f3.length≤c3∧
   q0j (Kd.V k25 25 W base (fun k=>ok k∧some k≠(Value.slice (some ad) l.length c).ownBlock) (.slice A3 (q0A l i).f3.length c3) (q0A l i).f3):=by
 obtain ⟨hn,hc,hC⟩:=q0M h
 obtain ⟨ad',A3,c3,e,x0,x1,x2,x3,hl3,hi3⟩:=q4w hC i h0 h1
 cases e
 obtain ⟨ce,hce,hM,hcc⟩:=Kd.N_get h z25 i h0 h1
 obtain ⟨ua,uc,rfl,ul,ge⟩:=q5w hM
 have hv:=hcc 3 _ rfl
 rw [q4z _ _ 3 (by omega)] at hv
 replace hv:=q0d (hv.symm.trans x3)
 injection hv with e1 e2 e3
 rw [e1] at ge
 rw [e3] at ul
 exact ⟨A3,c3,x0,x1,x2,x3,hl3,⟨Kd.V_mk ul ge⟩⟩
theorem isAd {W:World} {base c:Nat} {ok:Nat → Prop} {A:Option Addr} {l:List S25} (h:Kd.N k25 25 W base ok (.slice A l.length c) l) (hp:1≤l.length):∃ ad,A = some ad:=by
 obtain ⟨g,cap,e,_⟩:=Kd.N_form h hp
 injection e with e1
 exact ⟨_,e1⟩
/-- The last elements. -/
def la1 (l:List S25):S25:=q0A l (wrap64 ((l.length:Int) - 1))
def la2 (l:List S25):S25:=q0A l (wrap64 ((l.length:Int) - 2))
def sm (k:Nat) (n:S25):Option Bool:=q1W.f k n.f0 n.f1 n.f2 n.f3
def q3I (l:List S25) (b:Int):List S25:=l++[⟨wrap64 (1 + Int.tmod (wrap64 (b / 3)) 3),⟨#[]⟩,0,[]⟩]
def q6L (k:Nat) (l:List S25) (b:Int) (r:List S25):Option (List S25):=
 if 2≤l.length then (sm k (la1 l)).bind fun t=>if t = true then (sm k (la2 l)).bind fun u=>if u = true then some r else some (q3I l b) else some (q3I l b) else some (q3I l b)
def q5J (k:Nat) (l:List S25) (b:Int) (r:List S25):Option (List S25):=
 if 1≤l.length then (sm k (la1 l)).bind fun t=>if t = true then some r else some (q3I l b) else some (q3I l b)
def v2Q (k:Nat) (l:List S25) (b names:Int) (counted:Bool):Int → Option (List S25)
 | 3=>if 0 < names then (if Int.tmod (b / 12) names < 3 then some (l++[⟨4,rdOf ByteArray.empty [⟨#[100]⟩,⟨#[115]⟩,⟨#[116]⟩] (Int.tmod (b / 12) names),0,[]⟩]) else none) else some (q3I l b)
 | 4=>q6L k l b (l.take (l.length - 2)++[⟨6,⟨#[]⟩,0,[la2 l,la1 l]⟩])
 | 5=>q5J k l b (l.take (l.length - 1)++[⟨7,⟨#[]⟩,Int.tmod (b / 12) 4,[la1 l]⟩])
 | 6=>q5J k l b (l.take (l.length - 1)++[⟨8,⟨#[]⟩,0,[la1 l]⟩])
 | 7=>some (l++[⟨9,⟨#[]⟩,0,[]⟩])
 | 8=>some (l++[⟨10,⟨#[]⟩,0,[]⟩])
 | 9=>some (l++[⟨11,rdOf ByteArray.empty [⟨#[109]⟩,⟨#[110]⟩] ((b / 12) % 2),0,[]⟩])
 | 10=>if counted = true then q5J k l b (l.take (l.length - 1)++[⟨12,⟨#[99]⟩,0,[la1 l]⟩]) else some (q3I l b)
 | 11=>q6L k l b (l.take (l.length - 2)++[⟨7,⟨#[]⟩,2,[⟨5,⟨#[]⟩,0,[la2 l,la1 l]⟩]⟩])
 | _=>some (q3I l b)
def q3K.f (k:Nat) (l:List S25) (b names:Int) (counted:Bool):Option (List S25):=if l.length < 1000 then v2Q k l b names counted (b % 12) else none
theorem V0 (W:World) (base:Nat) (ok:Nat → Prop) (A:Option Addr) (c:Nat):Kd.V k25 25 W base ok (.slice A ([]:List S25).length c) []:=Kd.V_mk (q2c _) (fun _ _=>⟨rfl,q2c _,fun h=>absurd h (Nat.lt_irrefl _)⟩)
abbrev gN (w0 W:World) (v:Value) (l:List S25):Prop:=Kd.N k25 25 W w0.heap.size (fun k_=>w0.heap.size≤k_) v l
abbrev gV (w0 W:World) (v u:Value) (l:List S25):Prop:=Kd.V k25 25 W w0.heap.size (fun k_=>w0.heap.size≤k_∧some k_≠v.ownBlock) u l
abbrev q4U (w0:World) (r:List S25) (e:Ending) (w':World):Prop:=∃ v',e = .returned v'∧gN w0 w' v' r∧Below w0.heap.size w0 w'
section
variable {ops:Array Oper} {rest:List Oper} {o:Oper} {a:Act} {Q:Exit → Act → World → Prop} {Kc:Act → World → Prop} {w0 W:World} {v:Value} {l:List S25} {A:Option Addr} {c:Nat}
/-- append(l, n), behind 'at_builtin'. -/
theorem apN (N s x:Tmp) (n:S25) (HO:gN w0 W v l) (HB:Below w0.heap.size w0 W) (hl:l.length < 1000)
  (hk:gV w0 W v (.slice A n.f3.length c) n.f3)
  (h:∀ v1 w1,gN w0 w1 v1 (l++[n]) → Below w0.heap.size w0 w1 → wpList Tryd.prog ops Q rest (a.put (some N) v1) w1)
  (hs:a.eval (.tmp s) = v:=by exact rfl) (hx:a.eval (.tmp x) = .slice (some ⟨W.heap.size,0,none⟩) 1 1:=by exact rfl)
  (hd:o.dst = some N:=by exact rfl) (hg:o.guard = none:=by exact rfl) (ho:o.op = .call {callee:=.builtin .append,args:=#[.tmp s,.tmp x],argTypes:=#[23,23]}:=by exact rfl) :
  wpList Tryd.prog ops Q (o :: rest) a (W.alloc (.cells #[.int .i64 n.f0,.string n.f1,.int .i64 n.f2,.slice A n.f3.length c] 25)):=
 Kd.N_append k25 w0.heap.size hg (.tmp s) (.tmp x) 23 25 (.agg #[(.int .i64 0),(.string ⟨#[]⟩),(.int .i64 0),(.slice none 0 0)]) 56 ho Tryd.underlying23 q8F rfl (by decide) (by omega) v l n [.int .i64 n.f0,.string n.f1,.int .i64 n.f2,.slice A n.f3.length c] (fun k_=>w0.heap.size≤k_) (fun k_=>w0.heap.size≤k_∧some k_≠v.ownBlock) hs hx
  (q5b _ _ n (q0y hk).2.1 (Kd.V_F hk)) (fun _ hk=>hk) (fun k_ hk=>q0k HB.size hk) HO HB HB.size (by omega) (fun v1 w1 ho hb _ _=>hd ▸ h v1 w1 ho hb)
theorem apS (N s x:Tmp) (n:S25) (HO:gN w0 W v l) (HB:Below w0.heap.size w0 W) (hl:l.length < 1000)
  (hk:gV w0 W v (.slice A n.f3.length c) n.f3)
  (h:∀ v1 w1,gN w0 w1 v1 (l++[n]) → Below w0.heap.size w0 w1 → Kc (a.put (some N) v1) w1)
  (hs:a.eval (.tmp s) = v:=by exact rfl) (hx:a.eval (.tmp x) = .slice (some ⟨W.heap.size,0,none⟩) 1 1:=by exact rfl)
  (hd:o.dst = some N:=by exact rfl) (hw:Region.wanted o (yielded ops a.tmps) = true:=by rfl) (ho:o.op = .call {callee:=.builtin .append,args:=#[.tmp s,.tmp x],argTypes:=#[23,23]}:=by exact rfl) :
  if Region.wanted o (yielded ops a.tmps) = true then Oper.wp Tryd.prog o a (W.alloc (.cells #[.int .i64 n.f0,.string n.f1,.int .i64 n.f2,.slice A n.f3.length c] 25)) Kc Q else Kc (a.put o.dst undef) (W.alloc (.cells #[.int .i64 n.f0,.string n.f1,.int .i64 n.f2,.slice A n.f3.length c] 25)):=
 Kd.N_append_step k25 w0.heap.size hw (.tmp s) (.tmp x) 23 25 (.agg #[(.int .i64 0),(.string ⟨#[]⟩),(.int .i64 0),(.slice none 0 0)]) 56 ho Tryd.underlying23 q8F rfl (by decide) (by omega) v l n [.int .i64 n.f0,.string n.f1,.int .i64 n.f2,.slice A n.f3.length c] (fun k_=>w0.heap.size≤k_) (fun k_=>w0.heap.size≤k_∧some k_≠v.ownBlock) hs hx
  (q5b _ _ n (q0y hk).2.1 (Kd.V_F hk)) (fun _ hk=>hk) (fun k_ hk=>q0k HB.size hk) HO HB HB.size (by omega) (fun v1 w1 ho hb _ _=>hd ▸ h v1 w1 ho hb)
theorem liS1 {oi:Oper} (N:Tmp) (n:S25) (HO:gN w0 W v l) (HB:Below w0.heap.size w0 W) (hk:gV w0 W v (.slice A n.f3.length c) n.f3)
  (hrun:(execOp a.eval oi).run Tryd.prog W = .ok (.value (.slice (some ⟨W.heap.size,0,none⟩) 1 1)) (W.alloc (.cells #[.int .i64 n.f0,.string n.f1,.int .i64 n.f2,.slice A n.f3.length c] 25)))
  (h:∀ A1 c1 w1,gV w0 w1 v (.slice A1 1 c1) [n] → gN w0 w1 v l → Below W.heap.size W w1 → Kc (a.put oi.dst (.slice A1 1 c1)) w1)
  (hd:oi.dst = some N:=by exact rfl) (hw:Region.wanted oi (yielded ops a.tmps) = true:=by rfl):if Region.wanted oi (yielded ops a.tmps) = true then Oper.wp Tryd.prog oi a W Kc Q else Kc (a.put oi.dst undef) W:=
 Kd.N_lit_step k25 W.heap.size 25 hw (N':=N) hd (xs:=[n]) (inner:=[.int .i64 n.f0,.string n.f1,.int .i64 n.f2,.slice A n.f3.length c]) (ok:=fun k_=>w0.heap.size≤k_∧some k_≠v.ownBlock) (okp:=fun k_=>w0.heap.size≤k_∧some k_≠v.ownBlock) hrun
  (Reps.c4 (q5b _ _ n (q0y hk).2.1 (Kd.V_F hk)) (q2T _ _)) (fun _ hk=>hk) ⟨HB.size,q1y (q2O HO) _ (q0f _)⟩ (q0i _ _) (q0f _) (by simp) (fun v1 w1 ho hb _ _=>by
   obtain ⟨A1,c1,rfl⟩:=q1o ho
   exact h A1 c1 w1 (Kd.N_V ho) (q0u HO hb) hb)
theorem liS2 {A':Option Addr} {c':Nat} {oi:Oper} (N:Tmp) (n n':S25) (HO:gN w0 W v l) (HB:Below w0.heap.size w0 W) (hk:gV w0 W v (.slice A n.f3.length c) n.f3) (hk':gV w0 W v (.slice A' n'.f3.length c') n'.f3)
  (hrun:(execOp a.eval oi).run Tryd.prog W = .ok (.value (.slice (some ⟨W.heap.size,0,none⟩) 2 2)) (W.alloc (.cells #[.int .i64 n.f0,.string n.f1,.int .i64 n.f2,.slice A n.f3.length c,.int .i64 n'.f0,.string n'.f1,.int .i64 n'.f2,.slice A' n'.f3.length c'] 25)))
  (h:∀ A1 c1 w1,gV w0 w1 v (.slice A1 2 c1) [n,n'] → gN w0 w1 v l → Below W.heap.size W w1 → Kc (a.put oi.dst (.slice A1 2 c1)) w1)
  (hd:oi.dst = some N:=by exact rfl) (hw:Region.wanted oi (yielded ops a.tmps) = true:=by rfl):if Region.wanted oi (yielded ops a.tmps) = true then Oper.wp Tryd.prog oi a W Kc Q else Kc (a.put oi.dst undef) W:=
 Kd.N_lit_step k25 W.heap.size 25 hw (N':=N) hd (xs:=[n,n']) (inner:=[.int .i64 n.f0,.string n.f1,.int .i64 n.f2,.slice A n.f3.length c,.int .i64 n'.f0,.string n'.f1,.int .i64 n'.f2,.slice A' n'.f3.length c']) (ok:=fun k_=>w0.heap.size≤k_∧some k_≠v.ownBlock) (okp:=fun k_=>w0.heap.size≤k_∧some k_≠v.ownBlock) hrun
  (Reps.c4 (q5b _ _ n (q0y hk).2.1 (Kd.V_F hk)) (Reps.c4 (q5b _ _ n' (q0y hk').2.1 (Kd.V_F hk')) (q2T _ _))) (fun _ hk=>hk) ⟨HB.size,q1y (q2O HO) _ (q0f _)⟩ (q0i _ _) (q0f _) (by simp) (fun v1 w1 ho hb _ _=>by
   obtain ⟨A1,c1,rfl⟩:=q1o ho
   exact h A1 c1 w1 (Kd.N_V ho) (q0u HO hb) hb)
end
section
variable {w W:World} {a1 a2 a3 a4 a5 a6 a7 a8:Addr} {v1 v2 v3 v4 v5 v6 v7 v8:Value}
theorem sB4 (hb:Below w.heap.size w W) (h:w.cell? a1 = some v1∧w.cell? a2 = some v2∧w.cell? a3 = some v3∧w.cell? a4 = some v4):W.cell? a1 = some v1∧W.cell? a2 = some v2∧W.cell? a3 = some v3∧W.cell? a4 = some v4:=⟨cB ⟨hb⟩ h.1,cB ⟨hb⟩ h.2.1,cB ⟨hb⟩ h.2.2.1,cB ⟨hb⟩ h.2.2.2⟩
theorem sB8 (hb:Below w.heap.size w W) (h:w.cell? a1 = some v1∧w.cell? a2 = some v2∧w.cell? a3 = some v3∧w.cell? a4 = some v4∧w.cell? a5 = some v5∧w.cell? a6 = some v6∧w.cell? a7 = some v7∧w.cell? a8 = some v8):W.cell? a1 = some v1∧W.cell? a2 = some v2∧W.cell? a3 = some v3∧W.cell? a4 = some v4∧W.cell? a5 = some v5∧W.cell? a6 = some v6∧W.cell? a7 = some v7∧W.cell? a8 = some v8:=
 ⟨cB ⟨hb⟩ h.1,cB ⟨hb⟩ h.2.1,cB ⟨hb⟩ h.2.2.1,cB ⟨hb⟩ h.2.2.2.1,sB4 hb h.2.2.2.2⟩
end
end
section
attribute [local go_sem] q1X q2F q2H q3c q3b q2u q2t q2E q2G
set_option linter.unusedVariables false
set_option linter.unusedSimpArgs false
set_option maxHeartbeats 8000000 in
set_option maxRecDepth 100000 in
theorem q8Y (w0:World) (k:Nat) (A:Option Addr) (c:Nat) (l:List S25) (b names:Int) (counted:Bool) (w:World) (hb0:Below w0.heap.size w0 w) (hO:gN w0 w (.slice A l.length c) l) (hl:l.length < 1000) (h0:0≤b) (h1:b < 256) (hq:b % 12 = 0∨b % 12 = 1∨b % 12 = 2) :
  Calls Tryd.prog 50 #[.slice A l.length c,.int .u8 b,.int .i64 names,.bool counted] w fun e w'=>q4U w0 (q3I l b) e w':=by
 rcases hq with hq | hq | hq
 all_goals
  have hu25:=Tryd.underlying25
  have HB:=am hb0
  have HO:=am hO
  have HL:=am hl
  clear hb0 hO hl
  go_enter Tryd.func50,Tryd.ntmps50
  go_wp2_with (first|((with_reducible refine gc 47 ?_);refine gL (some 239) Tryd.func47 #[.int .u8 (b / 3)] ?_;refine (q2w.calls (b / 3) _ _ _ _ _ rfl).mono ?_;rintro e w1 ⟨v3,rfl,hR,hb⟩;refine ⟨_,rfl,?_⟩;replace HO:=am (q0u (aN HO.out) hb);replace HB:=bS (show Below w0.heap.size w0 _ by repeat (first | exact HB.out | apply q0m | apply q0l)) hb;obtain ⟨A3,c3,rfl⟩:=q0I hR;clear hR hb)|((with_reducible refine q1J (b:=.append) (xs:=#[.tmp 236,.tmp 240]) rfl ?_);(try (refine q1l (by rfl) ?_;dsimp only));at_builtin;refine apN 241 236 240 ⟨wrap64 (1 + Int.tmod (wrap64 (b / 3)) 3),⟨#[]⟩,0,[]⟩ (aN HO.out) ?aB HL.out (V0 _ _ _ _ _) ?_;(case aB=>repeat (first | exact HB.out | apply q0m | apply q0l));intro v1 w1 hO hB;replace HO:=am hO;replace HB:=am hB;clear hO hB))
  go_ret
  exact ⟨_,rfl,aN HO.out,by repeat (first | exact HB.out | apply q0m | apply q0l)⟩
set_option maxHeartbeats 8000000 in
set_option maxRecDepth 100000 in
theorem v2r (w0:World) (k:Nat) (A:Option Addr) (c:Nat) (l:List S25) (b names:Int) (counted:Bool) (w:World) (hb0:Below w0.heap.size w0 w) (hO:gN w0 w (.slice A l.length c) l) (hl:l.length < 1000) (h0:0≤b) (h1:b < 256) (hq:b % 12 = 3) (hn : ¬ 0 < names) :
  Calls Tryd.prog 50 #[.slice A l.length c,.int .u8 b,.int .i64 names,.bool counted] w fun e w'=>q4U w0 (q3I l b) e w':=by
 have hu25:=Tryd.underlying25
 have HB:=am hb0
 have HO:=am hO
 have HL:=am hl
 clear hb0 hO hl
 have hn':=eq_false hn
 go_enter Tryd.func50,Tryd.ntmps50
 go_wp2_with (first|((with_reducible refine gc 47 ?_);refine gL (some 239) Tryd.func47 #[.int .u8 (b / 3)] ?_;refine (q2w.calls (b / 3) _ _ _ _ _ rfl).mono ?_;rintro e w1 ⟨v3,rfl,hR,hb⟩;refine ⟨_,rfl,?_⟩;replace HO:=am (q0u (aN HO.out) hb);replace HB:=bS (show Below w0.heap.size w0 _ by repeat (first | exact HB.out | apply q0m | apply q0l)) hb;obtain ⟨A3,c3,rfl⟩:=q0I hR;clear hR hb)|((with_reducible refine q1J (b:=.append) (xs:=#[.tmp 236,.tmp 240]) rfl ?_);(try (refine q1l (by rfl) ?_;dsimp only));at_builtin;refine apN 241 236 240 ⟨wrap64 (1 + Int.tmod (wrap64 (b / 3)) 3),⟨#[]⟩,0,[]⟩ (aN HO.out) ?aB HL.out (V0 _ _ _ _ _) ?_;(case aB=>repeat (first | exact HB.out | apply q0m | apply q0l));intro v1 w1 hO hB;replace HO:=am hO;replace HB:=am hB;clear hO hB))
 go_ret
 exact ⟨_,rfl,aN HO.out,by repeat (first | exact HB.out | apply q0m | apply q0l)⟩
set_option maxHeartbeats 8000000 in
set_option maxRecDepth 100000 in
theorem grown_7 (w0:World) (k:Nat) (A:Option Addr) (c:Nat) (l:List S25) (b names:Int) (counted:Bool) (w:World) (hb0:Below w0.heap.size w0 w) (hO:gN w0 w (.slice A l.length c) l) (hl:l.length < 1000) (h0:0≤b) (h1:b < 256) (hq:b % 12 = 7) :
  Calls Tryd.prog 50 #[.slice A l.length c,.int .u8 b,.int .i64 names,.bool counted] w fun e w'=>q4U w0 (l++[⟨9,⟨#[]⟩,0,[]⟩]) e w':=by
 have hu25:=Tryd.underlying25
 have HB:=am hb0
 have HO:=am hO
 have HL:=am hl
 clear hb0 hO hl
 go_enter Tryd.func50,Tryd.ntmps50
 go_wp2_with (first|((with_reducible refine q1J (b:=.append) (xs:=#[.tmp 139,.tmp 141]) rfl ?_);(try (refine q1l (by rfl) ?_;dsimp only));at_builtin;refine apN 142 139 141 ⟨9,⟨#[]⟩,0,[]⟩ (aN HO.out) ?aB HL.out (V0 _ _ _ _ _) ?_;(case aB=>repeat (first | exact HB.out | apply q0m | apply q0l));intro v1 w1 hO hB;replace HO:=am hO;replace HB:=am hB;clear hO hB))
 go_ret
 exact ⟨_,rfl,aN HO.out,by repeat (first | exact HB.out | apply q0m | apply q0l)⟩
set_option maxHeartbeats 8000000 in
set_option maxRecDepth 100000 in
theorem grown_8 (w0:World) (k:Nat) (A:Option Addr) (c:Nat) (l:List S25) (b names:Int) (counted:Bool) (w:World) (hb0:Below w0.heap.size w0 w) (hO:gN w0 w (.slice A l.length c) l) (hl:l.length < 1000) (h0:0≤b) (h1:b < 256) (hq:b % 12 = 8) :
  Calls Tryd.prog 50 #[.slice A l.length c,.int .u8 b,.int .i64 names,.bool counted] w fun e w'=>q4U w0 (l++[⟨10,⟨#[]⟩,0,[]⟩]) e w':=by
 have hu25:=Tryd.underlying25
 have HB:=am hb0
 have HO:=am hO
 have HL:=am hl
 clear hb0 hO hl
 go_enter Tryd.func50,Tryd.ntmps50
 go_wp2_with (first|((with_reducible refine q1J (b:=.append) (xs:=#[.tmp 146,.tmp 148]) rfl ?_);(try (refine q1l (by rfl) ?_;dsimp only));at_builtin;refine apN 149 146 148 ⟨10,⟨#[]⟩,0,[]⟩ (aN HO.out) ?aB HL.out (V0 _ _ _ _ _) ?_;(case aB=>repeat (first | exact HB.out | apply q0m | apply q0l));intro v1 w1 hO hB;replace HO:=am hO;replace HB:=am hB;clear hO hB))
 go_ret
 exact ⟨_,rfl,aN HO.out,by repeat (first | exact HB.out | apply q0m | apply q0l)⟩
end
section
attribute [local go_sem] q1X q2F q2H q3c q3b q2u q2t q2E q2G
set_option linter.unusedVariables false
set_option linter.unusedSimpArgs false
set_option maxHeartbeats 8000000 in
set_option maxRecDepth 100000 in
theorem v2c (w0:World) (k:Nat) (A:Option Addr) (c:Nat) (l:List S25) (b names:Int) (counted:Bool) (w:World) (hb0:Below w0.heap.size w0 w) (hO:gN w0 w (.slice A l.length c) l) (hl:l.length < 1000) (h0:0≤b) (h1:b < 256) (hq:b % 12 = 4) (hn : ¬ 2≤l.length) :
  Calls Tryd.prog 50 #[.slice A l.length c,.int .u8 b,.int .i64 names,.bool counted] w fun e w'=>q4U w0 (q3I l b) e w':=by
 have ge_:(2≤(l.length:Int)) = False:=eq_false (by omega)
 have hu25:=Tryd.underlying25
 have HB:=am hb0
 have HO:=am hO
 have HL:=am hl
 clear hb0 hO hl
 go_enter Tryd.func50,Tryd.ntmps50
 go_wp2_with (first|((with_reducible refine gc 47 ?_);refine gL (some 239) Tryd.func47 #[.int .u8 (b / 3)] ?_;refine (q2w.calls (b / 3) _ _ _ _ _ rfl).mono ?_;rintro e w1 ⟨v3,rfl,hR,hb⟩;refine ⟨_,rfl,?_⟩;replace HO:=am (q0u (aN HO.out) hb);replace HB:=bS (show Below w0.heap.size w0 _ by repeat (first | exact HB.out | apply q0m | apply q0l)) hb;obtain ⟨A3,c3,rfl⟩:=q0I hR;clear hR hb)|((with_reducible refine q1J (b:=.append) (xs:=#[.tmp 236,.tmp 240]) rfl ?_);(try (refine q1l (by rfl) ?_;dsimp only));at_builtin;refine apN 241 236 240 ⟨wrap64 (1 + Int.tmod (wrap64 (b / 3)) 3),⟨#[]⟩,0,[]⟩ (aN HO.out) ?aB HL.out (V0 _ _ _ _ _) ?_;(case aB=>repeat (first | exact HB.out | apply q0m | apply q0l));intro v1 w1 hO hB;replace HO:=am hO;replace HB:=am hB;clear hO hB))
 go_ret
 exact ⟨_,rfl,aN HO.out,by repeat (first | exact HB.out | apply q0m | apply q0l)⟩
set_option maxHeartbeats 8000000 in
set_option maxRecDepth 100000 in
theorem v1x (w0:World) (k:Nat) (A:Option Addr) (c:Nat) (l:List S25) (b names:Int) (counted:Bool) (w:World) (hb0:Below w0.heap.size w0 w) (hO:gN w0 w (.slice A l.length c) l) (hl:l.length < 1000) (h0:0≤b) (h1:b < 256) (hq:b % 12 = 4) (hn:2≤l.length) (A10:sm k (la1 l) = some false) :
  Calls Tryd.prog 50 #[.slice A l.length c,.int .u8 b,.int .i64 names,.bool counted] w fun e w'=>q4U w0 (q3I l b) e w':=by
 have hu25:=Tryd.underlying25
 have p1:0≤wrap64 ((l.length:Int) - 1):=by unfold wrap64;omega
 have q1:wrap64 ((l.length:Int) - 1) < (l.length:Int):=by unfold wrap64;omega
 have p2:0≤wrap64 ((l.length:Int) - 2):=by unfold wrap64;omega
 have q2:wrap64 ((l.length:Int) - 2) < (l.length:Int):=by unfold wrap64;omega
 have HB:=am hb0
 have HO:=am hO
 have HL:=am hl
 have A1:=am A10
 have ge_:(2≤(l.length:Int)) = True:=q0c (by omega)
 obtain ⟨ad,rfl⟩:=isAd HO.out (by omega)
 obtain ⟨B1,d1,x10,x11,x12,x13,l1,V1⟩:=elN HO.out _ p1 q1
 obtain ⟨B2,d2,x20,x21,x22,x23,l2,V2⟩:=elN HO.out _ p2 q2
 have p1':=q0c p1
 have q1':=q0c q1
 have p2':=q0c p2
 have q2':=q0c q2
 clear hb0 hO hl A10
 go_enter Tryd.func50,Tryd.ntmps50
 go_wp2_with (first|((with_reducible refine gd 50 ?_);(with_reducible refine gc 97 ?_);refine q1l (by rfl) ?_;dsimp only;refine gL (some 50) Tryd.func97 #[.agg #[.int .i64 (la1 l).f0,.string (la1 l).f1,.int .i64 (la1 l).f2,.slice B1 (la1 l).f3.length d1]] ?_;refine (q1W.calls k (la1 l).f0 (la1 l).f1 (la1 l).f2 B1 d1 (la1 l).f3 false _ ?sC l1 A1.out).mono ?_;(case sC=>exact (q0y (aV V1.out)).2.2);rintro e w1 ⟨rfl,hb⟩;refine ⟨_,rfl,?_⟩;replace HO:=am (q0u (aN HO.out) hb);replace HB:=bS (show Below w0.heap.size w0 _ by repeat (first | exact HB.out | apply q0m | apply q0l)) hb;clear hb;clear x10 x11 x12 x13 l1 V1;clear x20 x21 x22 x23 l2 V2;obtain ⟨B1,d1,x10,x11,x12,x13,l1,V1⟩:=elN HO.out _ p1 q1;obtain ⟨B2,d2,x20,x21,x22,x23,l2,V2⟩:=elN HO.out _ p2 q2)|((with_reducible refine gc 47 ?_);refine gL (some 239) Tryd.func47 #[.int .u8 (b / 3)] ?_;refine (q2w.calls (b / 3) _ _ _ _ _ rfl).mono ?_;rintro e w1 ⟨v3,rfl,hR,hb⟩;refine ⟨_,rfl,?_⟩;replace HO:=am (q0u (aN HO.out) hb);replace HB:=bS (show Below w0.heap.size w0 _ by repeat (first | exact HB.out | apply q0m | apply q0l)) hb;obtain ⟨A3,c3,rfl⟩:=q0I hR;clear hR hb)|((with_reducible refine q1J (b:=.append) (xs:=#[.tmp 236,.tmp 240]) rfl ?_);(try (refine q1l (by rfl) ?_;dsimp only));at_builtin;refine apN 241 236 240 ⟨wrap64 (1 + Int.tmod (wrap64 (b / 3)) 3),⟨#[]⟩,0,[]⟩ (aN HO.out) ?aB HL.out (V0 _ _ _ _ _) ?_;(case aB=>repeat (first | exact HB.out | apply q0m | apply q0l));intro v1 w1 hO hB;replace HO:=am hO;replace HB:=am hB;clear hO hB))
 go_ret
 exact ⟨_,rfl,aN HO.out,by repeat (first | exact HB.out | apply q0m | apply q0l)⟩
set_option maxHeartbeats 8000000 in
set_option maxRecDepth 100000 in
theorem v2t (w0:World) (k:Nat) (A:Option Addr) (c:Nat) (l:List S25) (b names:Int) (counted:Bool) (w:World) (hb0:Below w0.heap.size w0 w) (hO:gN w0 w (.slice A l.length c) l) (hl:l.length < 1000) (h0:0≤b) (h1:b < 256) (hq:b % 12 = 4) (hn:2≤l.length) (A10:sm k (la1 l) = some true) (A20:sm k (la2 l) = some false) :
  Calls Tryd.prog 50 #[.slice A l.length c,.int .u8 b,.int .i64 names,.bool counted] w fun e w'=>q4U w0 (q3I l b) e w':=by
 have hu25:=Tryd.underlying25
 have p1:0≤wrap64 ((l.length:Int) - 1):=by unfold wrap64;omega
 have q1:wrap64 ((l.length:Int) - 1) < (l.length:Int):=by unfold wrap64;omega
 have p2:0≤wrap64 ((l.length:Int) - 2):=by unfold wrap64;omega
 have q2:wrap64 ((l.length:Int) - 2) < (l.length:Int):=by unfold wrap64;omega
 have HB:=am hb0
 have HO:=am hO
 have HL:=am hl
 have A1:=am A10
 have A2:=am A20
 have ge_:(2≤(l.length:Int)) = True:=q0c (by omega)
 obtain ⟨ad,rfl⟩:=isAd HO.out (by omega)
 obtain ⟨B1,d1,x10,x11,x12,x13,l1,V1⟩:=elN HO.out _ p1 q1
 obtain ⟨B2,d2,x20,x21,x22,x23,l2,V2⟩:=elN HO.out _ p2 q2
 have p1':=q0c p1
 have q1':=q0c q1
 have p2':=q0c p2
 have q2':=q0c q2
 clear hb0 hO hl A10 A20
 go_enter Tryd.func50,Tryd.ntmps50
 go_wp2_with (first|((with_reducible refine gd 50 ?_);(with_reducible refine gc 97 ?_);refine q1l (by rfl) ?_;dsimp only;refine gL (some 50) Tryd.func97 #[.agg #[.int .i64 (la1 l).f0,.string (la1 l).f1,.int .i64 (la1 l).f2,.slice B1 (la1 l).f3.length d1]] ?_;refine (q1W.calls k (la1 l).f0 (la1 l).f1 (la1 l).f2 B1 d1 (la1 l).f3 true _ ?sC l1 A1.out).mono ?_;(case sC=>exact (q0y (aV V1.out)).2.2);rintro e w1 ⟨rfl,hb⟩;refine ⟨_,rfl,?_⟩;replace HO:=am (q0u (aN HO.out) hb);replace HB:=bS (show Below w0.heap.size w0 _ by repeat (first | exact HB.out | apply q0m | apply q0l)) hb;clear hb;clear x10 x11 x12 x13 l1 V1;clear x20 x21 x22 x23 l2 V2;obtain ⟨B1,d1,x10,x11,x12,x13,l1,V1⟩:=elN HO.out _ p1 q1;obtain ⟨B2,d2,x20,x21,x22,x23,l2,V2⟩:=elN HO.out _ p2 q2)|((with_reducible refine gd 58 ?_);(with_reducible refine gc 97 ?_);refine q1l (by rfl) ?_;dsimp only;refine gL (some 58) Tryd.func97 #[.agg #[.int .i64 (la2 l).f0,.string (la2 l).f1,.int .i64 (la2 l).f2,.slice B2 (la2 l).f3.length d2]] ?_;refine (q1W.calls k (la2 l).f0 (la2 l).f1 (la2 l).f2 B2 d2 (la2 l).f3 false _ ?sC l2 A2.out).mono ?_;(case sC=>exact (q0y (aV V2.out)).2.2);rintro e w1 ⟨rfl,hb⟩;refine ⟨_,rfl,?_⟩;replace HO:=am (q0u (aN HO.out) hb);replace HB:=bS (show Below w0.heap.size w0 _ by repeat (first | exact HB.out | apply q0m | apply q0l)) hb;clear hb;clear x10 x11 x12 x13 l1 V1;clear x20 x21 x22 x23 l2 V2;obtain ⟨B1,d1,x10,x11,x12,x13,l1,V1⟩:=elN HO.out _ p1 q1;obtain ⟨B2,d2,x20,x21,x22,x23,l2,V2⟩:=elN HO.out _ p2 q2)|((with_reducible refine gc 47 ?_);refine gL (some 239) Tryd.func47 #[.int .u8 (b / 3)] ?_;refine (q2w.calls (b / 3) _ _ _ _ _ rfl).mono ?_;rintro e w1 ⟨v3,rfl,hR,hb⟩;refine ⟨_,rfl,?_⟩;replace HO:=am (q0u (aN HO.out) hb);replace HB:=bS (show Below w0.heap.size w0 _ by repeat (first | exact HB.out | apply q0m | apply q0l)) hb;obtain ⟨A3,c3,rfl⟩:=q0I hR;clear hR hb)|((with_reducible refine q1J (b:=.append) (xs:=#[.tmp 236,.tmp 240]) rfl ?_);(try (refine q1l (by rfl) ?_;dsimp only));at_builtin;refine apN 241 236 240 ⟨wrap64 (1 + Int.tmod (wrap64 (b / 3)) 3),⟨#[]⟩,0,[]⟩ (aN HO.out) ?aB HL.out (V0 _ _ _ _ _) ?_;(case aB=>repeat (first | exact HB.out | apply q0m | apply q0l));intro v1 w1 hO hB;replace HO:=am hO;replace HB:=am hB;clear hO hB))
 go_ret
 exact ⟨_,rfl,aN HO.out,by repeat (first | exact HB.out | apply q0m | apply q0l)⟩
set_option maxHeartbeats 8000000 in
set_option maxRecDepth 100000 in
theorem v2y (w0:World) (k:Nat) (A:Option Addr) (c:Nat) (l:List S25) (b names:Int) (counted:Bool) (w:World) (hb0:Below w0.heap.size w0 w) (hO:gN w0 w (.slice A l.length c) l) (hl:l.length < 1000) (h0:0≤b) (h1:b < 256) (hq:b % 12 = 5) (hn : ¬ 1≤l.length) :
  Calls Tryd.prog 50 #[.slice A l.length c,.int .u8 b,.int .i64 names,.bool counted] w fun e w'=>q4U w0 (q3I l b) e w':=by
 have ge_:(1≤(l.length:Int)) = False:=eq_false (by omega)
 have hu25:=Tryd.underlying25
 have HB:=am hb0
 have HO:=am hO
 have HL:=am hl
 clear hb0 hO hl
 go_enter Tryd.func50,Tryd.ntmps50
 go_wp2_with (first|((with_reducible refine gc 47 ?_);refine gL (some 239) Tryd.func47 #[.int .u8 (b / 3)] ?_;refine (q2w.calls (b / 3) _ _ _ _ _ rfl).mono ?_;rintro e w1 ⟨v3,rfl,hR,hb⟩;refine ⟨_,rfl,?_⟩;replace HO:=am (q0u (aN HO.out) hb);replace HB:=bS (show Below w0.heap.size w0 _ by repeat (first | exact HB.out | apply q0m | apply q0l)) hb;obtain ⟨A3,c3,rfl⟩:=q0I hR;clear hR hb)|((with_reducible refine q1J (b:=.append) (xs:=#[.tmp 236,.tmp 240]) rfl ?_);(try (refine q1l (by rfl) ?_;dsimp only));at_builtin;refine apN 241 236 240 ⟨wrap64 (1 + Int.tmod (wrap64 (b / 3)) 3),⟨#[]⟩,0,[]⟩ (aN HO.out) ?aB HL.out (V0 _ _ _ _ _) ?_;(case aB=>repeat (first | exact HB.out | apply q0m | apply q0l));intro v1 w1 hO hB;replace HO:=am hO;replace HB:=am hB;clear hO hB))
 go_ret
 exact ⟨_,rfl,aN HO.out,by repeat (first | exact HB.out | apply q0m | apply q0l)⟩
set_option maxHeartbeats 8000000 in
set_option maxRecDepth 100000 in
theorem v2o (w0:World) (k:Nat) (A:Option Addr) (c:Nat) (l:List S25) (b names:Int) (counted:Bool) (w:World) (hb0:Below w0.heap.size w0 w) (hO:gN w0 w (.slice A l.length c) l) (hl:l.length < 1000) (h0:0≤b) (h1:b < 256) (hq:b % 12 = 5) (hn:1≤l.length) (A10:sm k (la1 l) = some false) :
  Calls Tryd.prog 50 #[.slice A l.length c,.int .u8 b,.int .i64 names,.bool counted] w fun e w'=>q4U w0 (q3I l b) e w':=by
 have hu25:=Tryd.underlying25
 have p1:0≤wrap64 ((l.length:Int) - 1):=by unfold wrap64;omega
 have q1:wrap64 ((l.length:Int) - 1) < (l.length:Int):=by unfold wrap64;omega
 have HB:=am hb0
 have HO:=am hO
 have HL:=am hl
 have A1:=am A10
 have ge_:(1≤(l.length:Int)) = True:=q0c (by omega)
 obtain ⟨ad,rfl⟩:=isAd HO.out (by omega)
 obtain ⟨B1,d1,x10,x11,x12,x13,l1,V1⟩:=elN HO.out _ p1 q1
 have p1':=q0c p1
 have q1':=q0c q1
 clear hb0 hO hl A10
 go_enter Tryd.func50,Tryd.ntmps50
 go_wp2_with (first|((with_reducible refine gd 91 ?_);(with_reducible refine gc 97 ?_);refine q1l (by rfl) ?_;dsimp only;refine gL (some 91) Tryd.func97 #[.agg #[.int .i64 (la1 l).f0,.string (la1 l).f1,.int .i64 (la1 l).f2,.slice B1 (la1 l).f3.length d1]] ?_;refine (q1W.calls k (la1 l).f0 (la1 l).f1 (la1 l).f2 B1 d1 (la1 l).f3 false _ ?sC l1 A1.out).mono ?_;(case sC=>exact (q0y (aV V1.out)).2.2);rintro e w1 ⟨rfl,hb⟩;refine ⟨_,rfl,?_⟩;replace HO:=am (q0u (aN HO.out) hb);replace HB:=bS (show Below w0.heap.size w0 _ by repeat (first | exact HB.out | apply q0m | apply q0l)) hb;clear hb;clear x10 x11 x12 x13 l1 V1;obtain ⟨B1,d1,x10,x11,x12,x13,l1,V1⟩:=elN HO.out _ p1 q1)|((with_reducible refine gc 47 ?_);refine gL (some 239) Tryd.func47 #[.int .u8 (b / 3)] ?_;refine (q2w.calls (b / 3) _ _ _ _ _ rfl).mono ?_;rintro e w1 ⟨v3,rfl,hR,hb⟩;refine ⟨_,rfl,?_⟩;replace HO:=am (q0u (aN HO.out) hb);replace HB:=bS (show Below w0.heap.size w0 _ by repeat (first | exact HB.out | apply q0m | apply q0l)) hb;obtain ⟨A3,c3,rfl⟩:=q0I hR;clear hR hb)|((with_reducible refine q1J (b:=.append) (xs:=#[.tmp 236,.tmp 240]) rfl ?_);(try (refine q1l (by rfl) ?_;dsimp only));at_builtin;refine apN 241 236 240 ⟨wrap64 (1 + Int.tmod (wrap64 (b / 3)) 3),⟨#[]⟩,0,[]⟩ (aN HO.out) ?aB HL.out (V0 _ _ _ _ _) ?_;(case aB=>repeat (first | exact HB.out | apply q0m | apply q0l));intro v1 w1 hO hB;replace HO:=am hO;replace HB:=am hB;clear hO hB))
 go_ret
 exact ⟨_,rfl,aN HO.out,by repeat (first | exact HB.out | apply q0m | apply q0l)⟩
set_option maxHeartbeats 8000000 in
set_option maxRecDepth 100000 in
theorem v1z (w0:World) (k:Nat) (A:Option Addr) (c:Nat) (l:List S25) (b names:Int) (counted:Bool) (w:World) (hb0:Below w0.heap.size w0 w) (hO:gN w0 w (.slice A l.length c) l) (hl:l.length < 1000) (h0:0≤b) (h1:b < 256) (hq:b % 12 = 6) (hn : ¬ 1≤l.length) :
  Calls Tryd.prog 50 #[.slice A l.length c,.int .u8 b,.int .i64 names,.bool counted] w fun e w'=>q4U w0 (q3I l b) e w':=by
 have ge_:(1≤(l.length:Int)) = False:=eq_false (by omega)
 have hu25:=Tryd.underlying25
 have HB:=am hb0
 have HO:=am hO
 have HL:=am hl
 clear hb0 hO hl
 go_enter Tryd.func50,Tryd.ntmps50
 go_wp2_with (first|((with_reducible refine gc 47 ?_);refine gL (some 239) Tryd.func47 #[.int .u8 (b / 3)] ?_;refine (q2w.calls (b / 3) _ _ _ _ _ rfl).mono ?_;rintro e w1 ⟨v3,rfl,hR,hb⟩;refine ⟨_,rfl,?_⟩;replace HO:=am (q0u (aN HO.out) hb);replace HB:=bS (show Below w0.heap.size w0 _ by repeat (first | exact HB.out | apply q0m | apply q0l)) hb;obtain ⟨A3,c3,rfl⟩:=q0I hR;clear hR hb)|((with_reducible refine q1J (b:=.append) (xs:=#[.tmp 236,.tmp 240]) rfl ?_);(try (refine q1l (by rfl) ?_;dsimp only));at_builtin;refine apN 241 236 240 ⟨wrap64 (1 + Int.tmod (wrap64 (b / 3)) 3),⟨#[]⟩,0,[]⟩ (aN HO.out) ?aB HL.out (V0 _ _ _ _ _) ?_;(case aB=>repeat (first | exact HB.out | apply q0m | apply q0l));intro v1 w1 hO hB;replace HO:=am hO;replace HB:=am hB;clear hO hB))
 go_ret
 exact ⟨_,rfl,aN HO.out,by repeat (first | exact HB.out | apply q0m | apply q0l)⟩
set_option maxHeartbeats 8000000 in
set_option maxRecDepth 100000 in
theorem v2h (w0:World) (k:Nat) (A:Option Addr) (c:Nat) (l:List S25) (b names:Int) (counted:Bool) (w:World) (hb0:Below w0.heap.size w0 w) (hO:gN w0 w (.slice A l.length c) l) (hl:l.length < 1000) (h0:0≤b) (h1:b < 256) (hq:b % 12 = 6) (hn:1≤l.length) (A10:sm k (la1 l) = some false) :
  Calls Tryd.prog 50 #[.slice A l.length c,.int .u8 b,.int .i64 names,.bool counted] w fun e w'=>q4U w0 (q3I l b) e w':=by
 have hu25:=Tryd.underlying25
 have p1:0≤wrap64 ((l.length:Int) - 1):=by unfold wrap64;omega
 have q1:wrap64 ((l.length:Int) - 1) < (l.length:Int):=by unfold wrap64;omega
 have HB:=am hb0
 have HO:=am hO
 have HL:=am hl
 have A1:=am A10
 have ge_:(1≤(l.length:Int)) = True:=q0c (by omega)
 obtain ⟨ad,rfl⟩:=isAd HO.out (by omega)
 obtain ⟨B1,d1,x10,x11,x12,x13,l1,V1⟩:=elN HO.out _ p1 q1
 have p1':=q0c p1
 have q1':=q0c q1
 clear hb0 hO hl A10
 go_enter Tryd.func50,Tryd.ntmps50
 go_wp2_with (first|((with_reducible refine gd 121 ?_);(with_reducible refine gc 97 ?_);refine q1l (by rfl) ?_;dsimp only;refine gL (some 121) Tryd.func97 #[.agg #[.int .i64 (la1 l).f0,.string (la1 l).f1,.int .i64 (la1 l).f2,.slice B1 (la1 l).f3.length d1]] ?_;refine (q1W.calls k (la1 l).f0 (la1 l).f1 (la1 l).f2 B1 d1 (la1 l).f3 false _ ?sC l1 A1.out).mono ?_;(case sC=>exact (q0y (aV V1.out)).2.2);rintro e w1 ⟨rfl,hb⟩;refine ⟨_,rfl,?_⟩;replace HO:=am (q0u (aN HO.out) hb);replace HB:=bS (show Below w0.heap.size w0 _ by repeat (first | exact HB.out | apply q0m | apply q0l)) hb;clear hb;clear x10 x11 x12 x13 l1 V1;obtain ⟨B1,d1,x10,x11,x12,x13,l1,V1⟩:=elN HO.out _ p1 q1)|((with_reducible refine gc 47 ?_);refine gL (some 239) Tryd.func47 #[.int .u8 (b / 3)] ?_;refine (q2w.calls (b / 3) _ _ _ _ _ rfl).mono ?_;rintro e w1 ⟨v3,rfl,hR,hb⟩;refine ⟨_,rfl,?_⟩;replace HO:=am (q0u (aN HO.out) hb);replace HB:=bS (show Below w0.heap.size w0 _ by repeat (first | exact HB.out | apply q0m | apply q0l)) hb;obtain ⟨A3,c3,rfl⟩:=q0I hR;clear hR hb)|((with_reducible refine q1J (b:=.append) (xs:=#[.tmp 236,.tmp 240]) rfl ?_);(try (refine q1l (by rfl) ?_;dsimp only));at_builtin;refine apN 241 236 240 ⟨wrap64 (1 + Int.tmod (wrap64 (b / 3)) 3),⟨#[]⟩,0,[]⟩ (aN HO.out) ?aB HL.out (V0 _ _ _ _ _) ?_;(case aB=>repeat (first | exact HB.out | apply q0m | apply q0l));intro v1 w1 hO hB;replace HO:=am hO;replace HB:=am hB;clear hO hB))
 go_ret
 exact ⟨_,rfl,aN HO.out,by repeat (first | exact HB.out | apply q0m | apply q0l)⟩
end
section
attribute [local go_sem] q1X q2F q2H q3c q3b q2u q2t q2E q2G
set_option linter.unusedVariables false
set_option linter.unusedSimpArgs false
set_option maxHeartbeats 8000000 in
set_option maxRecDepth 100000 in
theorem v1b (w0:World) (k:Nat) (A:Option Addr) (c:Nat) (l:List S25) (b names:Int) (counted:Bool) (w:World) (hb0:Below w0.heap.size w0 w) (hO:gN w0 w (.slice A l.length c) l) (hl:l.length < 1000) (h0:0≤b) (h1:b < 256) (hq:b % 12 = 10) (hcn:counted = false) :
  Calls Tryd.prog 50 #[.slice A l.length c,.int .u8 b,.int .i64 names,.bool counted] w fun e w'=>q4U w0 (q3I l b) e w':=by
 subst hcn
 have hu25:=Tryd.underlying25
 have HB:=am hb0
 have HO:=am hO
 have HL:=am hl
 clear hb0 hO hl
 go_enter Tryd.func50,Tryd.ntmps50
 go_wp2_with (first|((with_reducible refine gc 47 ?_);refine gL (some 239) Tryd.func47 #[.int .u8 (b / 3)] ?_;refine (q2w.calls (b / 3) _ _ _ _ _ rfl).mono ?_;rintro e w1 ⟨v3,rfl,hR,hb⟩;refine ⟨_,rfl,?_⟩;replace HO:=am (q0u (aN HO.out) hb);replace HB:=bS (show Below w0.heap.size w0 _ by repeat (first | exact HB.out | apply q0m | apply q0l)) hb;obtain ⟨A3,c3,rfl⟩:=q0I hR;clear hR hb)|((with_reducible refine q1J (b:=.append) (xs:=#[.tmp 236,.tmp 240]) rfl ?_);(try (refine q1l (by rfl) ?_;dsimp only));at_builtin;refine apN 241 236 240 ⟨wrap64 (1 + Int.tmod (wrap64 (b / 3)) 3),⟨#[]⟩,0,[]⟩ (aN HO.out) ?aB HL.out (V0 _ _ _ _ _) ?_;(case aB=>repeat (first | exact HB.out | apply q0m | apply q0l));intro v1 w1 hO hB;replace HO:=am hO;replace HB:=am hB;clear hO hB))
 go_ret
 exact ⟨_,rfl,aN HO.out,by repeat (first | exact HB.out | apply q0m | apply q0l)⟩
set_option maxHeartbeats 8000000 in
set_option maxRecDepth 100000 in
theorem v0b (w0:World) (k:Nat) (A:Option Addr) (c:Nat) (l:List S25) (b names:Int) (counted:Bool) (w:World) (hb0:Below w0.heap.size w0 w) (hO:gN w0 w (.slice A l.length c) l) (hl:l.length < 1000) (h0:0≤b) (h1:b < 256) (hq:b % 12 = 10) (hcn:counted = true) (hn : ¬ 1≤l.length) :
  Calls Tryd.prog 50 #[.slice A l.length c,.int .u8 b,.int .i64 names,.bool counted] w fun e w'=>q4U w0 (q3I l b) e w':=by
 subst hcn
 have ge_:(1≤(l.length:Int)) = False:=eq_false (by omega)
 have hu25:=Tryd.underlying25
 have HB:=am hb0
 have HO:=am hO
 have HL:=am hl
 clear hb0 hO hl
 go_enter Tryd.func50,Tryd.ntmps50
 go_wp2_with (first|((with_reducible refine gc 47 ?_);refine gL (some 239) Tryd.func47 #[.int .u8 (b / 3)] ?_;refine (q2w.calls (b / 3) _ _ _ _ _ rfl).mono ?_;rintro e w1 ⟨v3,rfl,hR,hb⟩;refine ⟨_,rfl,?_⟩;replace HO:=am (q0u (aN HO.out) hb);replace HB:=bS (show Below w0.heap.size w0 _ by repeat (first | exact HB.out | apply q0m | apply q0l)) hb;obtain ⟨A3,c3,rfl⟩:=q0I hR;clear hR hb)|((with_reducible refine q1J (b:=.append) (xs:=#[.tmp 236,.tmp 240]) rfl ?_);(try (refine q1l (by rfl) ?_;dsimp only));at_builtin;refine apN 241 236 240 ⟨wrap64 (1 + Int.tmod (wrap64 (b / 3)) 3),⟨#[]⟩,0,[]⟩ (aN HO.out) ?aB HL.out (V0 _ _ _ _ _) ?_;(case aB=>repeat (first | exact HB.out | apply q0m | apply q0l));intro v1 w1 hO hB;replace HO:=am hO;replace HB:=am hB;clear hO hB))
 go_ret
 exact ⟨_,rfl,aN HO.out,by repeat (first | exact HB.out | apply q0m | apply q0l)⟩
set_option maxHeartbeats 8000000 in
set_option maxRecDepth 100000 in
theorem v0J (w0:World) (k:Nat) (A:Option Addr) (c:Nat) (l:List S25) (b names:Int) (counted:Bool) (w:World) (hb0:Below w0.heap.size w0 w) (hO:gN w0 w (.slice A l.length c) l) (hl:l.length < 1000) (h0:0≤b) (h1:b < 256) (hq:b % 12 = 10) (hcn:counted = true) (hn:1≤l.length) (A10:sm k (la1 l) = some false) :
  Calls Tryd.prog 50 #[.slice A l.length c,.int .u8 b,.int .i64 names,.bool counted] w fun e w'=>q4U w0 (q3I l b) e w':=by
 subst hcn
 have hu25:=Tryd.underlying25
 have p1:0≤wrap64 ((l.length:Int) - 1):=by unfold wrap64;omega
 have q1:wrap64 ((l.length:Int) - 1) < (l.length:Int):=by unfold wrap64;omega
 have HB:=am hb0
 have HO:=am hO
 have HL:=am hl
 have A1:=am A10
 have ge_:(1≤(l.length:Int)) = True:=q0c (by omega)
 obtain ⟨ad,rfl⟩:=isAd HO.out (by omega)
 obtain ⟨B1,d1,x10,x11,x12,x13,l1,V1⟩:=elN HO.out _ p1 q1
 have p1':=q0c p1
 have q1':=q0c q1
 clear hb0 hO hl A10
 go_enter Tryd.func50,Tryd.ntmps50
 go_wp2_with (first|((with_reducible refine gd 178 ?_);(with_reducible refine gc 97 ?_);refine q1l (by rfl) ?_;dsimp only;refine gL (some 178) Tryd.func97 #[.agg #[.int .i64 (la1 l).f0,.string (la1 l).f1,.int .i64 (la1 l).f2,.slice B1 (la1 l).f3.length d1]] ?_;refine (q1W.calls k (la1 l).f0 (la1 l).f1 (la1 l).f2 B1 d1 (la1 l).f3 false _ ?sC l1 A1.out).mono ?_;(case sC=>exact (q0y (aV V1.out)).2.2);rintro e w1 ⟨rfl,hb⟩;refine ⟨_,rfl,?_⟩;replace HO:=am (q0u (aN HO.out) hb);replace HB:=bS (show Below w0.heap.size w0 _ by repeat (first | exact HB.out | apply q0m | apply q0l)) hb;clear hb;clear x10 x11 x12 x13 l1 V1;obtain ⟨B1,d1,x10,x11,x12,x13,l1,V1⟩:=elN HO.out _ p1 q1)|((with_reducible refine gc 47 ?_);refine gL (some 239) Tryd.func47 #[.int .u8 (b / 3)] ?_;refine (q2w.calls (b / 3) _ _ _ _ _ rfl).mono ?_;rintro e w1 ⟨v3,rfl,hR,hb⟩;refine ⟨_,rfl,?_⟩;replace HO:=am (q0u (aN HO.out) hb);replace HB:=bS (show Below w0.heap.size w0 _ by repeat (first | exact HB.out | apply q0m | apply q0l)) hb;obtain ⟨A3,c3,rfl⟩:=q0I hR;clear hR hb)|((with_reducible refine q1J (b:=.append) (xs:=#[.tmp 236,.tmp 240]) rfl ?_);(try (refine q1l (by rfl) ?_;dsimp only));at_builtin;refine apN 241 236 240 ⟨wrap64 (1 + Int.tmod (wrap64 (b / 3)) 3),⟨#[]⟩,0,[]⟩ (aN HO.out) ?aB HL.out (V0 _ _ _ _ _) ?_;(case aB=>repeat (first | exact HB.out | apply q0m | apply q0l));intro v1 w1 hO hB;replace HO:=am hO;replace HB:=am hB;clear hO hB))
 go_ret
 exact ⟨_,rfl,aN HO.out,by repeat (first | exact HB.out | apply q0m | apply q0l)⟩
set_option maxHeartbeats 8000000 in
set_option maxRecDepth 100000 in
theorem v1i (w0:World) (k:Nat) (A:Option Addr) (c:Nat) (l:List S25) (b names:Int) (counted:Bool) (w:World) (hb0:Below w0.heap.size w0 w) (hO:gN w0 w (.slice A l.length c) l) (hl:l.length < 1000) (h0:0≤b) (h1:b < 256) (hq:b % 12 = 11) (hn : ¬ 2≤l.length) :
  Calls Tryd.prog 50 #[.slice A l.length c,.int .u8 b,.int .i64 names,.bool counted] w fun e w'=>q4U w0 (q3I l b) e w':=by
 have ge_:(2≤(l.length:Int)) = False:=eq_false (by omega)
 have hu25:=Tryd.underlying25
 have HB:=am hb0
 have HO:=am hO
 have HL:=am hl
 clear hb0 hO hl
 go_enter Tryd.func50,Tryd.ntmps50
 go_wp2_with (first|((with_reducible refine gc 47 ?_);refine gL (some 239) Tryd.func47 #[.int .u8 (b / 3)] ?_;refine (q2w.calls (b / 3) _ _ _ _ _ rfl).mono ?_;rintro e w1 ⟨v3,rfl,hR,hb⟩;refine ⟨_,rfl,?_⟩;replace HO:=am (q0u (aN HO.out) hb);replace HB:=bS (show Below w0.heap.size w0 _ by repeat (first | exact HB.out | apply q0m | apply q0l)) hb;obtain ⟨A3,c3,rfl⟩:=q0I hR;clear hR hb)|((with_reducible refine q1J (b:=.append) (xs:=#[.tmp 236,.tmp 240]) rfl ?_);(try (refine q1l (by rfl) ?_;dsimp only));at_builtin;refine apN 241 236 240 ⟨wrap64 (1 + Int.tmod (wrap64 (b / 3)) 3),⟨#[]⟩,0,[]⟩ (aN HO.out) ?aB HL.out (V0 _ _ _ _ _) ?_;(case aB=>repeat (first | exact HB.out | apply q0m | apply q0l));intro v1 w1 hO hB;replace HO:=am hO;replace HB:=am hB;clear hO hB))
 go_ret
 exact ⟨_,rfl,aN HO.out,by repeat (first | exact HB.out | apply q0m | apply q0l)⟩
set_option maxHeartbeats 8000000 in
set_option maxRecDepth 100000 in
theorem v0n (w0:World) (k:Nat) (A:Option Addr) (c:Nat) (l:List S25) (b names:Int) (counted:Bool) (w:World) (hb0:Below w0.heap.size w0 w) (hO:gN w0 w (.slice A l.length c) l) (hl:l.length < 1000) (h0:0≤b) (h1:b < 256) (hq:b % 12 = 11) (hn:2≤l.length) (A10:sm k (la1 l) = some false) :
  Calls Tryd.prog 50 #[.slice A l.length c,.int .u8 b,.int .i64 names,.bool counted] w fun e w'=>q4U w0 (q3I l b) e w':=by
 have hu25:=Tryd.underlying25
 have p1:0≤wrap64 ((l.length:Int) - 1):=by unfold wrap64;omega
 have q1:wrap64 ((l.length:Int) - 1) < (l.length:Int):=by unfold wrap64;omega
 have p2:0≤wrap64 ((l.length:Int) - 2):=by unfold wrap64;omega
 have q2:wrap64 ((l.length:Int) - 2) < (l.length:Int):=by unfold wrap64;omega
 have HB:=am hb0
 have HO:=am hO
 have HL:=am hl
 have A1:=am A10
 have ge_:(2≤(l.length:Int)) = True:=q0c (by omega)
 obtain ⟨ad,rfl⟩:=isAd HO.out (by omega)
 obtain ⟨B1,d1,x10,x11,x12,x13,l1,V1⟩:=elN HO.out _ p1 q1
 obtain ⟨B2,d2,x20,x21,x22,x23,l2,V2⟩:=elN HO.out _ p2 q2
 have p1':=q0c p1
 have q1':=q0c q1
 have p2':=q0c p2
 have q2':=q0c q2
 clear hb0 hO hl A10
 go_enter Tryd.func50,Tryd.ntmps50
 go_wp2_with (first|((with_reducible refine gd 206 ?_);(with_reducible refine gc 97 ?_);refine q1l (by rfl) ?_;dsimp only;refine gL (some 206) Tryd.func97 #[.agg #[.int .i64 (la1 l).f0,.string (la1 l).f1,.int .i64 (la1 l).f2,.slice B1 (la1 l).f3.length d1]] ?_;refine (q1W.calls k (la1 l).f0 (la1 l).f1 (la1 l).f2 B1 d1 (la1 l).f3 false _ ?sC l1 A1.out).mono ?_;(case sC=>exact (q0y (aV V1.out)).2.2);rintro e w1 ⟨rfl,hb⟩;refine ⟨_,rfl,?_⟩;replace HO:=am (q0u (aN HO.out) hb);replace HB:=bS (show Below w0.heap.size w0 _ by repeat (first | exact HB.out | apply q0m | apply q0l)) hb;clear hb;clear x10 x11 x12 x13 l1 V1;clear x20 x21 x22 x23 l2 V2;obtain ⟨B1,d1,x10,x11,x12,x13,l1,V1⟩:=elN HO.out _ p1 q1;obtain ⟨B2,d2,x20,x21,x22,x23,l2,V2⟩:=elN HO.out _ p2 q2)|((with_reducible refine gc 47 ?_);refine gL (some 239) Tryd.func47 #[.int .u8 (b / 3)] ?_;refine (q2w.calls (b / 3) _ _ _ _ _ rfl).mono ?_;rintro e w1 ⟨v3,rfl,hR,hb⟩;refine ⟨_,rfl,?_⟩;replace HO:=am (q0u (aN HO.out) hb);replace HB:=bS (show Below w0.heap.size w0 _ by repeat (first | exact HB.out | apply q0m | apply q0l)) hb;obtain ⟨A3,c3,rfl⟩:=q0I hR;clear hR hb)|((with_reducible refine q1J (b:=.append) (xs:=#[.tmp 236,.tmp 240]) rfl ?_);(try (refine q1l (by rfl) ?_;dsimp only));at_builtin;refine apN 241 236 240 ⟨wrap64 (1 + Int.tmod (wrap64 (b / 3)) 3),⟨#[]⟩,0,[]⟩ (aN HO.out) ?aB HL.out (V0 _ _ _ _ _) ?_;(case aB=>repeat (first | exact HB.out | apply q0m | apply q0l));intro v1 w1 hO hB;replace HO:=am hO;replace HB:=am hB;clear hO hB))
 go_ret
 exact ⟨_,rfl,aN HO.out,by repeat (first | exact HB.out | apply q0m | apply q0l)⟩
set_option maxHeartbeats 8000000 in
set_option maxRecDepth 100000 in
theorem v0E (w0:World) (k:Nat) (A:Option Addr) (c:Nat) (l:List S25) (b names:Int) (counted:Bool) (w:World) (hb0:Below w0.heap.size w0 w) (hO:gN w0 w (.slice A l.length c) l) (hl:l.length < 1000) (h0:0≤b) (h1:b < 256) (hq:b % 12 = 11) (hn:2≤l.length) (A10:sm k (la1 l) = some true) (A20:sm k (la2 l) = some false) :
  Calls Tryd.prog 50 #[.slice A l.length c,.int .u8 b,.int .i64 names,.bool counted] w fun e w'=>q4U w0 (q3I l b) e w':=by
 have hu25:=Tryd.underlying25
 have p1:0≤wrap64 ((l.length:Int) - 1):=by unfold wrap64;omega
 have q1:wrap64 ((l.length:Int) - 1) < (l.length:Int):=by unfold wrap64;omega
 have p2:0≤wrap64 ((l.length:Int) - 2):=by unfold wrap64;omega
 have q2:wrap64 ((l.length:Int) - 2) < (l.length:Int):=by unfold wrap64;omega
 have HB:=am hb0
 have HO:=am hO
 have HL:=am hl
 have A1:=am A10
 have A2:=am A20
 have ge_:(2≤(l.length:Int)) = True:=q0c (by omega)
 obtain ⟨ad,rfl⟩:=isAd HO.out (by omega)
 obtain ⟨B1,d1,x10,x11,x12,x13,l1,V1⟩:=elN HO.out _ p1 q1
 obtain ⟨B2,d2,x20,x21,x22,x23,l2,V2⟩:=elN HO.out _ p2 q2
 have p1':=q0c p1
 have q1':=q0c q1
 have p2':=q0c p2
 have q2':=q0c q2
 clear hb0 hO hl A10 A20
 go_enter Tryd.func50,Tryd.ntmps50
 go_wp2_with (first|((with_reducible refine gd 206 ?_);(with_reducible refine gc 97 ?_);refine q1l (by rfl) ?_;dsimp only;refine gL (some 206) Tryd.func97 #[.agg #[.int .i64 (la1 l).f0,.string (la1 l).f1,.int .i64 (la1 l).f2,.slice B1 (la1 l).f3.length d1]] ?_;refine (q1W.calls k (la1 l).f0 (la1 l).f1 (la1 l).f2 B1 d1 (la1 l).f3 true _ ?sC l1 A1.out).mono ?_;(case sC=>exact (q0y (aV V1.out)).2.2);rintro e w1 ⟨rfl,hb⟩;refine ⟨_,rfl,?_⟩;replace HO:=am (q0u (aN HO.out) hb);replace HB:=bS (show Below w0.heap.size w0 _ by repeat (first | exact HB.out | apply q0m | apply q0l)) hb;clear hb;clear x10 x11 x12 x13 l1 V1;clear x20 x21 x22 x23 l2 V2;obtain ⟨B1,d1,x10,x11,x12,x13,l1,V1⟩:=elN HO.out _ p1 q1;obtain ⟨B2,d2,x20,x21,x22,x23,l2,V2⟩:=elN HO.out _ p2 q2)|((with_reducible refine gd 214 ?_);(with_reducible refine gc 97 ?_);refine q1l (by rfl) ?_;dsimp only;refine gL (some 214) Tryd.func97 #[.agg #[.int .i64 (la2 l).f0,.string (la2 l).f1,.int .i64 (la2 l).f2,.slice B2 (la2 l).f3.length d2]] ?_;refine (q1W.calls k (la2 l).f0 (la2 l).f1 (la2 l).f2 B2 d2 (la2 l).f3 false _ ?sC l2 A2.out).mono ?_;(case sC=>exact (q0y (aV V2.out)).2.2);rintro e w1 ⟨rfl,hb⟩;refine ⟨_,rfl,?_⟩;replace HO:=am (q0u (aN HO.out) hb);replace HB:=bS (show Below w0.heap.size w0 _ by repeat (first | exact HB.out | apply q0m | apply q0l)) hb;clear hb;clear x10 x11 x12 x13 l1 V1;clear x20 x21 x22 x23 l2 V2;obtain ⟨B1,d1,x10,x11,x12,x13,l1,V1⟩:=elN HO.out _ p1 q1;obtain ⟨B2,d2,x20,x21,x22,x23,l2,V2⟩:=elN HO.out _ p2 q2)|((with_reducible refine gc 47 ?_);refine gL (some 239) Tryd.func47 #[.int .u8 (b / 3)] ?_;refine (q2w.calls (b / 3) _ _ _ _ _ rfl).mono ?_;rintro e w1 ⟨v3,rfl,hR,hb⟩;refine ⟨_,rfl,?_⟩;replace HO:=am (q0u (aN HO.out) hb);replace HB:=bS (show Below w0.heap.size w0 _ by repeat (first | exact HB.out | apply q0m | apply q0l)) hb;obtain ⟨A3,c3,rfl⟩:=q0I hR;clear hR hb)|((with_reducible refine q1J (b:=.append) (xs:=#[.tmp 236,.tmp 240]) rfl ?_);(try (refine q1l (by rfl) ?_;dsimp only));at_builtin;refine apN 241 236 240 ⟨wrap64 (1 + Int.tmod (wrap64 (b / 3)) 3),⟨#[]⟩,0,[]⟩ (aN HO.out) ?aB HL.out (V0 _ _ _ _ _) ?_;(case aB=>repeat (first | exact HB.out | apply q0m | apply q0l));intro v1 w1 hO hB;replace HO:=am hO;replace HB:=am hB;clear hO hB))
 go_ret
 exact ⟨_,rfl,aN HO.out,by repeat (first | exact HB.out | apply q0m | apply q0l)⟩
end
end Go.Proofs.YtmffocankommaaaDoor.J
