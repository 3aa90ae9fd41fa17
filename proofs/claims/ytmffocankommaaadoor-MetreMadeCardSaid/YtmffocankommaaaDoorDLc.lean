/- Walks written by hand, and the law about them. No condition but what the theorems state. -/
import Derived.Test.YtmffocankommaaaDoorDx34
import Derived.Test.YtmffocankommaaaDoorDLb
namespace Go.Proofs.YtmffocankommaaaDoor.J
open Go.RowKit Go.Proofs.YtmffocankommaaaDoorW.PrintWords Go.Proofs.YtmffocankommaaaDoorW.PrintLast Go.Proofs.YtmffocankommaaaDoorW.PrintMore Go.Proofs.YtmffocankommaaaDoorY Go.Proofs.YtmffocankommaaaDoorS
set_option linter.unusedVariables false
section
attribute [local go_sem] q1X q2F q2H q3c q3b q2u q2t q2E q2G
set_option linter.unusedVariables false
set_option linter.unusedSimpArgs false
theorem v2w:rtab .any (q5m Tryd.f50 7) = (true,[([],[]),([],[]),([1],[1]),([0,2],[0,2]),([],[]),([],[]),([5],[5]),([4,6],[4,6]),([7],[7]),([],[]),([],[]),([10],[10]),([9,11],[9,11]),([12],[12]),([8,13],[8,13]),([14],[14]),([15],[15]),([3,16],[3,16]),([17,17,0,1,2,3,4,5,6,7,8,9,10,11,12,13,14,15,16,17],[17])]):=by kernel_rfl
theorem v2n:q3G [([],[]),([],[]),([1],[1]),([0,2],[0,2]),([],[]),([],[]),([5],[5]),([4,6],[4,6]),([7],[7]),([],[]),([],[]),([10],[10]),([9,11],[9,11]),([12],[12]),([8,13],[8,13]),([14],[14]),([15],[15]),([3,16],[3,16]),([17,17,0,1,2,3,4,5,6,7,8,9,10,11,12,13,14,15,16,17],[17])] [0,0,2,7,0,0,32,112,240,0,0,1024,3584,7680,16368,32752,65520,131071,262143] = true:=by kernel_rfl
set_option maxHeartbeats 8000000 in
set_option maxRecDepth 100000 in
theorem v2x (w0:World) (k:Nat) (A:Option Addr) (c:Nat) (l:List S25) (b names:Int) (counted:Bool) (w:World) (hb0:Below w0.heap.size w0 w) (hO:gN w0 w (.slice A l.length c) l) (hl:l.length < 1000) (h0:0≤b) (h1:b < 256) (hq:b % 12 = 4) (hn:2≤l.length) (A10:sm k (la1 l) = some true) (A20:sm k (la2 l) = some true) :
  Calls Tryd.prog 50 #[.slice A l.length c,.int .u8 b,.int .i64 names,.bool counted] w fun e w'=>q4U w0 (l.take (l.length - 2)++[⟨6,⟨#[]⟩,0,[la2 l,la1 l]⟩]) e w':=by
 have mt_:(wrap64 ((l.length:Int) - 2)).toNat≤l.length:=by unfold wrap64;omega
 have mt0_:=q0c (show 0≤wrap64 ((l.length:Int) - 2) by unfold wrap64;omega)
 have hc_:=(q0M hO).2.1
 have mc_:=q0c (show wrap64 ((l.length:Int) - 2)≤(c:Int) by unfold wrap64;omega)
 have hu25:=Tryd.underlying25
 have p1:0≤wrap64 ((l.length:Int) - 1):=by unfold wrap64;omega
 have q1:wrap64 ((l.length:Int) - 1) < (l.length:Int):=by unfold wrap64;omega
 have p2:0≤wrap64 ((l.length:Int) - 2):=by unfold wrap64;omega
 have q2:wrap64 ((l.length:Int) - 2) < (l.length:Int):=by unfold wrap64;omega
 have HB:=am hb0
 have HO:=am hO
 have HL:=am hl
 have A1:=am A10
 have A2:=am A20
 have ge_:(2≤(l.length:Int)) = True:=q0c (by omega)
 obtain ⟨ad,rfl⟩:=isAd HO.out (by omega)
 obtain ⟨B1,d1,x10,x11,x12,x13,l1,V1⟩:=elN HO.out _ p1 q1
 obtain ⟨B2,d2,x20,x21,x22,x23,l2,V2⟩:=elN HO.out _ p2 q2
 have p1':=q0c p1
 have q1':=q0c q1
 have p2':=q0c p2
 have q2':=q0c q2
 clear hb0 hO hl A10 A20
 go_enter Tryd.func50,Tryd.ntmps50
 go_wp2_with (first|((with_reducible refine gd 50 ?_);(with_reducible refine gc 97 ?_);refine q1l (by rfl) ?_;dsimp only;refine gL (some 50) Tryd.func97 #[.agg #[.int .i64 (la1 l).f0,.string (la1 l).f1,.int .i64 (la1 l).f2,.slice B1 (la1 l).f3.length d1]] ?_;refine (q1W.calls k (la1 l).f0 (la1 l).f1 (la1 l).f2 B1 d1 (la1 l).f3 true _ ?sC l1 A1.out).mono ?_;(case sC=>exact (q0y (aV V1.out)).2.2);rintro e w1 ⟨rfl,hb⟩;refine ⟨_,rfl,?_⟩;replace HO:=am (q0u (aN HO.out) hb);replace HB:=bS (show Below w0.heap.size w0 _ by repeat (first | exact HB.out | apply q0m | apply q0l)) hb;clear hb;clear x10 x11 x12 x13 l1 V1;clear x20 x21 x22 x23 l2 V2;obtain ⟨B1,d1,x10,x11,x12,x13,l1,V1⟩:=elN HO.out _ p1 q1;obtain ⟨B2,d2,x20,x21,x22,x23,l2,V2⟩:=elN HO.out _ p2 q2)|((with_reducible refine gd 58 ?_);(with_reducible refine gc 97 ?_);refine q1l (by rfl) ?_;dsimp only;refine gL (some 58) Tryd.func97 #[.agg #[.int .i64 (la2 l).f0,.string (la2 l).f1,.int .i64 (la2 l).f2,.slice B2 (la2 l).f3.length d2]] ?_;refine (q1W.calls k (la2 l).f0 (la2 l).f1 (la2 l).f2 B2 d2 (la2 l).f3 true _ ?sC l2 A2.out).mono ?_;(case sC=>exact (q0y (aV V2.out)).2.2);rintro e w1 ⟨rfl,hb⟩;refine ⟨_,rfl,?_⟩;replace HO:=am (q0u (aN HO.out) hb);replace HB:=bS (show Below w0.heap.size w0 _ by repeat (first | exact HB.out | apply q0m | apply q0l)) hb;clear hb;clear x10 x11 x12 x13 l1 V1;clear x20 x21 x22 x23 l2 V2;obtain ⟨B1,d1,x10,x11,x12,x13,l1,V1⟩:=elN HO.out _ p1 q1;obtain ⟨B2,d2,x20,x21,x22,x23,l2,V2⟩:=elN HO.out _ p2 q2))
 have n0_:=am (q2I HO.out)
 have n1_:=am (q0l HB.out)
 clear HO HB
 have HO:=n0_
 have HB:=n1_
 clear n0_ n1_
 clear x10 x11 x12 x13 l1 V1
 clear x20 x21 x22 x23 l2 V2
 obtain ⟨B1,d1,x10,x11,x12,x13,l1,V1⟩:=elN HO.out _ p1 q1
 obtain ⟨B2,d2,x20,x21,x22,x23,l2,V2⟩:=elN HO.out _ p2 q2
 refine q4o (n:=19) (S:=fun w'=>w'.cell? (ad.add ((wrap64 ((l.length:Int) - 2)).toNat * 4)) = some (.int .i64 (la2 l).f0)∧w'.cell? ⟨(ad.add ((wrap64 ((l.length:Int) - 2)).toNat * 4)).block,(ad.add ((wrap64 ((l.length:Int) - 2)).toNat * 4)).off + 1,none⟩ = some (.string (la2 l).f1)∧w'.cell? ⟨(ad.add ((wrap64 ((l.length:Int) - 2)).toNat * 4)).block,(ad.add ((wrap64 ((l.length:Int) - 2)).toNat * 4)).off + 2,none⟩ = some (.int .i64 (la2 l).f2)∧w'.cell? ⟨(ad.add ((wrap64 ((l.length:Int) - 2)).toNat * 4)).block,(ad.add ((wrap64 ((l.length:Int) - 2)).toNat * 4)).off + 3,none⟩ = some (.slice B2 (la2 l).f3.length d2)∧w'.cell? (ad.add ((wrap64 ((l.length:Int) - 1)).toNat * 4)) = some (.int .i64 (la1 l).f0)∧w'.cell? ⟨(ad.add ((wrap64 ((l.length:Int) - 1)).toNat * 4)).block,(ad.add ((wrap64 ((l.length:Int) - 1)).toNat * 4)).off + 1,none⟩ = some (.string (la1 l).f1)∧w'.cell? ⟨(ad.add ((wrap64 ((l.length:Int) - 1)).toNat * 4)).block,(ad.add ((wrap64 ((l.length:Int) - 1)).toNat * 4)).off + 2,none⟩ = some (.int .i64 (la1 l).f2)∧w'.cell? ⟨(ad.add ((wrap64 ((l.length:Int) - 1)).toNat * 4)).block,(ad.add ((wrap64 ((l.length:Int) - 1)).toNat * 4)).off + 3,none⟩ = some (.slice B1 (la1 l).f3.length d1)) (ds:=[17]) (lb 19 0) (by kernel_rfl) rfl rfl ⟨x20,x21,x22,x23,x10,x11,x12,x13⟩ (fun hHeld=>?_)
 refine q3u v2w v2n (fun HT_ HW_=>?_)
 refine pu 0 (some 60) (lb 19 1) HT_ ?_
 refine pu 1 (some 61) (lb 19 3) HT_ ?_
 refine pu 2 (some 62) (lb 19 7) HT_ ?_
 refine pu 3 (some 63) (lb 19 15) HT_ ?_
 refine pu 4 (some 64) (lb 19 31) HT_ ?_
 refine pu 5 (some 65) (lb 19 63) HT_ ?_
 refine pu 6 (some 66) (lb 19 127) HT_ ?_
 refine pu 7 (some 67) (lb 19 255) HT_ ?_
 refine tk 8 (some 68) (lb 19 511) HT_ HW_ hHeld ?_
 refine pu 9 (some 69) (lb 19 1023) HT_ ?_
 refine pu 10 (some 70) (lb 19 2047) HT_ ?_
 refine pu 11 (some 71) (lb 19 4095) HT_ ?_
 refine pu 12 (some 72) (lb 19 8191) HT_ ?_
 refine tk 13 (some 73) (lb 19 16383) HT_ HW_ hHeld ?_
 refine oo 14 (some 74) (lb 19 32767) HT_ (fun K hK=>?_)
 refine liS2 74 (la2 l) (la1 l) HO.out HB.out V2.out V1.out (by first|(go_simp;done)|(go_simp;rfl)) (fun Ak_ ck_ wk_ hV hO hb=>?_)
 have n0_:=am hO
 have n1_:=bS HB.out hb
 have VK:=am hV
 refine hK.out _ _ (sB8 hb hHeld) (fun hHeld=>?_)
 clear hK K HO HB hO hb hV
 have HO:=n0_
 have HB:=n1_
 clear n0_ n1_
 refine q3f (a':=?_) ?_ ?_
 rotate_left
 ·show Act.put _ (some 74) _ = _
  simp only [Act.put,List.setIfInBounds_toArray,List.set_cons_zero,List.set_cons_succ,q3O,q3U]
  rfl
 refine pu 15 (some 75) (lb 19 65535) HT_ ?_
 refine oo 16 (some 76) (lb 19 131071) HT_ (fun K hK=>?_)
 refine q5g (w1:=?_) (v:=?_) (by rfl) rfl ?_ ?_
 rotate_left 2
 ·go_simp
  constructor
  ·rfl
  ·rfl
 refine hK.out _ _ (sB8 (q2o (q0i _ _) _) hHeld) (fun hHeld=>?_)
 clear hK K
 refine q3f (a':=?_) ?_ ?_
 rotate_left
 ·show Act.put _ (some 76) _ = _
  simp only [Act.put,List.setIfInBounds_toArray,List.set_cons_zero,List.set_cons_succ,q3O,q3U]
  rfl
 refine q6P (i:=17) (N:=some 77) (lb 19 262143) rfl rfl (q5u HT_.out (by kernel_rfl)) (by decide) (fun K hK=>?_)
 refine apS 77 63 76 ⟨6,⟨#[]⟩,0,[la2 l,la1 l]⟩ (Kd.N_take (m:=(wrap64 ((l.length:Int) - 2)).toNat) HO.out (by omega)) HB.out (by rw [List.length_take];have:=HL.out;omega) VK.out (fun v1 w1 hO hb=>?_)
 refine hK.out _ _ ?_
 clear hK K
 refine q3f (a':=?_) ?_ ?_
 rotate_left
 ·show Act.put _ (some 77) _ = _
  simp only [Act.put,List.setIfInBounds_toArray,List.set_cons_zero,List.set_cons_succ,q3O,q3U]
  rfl
 refine pu 18 (some 8) (lb 19 524287) HT_ ?_
 refine q5c (q3Z HT_.out (by kernel_rfl)) ?_
 try go_wp2
 go_ret
 rw [show (wrap64 ((l.length:Int) - 2)).toNat = l.length - 2 from by have:=HL.out;unfold wrap64;omega] at hO
 exact ⟨_,rfl,aN hO,by repeat (first | exact hb | apply q0m | apply q0l)⟩
theorem v1t:rtab .any (q5m Tryd.f50 9) = (true,[([],[]),([],[]),([1],[1]),([0,2],[0,2]),([],[]),([4],[4]),([],[]),([],[]),([7],[7]),([6,8],[6,8]),([9],[9]),([10],[10]),([5,11],[5,11]),([12],[12]),([3,13],[3,13]),([14,14,0,1,2,3,4,5,6,7,8,9,10,11,12,13,14],[14])]):=by kernel_rfl
theorem v1R:q3G [([],[]),([],[]),([1],[1]),([0,2],[0,2]),([],[]),([4],[4]),([],[]),([],[]),([7],[7]),([6,8],[6,8]),([9],[9]),([10],[10]),([5,11],[5,11]),([12],[12]),([3,13],[3,13]),([14,14,0,1,2,3,4,5,6,7,8,9,10,11,12,13,14],[14])] [0,0,2,7,0,16,0,0,128,448,960,1984,4080,8176,16383,32767] = true:=by kernel_rfl
set_option maxHeartbeats 8000000 in
set_option maxRecDepth 100000 in
theorem v2f (w0:World) (k:Nat) (A:Option Addr) (c:Nat) (l:List S25) (b names:Int) (counted:Bool) (w:World) (hb0:Below w0.heap.size w0 w) (hO:gN w0 w (.slice A l.length c) l) (hl:l.length < 1000) (h0:0≤b) (h1:b < 256) (hq:b % 12 = 5) (hn:1≤l.length) (A10:sm k (la1 l) = some true) :
  Calls Tryd.prog 50 #[.slice A l.length c,.int .u8 b,.int .i64 names,.bool counted] w fun e w'=>q4U w0 (l.take (l.length - 1)++[⟨7,⟨#[]⟩,Int.tmod (b / 12) 4,[la1 l]⟩]) e w':=by
 have mt_:(wrap64 ((l.length:Int) - 1)).toNat≤l.length:=by unfold wrap64;omega
 have mt0_:=q0c (show 0≤wrap64 ((l.length:Int) - 1) by unfold wrap64;omega)
 have hc_:=(q0M hO).2.1
 have mc_:=q0c (show wrap64 ((l.length:Int) - 1)≤(c:Int) by unfold wrap64;omega)
 have hu25:=Tryd.underlying25
 have p1:0≤wrap64 ((l.length:Int) - 1):=by unfold wrap64;omega
 have q1:wrap64 ((l.length:Int) - 1) < (l.length:Int):=by unfold wrap64;omega
 have HB:=am hb0
 have HO:=am hO
 have HL:=am hl
 have A1:=am A10
 have ge_:(1≤(l.length:Int)) = True:=q0c (by omega)
 obtain ⟨ad,rfl⟩:=isAd HO.out (by omega)
 obtain ⟨B1,d1,x10,x11,x12,x13,l1,V1⟩:=elN HO.out _ p1 q1
 have p1':=q0c p1
 have q1':=q0c q1
 clear hb0 hO hl A10
 go_enter Tryd.func50,Tryd.ntmps50
 go_wp2_with (first|((with_reducible refine gd 91 ?_);(with_reducible refine gc 97 ?_);refine q1l (by rfl) ?_;dsimp only;refine gL (some 91) Tryd.func97 #[.agg #[.int .i64 (la1 l).f0,.string (la1 l).f1,.int .i64 (la1 l).f2,.slice B1 (la1 l).f3.length d1]] ?_;refine (q1W.calls k (la1 l).f0 (la1 l).f1 (la1 l).f2 B1 d1 (la1 l).f3 true _ ?sC l1 A1.out).mono ?_;(case sC=>exact (q0y (aV V1.out)).2.2);rintro e w1 ⟨rfl,hb⟩;refine ⟨_,rfl,?_⟩;replace HO:=am (q0u (aN HO.out) hb);replace HB:=bS (show Below w0.heap.size w0 _ by repeat (first | exact HB.out | apply q0m | apply q0l)) hb;clear hb;clear x10 x11 x12 x13 l1 V1;obtain ⟨B1,d1,x10,x11,x12,x13,l1,V1⟩:=elN HO.out _ p1 q1))
 have n0_:=am (q2I HO.out)
 have n1_:=am (q0l HB.out)
 clear HO HB
 have HO:=n0_
 have HB:=n1_
 clear n0_ n1_
 clear x10 x11 x12 x13 l1 V1
 obtain ⟨B1,d1,x10,x11,x12,x13,l1,V1⟩:=elN HO.out _ p1 q1
 refine q4o (n:=16) (S:=fun w'=>w'.cell? (ad.add ((wrap64 ((l.length:Int) - 1)).toNat * 4)) = some (.int .i64 (la1 l).f0)∧w'.cell? ⟨(ad.add ((wrap64 ((l.length:Int) - 1)).toNat * 4)).block,(ad.add ((wrap64 ((l.length:Int) - 1)).toNat * 4)).off + 1,none⟩ = some (.string (la1 l).f1)∧w'.cell? ⟨(ad.add ((wrap64 ((l.length:Int) - 1)).toNat * 4)).block,(ad.add ((wrap64 ((l.length:Int) - 1)).toNat * 4)).off + 2,none⟩ = some (.int .i64 (la1 l).f2)∧w'.cell? ⟨(ad.add ((wrap64 ((l.length:Int) - 1)).toNat * 4)).block,(ad.add ((wrap64 ((l.length:Int) - 1)).toNat * 4)).off + 3,none⟩ = some (.slice B1 (la1 l).f3.length d1)) (ds:=[14]) (lb 16 0) (by kernel_rfl) rfl rfl ⟨x10,x11,x12,x13⟩ (fun hHeld=>?_)
 refine q3u v1t v1R (fun HT_ HW_=>?_)
 refine pu 0 (some 93) (lb 16 1) HT_ ?_
 refine pu 1 (some 94) (lb 16 3) HT_ ?_
 refine pu 2 (some 95) (lb 16 7) HT_ ?_
 refine pu 3 (some 96) (lb 16 15) HT_ ?_
 refine pu 4 (some 97) (lb 16 31) HT_ ?_
 refine pu 5 (some 98) (lb 16 63) HT_ ?_
 refine pu 6 (some 99) (lb 16 127) HT_ ?_
 refine pu 7 (some 100) (lb 16 255) HT_ ?_
 refine pu 8 (some 101) (lb 16 511) HT_ ?_
 refine pu 9 (some 102) (lb 16 1023) HT_ ?_
 refine tk 10 (some 103) (lb 16 2047) HT_ HW_ hHeld ?_
 refine oo 11 (some 104) (lb 16 4095) HT_ (fun K hK=>?_)
 refine liS1 104 (la1 l) HO.out HB.out V1.out (by first|(go_simp;done)|(go_simp;rfl)) (fun Ak_ ck_ wk_ hV hO hb=>?_)
 have n0_:=am hO
 have n1_:=bS HB.out hb
 have VK:=am hV
 refine hK.out _ _ (sB4 hb hHeld) (fun hHeld=>?_)
 clear hK K HO HB hO hb hV
 have HO:=n0_
 have HB:=n1_
 clear n0_ n1_
 refine q3f (a':=?_) ?_ ?_
 rotate_left
 ·show Act.put _ (some 104) _ = _
  simp only [Act.put,List.setIfInBounds_toArray,List.set_cons_zero,List.set_cons_succ,q3O,q3U]
  rfl
 refine pu 12 (some 105) (lb 16 8191) HT_ ?_
 refine oo 13 (some 106) (lb 16 16383) HT_ (fun K hK=>?_)
 refine q5g (w1:=?_) (v:=?_) (by rfl) rfl ?_ ?_
 rotate_left 2
 ·go_simp
  constructor
  ·rfl
  ·rfl
 refine hK.out _ _ (sB4 (q2o (q0i _ _) _) hHeld) (fun hHeld=>?_)
 clear hK K
 refine q3f (a':=?_) ?_ ?_
 rotate_left
 ·show Act.put _ (some 106) _ = _
  simp only [Act.put,List.setIfInBounds_toArray,List.set_cons_zero,List.set_cons_succ,q3O,q3U]
  rfl
 refine q6P (i:=14) (N:=some 107) (lb 16 32767) rfl rfl (q5u HT_.out (by kernel_rfl)) (by decide) (fun K hK=>?_)
 refine apS 107 96 106 ⟨7,⟨#[]⟩,Int.tmod (b / 12) 4,[la1 l]⟩ (Kd.N_take (m:=(wrap64 ((l.length:Int) - 1)).toNat) HO.out (by omega)) HB.out (by rw [List.length_take];have:=HL.out;omega) VK.out (fun v1 w1 hO hb=>?_)
 refine hK.out _ _ ?_
 clear hK K
 refine q3f (a':=?_) ?_ ?_
 rotate_left
 ·show Act.put _ (some 107) _ = _
  simp only [Act.put,List.setIfInBounds_toArray,List.set_cons_zero,List.set_cons_succ,q3O,q3U]
  rfl
 refine pu 15 (some 8) (lb 16 65535) HT_ ?_
 refine q5c (q3Z HT_.out (by kernel_rfl)) ?_
 try go_wp2
 go_ret
 rw [show (wrap64 ((l.length:Int) - 1)).toNat = l.length - 1 from by have:=HL.out;unfold wrap64;omega] at hO
 exact ⟨_,rfl,aN hO,by repeat (first | exact hb | apply q0m | apply q0l)⟩
theorem v1c:rtab .any (q5m Tryd.f50 11) = (true,[([],[]),([],[]),([1],[1]),([0,2],[0,2]),([],[]),([],[]),([5],[5]),([4,6],[4,6]),([7],[7]),([8],[8]),([9],[9]),([10],[10]),([3,11],[3,11]),([12,12,0,1,2,3,4,5,6,7,8,9,10,11,12],[12])]):=by kernel_rfl
theorem v0m:q3G [([],[]),([],[]),([1],[1]),([0,2],[0,2]),([],[]),([],[]),([5],[5]),([4,6],[4,6]),([7],[7]),([8],[8]),([9],[9]),([10],[10]),([3,11],[3,11]),([12,12,0,1,2,3,4,5,6,7,8,9,10,11,12],[12])] [0,0,2,7,0,0,32,112,240,496,1008,2032,4095,8191] = true:=by kernel_rfl
set_option maxHeartbeats 8000000 in
set_option maxRecDepth 100000 in
theorem v1A (w0:World) (k:Nat) (A:Option Addr) (c:Nat) (l:List S25) (b names:Int) (counted:Bool) (w:World) (hb0:Below w0.heap.size w0 w) (hO:gN w0 w (.slice A l.length c) l) (hl:l.length < 1000) (h0:0≤b) (h1:b < 256) (hq:b % 12 = 6) (hn:1≤l.length) (A10:sm k (la1 l) = some true) :
  Calls Tryd.prog 50 #[.slice A l.length c,.int .u8 b,.int .i64 names,.bool counted] w fun e w'=>q4U w0 (l.take (l.length - 1)++[⟨8,⟨#[]⟩,0,[la1 l]⟩]) e w':=by
 have mt_:(wrap64 ((l.length:Int) - 1)).toNat≤l.length:=by unfold wrap64;omega
 have mt0_:=q0c (show 0≤wrap64 ((l.length:Int) - 1) by unfold wrap64;omega)
 have hc_:=(q0M hO).2.1
 have mc_:=q0c (show wrap64 ((l.length:Int) - 1)≤(c:Int) by unfold wrap64;omega)
 have hu25:=Tryd.underlying25
 have p1:0≤wrap64 ((l.length:Int) - 1):=by unfold wrap64;omega
 have q1:wrap64 ((l.length:Int) - 1) < (l.length:Int):=by unfold wrap64;omega
 have HB:=am hb0
 have HO:=am hO
 have HL:=am hl
 have A1:=am A10
 have ge_:(1≤(l.length:Int)) = True:=q0c (by omega)
 obtain ⟨ad,rfl⟩:=isAd HO.out (by omega)
 obtain ⟨B1,d1,x10,x11,x12,x13,l1,V1⟩:=elN HO.out _ p1 q1
 have p1':=q0c p1
 have q1':=q0c q1
 clear hb0 hO hl A10
 go_enter Tryd.func50,Tryd.ntmps50
 go_wp2_with (first|((with_reducible refine gd 121 ?_);(with_reducible refine gc 97 ?_);refine q1l (by rfl) ?_;dsimp only;refine gL (some 121) Tryd.func97 #[.agg #[.int .i64 (la1 l).f0,.string (la1 l).f1,.int .i64 (la1 l).f2,.slice B1 (la1 l).f3.length d1]] ?_;refine (q1W.calls k (la1 l).f0 (la1 l).f1 (la1 l).f2 B1 d1 (la1 l).f3 true _ ?sC l1 A1.out).mono ?_;(case sC=>exact (q0y (aV V1.out)).2.2);rintro e w1 ⟨rfl,hb⟩;refine ⟨_,rfl,?_⟩;replace HO:=am (q0u (aN HO.out) hb);replace HB:=bS (show Below w0.heap.size w0 _ by repeat (first | exact HB.out | apply q0m | apply q0l)) hb;clear hb;clear x10 x11 x12 x13 l1 V1;obtain ⟨B1,d1,x10,x11,x12,x13,l1,V1⟩:=elN HO.out _ p1 q1))
 have n0_:=am (q2I HO.out)
 have n1_:=am (q0l HB.out)
 clear HO HB
 have HO:=n0_
 have HB:=n1_
 clear n0_ n1_
 clear x10 x11 x12 x13 l1 V1
 obtain ⟨B1,d1,x10,x11,x12,x13,l1,V1⟩:=elN HO.out _ p1 q1
 refine q4o (n:=14) (S:=fun w'=>w'.cell? (ad.add ((wrap64 ((l.length:Int) - 1)).toNat * 4)) = some (.int .i64 (la1 l).f0)∧w'.cell? ⟨(ad.add ((wrap64 ((l.length:Int) - 1)).toNat * 4)).block,(ad.add ((wrap64 ((l.length:Int) - 1)).toNat * 4)).off + 1,none⟩ = some (.string (la1 l).f1)∧w'.cell? ⟨(ad.add ((wrap64 ((l.length:Int) - 1)).toNat * 4)).block,(ad.add ((wrap64 ((l.length:Int) - 1)).toNat * 4)).off + 2,none⟩ = some (.int .i64 (la1 l).f2)∧w'.cell? ⟨(ad.add ((wrap64 ((l.length:Int) - 1)).toNat * 4)).block,(ad.add ((wrap64 ((l.length:Int) - 1)).toNat * 4)).off + 3,none⟩ = some (.slice B1 (la1 l).f3.length d1)) (ds:=[12]) (lb 14 0) (by kernel_rfl) rfl rfl ⟨x10,x11,x12,x13⟩ (fun hHeld=>?_)
 refine q3u v1c v0m (fun HT_ HW_=>?_)
 refine pu 0 (some 123) (lb 14 1) HT_ ?_
 refine pu 1 (some 124) (lb 14 3) HT_ ?_
 refine pu 2 (some 125) (lb 14 7) HT_ ?_
 refine pu 3 (some 126) (lb 14 15) HT_ ?_
 refine pu 4 (some 127) (lb 14 31) HT_ ?_
 refine pu 5 (some 128) (lb 14 63) HT_ ?_
 refine pu 6 (some 129) (lb 14 127) HT_ ?_
 refine pu 7 (some 130) (lb 14 255) HT_ ?_
 refine tk 8 (some 131) (lb 14 511) HT_ HW_ hHeld ?_
 refine oo 9 (some 132) (lb 14 1023) HT_ (fun K hK=>?_)
 refine liS1 132 (la1 l) HO.out HB.out V1.out (by first|(go_simp;done)|(go_simp;rfl)) (fun Ak_ ck_ wk_ hV hO hb=>?_)
 have n0_:=am hO
 have n1_:=bS HB.out hb
 have VK:=am hV
 refine hK.out _ _ (sB4 hb hHeld) (fun hHeld=>?_)
 clear hK K HO HB hO hb hV
 have HO:=n0_
 have HB:=n1_
 clear n0_ n1_
 refine q3f (a':=?_) ?_ ?_
 rotate_left
 ·show Act.put _ (some 132) _ = _
  simp only [Act.put,List.setIfInBounds_toArray,List.set_cons_zero,List.set_cons_succ,q3O,q3U]
  rfl
 refine pu 10 (some 133) (lb 14 2047) HT_ ?_
 refine oo 11 (some 134) (lb 14 4095) HT_ (fun K hK=>?_)
 refine q5g (w1:=?_) (v:=?_) (by rfl) rfl ?_ ?_
 rotate_left 2
 ·go_simp
  constructor
  ·rfl
  ·rfl
 refine hK.out _ _ (sB4 (q2o (q0i _ _) _) hHeld) (fun hHeld=>?_)
 clear hK K
 refine q3f (a':=?_) ?_ ?_
 rotate_left
 ·show Act.put _ (some 134) _ = _
  simp only [Act.put,List.setIfInBounds_toArray,List.set_cons_zero,List.set_cons_succ,q3O,q3U]
  rfl
 refine q6P (i:=12) (N:=some 135) (lb 14 8191) rfl rfl (q5u HT_.out (by kernel_rfl)) (by decide) (fun K hK=>?_)
 refine apS 135 126 134 ⟨8,⟨#[]⟩,0,[la1 l]⟩ (Kd.N_take (m:=(wrap64 ((l.length:Int) - 1)).toNat) HO.out (by omega)) HB.out (by rw [List.length_take];have:=HL.out;omega) VK.out (fun v1 w1 hO hb=>?_)
 refine hK.out _ _ ?_
 clear hK K
 refine q3f (a':=?_) ?_ ?_
 rotate_left
 ·show Act.put _ (some 135) _ = _
  simp only [Act.put,List.setIfInBounds_toArray,List.set_cons_zero,List.set_cons_succ,q3O,q3U]
  rfl
 refine pu 13 (some 8) (lb 14 16383) HT_ ?_
 refine q5c (q3Z HT_.out (by kernel_rfl)) ?_
 try go_wp2
 go_ret
 rw [show (wrap64 ((l.length:Int) - 1)).toNat = l.length - 1 from by have:=HL.out;unfold wrap64;omega] at hO
 exact ⟨_,rfl,aN hO,by repeat (first | exact hb | apply q0m | apply q0l)⟩
end
section
attribute [local go_sem] q1X q2F q2H q3c q3b q2u q2t q2E q2G
set_option linter.unusedVariables false
set_option linter.unusedSimpArgs false
theorem v1m:rtab .any (q5m Tryd.f50 19) = (true,[([],[]),([],[]),([1],[1]),([0,2],[0,2]),([],[]),([],[]),([5],[5]),([4,6],[4,6]),([7],[7]),([8],[8]),([9],[9]),([10],[10]),([3,11],[3,11]),([12,12,0,1,2,3,4,5,6,7,8,9,10,11,12],[12])]):=by kernel_rfl
theorem v0K:q3G [([],[]),([],[]),([1],[1]),([0,2],[0,2]),([],[]),([],[]),([5],[5]),([4,6],[4,6]),([7],[7]),([8],[8]),([9],[9]),([10],[10]),([3,11],[3,11]),([12,12,0,1,2,3,4,5,6,7,8,9,10,11,12],[12])] [0,0,2,7,0,0,32,112,240,496,1008,2032,4095,8191] = true:=by kernel_rfl
set_option maxHeartbeats 8000000 in
set_option maxRecDepth 100000 in
theorem v0N (w0:World) (k:Nat) (A:Option Addr) (c:Nat) (l:List S25) (b names:Int) (counted:Bool) (w:World) (hb0:Below w0.heap.size w0 w) (hO:gN w0 w (.slice A l.length c) l) (hl:l.length < 1000) (h0:0≤b) (h1:b < 256) (hq:b % 12 = 10) (hcn:counted = true) (hn:1≤l.length) (A10:sm k (la1 l) = some true) :
  Calls Tryd.prog 50 #[.slice A l.length c,.int .u8 b,.int .i64 names,.bool counted] w fun e w'=>q4U w0 (l.take (l.length - 1)++[⟨12,⟨#[99]⟩,0,[la1 l]⟩]) e w':=by
 subst hcn
 have mt_:(wrap64 ((l.length:Int) - 1)).toNat≤l.length:=by unfold wrap64;omega
 have mt0_:=q0c (show 0≤wrap64 ((l.length:Int) - 1) by unfold wrap64;omega)
 have hc_:=(q0M hO).2.1
 have mc_:=q0c (show wrap64 ((l.length:Int) - 1)≤(c:Int) by unfold wrap64;omega)
 have hu25:=Tryd.underlying25
 have p1:0≤wrap64 ((l.length:Int) - 1):=by unfold wrap64;omega
 have q1:wrap64 ((l.length:Int) - 1) < (l.length:Int):=by unfold wrap64;omega
 have HB:=am hb0
 have HO:=am hO
 have HL:=am hl
 have A1:=am A10
 have ge_:(1≤(l.length:Int)) = True:=q0c (by omega)
 obtain ⟨ad,rfl⟩:=isAd HO.out (by omega)
 obtain ⟨B1,d1,x10,x11,x12,x13,l1,V1⟩:=elN HO.out _ p1 q1
 have p1':=q0c p1
 have q1':=q0c q1
 clear hb0 hO hl A10
 go_enter Tryd.func50,Tryd.ntmps50
 go_wp2_with (first|((with_reducible refine gd 178 ?_);(with_reducible refine gc 97 ?_);refine q1l (by rfl) ?_;dsimp only;refine gL (some 178) Tryd.func97 #[.agg #[.int .i64 (la1 l).f0,.string (la1 l).f1,.int .i64 (la1 l).f2,.slice B1 (la1 l).f3.length d1]] ?_;refine (q1W.calls k (la1 l).f0 (la1 l).f1 (la1 l).f2 B1 d1 (la1 l).f3 true _ ?sC l1 A1.out).mono ?_;(case sC=>exact (q0y (aV V1.out)).2.2);rintro e w1 ⟨rfl,hb⟩;refine ⟨_,rfl,?_⟩;replace HO:=am (q0u (aN HO.out) hb);replace HB:=bS (show Below w0.heap.size w0 _ by repeat (first | exact HB.out | apply q0m | apply q0l)) hb;clear hb;clear x10 x11 x12 x13 l1 V1;obtain ⟨B1,d1,x10,x11,x12,x13,l1,V1⟩:=elN HO.out _ p1 q1))
 have n0_:=am (q2I HO.out)
 have n1_:=am (q0l HB.out)
 clear HO HB
 have HO:=n0_
 have HB:=n1_
 clear n0_ n1_
 clear x10 x11 x12 x13 l1 V1
 obtain ⟨B1,d1,x10,x11,x12,x13,l1,V1⟩:=elN HO.out _ p1 q1
 refine q4o (n:=14) (S:=fun w'=>w'.cell? (ad.add ((wrap64 ((l.length:Int) - 1)).toNat * 4)) = some (.int .i64 (la1 l).f0)∧w'.cell? ⟨(ad.add ((wrap64 ((l.length:Int) - 1)).toNat * 4)).block,(ad.add ((wrap64 ((l.length:Int) - 1)).toNat * 4)).off + 1,none⟩ = some (.string (la1 l).f1)∧w'.cell? ⟨(ad.add ((wrap64 ((l.length:Int) - 1)).toNat * 4)).block,(ad.add ((wrap64 ((l.length:Int) - 1)).toNat * 4)).off + 2,none⟩ = some (.int .i64 (la1 l).f2)∧w'.cell? ⟨(ad.add ((wrap64 ((l.length:Int) - 1)).toNat * 4)).block,(ad.add ((wrap64 ((l.length:Int) - 1)).toNat * 4)).off + 3,none⟩ = some (.slice B1 (la1 l).f3.length d1)) (ds:=[12]) (lb 14 0) (by kernel_rfl) rfl rfl ⟨x10,x11,x12,x13⟩ (fun hHeld=>?_)
 refine q3u v1m v0K (fun HT_ HW_=>?_)
 refine pu 0 (some 180) (lb 14 1) HT_ ?_
 refine pu 1 (some 181) (lb 14 3) HT_ ?_
 refine pu 2 (some 182) (lb 14 7) HT_ ?_
 refine pu 3 (some 183) (lb 14 15) HT_ ?_
 refine pu 4 (some 184) (lb 14 31) HT_ ?_
 refine pu 5 (some 185) (lb 14 63) HT_ ?_
 refine pu 6 (some 186) (lb 14 127) HT_ ?_
 refine pu 7 (some 187) (lb 14 255) HT_ ?_
 refine tk 8 (some 188) (lb 14 511) HT_ HW_ hHeld ?_
 refine oo 9 (some 189) (lb 14 1023) HT_ (fun K hK=>?_)
 refine liS1 189 (la1 l) HO.out HB.out V1.out (by first|(go_simp;done)|(go_simp;rfl)) (fun Ak_ ck_ wk_ hV hO hb=>?_)
 have n0_:=am hO
 have n1_:=bS HB.out hb
 have VK:=am hV
 refine hK.out _ _ (sB4 hb hHeld) (fun hHeld=>?_)
 clear hK K HO HB hO hb hV
 have HO:=n0_
 have HB:=n1_
 clear n0_ n1_
 refine q3f (a':=?_) ?_ ?_
 rotate_left
 ·show Act.put _ (some 189) _ = _
  simp only [Act.put,List.setIfInBounds_toArray,List.set_cons_zero,List.set_cons_succ,q3O,q3U]
  rfl
 refine pu 10 (some 190) (lb 14 2047) HT_ ?_
 refine oo 11 (some 191) (lb 14 4095) HT_ (fun K hK=>?_)
 refine q5g (w1:=?_) (v:=?_) (by rfl) rfl ?_ ?_
 rotate_left 2
 ·go_simp
  constructor
  ·rfl
  ·rfl
 refine hK.out _ _ (sB4 (q2o (q0i _ _) _) hHeld) (fun hHeld=>?_)
 clear hK K
 refine q3f (a':=?_) ?_ ?_
 rotate_left
 ·show Act.put _ (some 191) _ = _
  simp only [Act.put,List.setIfInBounds_toArray,List.set_cons_zero,List.set_cons_succ,q3O,q3U]
  rfl
 refine q6P (i:=12) (N:=some 192) (lb 14 8191) rfl rfl (q5u HT_.out (by kernel_rfl)) (by decide) (fun K hK=>?_)
 refine apS 192 183 191 ⟨12,⟨#[99]⟩,0,[la1 l]⟩ (Kd.N_take (m:=(wrap64 ((l.length:Int) - 1)).toNat) HO.out (by omega)) HB.out (by rw [List.length_take];have:=HL.out;omega) VK.out (fun v1 w1 hO hb=>?_)
 refine hK.out _ _ ?_
 clear hK K
 refine q3f (a':=?_) ?_ ?_
 rotate_left
 ·show Act.put _ (some 192) _ = _
  simp only [Act.put,List.setIfInBounds_toArray,List.set_cons_zero,List.set_cons_succ,q3O,q3U]
  rfl
 refine pu 13 (some 8) (lb 14 16383) HT_ ?_
 refine q5c (q3Z HT_.out (by kernel_rfl)) ?_
 try go_wp2
 go_ret
 rw [show (wrap64 ((l.length:Int) - 1)).toNat = l.length - 1 from by have:=HL.out;unfold wrap64;omega] at hO
 exact ⟨_,rfl,aN hO,by repeat (first | exact hb | apply q0m | apply q0l)⟩
theorem v0y:rtab .any (q5m Tryd.f50 21) = (true,[([],[]),([],[]),([1],[1]),([0,2],[0,2]),([],[]),([],[]),([5],[5]),([4,6],[4,6]),([7],[7]),([],[]),([],[]),([10],[10]),([9,11],[9,11]),([12],[12]),([8,13],[8,13]),([14],[14]),([15],[15]),([16],[16]),([17],[17]),([3,18],[3,18]),([19,19,0,1,2,3,4,5,6,7,8,9,10,11,12,13,14,15,16,17,18,19],[19])]):=by kernel_rfl
theorem v1a:q3G [([],[]),([],[]),([1],[1]),([0,2],[0,2]),([],[]),([],[]),([5],[5]),([4,6],[4,6]),([7],[7]),([],[]),([],[]),([10],[10]),([9,11],[9,11]),([12],[12]),([8,13],[8,13]),([14],[14]),([15],[15]),([16],[16]),([17],[17]),([3,18],[3,18]),([19,19,0,1,2,3,4,5,6,7,8,9,10,11,12,13,14,15,16,17,18,19],[19])] [0,0,2,7,0,0,32,112,240,0,0,1024,3584,7680,16368,32752,65520,131056,262128,524287,1048575] = true:=by kernel_rfl
set_option maxHeartbeats 8000000 in
set_option maxRecDepth 100000 in
theorem v0g (w0:World) (k:Nat) (A:Option Addr) (c:Nat) (l:List S25) (b names:Int) (counted:Bool) (w:World) (hb0:Below w0.heap.size w0 w) (hO:gN w0 w (.slice A l.length c) l) (hl:l.length < 1000) (h0:0≤b) (h1:b < 256) (hq:b % 12 = 11) (hn:2≤l.length) (A10:sm k (la1 l) = some true) (A20:sm k (la2 l) = some true) :
  Calls Tryd.prog 50 #[.slice A l.length c,.int .u8 b,.int .i64 names,.bool counted] w fun e w'=>q4U w0 (l.take (l.length - 2)++[⟨7,⟨#[]⟩,2,[⟨5,⟨#[]⟩,0,[la2 l,la1 l]⟩]⟩]) e w':=by
 have mt_:(wrap64 ((l.length:Int) - 2)).toNat≤l.length:=by unfold wrap64;omega
 have mt0_:=q0c (show 0≤wrap64 ((l.length:Int) - 2) by unfold wrap64;omega)
 have hc_:=(q0M hO).2.1
 have mc_:=q0c (show wrap64 ((l.length:Int) - 2)≤(c:Int) by unfold wrap64;omega)
 have hu25:=Tryd.underlying25
 have p1:0≤wrap64 ((l.length:Int) - 1):=by unfold wrap64;omega
 have q1:wrap64 ((l.length:Int) - 1) < (l.length:Int):=by unfold wrap64;omega
 have p2:0≤wrap64 ((l.length:Int) - 2):=by unfold wrap64;omega
 have q2:wrap64 ((l.length:Int) - 2) < (l.length:Int):=by unfold wrap64;omega
 have HB:=am hb0
 have HO:=am hO
 have HL:=am hl
 have A1:=am A10
 have A2:=am A20
 have ge_:(2≤(l.length:Int)) = True:=q0c (by omega)
 obtain ⟨ad,rfl⟩:=isAd HO.out (by omega)
 obtain ⟨B1,d1,x10,x11,x12,x13,l1,V1⟩:=elN HO.out _ p1 q1
 obtain ⟨B2,d2,x20,x21,x22,x23,l2,V2⟩:=elN HO.out _ p2 q2
 have p1':=q0c p1
 have q1':=q0c q1
 have p2':=q0c p2
 have q2':=q0c q2
 clear hb0 hO hl A10 A20
 go_enter Tryd.func50,Tryd.ntmps50
 go_wp2_with (first|((with_reducible refine gd 206 ?_);(with_reducible refine gc 97 ?_);refine q1l (by rfl) ?_;dsimp only;refine gL (some 206) Tryd.func97 #[.agg #[.int .i64 (la1 l).f0,.string (la1 l).f1,.int .i64 (la1 l).f2,.slice B1 (la1 l).f3.length d1]] ?_;refine (q1W.calls k (la1 l).f0 (la1 l).f1 (la1 l).f2 B1 d1 (la1 l).f3 true _ ?sC l1 A1.out).mono ?_;(case sC=>exact (q0y (aV V1.out)).2.2);rintro e w1 ⟨rfl,hb⟩;refine ⟨_,rfl,?_⟩;replace HO:=am (q0u (aN HO.out) hb);replace HB:=bS (show Below w0.heap.size w0 _ by repeat (first | exact HB.out | apply q0m | apply q0l)) hb;clear hb;clear x10 x11 x12 x13 l1 V1;clear x20 x21 x22 x23 l2 V2;obtain ⟨B1,d1,x10,x11,x12,x13,l1,V1⟩:=elN HO.out _ p1 q1;obtain ⟨B2,d2,x20,x21,x22,x23,l2,V2⟩:=elN HO.out _ p2 q2)|((with_reducible refine gd 214 ?_);(with_reducible refine gc 97 ?_);refine q1l (by rfl) ?_;dsimp only;refine gL (some 214) Tryd.func97 #[.agg #[.int .i64 (la2 l).f0,.string (la2 l).f1,.int .i64 (la2 l).f2,.slice B2 (la2 l).f3.length d2]] ?_;refine (q1W.calls k (la2 l).f0 (la2 l).f1 (la2 l).f2 B2 d2 (la2 l).f3 true _ ?sC l2 A2.out).mono ?_;(case sC=>exact (q0y (aV V2.out)).2.2);rintro e w1 ⟨rfl,hb⟩;refine ⟨_,rfl,?_⟩;replace HO:=am (q0u (aN HO.out) hb);replace HB:=bS (show Below w0.heap.size w0 _ by repeat (first | exact HB.out | apply q0m | apply q0l)) hb;clear hb;clear x10 x11 x12 x13 l1 V1;clear x20 x21 x22 x23 l2 V2;obtain ⟨B1,d1,x10,x11,x12,x13,l1,V1⟩:=elN HO.out _ p1 q1;obtain ⟨B2,d2,x20,x21,x22,x23,l2,V2⟩:=elN HO.out _ p2 q2))
 have n0_:=am (q2I HO.out)
 have n1_:=am (q0l HB.out)
 clear HO HB
 have HO:=n0_
 have HB:=n1_
 clear n0_ n1_
 clear x10 x11 x12 x13 l1 V1
 clear x20 x21 x22 x23 l2 V2
 obtain ⟨B1,d1,x10,x11,x12,x13,l1,V1⟩:=elN HO.out _ p1 q1
 obtain ⟨B2,d2,x20,x21,x22,x23,l2,V2⟩:=elN HO.out _ p2 q2
 refine q4o (n:=21) (S:=fun w'=>w'.cell? (ad.add ((wrap64 ((l.length:Int) - 2)).toNat * 4)) = some (.int .i64 (la2 l).f0)∧w'.cell? ⟨(ad.add ((wrap64 ((l.length:Int) - 2)).toNat * 4)).block,(ad.add ((wrap64 ((l.length:Int) - 2)).toNat * 4)).off + 1,none⟩ = some (.string (la2 l).f1)∧w'.cell? ⟨(ad.add ((wrap64 ((l.length:Int) - 2)).toNat * 4)).block,(ad.add ((wrap64 ((l.length:Int) - 2)).toNat * 4)).off + 2,none⟩ = some (.int .i64 (la2 l).f2)∧w'.cell? ⟨(ad.add ((wrap64 ((l.length:Int) - 2)).toNat * 4)).block,(ad.add ((wrap64 ((l.length:Int) - 2)).toNat * 4)).off + 3,none⟩ = some (.slice B2 (la2 l).f3.length d2)∧w'.cell? (ad.add ((wrap64 ((l.length:Int) - 1)).toNat * 4)) = some (.int .i64 (la1 l).f0)∧w'.cell? ⟨(ad.add ((wrap64 ((l.length:Int) - 1)).toNat * 4)).block,(ad.add ((wrap64 ((l.length:Int) - 1)).toNat * 4)).off + 1,none⟩ = some (.string (la1 l).f1)∧w'.cell? ⟨(ad.add ((wrap64 ((l.length:Int) - 1)).toNat * 4)).block,(ad.add ((wrap64 ((l.length:Int) - 1)).toNat * 4)).off + 2,none⟩ = some (.int .i64 (la1 l).f2)∧w'.cell? ⟨(ad.add ((wrap64 ((l.length:Int) - 1)).toNat * 4)).block,(ad.add ((wrap64 ((l.length:Int) - 1)).toNat * 4)).off + 3,none⟩ = some (.slice B1 (la1 l).f3.length d1)) (ds:=[19]) (lb 21 0) (by kernel_rfl) rfl rfl ⟨x20,x21,x22,x23,x10,x11,x12,x13⟩ (fun hHeld=>?_)
 refine q3u v0y v1a (fun HT_ HW_=>?_)
 refine pu 0 (some 216) (lb 21 1) HT_ ?_
 refine pu 1 (some 217) (lb 21 3) HT_ ?_
 refine pu 2 (some 218) (lb 21 7) HT_ ?_
 refine pu 3 (some 219) (lb 21 15) HT_ ?_
 refine pu 4 (some 220) (lb 21 31) HT_ ?_
 refine pu 5 (some 221) (lb 21 63) HT_ ?_
 refine pu 6 (some 222) (lb 21 127) HT_ ?_
 refine pu 7 (some 223) (lb 21 255) HT_ ?_
 refine tk 8 (some 224) (lb 21 511) HT_ HW_ hHeld ?_
 refine pu 9 (some 225) (lb 21 1023) HT_ ?_
 refine pu 10 (some 226) (lb 21 2047) HT_ ?_
 refine pu 11 (some 227) (lb 21 4095) HT_ ?_
 refine pu 12 (some 228) (lb 21 8191) HT_ ?_
 refine tk 13 (some 229) (lb 21 16383) HT_ HW_ hHeld ?_
 refine oo 14 (some 230) (lb 21 32767) HT_ (fun K hK=>?_)
 refine liS2 230 (la2 l) (la1 l) HO.out HB.out V2.out V1.out (by first|(go_simp;done)|(go_simp;rfl)) (fun Ak_ ck_ wk_ hV hO hb=>?_)
 have n0_:=am hO
 have n1_:=bS HB.out hb
 have VK:=am hV
 refine hK.out _ _ (sB8 hb hHeld) (fun hHeld=>?_)
 clear hK K HO HB hO hb hV
 have HO:=n0_
 have HB:=n1_
 clear n0_ n1_
 refine q3f (a':=?_) ?_ ?_
 rotate_left
 ·show Act.put _ (some 230) _ = _
  simp only [Act.put,List.setIfInBounds_toArray,List.set_cons_zero,List.set_cons_succ,q3O,q3U]
  rfl
 refine pu 15 (some 231) (lb 21 65535) HT_ ?_
 refine oo 16 (some 232) (lb 21 131071) HT_ (fun K hK=>?_)
 refine liS1 232 ⟨5,⟨#[]⟩,0,[la2 l,la1 l]⟩ HO.out HB.out VK.out (by first|(go_simp;done)|(go_simp;rfl)) (fun As_ cs_ ws_ hV hO hb=>?_)
 have n0_:=am hO
 have n1_:=bS HB.out hb
 have VS:=am hV
 refine hK.out _ _ (sB8 hb hHeld) (fun hHeld=>?_)
 clear hK K HO HB hO hb hV
 have HO:=n0_
 have HB:=n1_
 clear n0_ n1_
 refine q3f (a':=?_) ?_ ?_
 rotate_left
 ·show Act.put _ (some 232) _ = _
  simp only [Act.put,List.setIfInBounds_toArray,List.set_cons_zero,List.set_cons_succ,q3O,q3U]
  rfl
 refine pu 17 (some 233) (lb 21 262143) HT_ ?_
 refine oo 18 (some 234) (lb 21 524287) HT_ (fun K hK=>?_)
 refine q5g (w1:=?_) (v:=?_) (by rfl) rfl ?_ ?_
 rotate_left 2
 ·go_simp
  constructor
  ·rfl
  ·rfl
 refine hK.out _ _ (sB8 (q2o (q0i _ _) _) hHeld) (fun hHeld=>?_)
 clear hK K
 refine q3f (a':=?_) ?_ ?_
 rotate_left
 ·show Act.put _ (some 234) _ = _
  simp only [Act.put,List.setIfInBounds_toArray,List.set_cons_zero,List.set_cons_succ,q3O,q3U]
  rfl
 refine q6P (i:=19) (N:=some 235) (lb 21 1048575) rfl rfl (q5u HT_.out (by kernel_rfl)) (by decide) (fun K hK=>?_)
 refine apS 235 219 234 ⟨7,⟨#[]⟩,2,[⟨5,⟨#[]⟩,0,[la2 l,la1 l]⟩]⟩ (Kd.N_take (m:=(wrap64 ((l.length:Int) - 2)).toNat) HO.out (by omega)) HB.out (by rw [List.length_take];have:=HL.out;omega) VS.out (fun v1 w1 hO hb=>?_)
 refine hK.out _ _ ?_
 clear hK K
 refine q3f (a':=?_) ?_ ?_
 rotate_left
 ·show Act.put _ (some 235) _ = _
  simp only [Act.put,List.setIfInBounds_toArray,List.set_cons_zero,List.set_cons_succ,q3O,q3U]
  rfl
 refine pu 20 (some 8) (lb 21 2097151) HT_ ?_
 refine q5c (q3Z HT_.out (by kernel_rfl)) ?_
 try go_wp2
 go_ret
 rw [show (wrap64 ((l.length:Int) - 2)).toNat = l.length - 2 from by have:=HL.out;unfold wrap64;omega] at hO
 exact ⟨_,rfl,aN hO,by repeat (first | exact hb | apply q0m | apply q0l)⟩
end
section
attribute [local go_sem] q1X q2F q2H q3c q3b q2u q2t q2E q2G
set_option linter.unusedVariables false
set_option linter.unusedSimpArgs false
set_option maxHeartbeats 8000000 in
set_option maxRecDepth 100000 in
theorem grown_9 (w0:World) (k:Nat) (A:Option Addr) (c:Nat) (l:List S25) (b names:Int) (counted:Bool) (w:World) (hb0:Below w0.heap.size w0 w) (hO:gN w0 w (.slice A l.length c) l) (hl:l.length < 1000) (h0:0≤b) (h1:b < 256) (hq:b % 12 = 9) :
  Calls Tryd.prog 50 #[.slice A l.length c,.int .u8 b,.int .i64 names,.bool counted] w fun e w'=>q4U w0 (l++[⟨11,rdOf ByteArray.empty [⟨#[109]⟩,⟨#[110]⟩] ((b / 12) % 2),0,[]⟩]) e w':=by
 have hu25:=Tryd.underlying25
 have HB:=am hb0
 have HO:=am hO
 have HL:=am hl
 have p3:0≤(b / 12) % 2:=by omega
 have q3:(b / 12) % 2 < (([⟨#[109]⟩,⟨#[110]⟩]:List q0a).length:Int):=by show _ < (2:Int);omega
 have p3':=q0c p3
 have q3':((b / 12) % 2 < 2) = True:=q0c q3
 clear hb0 hO hl
 go_enter Tryd.func50,Tryd.ntmps50
 go_wp2_with (first|((with_reducible refine gd 154 ?_);refine q2j Kd.string _ 9 ?hg (N:=154) ?hd (xs:=([⟨#[109]⟩,⟨#[110]⟩]:List q0a)) (inner:=[.string (⟨#[109]⟩:q0a),.string (⟨#[110]⟩:q0a)]) (ok:=fun _=>True) (okp:=fun _=>True) ?hr ?hp (fun _ hk=>hk) trivial (q0i _ _) (q0f _) (by simp) ?_;(case hd=>rfl);(case hg=>rfl);(case hr=>first|(go_simp;done)|(go_simp;rfl));(case hp=>exact (q3d (show Kd.M Kd.string _ _ _ (⟨#[109]⟩:q0a) [.string (⟨#[109]⟩:q0a)] from rfl) (q3d (show Kd.M Kd.string _ _ _ (⟨#[110]⟩:q0a) [.string (⟨#[110]⟩:q0a)] from rfl) (q2T _ _))));intro v1 w1 hR hb hg_ hn_;replace HO:=am (q0u (aN HO.out) hb);replace HB:=bS (show Below w0.heap.size w0 _ by repeat (first | exact HB.out | apply q0m | apply q0l)) hb;obtain ⟨A3,c3,rfl⟩:=q0I hR;obtain ⟨ad3,e3,y3⟩:=q2C (q0Y hR).2.2 ((b / 12) % 2) p3 q3;cases e3;clear hR hb hg_ hn_)|((with_reducible refine q1J (b:=.append) (xs:=#[.tmp 153,.tmp 160]) rfl ?_);(try (refine q1l (by rfl) ?_;dsimp only));at_builtin;refine apN 161 153 160 ⟨11,rdOf ByteArray.empty [⟨#[109]⟩,⟨#[110]⟩] ((b / 12) % 2),0,[]⟩ (aN HO.out) ?aB HL.out (V0 _ _ _ _ _) ?_;(case aB=>repeat (first | exact HB.out | apply q0m | apply q0l));intro v1 w1 hO hB;replace HO:=am hO;replace HB:=am hB;clear hO hB))
 go_ret
 exact ⟨_,rfl,aN HO.out,by repeat (first | exact HB.out | apply q0m | apply q0l)⟩
theorem v2i:rtab .any (q5m Tryd.f50 5) = (true,[([],[]),([],[]),([],[]),([],[]),([2,3],[2,3]),([1,4],[1,4]),([5],[5]),([6],[6]),([7],[7]),([0,8,1],[0,8]),([9,9,0,1,2,3,4,5,6,7,8,9],[9])]):=by kernel_rfl
theorem v1V:q3G [([],[]),([],[]),([],[]),([],[]),([2,3],[2,3]),([1,4],[1,4]),([5],[5]),([6],[6]),([7],[7]),([0,8,1],[0,8]),([9,9,0,1,2,3,4,5,6,7,8,9],[9])] [0,0,0,0,12,30,62,126,254,511,1023] = true:=by kernel_rfl
set_option maxHeartbeats 8000000 in
set_option maxRecDepth 100000 in
theorem v2b (w0:World) (k:Nat) (A:Option Addr) (c:Nat) (l:List S25) (b names:Int) (counted:Bool) (w:World) (hb0:Below w0.heap.size w0 w) (hO:gN w0 w (.slice A l.length c) l) (hl:l.length < 1000) (h0:0≤b) (h1:b < 256) (hq:b % 12 = 3) (hn:0 < names) (q3:Int.tmod (b / 12) names < 3) :
  Calls Tryd.prog 50 #[.slice A l.length c,.int .u8 b,.int .i64 names,.bool counted] w fun e w'=>q4U w0 (l++[⟨4,rdOf ByteArray.empty [⟨#[100]⟩,⟨#[115]⟩,⟨#[116]⟩] (Int.tmod (b / 12) names),0,[]⟩]) e w':=by
 have hu25:=Tryd.underlying25
 have HB:=am hb0
 have HO:=am hO
 have HL:=am hl
 have hn':=q0c hn
 have hn0:names≠0:=by omega
 have p3:0≤Int.tmod (b / 12) names:=Int.tmod_nonneg _ (by omega)
 have p3':=q0c p3
 have q3':=q0c q3
 clear hb0 hO hl
 go_enter Tryd.func50,Tryd.ntmps50
 go_wp2
 have n0_:=am (q2I HO.out)
 have n1_:=am (q0l HB.out)
 clear HO HB
 have HO:=n0_
 have HB:=n1_
 clear n0_ n1_
 refine q4o (n:=11) (S:=fun w'=>True) (ds:=[9]) (lb 11 0) (by kernel_rfl) rfl rfl trivial (fun hHeld=>?_)
 refine q3u v2i v1V (fun HT_ HW_=>?_)
 refine pu 0 (some 27) (lb 11 1) HT_ ?_
 refine pu 2 (some 29) (lb 11 5) HT_ ?_
 refine pu 3 (some 30) (lb 11 13) HT_ ?_
 refine pu 4 (some 31) (lb 11 29) HT_ ?_
 refine oo 1 (some 28) (lb 11 31) HT_ (fun K hK=>?_)
 refine gO (N:=some 28) Tryd.func48 #[] ?_
 refine (q4j.calls _ _ rfl).mono ?_
 rintro e w1 ⟨v1,rfl,hR,hb⟩
 refine ⟨_,rfl,?_⟩
 obtain ⟨A3,c3,rfl⟩:=q0I hR
 obtain ⟨ad3,e3,y3⟩:=q2C (q0Y hR).2.2 (Int.tmod (b / 12) names) p3 q3
 cases e3
 have n0_:=am (q0u HO.out hb)
 have n1_:=bS HB.out hb
 refine hK.out _ _ trivial (fun hHeld=>?_)
 clear hK K HO HB hb hR
 have HO:=n0_
 have HB:=n1_
 clear n0_ n1_
 refine q3f (a':=?_) ?_ ?_
 rotate_left
 ·show Act.put _ (some 28) _ = _
  simp only [Act.put,List.setIfInBounds_toArray,List.set_cons_zero,List.set_cons_succ,q3O,q3U]
  rfl
 refine pu 5 (some 32) (lb 11 63) HT_ ?_
 refine oo 6 (some 33) (lb 11 127) HT_ (fun K hK=>?_)
 refine q5g (w1:=?_) (v:=?_) (by rfl) rfl ?_ ?_
 rotate_left 2
 ·go_simp
  first | rfl|(constructor <;> rfl)
 refine hK.out _ _ trivial (fun hHeld=>?_)
 clear hK K
 refine q3f (a':=?_) ?_ ?_
 rotate_left
 ·show Act.put _ (some 33) _ = _
  simp only [Act.put,List.setIfInBounds_toArray,List.set_cons_zero,List.set_cons_succ,q3O,q3U]
  rfl
 refine pu 7 (some 34) (lb 11 255) HT_ ?_
 refine oo 8 (some 35) (lb 11 511) HT_ (fun K hK=>?_)
 refine q5g (w1:=?_) (v:=?_) (by rfl) rfl ?_ ?_
 rotate_left 2
 ·go_simp
  constructor
  ·rfl
  ·rfl
 refine hK.out _ _ trivial (fun hHeld=>?_)
 clear hK K
 refine q3f (a':=?_) ?_ ?_
 rotate_left
 ·show Act.put _ (some 35) _ = _
  simp only [Act.put,List.setIfInBounds_toArray,List.set_cons_zero,List.set_cons_succ,q3O,q3U]
  rfl
 refine q6P (i:=9) (N:=some 36) (lb 11 1023) rfl rfl (q5u HT_.out (by kernel_rfl)) (by decide) (fun K hK=>?_)
 refine apS 36 27 35 ⟨4,rdOf ByteArray.empty [⟨#[100]⟩,⟨#[115]⟩,⟨#[116]⟩] (Int.tmod (b / 12) names),0,[]⟩ HO.out HB.out HL.out (V0 _ _ _ _ _) (fun v1 w1 hO hb=>?_)
 refine hK.out _ _ ?_
 clear hK K
 refine q3f (a':=?_) ?_ ?_
 rotate_left
 ·show Act.put _ (some 36) _ = _
  simp only [Act.put,List.setIfInBounds_toArray,List.set_cons_zero,List.set_cons_succ,q3O,q3U]
  rfl
 refine pu 10 (some 8) (lb 11 2047) HT_ ?_
 refine q5c (q3Z HT_.out (by kernel_rfl)) ?_
 try go_wp2
 go_ret
 exact ⟨_,rfl,aN hO,by repeat (first | exact hb | apply q0m | apply q0l)⟩
end
section
theorem q7s {k:Nat} {l:List S25} {b:Int} {x r:List S25} (h:q6L k l b x = some r):(¬ 2≤l.length∧r = q3I l b)∨(2≤l.length∧((sm k (la1 l) = some false∧r = q3I l b)∨(sm k (la1 l) = some true∧((sm k (la2 l) = some false∧r = q3I l b)∨(sm k (la2 l) = some true∧r = x))))):=by
 unfold q6L at h
 by_cases h2:2≤l.length
 ·rw [if_pos h2] at h
  obtain ⟨t,ht,h⟩:=Option.bind_eq_some_iff.mp h
  refine .inr ⟨h2,?_⟩
  cases t with
  | false=>exact .inl ⟨ht,(q0d h).symm⟩
  | true=>
   rw [if_pos rfl] at h
   obtain ⟨u,hu,h⟩:=Option.bind_eq_some_iff.mp h
   cases u with
   | false=>exact .inr ⟨ht,.inl ⟨hu,(q0d h).symm⟩⟩
   | true=>exact .inr ⟨ht,.inr ⟨hu,(q0d h).symm⟩⟩
 ·rw [if_neg h2] at h
  exact .inl ⟨h2,(q0d h).symm⟩
theorem q6d {k:Nat} {l:List S25} {b:Int} {x r:List S25} (h:q5J k l b x = some r):(¬ 1≤l.length∧r = q3I l b)∨(1≤l.length∧((sm k (la1 l) = some false∧r = q3I l b)∨(sm k (la1 l) = some true∧r = x))):=by
 unfold q5J at h
 by_cases h2:1≤l.length
 ·rw [if_pos h2] at h
  obtain ⟨t,ht,h⟩:=Option.bind_eq_some_iff.mp h
  refine .inr ⟨h2,?_⟩
  cases t with
  | false=>exact .inl ⟨ht,(q0d h).symm⟩
  | true=>exact .inr ⟨ht,(q0d h).symm⟩
 ·rw [if_neg h2] at h
  exact .inl ⟨h2,(q0d h).symm⟩
theorem q3K.calls (w0:World) (k:Nat) (A:Option Addr) (c:Nat) (l:List S25) (b names:Int) (counted:Bool) (r:List S25) (w:World) (hb0:Below w0.heap.size w0 w) (hO:gN w0 w (.slice A l.length c) l) (h0:0≤b) (h1:b < 256) (h:q3K.f k l b names counted = some r) :
  Calls Tryd.prog 50 #[.slice A l.length c,.int .u8 b,.int .i64 names,.bool counted] w fun e w'=>q4U w0 r e w':=by
 unfold q3K.f at h
 by_cases hl:l.length < 1000
 case neg=>rw [if_neg hl] at h;cases h
 rw [if_pos hl] at h
 obtain ⟨q,hq⟩:∃ q,b % 12 = q:=⟨_,rfl⟩
 rw [hq] at h
 have hc:q = 0∨q = 1∨q = 2∨q = 3∨q = 4∨q = 5∨q = 6∨q = 7∨q = 8∨q = 9∨q = 10∨q = 11:=by omega
 rcases hc with rfl | rfl | rfl | rfl | rfl | rfl | rfl | rfl | rfl | rfl | rfl | rfl
 ·obtain rfl:=q0d (show some (q3I l b) = some r from h)
  exact q8Y w0 k A c l b names counted w hb0 hO hl h0 h1 (.inl hq)
 ·obtain rfl:=q0d (show some (q3I l b) = some r from h)
  exact q8Y w0 k A c l b names counted w hb0 hO hl h0 h1 (.inr (.inl hq))
 ·obtain rfl:=q0d (show some (q3I l b) = some r from h)
  exact q8Y w0 k A c l b names counted w hb0 hO hl h0 h1 (.inr (.inr hq))
 ·replace h:(if 0 < names then (if Int.tmod (b / 12) names < 3 then some (l++[⟨4,rdOf ByteArray.empty [⟨#[100]⟩,⟨#[115]⟩,⟨#[116]⟩] (Int.tmod (b / 12) names),0,[]⟩]) else none) else some (q3I l b)) = some r:=h
  by_cases hn:0 < names
  ·rw [if_pos hn] at h
   by_cases h3:Int.tmod (b / 12) names < 3
   ·rw [if_pos h3] at h
    obtain rfl:=q0d h
    exact v2b w0 k A c l b names counted w hb0 hO hl h0 h1 hq hn h3
   ·rw [if_neg h3] at h;cases h
  ·rw [if_neg hn] at h
   obtain rfl:=q0d h
   exact v2r w0 k A c l b names counted w hb0 hO hl h0 h1 hq hn
 ·rcases q7s (show q6L k l b _ = some r from h) with ⟨e,rfl⟩ | ⟨e,⟨t,rfl⟩ | ⟨t,⟨u,rfl⟩ | ⟨u,rfl⟩⟩⟩
  ·exact v2c w0 k A c l b names counted w hb0 hO hl h0 h1 hq e
  ·exact v1x w0 k A c l b names counted w hb0 hO hl h0 h1 hq e t
  ·exact v2t w0 k A c l b names counted w hb0 hO hl h0 h1 hq e t u
  ·exact v2x w0 k A c l b names counted w hb0 hO hl h0 h1 hq e t u
 ·rcases q6d (show q5J k l b _ = some r from h) with ⟨e,rfl⟩ | ⟨e,⟨t,rfl⟩ | ⟨t,rfl⟩⟩
  ·exact v2y w0 k A c l b names counted w hb0 hO hl h0 h1 hq e
  ·exact v2o w0 k A c l b names counted w hb0 hO hl h0 h1 hq e t
  ·exact v2f w0 k A c l b names counted w hb0 hO hl h0 h1 hq e t
 ·rcases q6d (show q5J k l b _ = some r from h) with ⟨e,rfl⟩ | ⟨e,⟨t,rfl⟩ | ⟨t,rfl⟩⟩
  ·exact v1z w0 k A c l b names counted w hb0 hO hl h0 h1 hq e
  ·exact v2h w0 k A c l b names counted w hb0 hO hl h0 h1 hq e t
  ·exact v1A w0 k A c l b names counted w hb0 hO hl h0 h1 hq e t
 ·obtain rfl:=q0d (show some _ = some r from h)
  exact grown_7 w0 k A c l b names counted w hb0 hO hl h0 h1 hq
 ·obtain rfl:=q0d (show some _ = some r from h)
  exact grown_8 w0 k A c l b names counted w hb0 hO hl h0 h1 hq
 ·obtain rfl:=q0d (show some _ = some r from h)
  exact grown_9 w0 k A c l b names counted w hb0 hO hl h0 h1 hq
 ·cases counted with
  | false=>
   obtain rfl:=q0d (show some (q3I l b) = some r from h)
   exact v1b w0 k A c l b names false w hb0 hO hl h0 h1 hq rfl
  | true=>
   rcases q6d (show q5J k l b _ = some r from h) with ⟨e,rfl⟩ | ⟨e,⟨t,rfl⟩ | ⟨t,rfl⟩⟩
   ·exact v0b w0 k A c l b names true w hb0 hO hl h0 h1 hq rfl e
   ·exact v0J w0 k A c l b names true w hb0 hO hl h0 h1 hq rfl e t
   ·exact v0N w0 k A c l b names true w hb0 hO hl h0 h1 hq rfl e t
 ·rcases q7s (show q6L k l b _ = some r from h) with ⟨e,rfl⟩ | ⟨e,⟨t,rfl⟩ | ⟨t,⟨u,rfl⟩ | ⟨u,rfl⟩⟩⟩
  ·exact v1i w0 k A c l b names counted w hb0 hO hl h0 h1 hq e
  ·exact v0n w0 k A c l b names counted w hb0 hO hl h0 h1 hq e t
  ·exact v0E w0 k A c l b names counted w hb0 hO hl h0 h1 hq e t u
  ·exact v0g w0 k A c l b names counted w hb0 hO hl h0 h1 hq e t u
end
section
def rdL (xs:List (List Int)) (i:Int):List Int:=xs.getD i.toNat []
abbrev kB:Kd Int:=Kd.int .u8
theorem at_LB {w:World} {A:Option Addr} {n:Nat} {xs:List (List Int)} (h:Kd.C (Kd.slice 5 kB) w A n xs) (i:Int) (h0:0≤i) (h1:i < n):∃ ad A0 c0,A = some ad∧w.cell? (ad.add i.toNat) = some (.slice A0 (rdL xs i).length c0)∧(rdL xs i).length≤c0∧kB.C w A0 (rdL xs i).length (rdL xs i):=by
 obtain ⟨ad,c,e,_,hK,hc0⟩:=Kd.C_get h ([]:List Int) i h0 h1
 have hc:∀ j u,c[j]? = some u → w.cell? (ad.add (i.toNat * 1 + j)) = some u:=hc0
 obtain ⟨A0,c0,rfl,l0,g0⟩:=hK
 exact ⟨ad,A0,c0,e,by have hq:=hc 0 _ rfl;rwa [Nat.mul_one,Nat.add_zero] at hq,l0,g0⟩
def v2e (b:Int):S25:=⟨wrap64 (1 + Int.tmod (wrap64 b) 3),⟨#[]⟩,0,[]⟩
def oneN (l:List S25):S25:=if l.length = 1 then q0A l 0 else ⟨5,⟨#[]⟩,0,l⟩
theorem v0k (l:List S25):q3M.f l = some ((oneN l).f0,(oneN l).f1,(oneN l).f2,(oneN l).f3):=by
 unfold q3M.f oneN
 by_cases h:l.length = 1
 ·rw [if_pos (by omega),if_pos (by omega),if_pos h]
 ·rw [if_neg (by omega),if_neg h]
def q4e (x:List Int):Nat → List S25
 | 0=>[]
 | j + 1=>q4e x j++[v2e (rd x ((j:Nat):Int))]
theorem q6h (x:List Int):∀ j,(q4e x j).length = j
 | 0=>rfl
 | j + 1=>by rw [q4e,List.length_append,q6h x j];rfl
def q8J:List q0a:=[⟨#[100]⟩,⟨#[115]⟩,⟨#[116]⟩]
def q8b (FL:List (List Int)) (i:Nat):S86:=⟨rdOf ByteArray.empty q8J (i:Int),oneN (q4e (rdL FL (i:Int)) (min (rdL FL (i:Int)).length 4))⟩
def q4M (FL:List (List Int)):Nat → List S86
 | 0=>[]
 | i + 1=>q4M FL i++[q8b FL i]
theorem q5N (FL:List (List Int)):∀ j,(q4M FL j).length = j
 | 0=>rfl
 | j + 1=>by rw [q4M,List.length_append,q5N FL j];rfl
def cntN (d0 d1:Int):List S88:=if d0 % 3 = 1 then [⟨⟨#[99]⟩,d1 % 2,d1 % 2 + d1 / 2 % 3⟩] else []
def q8h (k:Nat) (LL:List Int) (n:Int) (b:Bool):Nat → Option (List S25)
 | 0=>some []
 | i + 1=>(q8h k LL n b i).bind fun l=>q3K.f k l (rd LL ((i:Nat):Int)) n b
theorem q9w {k:Nat} {LL:List Int} {n:Int} {b:Bool} : ∀ {m:Nat} {r:List S25},q8h k LL n b m = some r → ∀ i,i≤m → ∃ l,q8h k LL n b i = some l
 | 0,r,h,i,hi=>by
  obtain rfl:i = 0:=by omega
  exact ⟨r,h⟩
 | m + 1,r,h,i,hi=>by
  by_cases e:i = m + 1
  ·subst e;exact ⟨r,h⟩
  ·unfold q8h at h
   obtain ⟨l,h1,_⟩:=Option.bind_eq_some_iff.mp h
   exact q9w h1 i (by omega)
theorem v0S {xs:List Int} {i:Nat} (h:i < xs.length):rd xs ((i:Nat):Int) ∈ xs:=by
 unfold rd
 rw [Int.toNat_natCast,List.getD_eq_getElem?_getD,List.getElem?_eq_getElem h]
 exact List.getElem_mem h
def isMk (s:q0a):Bool:=decide (s.toList = ([109]:List UInt8)) || decide (s.toList = ([110]:List UInt8))
def q4f (ns:List q0a):Nat → List q0a
 | 0=>[]
 | j + 1=>if isMk (rdOf ByteArray.empty ns ((j:Nat):Int)) = true then q4f ns j++[rdOf ByteArray.empty ns ((j:Nat):Int)] else q4f ns j
def q8M (sm:Int) (ms:List q0a):List (List q0a):=if sm % 2 = 1∧0 < ms.length then [ms] else []
def q3S.f (k:Nat) (FL:List (List Int)) (LL:List Int) (d0 d1 sm:Int):Option (q0a × List S86 × List S88 × List (List q0a) × Int × q0a × Int × List S25):=
 (q8h k LL (((q4M FL (min FL.length 3)).length:Nat):Int) (decide (0 < (cntN d0 d1).length)) (min LL.length 16)).bind fun l=>(q0L.f k (oneN l).f0 (oneN l).f1 (oneN l).f2 (oneN l).f3).bind fun ns=>if ns.length < 1000 then some (⟨#[109,97,100,101]⟩,q4M FL (min FL.length 3),cntN d0 d1,q8M sm (q4f ns ns.length),(oneN l).f0,(oneN l).f1,(oneN l).f2,(oneN l).f3) else none
/-- The three boxes, and what lay below. -/
structure MB (w W:World) (g1 g2 g3:Nat) (cs1 cs3:Array Value):Prop where
 b1:W.heap[g1]? = some (.cells cs1 52 (0,0))
 b2:W.heap[g2]? = some (.cells #[.string ⟨#[]⟩,.slice none 0 0,.slice none 0 0,.slice none 0 0,.int .i64 0,.string ⟨#[]⟩,.int .i64 0,.slice none 0 0] 44 (0,0))
 b3:W.heap[g3]? = some (.cells cs3 44 (0,0))
 hb:Below w.heap.size w W
section
variable {w W W':World} {g1 g2 g3:Nat} {cs1 cs3 cs3':Array Value}
theorem MB.below (h:MB w W g1 g2 g3 cs1 cs3) (k:Below W.heap.size W W'):MB w W' g1 g2 g3 cs1 cs3:=⟨q3h h.b1 k,q3h h.b2 k,q3h h.b3 k,q5R h.hb k⟩
theorem MB.drew (h:MB w W g1 g2 g3 cs1 cs3):MB w W.drew g1 g2 g3 cs1 cs3:=h.below (q0l (q0i _ _))
theorem MB.alloc (h:MB w W g1 g2 g3 cs1 cs3) (o:Obj):MB w (W.alloc o) g1 g2 g3 cs1 cs3:=h.below (q2o (q0i _ _) o)
theorem MB.put (h:MB w W g1 g2 g3 cs1 cs3) (n1:g1≠g3) (n2:g2≠g3) (ge:w.heap.size≤g3) (i:Nat) (u:Value) (e:cs3.setIfInBounds i u = cs3'):MB w (W.setCell ⟨g3,i,none⟩ u) g1 g2 g3 cs1 cs3':=⟨q2B h.b1 n1 u,q2B h.b2 n2 u,q2x h.b3 i u e,q1G h.hb ge⟩
/-- A row of the call's own has been written. -/
theorem MB.grown (h:MB w W g1 g2 g3 cs1 cs3) {row:Option Nat} (k:W.grownBy W' row) (hr:∀ k,row = some k → w.heap.size≤k∧k≠g1∧k≠g2∧k≠g3):MB w W' g1 g2 g3 cs1 cs3:=
 ⟨q4T h.b1 k (fun e=>(hr _ e.symm).2.1 rfl),q4T h.b2 k (fun e=>(hr _ e.symm).2.2.1 rfl),q4T h.b3 k (fun e=>(hr _ e.symm).2.2.2 rfl),q7E h.hb row h.hb.size k (fun k hk=>(hr k hk).1)⟩
end
/-- Blocks of the call's own other than the boxes. -/
abbrev okB (w:World) (g1 g2 g3:Nat) (k:Nat):Prop:=w.heap.size≤k∧k≠g1∧k≠g2∧k≠g3
theorem q6i {w W:World} {g1 g2 g3:Nat} {cs1 cs3:Array Value} (h:MB w W g1 g2 g3 cs1 cs3):∀ k,W.heap.size≤k → okB w g1 g2 g3 k:=fun k hk=>
 ⟨q0k h.hb.size hk,fun e=>by have:=q3V h.b1;omega,fun e=>by have:=q3V h.b2;omega,fun e=>by have:=q3V h.b3;omega⟩
theorem q5L (ns:List q0a):∀ j,(q4f ns j).length≤j
 | 0=>q0f _
 | j + 1=>by
  have:=q5L ns j
  unfold q4f
  split
  ·rw [List.length_append];simp only [List.length_cons,List.length_nil];omega
  ·omega
theorem s8 {w:World} {g k:Nat} {v0 v1 v2 v3 v4 v5 v6 v7:Value} (h:k≠g):((((((((w.setCell ⟨g,0,none⟩ v0).setCell ⟨g,1,none⟩ v1).setCell ⟨g,2,none⟩ v2).setCell ⟨g,3,none⟩ v3).setCell ⟨g,4,none⟩ v4).setCell ⟨g,5,none⟩ v5).setCell ⟨g,6,none⟩ v6).setCell ⟨g,7,none⟩ v7).heap[k]? = w.heap[k]?:=
 (q2d _ ⟨g,7,none⟩ _ k h).trans ((q2d _ ⟨g,6,none⟩ _ k h).trans ((q2d _ ⟨g,5,none⟩ _ k h).trans ((q2d _ ⟨g,4,none⟩ _ k h).trans ((q2d _ ⟨g,3,none⟩ _ k h).trans ((q2d _ ⟨g,2,none⟩ _ k h).trans ((q2d _ ⟨g,1,none⟩ _ k h).trans ((q2d _ ⟨g,0,none⟩ _ k h))))))))
theorem s4 {w:World} {g k:Nat} {v4 v5 v6 v7:Value} (h:k≠g):((((w.setCell ⟨g,4,none⟩ v4).setCell ⟨g,5,none⟩ v5).setCell ⟨g,6,none⟩ v6).setCell ⟨g,7,none⟩ v7).heap[k]? = w.heap[k]?:=
 (q2d _ ⟨g,7,none⟩ _ k h).trans ((q2d _ ⟨g,6,none⟩ _ k h).trans ((q2d _ ⟨g,5,none⟩ _ k h).trans ((q2d _ ⟨g,4,none⟩ _ k h))))
theorem FK_strs {W:World} {ok:Nat → Prop} {A:Option Addr} {c:Nat} {x:List q0a} (h:Kd.V Kd.string 9 W 0 ok (.slice A x.length c) x):Kd.FK (Kd.slice 9 Kd.string) W ok x [.slice A x.length c]:=
 fun W' hW=>⟨A,c,rfl,(q0y h).2.1,Kd.V_F h W' hW⟩
theorem Cnil3 (W:World):(Kd.slice 9 Kd.string).C W none 0 []:=⟨rfl,q2c _,fun h=>absurd h (Nat.lt_irrefl _)⟩
end
end Go.Proofs.YtmffocankommaaaDoor.J
