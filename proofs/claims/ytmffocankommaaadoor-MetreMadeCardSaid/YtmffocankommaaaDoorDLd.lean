/- Walks written by hand, and the law about them. No condition but what the theorems state. -/
import Derived.Test.YtmffocankommaaaDoorDx34
import Derived.Test.YtmffocankommaaaDoorDLb
import Derived.Test.YtmffocankommaaaDoorDLc
namespace Go.Proofs.YtmffocankommaaaDoor.J
open Go.RowKit Go.Proofs.YtmffocankommaaaDoorW.PrintWords Go.Proofs.YtmffocankommaaaDoorW.PrintLast Go.Proofs.YtmffocankommaaaDoorW.PrintMore Go.Proofs.YtmffocankommaaaDoorY Go.Proofs.YtmffocankommaaaDoorS
section
attribute [local go_sem] q1X q2F q2H q3c q3b q2u q2t q2E q2G
set_option linter.unusedVariables false
set_option linter.unusedSimpArgs false
theorem v1Y:rtab .any (q5m Tryd.f17 10) = (true,[([],[]),([0],[0]),([],[]),([],[]),([2,3],[2,3]),([4],[4]),([],[]),([6,2],[6]),([5,7],[5,7]),([8],[8]),([1,9,7],[1,9]),([0,1,2,3,4,5,6,7,8,9,10],[]),([11,10,10,0,1,2,3,4,5,6,7,8,9,10],[10,11])]):=by kernel_rfl
theorem v1C:q3G [([],[]),([0],[0]),([],[]),([],[]),([2,3],[2,3]),([4],[4]),([],[]),([6,2],[6]),([5,7],[5,7]),([8],[8]),([1,9,7],[1,9]),([0,1,2,3,4,5,6,7,8,9,10],[]),([11,10,10,0,1,2,3,4,5,6,7,8,9,10],[10,11])] [0,1,0,0,12,28,0,68,252,508,1023,2047,4095] = true:=by kernel_rfl
theorem v2C:rtab .any (q5m Tryd.f17 18) = (true,[([],[]),([],[]),([1],[1]),([],[]),([2,3],[2,3]),([4],[4]),([],[]),([6],[6]),([7],[7]),([],[]),([9],[9]),([10],[10]),([11],[11]),([0,5,8,12],[0,5,8,12]),([13,13,0,1,2,3,4,5,6,7,8,9,10,11,12,13],[0,13])]):=by kernel_rfl
theorem v2A:q3G [([],[]),([],[]),([1],[1]),([],[]),([2,3],[2,3]),([4],[4]),([],[]),([6],[6]),([7],[7]),([],[]),([9],[9]),([10],[10]),([11],[11]),([0,5,8,12],[0,5,8,12]),([13,13,0,1,2,3,4,5,6,7,8,9,10,11,12,13],[0,13])] [0,0,2,0,14,30,0,64,192,0,512,1536,3584,8191,16383] = true:=by kernel_rfl
set_option maxHeartbeats 8000000 in
set_option maxRecDepth 100000 in
theorem q3S.calls (k:Nat) (A0:Option Addr) (c0:Nat) (FL:List (List Int)) (A1:Option Addr) (c1:Nat) (LL:List Int) (d0 d1 sm:Int) (a0:q0a) (l1:List S86) (l2:List S88) (l3:List (List q0a)) (a4:Int) (a5:q0a) (a6:Int) (l7:List S25) (w:World) (hF:Kd.C (Kd.slice 5 kB) w A0 FL.length FL) (hc0:FL.length≤c0) (hL:kB.C w A1 LL.length LL) (hc1:LL.length≤c1) (hLL:∀ x,x ∈ LL → 0≤x∧x < 256) (e0:0≤d0∧d0 < 256) (e1:0≤d1∧d1 < 256) (e2:0≤sm∧sm < 256) (h:q3S.f k FL LL d0 d1 sm = some (a0,l1,l2,l3,a4,a5,a6,l7)) :
  Calls Tryd.prog 17 #[.agg #[.slice A0 FL.length c0,.slice A1 LL.length c1,.int .u8 d0,.int .u8 d1,.int .u8 sm]] w fun e w'=>∃ B1 b1 B2 b2 B3 b3 B7 b7,e = .returned (.agg #[.string a0,.slice B1 l1.length b1,.slice B2 l2.length b2,.slice B3 l3.length b3,.int .i64 a4,.string a5,.int .i64 a6,.slice B7 l7.length b7])∧k86.C w' B1 l1.length l1∧l1.length≤b1∧k88.C w' B2 l2.length l2∧l2.length≤b2∧(Kd.slice 9 Kd.string).C w' B3 l3.length l3∧l3.length≤b3∧k25.C w' B7 l7.length l7∧l7.length≤b7∧Below w.heap.size w w':=by
 have HB:=am (q0i w.heap.size w)
 have HF0:=am hF
 have HL0:=am hL
 have HC0:=am hc0
 have HC1:=am hc1
 clear hF hL hc0 hc1
 obtain ⟨lf,hlf,h⟩:=Option.bind_eq_some_iff.mp (show (q8h k LL (((q4M FL (min FL.length 3)).length:Nat):Int) (decide (0 < (cntN d0 d1).length)) (min LL.length 16)).bind _ = some _ from h)
 obtain ⟨ns,hns,h⟩:=Option.bind_eq_some_iff.mp (show (q0L.f k (oneN lf).f0 (oneN lf).f1 (oneN lf).f2 (oneN lf).f3).bind _ = some _ from h)
 by_cases hnl:ns.length < 1000
 case neg=>rw [if_neg hnl] at h;cases h
 rw [if_pos hnl] at h
 simp only [Option.some.injEq,Prod.mk.injEq] at h
 obtain ⟨rfl,rfl,rfl,hl3,rfl,rfl,rfl,rfl⟩:=h
 have HLF:=am hlf
 have HNS:=am hns
 have HNL:=am hnl
 have HL3:=am hl3
 clear hlf hns hnl hl3
 go_enter Tryd.func17,Tryd.ntmps17
 go_wp2_with (first|((with_reducible refine gd 1 ?_);refine be 1 #[.slice A0 FL.length c0,.slice A1 LL.length c1,.int .u8 d0,.int .u8 d1,.int .u8 sm] 52 ?_;intro g1 hg w1 hbox hb;have BK1:=am hbox;have GE1:=am (show w.heap.size≤g1 by rw [hg];exact HB.out.size);replace HB:=bS HB.out hb;clear hb hbox hg;have Z1:=bc5 BK1)|((with_reducible refine gd 2 ?_);refine be 2 #[.string ⟨#[]⟩,.slice none 0 0,.slice none 0 0,.slice none 0 0,.int .i64 0,.string ⟨#[]⟩,.int .i64 0,.slice none 0 0] 44 ?_;intro g2 hg w2 hbox hb;have BK2:=am hbox;have GE2:=am (show w.heap.size≤g2 by rw [hg];exact HB.out.size);have NE12:=am (show g1≠g2 by rw [hg];exact q1p (q3V BK1.out));replace BK1:=am (q3h BK1.out hb);replace HB:=bS HB.out hb;clear hb hbox hg;have Z2:=bc8 BK2)|((with_reducible refine gd 3 ?_);refine be 3 #[.string ⟨#[]⟩,.slice none 0 0,.slice none 0 0,.slice none 0 0,.int .i64 0,.string ⟨#[]⟩,.int .i64 0,.slice none 0 0] 44 ?_;intro g3 hg w3 hbox hb;have BK3:=am hbox;have GE3:=am (show w.heap.size≤g3 by rw [hg];exact HB.out.size);have NE13:=am (show g1≠g3 by rw [hg];exact q1p (q3V BK1.out));replace BK1:=am (q3h BK1.out hb);have NE23:=am (show g2≠g3 by rw [hg];exact q1p (q3V BK2.out));replace BK2:=am (q3h BK2.out hb);replace HB:=bS HB.out hb;clear hb hbox hg;have Z3:=bc8 BK3))
 have M0:q0j (MB w w3 g1 g2 g3 #[.slice A0 FL.length c0,.slice A1 LL.length c1,.int .u8 d0,.int .u8 d1,.int .u8 sm] #[.string ⟨#[]⟩,.slice none 0 0,.slice none 0 0,.slice none 0 0,.int .i64 0,.string ⟨#[]⟩,.int .i64 0,.slice none 0 0]):=⟨⟨BK1.out,BK2.out,BK3.out,HB.out⟩⟩
 clear Z1 Z2 Z3 BK1 BK2 BK3
 go_loopg [4,5,6] 4 (fun kq v4 v5 v6 W=>∃ (i:Nat) (vF x5 x6:Value),v4 = .int .i64 (i:Int)∧v5 = x5∧v6 = x6∧q0j (i + kq = 4)∧q0j (i≤min FL.length 3)∧q0j (MB w W g1 g2 g3 #[.slice A0 FL.length c0,.slice A1 LL.length c1,.int .u8 d0,.int .u8 d1,.int .u8 sm] #[.string ⟨#[109,97,100,101]⟩,vF,.slice none 0 0,.slice none 0 0,.int .i64 0,.string ⟨#[]⟩,.int .i64 0,.slice none 0 0])∧q0j (Kd.N k86 86 W w.heap.size (okB w g1 g2 g3) vF (q4M FL i)))
 case atStart=>exact ⟨0,_,_,_,rfl,rfl,rfl,⟨rfl⟩,⟨q2c _⟩,⟨((((((((M0.out.put NE13.out NE23.out GE3.out 0 _ rfl).put NE13.out NE23.out GE3.out 1 _ rfl).put NE13.out NE23.out GE3.out 2 _ rfl).put NE13.out NE23.out GE3.out 3 _ rfl).put NE13.out NE23.out GE3.out 4 _ rfl).put NE13.out NE23.out GE3.out 5 _ rfl).put NE13.out NE23.out GE3.out 6 _ rfl).put NE13.out NE23.out GE3.out 7 _ rfl)⟩,⟨Kd.N_nil _ _ _ _ _⟩⟩
 case round=>
  obtain ⟨i,vF,x5,x6,rfl,rfl,rfl,HI1,HI2,HM,HF⟩:=hrel
  obtain ⟨gq,EG⟩:∃ q_,q0j (q_ = gk - 1):=⟨_,⟨rfl⟩⟩
  have Z1:=bc5 ⟨HM.out.b1⟩
  clear M0
  go_upto_region 3 with fail
  go_cut [22] (fun c_ wx=>c_ = .bool (decide (i < min FL.length 3))∧wx = wr)
  case first=>
   by_cases t1:(i:Int) < (FL.length:Int)
   ·by_cases t2:(i:Int) < 3
    ·have hb_:=am (congrArg Value.bool (q0w (show i < min FL.length 3 by omega))).symm
     replace t1:=q0c t1
     replace t2:=q0c t2
     go_wp2
     go_meet
     case rel=>exact ⟨hb_.out,rfl⟩
    ·have hb_:=am (congrArg Value.bool (q0S (show ¬ i < min FL.length 3 by omega))).symm
     replace t1:=q0c t1
     replace t2:=eq_false t2
     go_wp2
     go_meet
     case rel=>exact ⟨hb_.out,rfl⟩
   ·have hb_:=am (congrArg Value.bool (q0S (show ¬ i < min FL.length 3 by omega))).symm
    replace t1:=eq_false t1
    go_wp2
    go_meet
    case rel=>exact ⟨hb_.out,rfl⟩
  case rest=>
   obtain ⟨rfl,rfl⟩:=hcut
   by_cases qi:i < min FL.length 3
   ·rw [decide_eq_true qi]
    have p_:(0:Int)≤(i:Int):=Int.natCast_nonneg _
    have q_:(i:Int) < (FL.length:Int):=by omega
    obtain ⟨ad0,X0,x0c,e_,y0,ly,hy⟩:=at_LB (q0r HF0.out HM.out.hb) (i:Int) p_ q_
    cases e_
    rw [Int.toNat_natCast] at y0
    have LY:=am ly
    have CY:=am hy
    clear ly hy
    replace p_:=q0c p_
    replace q_:=q0c q_
    go_wp2
    go_loopg [5,6] 5 (fun kq v5 v6 W=>∃ (j:Nat) (vl:Value),v5 = vl∧v6 = .int .i64 (j:Int)∧q0j (j + kq = 5)∧q0j (j≤min (rdL FL (i:Int)).length 4)∧q0j (Below wc.heap.size wc W)∧q0j (gN wc W vl (q4e (rdL FL (i:Int)) j)))
    case atStart=>exact ⟨0,_,rfl,rfl,⟨rfl⟩,⟨q2c _⟩,⟨by repeat (first | exact q0i _ _ | apply q0m | apply q0l)⟩,⟨Kd.N_nil _ _ _ _ _⟩⟩
    case round=>
     obtain ⟨j,vl,rfl,rfl,HJ1,HJ2,HB2,HN⟩:=hrel
     have Z1':=bc5 ⟨(HM.out.below HB2.out).b1⟩
     have y0':=cB HB2 y0
     clear Z1
     go_upto_region 7 with fail
     go_cut [36] (fun c_ wx=>c_ = .bool (decide (j < min (rdL FL (i:Int)).length 4))∧wx = wr)
     case first=>
      by_cases t1:(j:Int) < ((rdL FL (i:Int)).length:Int)
      ·by_cases t2:(j:Int) < 4
       ·have hb_:=am (congrArg Value.bool (q0w (show j < min (rdL FL (i:Int)).length 4 by omega))).symm
        replace t1:=q0c t1
        replace t2:=q0c t2
        go_wp2
        go_meet
        case rel=>exact ⟨hb_.out,rfl⟩
       ·have hb_:=am (congrArg Value.bool (q0S (show ¬ j < min (rdL FL (i:Int)).length 4 by omega))).symm
        replace t1:=q0c t1
        replace t2:=eq_false t2
        go_wp2
        go_meet
        case rel=>exact ⟨hb_.out,rfl⟩
      ·have hb_:=am (congrArg Value.bool (q0S (show ¬ j < min (rdL FL (i:Int)).length 4 by omega))).symm
       replace t1:=eq_false t1
       go_wp2
       go_meet
       case rel=>exact ⟨hb_.out,rfl⟩
     case rest=>
      obtain ⟨rfl,rfl⟩:=hcut
      by_cases qj:j < min (rdL FL (i:Int)).length 4
      ·rw [decide_eq_true qj]
       have p2_:(0:Int)≤(j:Int):=Int.natCast_nonneg _
       have q2_:(j:Int) < ((rdL FL (i:Int)).length:Int):=by omega
       obtain ⟨ad1,e_,y1⟩:=Kd.at_int (q0r CY.out HB2.out) (j:Int) p2_ q2_
       cases e_
       rw [Int.toNat_natCast] at y1
       replace p2_:=q0c p2_
       replace q2_:=q0c q2_
       obtain ⟨Al,cl,rfl⟩:=q1o HN.out
       have LL_:=am (show (q4e (rdL FL (i:Int)) j).length < 1000 by rw [q6h];omega)
       go_wp2_with (first|((with_reducible refine gc 47 ?_);refine gL (some 48) Tryd.func47 #[.int .u8 (rd (rdL FL (i:Int)) (j:Int))] ?_;refine (q2w.calls (rd (rdL FL (i:Int)) (j:Int)) _ _ _ _ _ rfl).mono ?_;rintro e w1 ⟨v3,rfl,hR,hb⟩;refine ⟨_,rfl,?_⟩;replace HN:=am (q0u (aN HN.out) hb);replace HB2:=bS (show Below _ _ _ by repeat (first | exact HB2.out | apply q0m | apply q0l)) hb;obtain ⟨A3,c3,rfl⟩:=q0I hR;clear hR hb)|((with_reducible refine q1J (b:=.append) (xs:=#[.tmp 39,.tmp 49]) rfl ?_);(try (refine q1l (by rfl) ?_;dsimp only));at_builtin;refine apN 50 39 49 (v2e (rd (rdL FL (i:Int)) (j:Int))) (aN HN.out) ?aB LL_.out (V0 _ _ _ _ _) ?_;(case aB=>repeat (first | exact HB2.out | apply q0m | apply q0l));intro v1 w1 hO hB;replace HN:=am hO;replace HB2:=am hB;clear hO hB))
       have EJ:=am (show wrap64 ((j:Int) + 1) = ((j + 1:Nat):Int) by unfold wrap64;omega)
       go_roundg (gk - 1)
       case measure=>have:=HJ1.out;omega
       case rel=>exact ⟨j + 1,_,rfl,by first | exact congrArg (Value.int .i64) EJ.out | rfl | simp,⟨by have:=HJ1.out;omega⟩,⟨by omega⟩,⟨by repeat (first | exact HB2.out | apply q0m | apply q0l)⟩,⟨aN HN.out⟩⟩
      ·rw [decide_eq_false qj]
       obtain rfl:j = min (rdL FL (i:Int)).length 4:=by have:=HJ2.out;omega
       clear HJ1 HJ2 y0'
       obtain ⟨Al,cl,rfl⟩:=q1o HN.out
       obtain ⟨wi_,HWI0,LWi,LB1,LB2,LB3,LTF,HN0⟩:∃ n_,q0j (n_≤wc.heap.size)∧q0j (w.heap.size≤n_)∧q0j (g1 < n_)∧q0j (g2 < n_)∧q0j (g3 < n_)∧q0j (∀ k_,vF.ownBlock = some k_ → k_ < n_)∧q0j (Kd.N k25 25 wc n_ (fun k_=>n_≤k_) (.slice Al (q4e (rdL FL (i:Int)) (min (rdL FL (i:Int)).length 4)).length cl) (q4e (rdL FL (i:Int)) (min (rdL FL (i:Int)).length 4))):=⟨_,⟨HB2.out.size⟩,⟨HM.out.hb.size⟩,⟨q3V HM.out.b1⟩,⟨q3V HM.out.b2⟩,⟨q3V HM.out.b3⟩,⟨q2O HF.out⟩,⟨HN.out⟩⟩
       have n0_:=am (HM.out.below HB2.out)
       have n1_:=am (q0u HF.out HB2.out)
       clear HM HF HN HB2 Z1'
       have HM:=n0_
       have HF:=n1_
       have HN:=HN0
       have HWI:=HWI0
       clear n0_ n1_ HN0 HWI0
       go_wp2
       have n0_:=am HM.out.drew
       have n1_:=am (q2I HF.out)
       have n2_:=am (q2I HN.out)
       have n3_:=am (q0k HWI.out (show _≤(World.drew _).heap.size from (q0l (q0i 0 _)).size))
       clear HM HF HN HWI
       have HM:=n0_
       have HF:=n1_
       have HN:=n2_
       have HWI:=n3_
       clear n0_ n1_ n2_ n3_
       refine q4o (n:=13) (S:=fun w'=>w'.cell? ⟨g3,1,none⟩ = some vF) (ds:=[12]) (lb 13 0) (by kernel_rfl) rfl rfl ((q1h HM.out.b3 1).trans rfl) (fun hHeld=>?_)
       refine q3u v1Y v1C (fun HT_ HW_=>?_)
       refine pu 0 (some 51) (lb 13 1) HT_ ?_
       refine tk 1 (some 52) (lb 13 3) HT_ HW_ hHeld ?_
       refine pu 3 (some 54) (lb 13 11) HT_ ?_
       refine pu 6 (some 57) (lb 13 75) HT_ ?_
       have p3:(0:Int)≤(i:Int):=Int.natCast_nonneg _
       have q3:(i:Int) < ((q8J.length:Nat):Int):=by show _ < (3:Int);omega
       refine oo 2 (some 53) (lb 13 79) HT_ (fun K hK=>?_)
       refine gO (N:=some 53) Tryd.func48 #[] ?_
       refine (q4j.calls _ _ rfl).mono ?_
       rintro e w1 ⟨v1,rfl,hR,hb⟩
       refine ⟨_,rfl,?_⟩
       obtain ⟨A3,c3,rfl⟩:=q0I hR
       obtain ⟨ad3,e3,y3⟩:=q2C (xs:=q8J) (q0Y hR).2.2 (i:Int) p3 q3
       cases e3
       rw [Int.toNat_natCast] at y3
       have n0_:=am (HM.out.below hb)
       have n1_:=am (q0u HF.out hb)
       have n2_:=am (q0u HN.out hb)
       have n3_:=am (q0k HWI.out hb.size)
       refine hK.out _ _ ((q1h n0_.out.b3 1).trans rfl) (fun hHeld=>?_)
       clear hK K HM HF HN HWI hb hR
       have HM:=n0_
       have HF:=n1_
       have HN:=n2_
       have HWI:=n3_
       clear n0_ n1_ n2_ n3_
       have q3':=q0c (show (i:Int) < 3 by omega)
       have p3':=q0c p3
       have q3n:=q0c (show i < 3 by omega)
       refine q3f (a':=?_) ?_ ?_
       rotate_left
       ·show Act.put _ (some 53) _ = _
        simp only [Act.put,List.setIfInBounds_toArray,List.set_cons_zero,List.set_cons_succ,q3O,q3U]
        rfl
       refine pu 4 (some 55) (lb 13 95) HT_ ?_
       refine v0l (σ:=Option Addr × Nat) 5 (lb 13 255) (fun s_=>[(56,.string (rdOf ByteArray.empty q8J (i:Int))),(58,.agg #[.int .i64 (oneN (q4e (rdL FL (i:Int)) (min (rdL FL (i:Int)).length 4))).f0,.string (oneN (q4e (rdL FL (i:Int)) (min (rdL FL (i:Int)).length 4))).f1,.int .i64 (oneN (q4e (rdL FL (i:Int)) (min (rdL FL (i:Int)).length 4))).f2,.slice s_.1 (oneN (q4e (rdL FL (i:Int)) (min (rdL FL (i:Int)).length 4))).f3.length s_.2])]) (fun s_ W'=>MB w W' g1 g2 g3 #[.slice (some ad0) FL.length c0,.slice A1 LL.length c1,.int .u8 d0,.int .u8 d1,.int .u8 sm] #[.string ⟨#[109,97,100,101]⟩,vF,.slice none 0 0,.slice none 0 0,.int .i64 0,.string ⟨#[]⟩,.int .i64 0,.slice none 0 0]∧Kd.N k86 86 W' w.heap.size (okB w g1 g2 g3) vF (q4M FL i)∧Kd.V k25 25 W' w.heap.size (fun k_=>wi_≤k_) (.slice s_.1 (oneN (q4e (rdL FL (i:Int)) (min (rdL FL (i:Int)).length 4))).f3.length s_.2) (oneN (q4e (rdL FL (i:Int)) (min (rdL FL (i:Int)).length 4))).f3) ?_ ?_
       rotate_left
       ·intro hCont
        refine two_ (i:=5) (j:=7) (Ni:=some 56) (Nj:=some 58) (lb 13 127) (lb 13 223) rfl rfl rfl rfl (q7u HT_.out (by kernel_rfl)) (by decide) (by decide) (fun K hK=>?_) (fun K hK=>?_)
        ·refine q5g (w1:=?_) (v:=?_) (by rfl) rfl ?_ ?_
         rotate_left 2
         ·go_simp
          first | rfl|(constructor <;> rfl)
         refine hK.out _ _ hHeld (fun hHeld=>?_)
         clear hK K
         refine q3f (a':=?_) ?_ ?_
         rotate_left
         ·show Act.put _ (some 56) _ = _
          simp only [Act.put,List.setIfInBounds_toArray,List.set_cons_zero,List.set_cons_succ,q3O,q3U]
          rfl
         refine oo 7 (some 58) (lb 13 255) HT_ (fun K hK=>?_)
         refine gO (N:=some 58) Tryd.func49 #[.slice Al (q4e (rdL FL (i:Int)) (min (rdL FL (i:Int)).length 4)).length cl] ?_
         refine (q3M.calls (fun k_=>wi_≤k_) Al cl (q4e (rdL FL (i:Int)) (min (rdL FL (i:Int)).length 4)) (oneN (q4e (rdL FL (i:Int)) (min (rdL FL (i:Int)).length 4))).f0 (oneN (q4e (rdL FL (i:Int)) (min (rdL FL (i:Int)).length 4))).f1 (oneN (q4e (rdL FL (i:Int)) (min (rdL FL (i:Int)).length 4))).f2 (oneN (q4e (rdL FL (i:Int)) (min (rdL FL (i:Int)).length 4))).f3 _ (Kd.N_V HN.out) (v0k _)).mono ?_
         rintro e w5 ⟨v5,rfl,hV,hb⟩
         refine ⟨_,rfl,?_⟩
         obtain ⟨A7,c7,rfl⟩:=q2a hV
         have hV':=q0v hV (fun k_ hk=>hk.elim id (fun hk=>q0k HWI.out hk))
         refine hK.out _ _ ((q1h (HM.out.below hb).b3 1).trans rfl) (fun hHeld=>?_)
         exact q3f (by simp only [q4E,Act.put,List.setIfInBounds_toArray,List.set_cons_zero,List.set_cons_succ]) (hCont (A7,c7) _ ⟨HM.out.below hb,q0u HF.out hb,q2R hV' HM.out.hb.size⟩)
        ·refine gO (N:=some 58) Tryd.func49 #[.slice Al (q4e (rdL FL (i:Int)) (min (rdL FL (i:Int)).length 4)).length cl] ?_
         refine (q3M.calls (fun k_=>wi_≤k_) Al cl (q4e (rdL FL (i:Int)) (min (rdL FL (i:Int)).length 4)) (oneN (q4e (rdL FL (i:Int)) (min (rdL FL (i:Int)).length 4))).f0 (oneN (q4e (rdL FL (i:Int)) (min (rdL FL (i:Int)).length 4))).f1 (oneN (q4e (rdL FL (i:Int)) (min (rdL FL (i:Int)).length 4))).f2 (oneN (q4e (rdL FL (i:Int)) (min (rdL FL (i:Int)).length 4))).f3 _ (Kd.N_V HN.out) (v0k _)).mono ?_
         rintro e w5 ⟨v5,rfl,hV,hb⟩
         refine ⟨_,rfl,?_⟩
         obtain ⟨A7,c7,rfl⟩:=q2a hV
         have hV':=q0v hV (fun k_ hk=>hk.elim id (fun hk=>q0k HWI.out hk))
         refine hK.out _ _ ((q1h (HM.out.below hb).b3 1).trans rfl) (fun hHeld=>?_)
         clear hK K
         replace y3:=cB ⟨hb⟩ y3
         refine q3f (a':=?_) ?_ ?_
         rotate_left
         ·show Act.put _ (some 58) _ = _
          simp only [Act.put,List.setIfInBounds_toArray,List.set_cons_zero,List.set_cons_succ,q3O,q3U]
          rfl
         refine oo 5 (some 56) (lb 13 255) HT_ (fun K hK=>?_)
         refine q5g (w1:=?_) (v:=?_) (by rfl) rfl ?_ ?_
         rotate_left 2
         ·go_simp
          first | rfl|(constructor <;> rfl)
         refine hK.out _ _ hHeld (fun hHeld=>?_)
         clear hK K
         exact q3f (by simp only [q4E,Act.put,List.setIfInBounds_toArray,List.set_cons_zero,List.set_cons_succ]) (hCont (A7,c7) _ ⟨HM.out.below hb,q0u HF.out hb,q2R hV' HM.out.hb.size⟩)
       rintro ⟨A7,c7⟩ w7 ⟨hm,hf,hv⟩
       clear HM HF HN HWI y3
       have HM:=am hm
       have HF:=am hf
       have HV:=am hv
       clear hm hf hv
       have hHeld:w7.cell? ⟨g3,1,none⟩ = some vF:=(q1h HM.out.b3 1).trans rfl
       refine q3f (by simp only [q4E,Act.put,List.setIfInBounds_toArray,List.set_cons_zero,List.set_cons_succ];rfl) ?_
       refine pu 8 (some 59) (lb 13 511) HT_ ?_
       refine oo 9 (some 60) (lb 13 1023) HT_ (fun K hK=>?_)
       refine q5g (w1:=?_) (v:=?_) (by rfl) rfl ?_ ?_
       rotate_left 2
       ·go_simp
        constructor
        ·rfl
        ·rfl
       refine hK.out _ _ ((q1h (HM.out.alloc _).b3 1).trans rfl) (fun hHeld=>?_)
       clear hK K
       refine q3f (a':=?_) ?_ ?_
       rotate_left
       ·show Act.put _ (some 60) _ = _
        simp only [Act.put,List.setIfInBounds_toArray,List.set_cons_zero,List.set_cons_succ,q3O,q3U]
        rfl
       refine oo 10 (some 61) (lb 13 2047) HT_ (fun K hK=>?_)
       refine Kd.N_append_step k86 w.heap.size (by rfl) (.tmp 52) (.tmp 60) 40 86 (.agg #[(.string ⟨#[]⟩),(.int .i64 0),(.string ⟨#[]⟩),(.int .i64 0),(.slice none 0 0)]) 72 rfl Tryd.underlying40 v2J rfl (by decide) (by omega) vF (q4M FL i) (q8b FL i) [.string (q8b FL i).f0,.int .i64 (q8b FL i).f1.f0,.string (q8b FL i).f1.f1,.int .i64 (q8b FL i).f1.f2,.slice A7 (q8b FL i).f1.f3.length c7] (okB w g1 g2 g3) (fun k_=>wi_≤k_) rfl rfl (v0c _ _ (q8b FL i) (q0y HV.out).2.1 (Kd.V_F HV.out)) (fun k_ hk=>⟨⟨q0k LWi.out hk,fun e_=>?k1,fun e_=>?k2,fun e_=>?k3⟩,fun e_=>?k4⟩) (q6i HM.out) HF.out HM.out.hb HM.out.hb.size (by rw [q5N];omega) (fun v1 w1 ho hb hg hat=>?_)
       case k1=>have:=LB1.out;omega
       case k2=>have:=LB2.out;omega
       case k3=>have:=LB3.out;omega
       case k4=>have:=LTF.out _ e_.symm;omega
       obtain ⟨Av,cv,e5_⟩:=q1o ho
       replace e5_:v1 = .slice Av ((q4M FL i).length + 1) cv:=by rw [e5_,List.length_append];rfl
       subst e5_
       have n0_:=am (HM.out.grown hg (fun k_ e_=>HF.out.1 _ e_))
       have n1_:=am ho
       refine hK.out _ _ ((q1h n0_.out.b3 1).trans rfl) (fun hHeld=>?_)
       clear hK K HM HF HV hg hat ho hb
       have HM:=n0_
       have HF:=n1_
       clear n0_ n1_
       refine q3f (a':=?_) ?_ ?_
       rotate_left
       ·show Act.put _ (some 61) _ = _
        simp only [Act.put,List.setIfInBounds_toArray,List.set_cons_zero,List.set_cons_succ,q3O,q3U]
        rfl
       refine pu 11 (some 62) (lb 13 4095) HT_ ?_
       refine q6P (i:=12) (N:=none) (lb 13 8191) rfl rfl (q5u HT_.out (by kernel_rfl)) (by decide) (fun K hK=>?_)
       have hs_:=(q1h HM.out.b3 1).trans (show _ = some vF from rfl)
       have hf_:=q0B HM.out.b3 1
       refine v1o (w1:=?_) (by rfl) rfl ?_ ?_
       rotate_left
       ·go_simp
        rfl
       refine hK.out _ _ ?_
       clear hK K
       refine q5c (q3Z HT_.out (by kernel_rfl)) ?_
       clear hs_ hf_
       go_wp2
       have EI:=am (show wrap64 ((i:Int) + 1) = ((i + 1:Nat):Int) by unfold wrap64;omega)
       go_roundg gq
       case measure=>have:=HI1.out;have:=EG.out;omega
       case rel=>exact ⟨i + 1,_,_,_,by first | exact congrArg (Value.int .i64) EI.out | rfl | simp,rfl,rfl,⟨by have:=HI1.out;have:=EG.out;omega⟩,⟨by omega⟩,⟨HM.out.put NE13.out NE23.out GE3.out 1 _ rfl⟩,⟨Kd.N_far (p:=⟨g3,1,none⟩) HF.out (fun k_ hk=>hk.2.2.2) _⟩⟩
   ·rw [decide_eq_false qi]
    obtain rfl:i = min FL.length 3:=by have:=HI2.out;omega
    clear HI1 HI2 EG qi
    have Z3:=bc8 ⟨HM.out.b3⟩
    go_upto_if 67 with fail
    go_cut [7] (fun v7 W=>∃ (x7 vC:Value),v7 = x7∧q0j (MB w W g1 g2 g3 #[.slice A0 FL.length c0,.slice A1 LL.length c1,.int .u8 d0,.int .u8 d1,.int .u8 sm] #[.string ⟨#[109,97,100,101]⟩,vF,vC,.slice none 0 0,.int .i64 0,.string ⟨#[]⟩,.int .i64 0,.slice none 0 0])∧q0j (Kd.N k86 86 W w.heap.size (okB w g1 g2 g3) vF (q4M FL (min FL.length 3)))∧q0j (Kd.N k88 88 W w.heap.size (okB w g1 g2 g3) vC (cntN d0 d1)))
    case first=>
     by_cases cd:d0 % 3 = 1
     ·have cd1:=beq_iff_eq.mpr cd
      have LC:=am (show cntN d0 d1 = []++[⟨⟨#[99]⟩,d1 % 2,d1 % 2 + d1 / 2 % 3⟩] from if_pos cd)
      clear cd
      go_wp2_with (first|((with_reducible refine q1J (b:=.append) (xs:=#[.tmp 74,.tmp 85]) rfl ?_);(try (refine q1l (by rfl) ?_;dsimp only));at_builtin;refine Kd.N_append k88 w.heap.size rfl (.tmp 74) (.tmp 85) 41 88 (.agg #[(.string ⟨#[]⟩),(.int .i64 0),(.int .i64 0)]) 32 rfl Tryd.underlying41 v2M rfl (by decide) (by omega) (.slice none 0 0) [] ⟨⟨#[99]⟩,d1 % 2,d1 % 2 + d1 / 2 % 3⟩ [.string ⟨#[99]⟩,.int .i64 (d1 % 2),.int .i64 (d1 % 2 + d1 / 2 % 3)] (okB w g1 g2 g3) (fun _=>False) rfl rfl (k88_mkF _ _ ⟨⟨#[99]⟩,d1 % 2,d1 % 2 + d1 / 2 % 3⟩) (fun _ hk=>hk.elim) (q6i HM.out) (Kd.N_nil _ _ _ _ _) HM.out.hb HM.out.hb.size (by simp) ?_;intro v1 w1 ho hb hg hat;obtain ⟨Av,cv,e5_⟩:=q1o ho;replace e5_:v1 = .slice Av 1 cv:=e5_;subst e5_;have n0_:=am (HM.out.grown hg (fun k_ e_=>by cases e_));have n1_:=am (Kd.N_grown HF.out hg (fun k_ _ e_=>by cases e_));clear HM HF Z3 hb hg hat;have HM:=n0_;have HF:=n1_;have HC:=am ho;clear ho n0_ n1_;have Z3:=bc8 ⟨HM.out.b3⟩))
      go_meet
      case rel=>exact ⟨_,_,rfl,⟨HM.out.put NE13.out NE23.out GE3.out 2 _ rfl⟩,⟨Kd.N_far (p:=⟨g3,2,none⟩) HF.out (fun k_ hk=>hk.2.2.2) _⟩,⟨by rw [LC.out];exact Kd.N_far (p:=⟨g3,2,none⟩) HC.out (fun k_ hk=>hk.2.2.2) _⟩⟩
     ·have cd1:=beq_eq_false_iff_ne.mpr cd
      have LC:=am (show cntN d0 d1 = [] from if_neg cd)
      clear cd
      go_wp2
      go_meet
      case rel=>exact ⟨_,_,rfl,⟨HM.out⟩,⟨HF.out⟩,⟨by rw [LC.out];exact Kd.N_nil _ _ _ _ _⟩⟩
    case rest=>
     obtain ⟨x7,vC,rfl,hm,hf,HC⟩:=hcut
     clear HM HF Z3
     have HM:=hm
     have HF:=hf
     clear hm hf Z1
     go_wp2
     rename World=>w4
     obtain ⟨AF,cF,rfl⟩:=q1o HF.out
     obtain ⟨AC,cC,rfl⟩:=q1o HC.out
     go_loopg [8,9] 17 (fun kq v8 v9 W=>∃ (i:Nat) (A8:Option Addr) (c8:Nat) (l:List S25),v8 = .slice A8 l.length c8∧v9 = .int .i64 (i:Int)∧q0j (i + kq = 17)∧q0j (i≤min LL.length 16)∧q0j (q8h k LL (((q4M FL (min FL.length 3)).length:Nat):Int) (decide (0 < (cntN d0 d1).length)) i = some l)∧q0j (Below w4.heap.size w4 W)∧q0j (gN w4 W (.slice A8 l.length c8) l))
     case atStart=>exact ⟨0,none,0,[],rfl,rfl,⟨rfl⟩,⟨q2c _⟩,⟨rfl⟩,⟨q0i _ _⟩,⟨Kd.N_nil _ _ _ _ _⟩⟩
     case round=>
      obtain ⟨i,A8,c8,l,rfl,rfl,HI1,HI2,HLN,HB4,HN⟩:=hrel
      obtain ⟨gq,EG⟩:∃ q_,q0j (q_ = gk - 1):=⟨_,⟨rfl⟩⟩
      have HMw:=am (HM.out.below HB4.out)
      have Z1:=bc5 ⟨HMw.out.b1⟩
      go_upto_region 16 with fail
      go_cut [96] (fun c_ wx=>c_ = .bool (decide (i < min LL.length 16))∧wx = wr)
      case first=>
       by_cases t1:(i:Int) < (LL.length:Int)
       ·by_cases t2:(i:Int) < 16
        ·have hb_:=am (congrArg Value.bool (q0w (show i < min LL.length 16 by omega))).symm
         replace t1:=q0c t1
         replace t2:=q0c t2
         go_wp2
         go_meet
         case rel=>exact ⟨hb_.out,rfl⟩
        ·have hb_:=am (congrArg Value.bool (q0S (show ¬ i < min LL.length 16 by omega))).symm
         replace t1:=q0c t1
         replace t2:=eq_false t2
         go_wp2
         go_meet
         case rel=>exact ⟨hb_.out,rfl⟩
       ·have hb_:=am (congrArg Value.bool (q0S (show ¬ i < min LL.length 16 by omega))).symm
        replace t1:=eq_false t1
        go_wp2
        go_meet
        case rel=>exact ⟨hb_.out,rfl⟩
      case rest=>
       obtain ⟨rfl,rfl⟩:=hcut
       by_cases qi:i < min LL.length 16
       ·rw [decide_eq_true qi]
        have p_:(0:Int)≤(i:Int):=Int.natCast_nonneg _
        have q_:(i:Int) < (LL.length:Int):=by omega
        obtain ⟨ad0,e_,y0⟩:=Kd.at_int (q0r HL0.out HMw.out.hb) (i:Int) p_ q_
        cases e_
        rw [Int.toNat_natCast] at y0
        have RG:=am (hLL _ (v0S (xs:=LL) (show i < LL.length by omega)))
        obtain ⟨lz,hlz⟩:=q9w HLF.out (i + 1) (by omega)
        obtain ⟨lx,hx1,hx2⟩:=Option.bind_eq_some_iff.mp (show (q8h k LL (((q4M FL (min FL.length 3)).length:Nat):Int) (decide (0 < (cntN d0 d1).length)) i).bind _ = some lz from hlz)
        obtain rfl:=q0d (HLN.out.symm.trans hx1)
        have HLZ:=am hlz
        have HGR:=am hx2
        clear hlz hx1 hx2
        have QI:=am qi
        clear qi
        replace p_:=q0c p_
        replace q_:=q0c q_
        go_wp2
        have n0_:=am HMw.out.drew
        have n1_:=am (q0l HB4.out)
        have n2_:=am (q2I HN.out)
        have n3_:=cB (a:=ad0.add i) ⟨q0l (q0i _ _)⟩ y0
        clear HMw HB4 HN y0
        have HMw:=n0_
        have HB4:=n1_
        have HN:=n2_
        have y0:=n3_
        clear n0_ n1_ n2_ n3_ Z1
        refine q4o (n:=15) (S:=fun w'=>w'.cell? ⟨g1,1,none⟩ = some (.slice (some ad0) LL.length c1)∧w'.cell? ⟨g3,1,none⟩ = some (.slice AF (q4M FL (min FL.length 3)).length cF)∧w'.cell? ⟨g3,2,none⟩ = some (.slice AC (cntN d0 d1).length cC)∧w'.cell? (ad0.add i) = some (.int .u8 (rd LL (i:Int)))) (ds:=[13]) (lb 15 0) (by kernel_rfl) rfl rfl ⟨(q1h HMw.out.b1 1).trans rfl,(q1h HMw.out.b3 1).trans rfl,(q1h HMw.out.b3 2).trans rfl,y0⟩ (fun hHeld=>?_)
        refine q3u v2C v2A (fun HT_ HW_=>?_)
        refine pu 0 (some 99) (lb 15 1) HT_ ?_
        refine pu 1 (some 100) (lb 15 3) HT_ ?_
        refine tk 2 (some 101) (lb 15 7) HT_ HW_ hHeld ?_
        refine pu 3 (some 102) (lb 15 15) HT_ ?_
        refine pu 4 (some 103) (lb 15 31) HT_ ?_
        refine tk 5 (some 104) (lb 15 63) HT_ HW_ hHeld ?_
        refine pu 6 (some 105) (lb 15 127) HT_ ?_
        refine tk 7 (some 106) (lb 15 255) HT_ HW_ hHeld ?_
        refine pu 8 (some 107) (lb 15 511) HT_ ?_
        refine pu 9 (some 108) (lb 15 1023) HT_ ?_
        refine tk 10 (some 109) (lb 15 2047) HT_ HW_ hHeld ?_
        refine pu 11 (some 110) (lb 15 4095) HT_ ?_
        refine pu 12 (some 111) (lb 15 8191) HT_ ?_
        refine q6P (i:=13) (N:=some 112) (lb 15 16383) rfl rfl (q5u HT_.out (by kernel_rfl)) (by decide) (fun K hK=>?_)
        refine gO (N:=some 112) Tryd.func50 #[.slice A8 l.length c8,.int .u8 (rd LL (i:Int)),.int .i64 (((q4M FL (min FL.length 3)).length:Nat):Int),.bool (decide (0 < (cntN d0 d1).length))] ?_
        refine (q3K.calls w4 k A8 c8 l (rd LL (i:Int)) (((q4M FL (min FL.length 3)).length:Nat):Int) (decide (0 < (cntN d0 d1).length)) lz _ HB4.out HN.out RG.out.1 RG.out.2 HGR.out).mono ?_
        rintro e w5 ⟨v5,rfl,ho,hb⟩
        refine ⟨_,rfl,?_⟩
        obtain ⟨A9,c9,rfl⟩:=q1o ho
        have n0_:=am hb
        have n1_:=am ho
        refine hK.out _ _ ?_
        clear hK K HMw HB4 HN ho hb y0 hHeld
        have HB4:=n0_
        have HN:=n1_
        clear n0_ n1_
        refine q3f (a':=?_) ?_ ?_
        rotate_left
        ·show Act.put _ (some 112) _ = _
         simp only [Act.put,List.setIfInBounds_toArray,List.set_cons_zero,List.set_cons_succ,q3O,q3U]
         rfl
        refine pu 14 (some 8) (lb 15 32767) HT_ ?_
        refine q5c (q3Z HT_.out (by kernel_rfl)) ?_
        go_wp2
        have EI:=am (show wrap64 ((i:Int) + 1) = ((i + 1:Nat):Int) by have:=QI.out;unfold wrap64;omega)
        go_roundg gq
        case measure=>have:=HI1.out;have:=EG.out;have:=QI.out;omega
        case rel=>exact ⟨i + 1,_,_,lz,rfl,by first | exact congrArg (Value.int .i64) EI.out | rfl | simp,⟨by have:=HI1.out;have:=EG.out;have:=QI.out;omega⟩,⟨by have:=QI.out;omega⟩,HLZ,⟨by repeat (first | exact HB4.out | apply q0m | apply q0l)⟩,⟨aN HN.out⟩⟩
       ·rw [decide_eq_false qi]
        obtain rfl:i = min LL.length 16:=by have:=HI2.out;omega
        obtain rfl:=q0d (HLF.out.symm.trans HLN.out)
        have LW:=am (q3V HM.out.b3)
        clear HI1 HI2 EG qi HLN Z1
        go_upto_region 19 with fail
        go_cut [114] (fun v_ W=>∃ (x_:Value) (A7:Option Addr) (c7:Nat),v_ = x_∧q0j (MB w W g1 g2 g3 #[.slice A0 FL.length c0,.slice A1 LL.length c1,.int .u8 d0,.int .u8 d1,.int .u8 sm] #[.string ⟨#[109,97,100,101]⟩,.slice AF (q4M FL (min FL.length 3)).length cF,.slice AC (cntN d0 d1).length cC,.slice none 0 0,.int .i64 (oneN lf).f0,.string (oneN lf).f1,.int .i64 (oneN lf).f2,.slice A7 (oneN lf).f3.length c7])∧q0j (Kd.N k86 86 W w.heap.size (okB w g1 g2 g3) (.slice AF (q4M FL (min FL.length 3)).length cF) (q4M FL (min FL.length 3)))∧q0j (Kd.N k88 88 W w.heap.size (okB w g1 g2 g3) (.slice AC (cntN d0 d1).length cC) (cntN d0 d1))∧q0j (Kd.V k25 25 W w.heap.size (okB w g1 g2 g3) (.slice A7 (oneN lf).f3.length c7) (oneN lf).f3))
        case first=>
         go_wp2_with (first|((with_reducible refine gc 49 ?_);refine gL (some 114) Tryd.func49 #[.slice A8 lf.length c8] ?_;refine (q3M.calls (fun k_=>w4.heap.size≤k_) A8 c8 lf (oneN lf).f0 (oneN lf).f1 (oneN lf).f2 (oneN lf).f3 _ (Kd.N_V (aN HN.out)) (v0k lf)).mono ?_;rintro e w5 ⟨v5,rfl,hV,hb⟩;refine ⟨_,rfl,?_⟩;obtain ⟨A7,c7,rfl⟩:=q2a hV;have n3_:=bS (show Below w4.heap.size w4 _ by repeat (first | exact HB4.out | apply q0m | apply q0l)) hb;have n0_:=am (HM.out.below n3_.out);have n1_:=am (q0u HF.out n3_.out);have n2_:=am (q0u HC.out n3_.out);have hV':=q0v (ok':=okB w g1 g2 g3) hV (fun k_ hk=>q6i HM.out k_ (hk.elim id (fun hk=>q0k ((show Below w4.heap.size w4 _ by repeat (first | exact HB4.out | apply q0m | apply q0l))).size hk)));have HV:=am (q2R (base':=w.heap.size) hV' (q0k HM.out.hb.size ((show Below w4.heap.size w4 _ by repeat (first | exact HB4.out | apply q0m | apply q0l))).size));clear hV hV' hb HMw;have HMw:=n0_;have HF':=n1_;have HC':=n2_;clear n0_ n1_ n2_ n3_;have Z3:=bc8 ⟨HMw.out.b3⟩))
         go_meet
         case rel=>exact ⟨_,A7,c7,rfl,⟨((((HMw.out.put NE13.out NE23.out GE3.out 4 _ rfl).put NE13.out NE23.out GE3.out 5 _ rfl).put NE13.out NE23.out GE3.out 6 _ rfl).put NE13.out NE23.out GE3.out 7 _ rfl)⟩,⟨Kd.N_step HF'.out (fun k_ hk _=>s4 hk.2.2.2)⟩,⟨Kd.N_step HC'.out (fun k_ hk _=>s4 hk.2.2.2)⟩,⟨((((Kd.V_far (p:=⟨g3,7,none⟩) (Kd.V_far (p:=⟨g3,6,none⟩) (Kd.V_far (p:=⟨g3,5,none⟩) (Kd.V_far (p:=⟨g3,4,none⟩) HV.out (fun k_ hk=>hk.2.2.2) _) (fun k_ hk=>hk.2.2.2) _) (fun k_ hk=>hk.2.2.2) _) (fun k_ hk=>hk.2.2.2) _))))⟩⟩
        case rest=>
         obtain ⟨x_,A7,c7,rfl,hm,hf,hc,HV⟩:=hcut
         clear HM HF HC HMw HB4 HN
         have HM:=hm
         have HF:=hf
         have HC:=hc
         clear hm hf hc
         have Z3:=bc8 ⟨HM.out.b3⟩
         go_wp2_with (first|((with_reducible refine gc 51 ?_);refine gL (some 118) Tryd.func51 #[.agg #[.int .i64 (oneN lf).f0,.string (oneN lf).f1,.int .i64 (oneN lf).f2,.slice A7 (oneN lf).f3.length c7]] ?_;refine (q0L.calls k (oneN lf).f0 (oneN lf).f1 (oneN lf).f2 A7 c7 (oneN lf).f3 ns _ ?sC (q0y HV.out).2.1 HNS.out).mono ?_;(case sC=>exact (q0y (aV HV.out)).2.2);rintro e w6 ⟨v6,rfl,hR,hb⟩;refine ⟨_,rfl,?_⟩;obtain ⟨AN,cN,rfl⟩:=q0I hR;have n0_:=am (HM.out.below hb);have n1_:=am (q0u HF.out hb);have n2_:=am (q0u HC.out hb);have n3_:=am (q1s HV.out hb);have HNR:=am (q0Y hR).2.2;clear HM HF HC HV hb hR Z3;have HM:=n0_;have HF:=n1_;have HC:=n2_;have HV:=n3_;clear n0_ n1_ n2_ n3_))
         go_loopg [11,12] (ns.length + 1) (fun kq v11 v12 W=>∃ (j:Nat) (u:Value),v11 = u∧v12 = .int .i64 (j:Int)∧q0j (j + kq = ns.length + 1)∧q0j (j≤ns.length)∧q0j (Below w6.heap.size w6 W)∧q0j (Kd.R Kd.string 9 W w6.heap.size (fun k_=>w6.heap.size≤k_) u (q4f ns j)))
         case atStart=>exact ⟨0,_,rfl,rfl,⟨Nat.zero_add _⟩,⟨q2c _⟩,⟨q0i _ _⟩,⟨Kd.R_nil _ _ _ _ _⟩⟩
         case round=>
          obtain ⟨j,u,rfl,rfl,HJ1,HJ2,HB6,HR⟩:=hrel
          obtain ⟨gq,EG⟩:∃ q_,q0j (q_ = gk - 1):=⟨_,⟨rfl⟩⟩
          by_cases qj:j < ns.length
          ·have p_:(0:Int)≤(j:Int):=Int.natCast_nonneg _
           have q_:(j:Int) < (ns.length:Int):=by omega
           obtain ⟨ad0,e_,y0⟩:=q2C (q0r HNR.out HB6.out) (j:Int) p_ q_
           cases e_
           rw [Int.toNat_natCast] at y0
           have QJ:=am qj
           have q1_:=q0c qj
           clear qj
           replace p_:=q0c p_
           replace q_:=q0c q_
           have EJ:=am (show wrap64 ((j:Int) + 1) = ((j + 1:Nat):Int) by have:=QJ.out;have:=HNL.out;unfold wrap64;omega)
           have LM:=am (q5L ns j)
           by_cases t1:(rdOf ByteArray.empty ns (j:Int)).toList = ([109]:List UInt8)
           ·have MN:=am (show q4f ns (j + 1) = q4f ns j++[(rdOf ByteArray.empty ns (j:Int))] from if_pos (by simp [isMk,t1]))
            have t1b:=eT t1
            clear t1
            go_wp2_with (first|((with_reducible refine q1J (b:=.append) (xs:=#[.tmp 137,.tmp 142]) rfl ?_);(try (refine q1l (by rfl) ?_;dsimp only));at_builtin;refine Kd.R_append Kd.string (w0:=w6) w6.heap.size rfl (.tmp 137) (.tmp 142) 39 9 (.string ⟨#[]⟩) 16 rfl Tryd.underlying39 q4K rfl (by decide) (by omega) u11 (q4f ns j) (rdOf ByteArray.empty ns (j:Int)) [.string (rdOf ByteArray.empty ns (j:Int))] (fun k_=>w6.heap.size≤k_) (fun _=>False) rfl rfl rfl (fun _ hk=>hk.elim) (fun k_ hk=>q0k HB6.out.size hk) HR.out HB6.out HB6.out.size (by have:=LM.out;have:=QJ.out;have:=HNL.out;omega) ?_;intro u2 w9 ho hb hg hat;have n0_:=am hb;have n1_:=am ho;clear HB6 HR ho hb hg hat;have HB6:=n0_;have HR:=n1_;clear n0_ n1_))
            go_roundg gq
            case measure=>have:=HJ1.out;have:=EG.out;have:=QJ.out;omega
            case rel=>exact ⟨j + 1,_,rfl,by first | exact congrArg (Value.int .i64) EJ.out | rfl | simp,⟨by have:=HJ1.out;have:=EG.out;have:=QJ.out;omega⟩,⟨by have:=QJ.out;omega⟩,⟨by repeat (first | exact HB6.out | apply q0m | apply q0l)⟩,⟨by rw [MN.out];exact aR HR.out⟩⟩
           ·by_cases t2:(rdOf ByteArray.empty ns (j:Int)).toList = ([110]:List UInt8)
            ·have MN:=am (show q4f ns (j + 1) = q4f ns j++[(rdOf ByteArray.empty ns (j:Int))] from if_pos (by simp [isMk,t2]))
             have t1b:=nF t1
             have t2b:=eT t2
             clear t1 t2
             go_wp2_with (first|((with_reducible refine q1J (b:=.append) (xs:=#[.tmp 137,.tmp 142]) rfl ?_);(try (refine q1l (by rfl) ?_;dsimp only));at_builtin;refine Kd.R_append Kd.string (w0:=w6) w6.heap.size rfl (.tmp 137) (.tmp 142) 39 9 (.string ⟨#[]⟩) 16 rfl Tryd.underlying39 q4K rfl (by decide) (by omega) u11 (q4f ns j) (rdOf ByteArray.empty ns (j:Int)) [.string (rdOf ByteArray.empty ns (j:Int))] (fun k_=>w6.heap.size≤k_) (fun _=>False) rfl rfl rfl (fun _ hk=>hk.elim) (fun k_ hk=>q0k HB6.out.size hk) HR.out HB6.out HB6.out.size (by have:=LM.out;have:=QJ.out;have:=HNL.out;omega) ?_;intro u2 w9 ho hb hg hat;have n0_:=am hb;have n1_:=am ho;clear HB6 HR ho hb hg hat;have HB6:=n0_;have HR:=n1_;clear n0_ n1_))
             go_roundg gq
             case measure=>have:=HJ1.out;have:=EG.out;have:=QJ.out;omega
             case rel=>exact ⟨j + 1,_,rfl,by first | exact congrArg (Value.int .i64) EJ.out | rfl | simp,⟨by have:=HJ1.out;have:=EG.out;have:=QJ.out;omega⟩,⟨by have:=QJ.out;omega⟩,⟨by repeat (first | exact HB6.out | apply q0m | apply q0l)⟩,⟨by rw [MN.out];exact aR HR.out⟩⟩
            ·have MN:=am (show q4f ns (j + 1) = q4f ns j from if_neg (by simp [isMk,t1,t2]))
             have t1b:=nF t1
             have t2b:=nF t2
             clear t1 t2
             go_wp2
             go_roundg gq
             case measure=>have:=HJ1.out;have:=EG.out;have:=QJ.out;omega
             case rel=>exact ⟨j + 1,_,rfl,by first | exact congrArg (Value.int .i64) EJ.out | rfl | simp,⟨by have:=HJ1.out;have:=EG.out;have:=QJ.out;omega⟩,⟨by have:=QJ.out;omega⟩,⟨by repeat (first | exact HB6.out | apply q0m | apply q0l)⟩,⟨by rw [MN.out];exact aR HR.out⟩⟩
          ·obtain rfl:j = ns.length:=by have:=HJ2.out;omega
           clear HJ1 HJ2 EG qj
           have HMw:=am (HM.out.below HB6.out)
           have HF':=am (q0u HF.out HB6.out)
           have HC':=am (q0u HC.out HB6.out)
           have HV':=am (q1s HV.out HB6.out)
           have FR6:=am (q6i HM.out)
           clear HM HF HC HV HB6
           obtain ⟨Au,cu,rfl⟩:=q0I HR.out
           have Z1:=bc5 ⟨HMw.out.b1⟩
           have Z2:=bc8 ⟨HMw.out.b2⟩
           have Z3:=bc8 ⟨HMw.out.b3⟩
           by_cases c1:sm % 2 = 1∧0 < (q4f ns ns.length).length
           ·have L3:=am (show l3 = [(q4f ns ns.length)] from HL3.out.symm.trans (if_pos c1))
            have c1b:=beq_iff_eq.mpr c1.1
            have c2b:=q0c c1.2
            have c2i:=q0c (show (0:Int) < ((q4f ns ns.length).length:Int) by omega)
            clear c1
            go_upto_region 29 with ((with_reducible refine q1J (b:=.append) (xs:=#[.tmp 154,.tmp 156]) rfl ?_);(try (refine q1l (by rfl) ?_;dsimp only));at_builtin;refine Kd.N_append (Kd.slice 9 Kd.string) w.heap.size rfl (.tmp 154) (.tmp 156) 42 39 (.slice none 0 0) 24 rfl Tryd.underlying42 q9z rfl (by decide) (by omega) (.slice none 0 0) [] (q4f ns ns.length) [.slice Au (q4f ns ns.length).length cu] (okB w g1 g2 g3) (fun k_=>w6.heap.size≤k_) rfl rfl (FK_strs (Kd.R_V HR.out)) (fun k_ hk=>⟨FR6.out k_ hk,fun e_=>by cases e_⟩) (q6i HMw.out) (Kd.N_nil _ _ _ _ _) HMw.out.hb HMw.out.hb.size (by simp) ?_;intro v1 w9 ho hb hg hat;obtain ⟨Av,cv,e5_⟩:=q1o ho;replace e5_:v1 = .slice Av 1 cv:=e5_;subst e5_;have n0_:=am (HMw.out.grown hg (fun k_ e_=>by cases e_));have n1_:=am (Kd.N_grown HF'.out hg (fun k_ _ e_=>by cases e_));have n2_:=am (Kd.N_grown HC'.out hg (fun k_ _ e_=>by cases e_));have n3_:=am (Kd.V_grown HV'.out hg (fun k_ _ e_=>by cases e_));have HS:=am ho;clear HMw HF' HC' HV' Z1 Z2 Z3 hb hg hat ho;have HM0:=n0_;have HF0':=n1_;have HC0':=n2_;have HV0':=n3_;clear n0_ n1_ n2_ n3_;have Z3:=bc8 ⟨HM0.out.b3⟩;have Z2:=bc8 ⟨HM0.out.b2⟩)
            have n0_:=am (HM0.out.put (cs3':=#[.string ⟨#[109,97,100,101]⟩,.slice AF (q4M FL (min FL.length 3)).length cF,.slice AC (cntN d0 d1).length cC,.slice Av 1 cv,.int .i64 (oneN lf).f0,.string (oneN lf).f1,.int .i64 (oneN lf).f2,.slice A7 (oneN lf).f3.length c7]) NE13.out NE23.out GE3.out 3 (.slice Av 1 cv) rfl)
            have n1_:=am (Kd.N_far (p:=⟨g3,3,none⟩) HF0'.out (fun k_ hk=>hk.2.2.2) (.slice Av 1 cv))
            have n2_:=am (Kd.N_far (p:=⟨g3,3,none⟩) HC0'.out (fun k_ hk=>hk.2.2.2) (.slice Av 1 cv))
            have n3_:=am (Kd.V_far (p:=⟨g3,3,none⟩) HV0'.out (fun k_ hk=>hk.2.2.2) (.slice Av 1 cv))
            have n4_:=am (Kd.N_far (p:=⟨g3,3,none⟩) HS.out (fun k_ hk=>hk.2.2.2) (.slice Av 1 cv))
            clear HM0 HF0' HC0' HV0' HS
            have HMw:=n0_
            have HF':=n1_
            have HC':=n2_
            have HV':=n3_
            have HS:=n4_
            clear n0_ n1_ n2_ n3_ n4_ Z2 Z3
            have Z2:=bc8 ⟨HMw.out.b2⟩
            have Z3:=bc8 ⟨HMw.out.b3⟩
            go_wp2
            refine bodyPost_ret (results_cell_row rfl _ _ g2 44 #[.string ⟨#[109,97,100,101]⟩,.slice AF (q4M FL (min FL.length 3)).length cF,.slice AC (cntN d0 d1).length cC,.slice Av 1 cv,.int .i64 (oneN lf).f0,.string (oneN lf).f1,.int .i64 (oneN lf).f2,.slice A7 (oneN lf).f3.length c7] (0,0) _ rfl (bp8 HMw.out.b2) Tryd.underlying44 rfl (by kernel_rfl)) rfl ?_
            rw [L3.out]
            exact ⟨_,_,_,_,_,_,_,_,rfl,(q0M (Kd.N_step HF'.out (fun k_ hk _=>s8 (g:=g2) hk.2.2.1))).2.2,(q0M HF'.out).2.1,(q0M (Kd.N_step HC'.out (fun k_ hk _=>s8 (g:=g2) hk.2.2.1))).2.2,(q0M HC'.out).2.1,(q0M (Kd.N_step HS.out (fun k_ hk _=>s8 (g:=g2) hk.2.2.1))).2.2,(q0M HS.out).2.1,(q0y (Kd.V_step HV'.out (fun k_ hk _=>s8 (g:=g2) hk.2.2.1))).2.2,(q0y HV'.out).2.1,(q1G (q1G (q1G (q1G (q1G (q1G (q1G (q1G HMw.out.hb GE2.out) GE2.out) GE2.out) GE2.out) GE2.out) GE2.out) GE2.out) GE2.out)⟩
           ·have L3:=am (show l3 = [] from HL3.out.symm.trans (if_neg c1))
            by_cases c3:sm % 2 = 1
            ·have c1b:=beq_iff_eq.mpr c3
             have c2b:=eq_false (fun h_=>c1 ⟨c3,h_⟩)
             have c2i:=eq_false (show ¬ (0:Int) < ((q4f ns ns.length).length:Int) from fun h_=>c1 ⟨c3,by omega⟩)
             clear c1 c3
             go_wp2
             refine bodyPost_ret (results_cell_row rfl _ _ g2 44 #[.string ⟨#[109,97,100,101]⟩,.slice AF (q4M FL (min FL.length 3)).length cF,.slice AC (cntN d0 d1).length cC,.slice none 0 0,.int .i64 (oneN lf).f0,.string (oneN lf).f1,.int .i64 (oneN lf).f2,.slice A7 (oneN lf).f3.length c7] (0,0) _ rfl (bp8 HMw.out.b2) Tryd.underlying44 rfl (by kernel_rfl)) rfl ?_
             rw [L3.out]
             exact ⟨_,_,_,_,_,_,_,_,rfl,(q0M (Kd.N_step HF'.out (fun k_ hk _=>s8 (g:=g2) hk.2.2.1))).2.2,(q0M HF'.out).2.1,(q0M (Kd.N_step HC'.out (fun k_ hk _=>s8 (g:=g2) hk.2.2.1))).2.2,(q0M HC'.out).2.1,Cnil3 _,q2c _,(q0y (Kd.V_step HV'.out (fun k_ hk _=>s8 (g:=g2) hk.2.2.1))).2.2,(q0y HV'.out).2.1,(q1G (q1G (q1G (q1G (q1G (q1G (q1G (q1G HMw.out.hb GE2.out) GE2.out) GE2.out) GE2.out) GE2.out) GE2.out) GE2.out) GE2.out)⟩
            ·have c1b:=beq_eq_false_iff_ne.mpr c3
             clear c1 c3
             go_wp2
             refine bodyPost_ret (results_cell_row rfl _ _ g2 44 #[.string ⟨#[109,97,100,101]⟩,.slice AF (q4M FL (min FL.length 3)).length cF,.slice AC (cntN d0 d1).length cC,.slice none 0 0,.int .i64 (oneN lf).f0,.string (oneN lf).f1,.int .i64 (oneN lf).f2,.slice A7 (oneN lf).f3.length c7] (0,0) _ rfl (bp8 HMw.out.b2) Tryd.underlying44 rfl (by kernel_rfl)) rfl ?_
             rw [L3.out]
             exact ⟨_,_,_,_,_,_,_,_,rfl,(q0M (Kd.N_step HF'.out (fun k_ hk _=>s8 (g:=g2) hk.2.2.1))).2.2,(q0M HF'.out).2.1,(q0M (Kd.N_step HC'.out (fun k_ hk _=>s8 (g:=g2) hk.2.2.1))).2.2,(q0M HC'.out).2.1,Cnil3 _,q2c _,(q0y (Kd.V_step HV'.out (fun k_ hk _=>s8 (g:=g2) hk.2.2.1))).2.2,(q0y HV'.out).2.1,(q1G (q1G (q1G (q1G (q1G (q1G (q1G (q1G HMw.out.hb GE2.out) GE2.out) GE2.out) GE2.out) GE2.out) GE2.out) GE2.out) GE2.out)⟩
end
section
attribute [local go_sem] q1X q2F q2H q3c q3b q2u q2t q2E q2G
set_option linter.unusedVariables false
set_option linter.unusedSimpArgs false
theorem q5t {w W:World} {g:Nat} {v0 v1 v2 v3 v4 v5 v6 v7:Value} (h:Below w.heap.size w W) (hg:w.heap.size≤g):Below w.heap.size w ((((((((W.setCell ⟨g,0,none⟩ v0).setCell ⟨g,1,none⟩ v1).setCell ⟨g,2,none⟩ v2).setCell ⟨g,3,none⟩ v3).setCell ⟨g,4,none⟩ v4).setCell ⟨g,5,none⟩ v5).setCell ⟨g,6,none⟩ v6).setCell ⟨g,7,none⟩ v7):=
 q1G (q1G (q1G (q1G (q1G (q1G (q1G (q1G h hg) hg) hg) hg) hg) hg) hg) hg
set_option maxHeartbeats 8000000 in
set_option maxRecDepth 100000 in
theorem q5E.calls (k:Nat) (A0:Option Addr) (c0:Nat) (FL:List (List Int)) (A1:Option Addr) (c1:Nat) (LL:List Int) (d0 d1 sm:Int) (a0:q0a) (l1:List S86) (l2:List S88) (l3:List (List q0a)) (a4:Int) (a5:q0a) (a6:Int) (l7:List S25) (s:q0a) (w:World) (hF:Kd.C (Kd.slice 5 kB) w A0 FL.length FL) (hc0:FL.length≤c0) (hL:kB.C w A1 LL.length LL) (hc1:LL.length≤c1) (hLL:∀ x,x ∈ LL → 0≤x∧x < 256) (e0:0≤d0∧d0 < 256) (e1:0≤d1∧d1 < 256) (e2:0≤sm∧sm < 256) (hA:q2Y.f k = some true) (hM:q3S.f k FL LL d0 d1 sm = some (a0,l1,l2,l3,a4,a5,a6,l7)) (hFo:q0R.f k a0 l1 l2 l3 a4 a5 a6 l7 = some (s,0)) (hP:q3E.f k s = some (a0,l1,l2,l3,a4,a5,a6,l7,0,0)) (hV:q0D.f k a0 l1 l2 l3 a4 a5 a6 l7 = some 0) (hS:q0p.f k a0 l1 l2 l3 a4 a5 a6 l7 a0 l1 l2 l3 a4 a5 a6 l7 = some true) :
  Calls Tryd.prog 5 #[.agg #[.slice A0 FL.length c0,.slice A1 LL.length c1,.int .u8 d0,.int .u8 d1,.int .u8 sm]] w fun e w'=>e = .returned (.bool true)∧Below w.heap.size w w':=by
 have HB:=am (q0i w.heap.size w)
 have HF0:=am hF
 have HL0:=am hL
 have HC0:=am hc0
 have HC1:=am hc1
 have HA:=am hA
 have HM:=am hM
 have HFo:=am hFo
 have HP:=am hP
 have HV:=am hV
 have HS:=am hS
 clear hF hL hc0 hc1 hA hM hFo hP hV hS
 go_enter Tryd.func5,Tryd.ntmps5
 go_upto_region 4 with (first|((with_reducible refine gd 1 ?_);refine be 1 #[.slice A0 FL.length c0,.slice A1 LL.length c1,.int .u8 d0,.int .u8 d1,.int .u8 sm] 52 ?_;intro g1 hg w1 hbox hb;have BK1:=am hbox;replace HB:=bS HB.out hb;clear hb hbox hg;have Z1:=bc5 BK1)|((with_reducible refine gc 9 ?_);(try (refine q1l (by rfl) ?_;dsimp only));refine gL (some 9) Tryd.func9 #[] ?_;refine (q2Y.calls k true _ HA.out).mono ?_;rintro e w2 ⟨rfl,hb⟩;refine ⟨_,rfl,?_⟩;have n0_:=bS (show Below _ _ _ by repeat (first | exact HB.out | apply pw_below_drew2 | apply q0l)) hb;clear HB;have HB:=n0_;clear n0_;replace BK1:=am (q3h (by (with_reducible repeat (first | refine blk_drew2 ?_ _ | refine q1b ?_ | refine q0N ?_ _));exact BK1.out) hb);clear hb;clear Z1;have Z1:=bc5 BK1)|((with_reducible refine gc 17 ?_);(try (refine q1l (by rfl) ?_;dsimp only));refine gL (some 12) Tryd.func17 #[.agg #[.slice A0 FL.length c0,.slice A1 LL.length c1,.int .u8 d0,.int .u8 d1,.int .u8 sm]] ?_;refine (q3S.calls k A0 c0 FL A1 c1 LL d0 d1 sm a0 l1 l2 l3 a4 a5 a6 l7 _ (q0r HF0.out (show Below _ _ _ by repeat (first | exact HB.out | apply pw_below_drew3 | apply q0l))) HC0.out (q0r HL0.out (show Below _ _ _ by repeat (first | exact HB.out | apply pw_below_drew3 | apply q0l))) HC1.out hLL e0 e1 e2 HM.out).mono ?_;rintro e w3 ⟨B1,b1,B2,b2,B3,b3,B7,b7,rfl,r1,m1,r2,m2,r3,m3,r7,m7,hb⟩;refine ⟨_,rfl,?_⟩;have n0_:=bS (show Below _ _ _ by repeat (first | exact HB.out | apply pw_below_drew3 | apply q0l)) hb;clear HB;have HB:=n0_;clear n0_;clear hb;have D2:=am (q0i w3.heap.size w3);have RB1:=am r1;have MB1:=am m1;have RB2:=am r2;have MB2:=am m2;have RB3:=am r3;have MB3:=am m3;have RB7:=am r7;have MB7:=am m7;clear r1 m1 r2 m2 r3 m3 r7 m7 Z1)|((with_reducible refine gd 3 ?_);refine be 3 #[.string ⟨#[]⟩,.slice none 0 0,.slice none 0 0,.slice none 0 0,.int .i64 0,.string ⟨#[]⟩,.int .i64 0,.slice none 0 0] 44 ?_;intro g3 hg w30 hbox hb;have BK3:=am hbox;have GE3:=am (show w.heap.size≤g3 by rw [hg];exact (show Below w.heap.size w _ from (show Below _ _ _ by repeat (first | exact HB.out | apply q0m | apply q0l))).size);have GD3:=am (show w3.heap.size≤g3 by rw [hg];exact (show Below w3.heap.size w3 _ from (show Below _ _ _ by repeat (first | exact D2.out | apply q0m | apply q0l))).size);have n0_:=bS (show Below _ _ _ by repeat (first | exact HB.out | apply q0m | apply q0l)) hb;have n1_:=bS (show Below _ _ _ by repeat (first | exact D2.out | apply q0m | apply q0l)) hb;clear HB;clear D2;have HB:=n0_;have D2:=n1_;clear n0_ n1_;clear hb hbox hg;have Z3:=bc8 BK3))
 have n0_:=am (bp8 (v0:=.string a0) (v1:=.slice B1 l1.length b1) (v2:=.slice B2 l2.length b2) (v3:=.slice B3 l3.length b3) (v4:=.int .i64 a4) (v5:=.string a5) (v6:=.int .i64 a6) (v7:=.slice B7 l7.length b7) BK3.out)
 have n1_:=am (q5t (v0:=.string a0) (v1:=.slice B1 l1.length b1) (v2:=.slice B2 l2.length b2) (v3:=.slice B3 l3.length b3) (v4:=.int .i64 a4) (v5:=.string a5) (v6:=.int .i64 a6) (v7:=.slice B7 l7.length b7) HB.out GE3.out)
 have n2_:=am (q5t (v0:=.string a0) (v1:=.slice B1 l1.length b1) (v2:=.slice B2 l2.length b2) (v3:=.slice B3 l3.length b3) (v4:=.int .i64 a4) (v5:=.string a5) (v6:=.int .i64 a6) (v7:=.slice B7 l7.length b7) D2.out GD3.out)
 clear BK3 HB D2 Z3
 have BK3:=n0_
 have HB:=n1_
 have D2:=n2_
 clear n0_ n1_ n2_
 have Z3:=bc8 BK3
 go_upto_region 6 with (first|((with_reducible refine gc 18 ?_);(try (refine q1l (by rfl) ?_;dsimp only));refine gL (some 15) Tryd.func18 #[.agg #[.string a0,.slice B1 l1.length b1,.slice B2 l2.length b2,.slice B3 l3.length b3,.int .i64 a4,.string a5,.int .i64 a6,.slice B7 l7.length b7]] ?_;refine (q0R.calls k a0 B1 b1 l1 B2 b2 l2 B3 b3 l3 a4 a5 a6 B7 b7 l7 s 0 _ (q0r RB1.out (show Below _ _ _ by repeat (first | exact D2.out | apply pw_below_drew5 | apply q0l))) MB1.out (q0r RB2.out (show Below _ _ _ by repeat (first | exact D2.out | apply pw_below_drew5 | apply q0l))) MB2.out (q0r RB3.out (show Below _ _ _ by repeat (first | exact D2.out | apply pw_below_drew5 | apply q0l))) MB3.out (q0r RB7.out (show Below _ _ _ by repeat (first | exact D2.out | apply pw_below_drew5 | apply q0l))) MB7.out HFo.out).mono ?_;rintro e w5 ⟨rfl,hb⟩;refine ⟨_,rfl,?_⟩;have n0_:=bS (show Below _ _ _ by repeat (first | exact HB.out | apply pw_below_drew5 | apply q0l)) hb;have n1_:=bS (show Below _ _ _ by repeat (first | exact D2.out | apply pw_below_drew5 | apply q0l)) hb;clear HB;clear D2;have HB:=n0_;have D2:=n1_;clear n0_ n1_;replace BK3:=am (q3h (by (with_reducible repeat (first | refine q1f ?_ _ | refine q1b ?_ | refine q0N ?_ _));exact BK3.out) hb);clear hb;clear Z3;have Z3:=bc8 BK3)|((with_reducible refine gc 15 ?_);(try (refine q1l (by rfl) ?_;dsimp only));refine gL (some 20) Tryd.func15 #[.string s] ?_;refine (q3E.calls k s a0 l1 l2 l3 a4 a5 a6 l7 0 0 _ HP.out).mono ?_;rintro e w6 ⟨v1,v2,v3,v7,rfl,h1,h2,h3,h7,hb⟩;refine ⟨_,rfl,?_⟩;have n0_:=bS (show Below _ _ _ by repeat (first | exact HB.out | apply pw_below_drew6 | apply q0l)) hb;have n1_:=bS (show Below _ _ _ by repeat (first | exact D2.out | apply pw_below_drew6 | apply q0l)) hb;clear HB;clear D2;have HB:=n0_;have D2:=n1_;clear n0_ n1_;replace BK3:=am (q3h (by (with_reducible repeat (first | refine q1f ?_ _ | refine q1b ?_ | refine q0N ?_ _));exact BK3.out) hb);clear hb;clear Z3;have Z3:=bc8 BK3;obtain ⟨E1,e1,rfl⟩:=q1o h1;obtain ⟨E2,e2,rfl⟩:=q0I h2;obtain ⟨E3,e3,rfl⟩:=q1o h3;obtain ⟨E7,e7,rfl⟩:=q2a h7;have D6:=am (q0i w6.heap.size w6);have RE1:=am (q0M h1).2.2;have ME1:=am (q0M h1).2.1;have RE2:=am (q0Y h2).2.2;have ME2:=am (q0Y h2).2.1;have RE3:=am (q0M h3).2.2;have ME3:=am (q0M h3).2.1;have RE7:=am (q0y h7).2.2;have ME7:=am (q0y h7).2.1;clear h1 h2 h3 h7)|((with_reducible refine gd 6 ?_);refine be 6 #[.string ⟨#[]⟩,.slice none 0 0,.slice none 0 0,.slice none 0 0,.int .i64 0,.string ⟨#[]⟩,.int .i64 0,.slice none 0 0] 44 ?_;intro g6 hg w60 hbox hb;have BK6:=am hbox;have GT6:=am (show w3.heap.size≤g6 by rw [hg];exact (show Below w3.heap.size w3 _ from (show Below _ _ _ by repeat (first | exact D2.out | apply q0m | apply q0l))).size);have GE6:=am (show w.heap.size≤g6 by rw [hg];exact (show Below w.heap.size w _ from (show Below _ _ _ by repeat (first | exact HB.out | apply q0m | apply q0l))).size);have GD6:=am (show w6.heap.size≤g6 by rw [hg];exact (show Below w6.heap.size w6 _ from (show Below _ _ _ by repeat (first | exact D6.out | apply q0m | apply q0l))).size);have n0_:=bS (show Below _ _ _ by repeat (first | exact HB.out | apply q0m | apply q0l)) hb;have n1_:=bS (show Below _ _ _ by repeat (first | exact D2.out | apply q0m | apply q0l)) hb;have n2_:=bS (show Below _ _ _ by repeat (first | exact D6.out | apply q0m | apply q0l)) hb;clear HB;clear D2;clear D6;have HB:=n0_;have D2:=n1_;have D6:=n2_;clear n0_ n1_ n2_;have NE36:=am (show g3≠g6 by rw [hg];exact q1p (q3V (by (with_reducible repeat (first | refine q1f ?_ _ | refine q1b ?_ | refine q0N ?_ _));exact BK3.out)));replace BK3:=am (q3h (by (with_reducible repeat (first | refine q1f ?_ _ | refine q1b ?_ | refine q0N ?_ _));exact BK3.out) hb);clear hb hbox hg;clear Z3;have Z6:=bc8 BK6))
 have n0_:=am (bp8 (v0:=.string a0) (v1:=.slice E1 l1.length e1) (v2:=.slice E2 l2.length e2) (v3:=.slice E3 l3.length e3) (v4:=.int .i64 a4) (v5:=.string a5) (v6:=.int .i64 a6) (v7:=.slice E7 l7.length e7) BK6.out)
 have n1_:=am (q5t (v0:=.string a0) (v1:=.slice E1 l1.length e1) (v2:=.slice E2 l2.length e2) (v3:=.slice E3 l3.length e3) (v4:=.int .i64 a4) (v5:=.string a5) (v6:=.int .i64 a6) (v7:=.slice E7 l7.length e7) HB.out GE6.out)
 have n2_:=am (q5t (v0:=.string a0) (v1:=.slice E1 l1.length e1) (v2:=.slice E2 l2.length e2) (v3:=.slice E3 l3.length e3) (v4:=.int .i64 a4) (v5:=.string a5) (v6:=.int .i64 a6) (v7:=.slice E7 l7.length e7) D2.out GT6.out)
 have n3_:=am (q5t (v0:=.string a0) (v1:=.slice E1 l1.length e1) (v2:=.slice E2 l2.length e2) (v3:=.slice E3 l3.length e3) (v4:=.int .i64 a4) (v5:=.string a5) (v6:=.int .i64 a6) (v7:=.slice E7 l7.length e7) D6.out GD6.out)
 have n4_:=am ((s8 (v0:=.string a0) (v1:=.slice E1 l1.length e1) (v2:=.slice E2 l2.length e2) (v3:=.slice E3 l3.length e3) (v4:=.int .i64 a4) (v5:=.string a5) (v6:=.int .i64 a6) (v7:=.slice E7 l7.length e7) NE36.out).trans BK3.out)
 clear BK3 BK6 HB D2 D6 Z6
 have BK6:=n0_
 have HB:=n1_
 have D2:=n2_
 have D6:=n3_
 have BK3:=n4_
 clear n0_ n1_ n2_ n3_ n4_
 have Z3:=bc8 BK3
 have Z6:=bc8 BK6
 go_wp2_with (first|((with_reducible refine gc 19 ?_);(try (refine q1l (by rfl) ?_;dsimp only));refine gL (some 25) Tryd.func19 #[.agg #[.string a0,.slice B1 l1.length b1,.slice B2 l2.length b2,.slice B3 l3.length b3,.int .i64 a4,.string a5,.int .i64 a6,.slice B7 l7.length b7]] ?_;refine (q0D.calls k a0 B1 b1 l1 B2 b2 l2 B3 b3 l3 a4 a5 a6 B7 b7 l7 0 _ (q0r RB1.out (show Below _ _ _ by repeat (first | exact D2.out | apply pw_below_drew7 | apply q0l))) MB1.out (q0r RB2.out (show Below _ _ _ by repeat (first | exact D2.out | apply pw_below_drew7 | apply q0l))) MB2.out (q0r RB3.out (show Below _ _ _ by repeat (first | exact D2.out | apply pw_below_drew7 | apply q0l))) MB3.out (q0r RB7.out (show Below _ _ _ by repeat (first | exact D2.out | apply pw_below_drew7 | apply q0l))) MB7.out HV.out).mono ?_;rintro e w7 ⟨rfl,hb⟩;refine ⟨_,rfl,?_⟩;have n0_:=bS (show Below _ _ _ by repeat (first | exact HB.out | apply pw_below_drew7 | apply q0l)) hb;have n1_:=bS (show Below _ _ _ by repeat (first | exact D2.out | apply pw_below_drew7 | apply q0l)) hb;have n2_:=bS (show Below _ _ _ by repeat (first | exact D6.out | apply pw_below_drew7 | apply q0l)) hb;clear HB;clear D2;clear D6;have HB:=n0_;have D2:=n1_;have D6:=n2_;clear n0_ n1_ n2_;replace BK3:=am (q3h (by (with_reducible repeat (first | refine q1f ?_ _ | refine q1b ?_ | refine q0N ?_ _));exact BK3.out) hb);replace BK6:=am (q3h (by (with_reducible repeat (first | refine q1f ?_ _ | refine q1b ?_ | refine q0N ?_ _));exact BK6.out) hb);clear hb;clear Z3 Z6;have Z3:=bc8 BK3;have Z6:=bc8 BK6)|((with_reducible refine gc 16 ?_);(try (refine q1l (by rfl) ?_;dsimp only));refine gL (some 42) Tryd.func16 #[.agg #[.string a0,.slice B1 l1.length b1,.slice B2 l2.length b2,.slice B3 l3.length b3,.int .i64 a4,.string a5,.int .i64 a6,.slice B7 l7.length b7],.agg #[.string a0,.slice E1 l1.length e1,.slice E2 l2.length e2,.slice E3 l3.length e3,.int .i64 a4,.string a5,.int .i64 a6,.slice E7 l7.length e7]] ?_;refine (q0p.calls k a0 B1 b1 l1 B2 b2 l2 B3 b3 l3 a4 a5 a6 B7 b7 l7 a0 E1 e1 l1 E2 e2 l2 E3 e3 l3 a4 a5 a6 E7 e7 l7 true _ (q0r RB1.out (show Below _ _ _ by repeat (first | exact D2.out | apply pw_below_drew8 | apply q0l))) MB1.out (q0r RB2.out (show Below _ _ _ by repeat (first | exact D2.out | apply pw_below_drew8 | apply q0l))) MB2.out (q0r RB3.out (show Below _ _ _ by repeat (first | exact D2.out | apply pw_below_drew8 | apply q0l))) MB3.out (q0r RB7.out (show Below _ _ _ by repeat (first | exact D2.out | apply pw_below_drew8 | apply q0l))) MB7.out (q0r RE1.out (show Below _ _ _ by repeat (first | exact D6.out | apply pw_below_drew8 | apply q0l))) ME1.out (q0r RE2.out (show Below _ _ _ by repeat (first | exact D6.out | apply pw_below_drew8 | apply q0l))) ME2.out (q0r RE3.out (show Below _ _ _ by repeat (first | exact D6.out | apply pw_below_drew8 | apply q0l))) ME3.out (q0r RE7.out (show Below _ _ _ by repeat (first | exact D6.out | apply pw_below_drew8 | apply q0l))) ME7.out HS.out).mono ?_;rintro e w8 ⟨rfl,hb⟩;refine ⟨_,rfl,?_⟩;have n0_:=bS (show Below _ _ _ by repeat (first | exact HB.out | apply pw_below_drew8 | apply q0l)) hb;clear HB;have HB:=n0_;clear n0_;clear hb))
 go_ret
 exact ⟨rfl,by repeat (first | exact HB.out | apply q0m | apply q0l)⟩
end
end Go.Proofs.YtmffocankommaaaDoor.J
