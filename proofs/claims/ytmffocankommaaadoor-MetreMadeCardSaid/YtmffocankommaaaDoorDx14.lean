/- Printed walks: what each function of the program computes. Condition: the Lean function gives a value. -/
import Derived.Test.YtmffocankommaaaDoorDYZed
import Derived.Test.YtmffocankommaaaDoorDx5
import Derived.Test.YtmffocankommaaaDoorDx11
import Derived.Test.YtmffocankommaaaDoorDx12
namespace Go.Proofs.YtmffocankommaaaDoor.J
open Go.RowKit Go.Proofs.YtmffocankommaaaDoorW.PrintWords Go.Proofs.YtmffocankommaaaDoorW.PrintLast Go.Proofs.YtmffocankommaaaDoorW.PrintMore Go.Proofs.YtmffocankommaaaDoorY Go.Proofs.YtmffocankommaaaDoorS Go.Proofs.YtmffocankommaaaDoorS _root_.Go.Proofs.Tryd
attribute [local go_sem] q1X q2F q2H q3c q3b q2u q2t q2E q2G
set_option linter.unusedVariables false
set_option maxHeartbeats 8000000
set_option maxRecDepth 100000
set_option linter.unusedSimpArgs false
def q3E.f (k:Nat) (a0:q0a):Option (q0a × (List S86) × (List S88) × (List (List q0a)) × Int × q0a × Int × (List S25) × Int × Int):=(q1g.f k a0).bind fun t=>if t.2.2 = 0 then (if (t.1.length:Int) = 0 then none else (q1E.f t.1 0 false 1 (⟨#[109,101,116,114,101]⟩:q0a)).bind fun s1=>if s1.1 = true then (q2n.f t.1 s1.2.1 s1.2.2 1).bind fun s2=>(q2n.f t.1 s2.2.1 s2.2.2 1).bind fun s3=>(q1m.f t.1 s3.2.1 s3.2.2 (⟨#[123]⟩:q0a)).bind fun s4=>(q0h.f k t.1 s4.1 s4.2 s3.1).bind fun m=>(q1m.f t.1 m.2.2.2.2.2.2.2.2.1 m.2.2.2.2.2.2.2.2.2 (⟨#[125]⟩:q0a)).bind fun s6=>if s6.2 = true then none else if s6.1 < (t.1.length:Int) then none else (q0D.f k m.1 m.2.1 m.2.2.1 m.2.2.2.1 m.2.2.2.2.1 m.2.2.2.2.2.1 m.2.2.2.2.2.2.1 m.2.2.2.2.2.2.2.1).bind fun e=>if e = 0 then some (m.1,m.2.1,m.2.2.1,m.2.2.2.1,m.2.2.2.2.1,m.2.2.2.2.2.1,m.2.2.2.2.2.2.1,m.2.2.2.2.2.2.2.1,0,0) else none else none) else none
theorem q3E.mono:∀ a0 k,LeO (q3E.f k a0) (q3E.f (k + 1) a0):=by
 intro a0 k;unfold q3E.f;exact (by repeat' (with_reducible first | exact q1g.mono _ _ | apply q0h.mono | apply q0D.mono | exact LeO.refl _ | refine LeO.ite ?_ ?_ | refine LeO.bind ?_ (fun _=>?_)))
theorem q3E.calls (k:Nat) (a0:q0a) (r1:q0a) (r2:List S86) (r3:List S88) (r4:List (List q0a)) (r5:Int) (r6:q0a) (r7:Int) (r8:List S25) (r9 aA:Int) (w:World) (h:q3E.f k a0 = some (r1,r2,r3,r4,r5,r6,r7,r8,r9,aA)) :
  Calls prog 15 #[.string a0] w fun e w'=>∃ aC aD aE aG:Value,e = .returned (.tuple #[.agg #[.string r1,aC,aD,aE,iv r5,.string r6,iv r7,aG],iv r9,iv aA])∧Kd.N k86 86 w' w.heap.size (fun k_=>(w.heap.size≤k_)∧nO k_ aD∧nO k_ aE) aC r2∧Kd.R k88 88 w' w.heap.size (fun k_=>(w.heap.size≤k_)) aD r3∧Kd.N (Kd.slice 9 Kd.string) 39 w' w.heap.size (fun k_=>(w.heap.size≤k_)∧nO k_ aC∧nO k_ aD) aE r4∧Kd.V k25 25 w' w.heap.size (fun k_=>(w.heap.size≤k_)∧nO k_ aC∧nO k_ aD∧nO k_ aE) aG r8∧Below w.heap.size w w':=by
 have hu44:=underlying44;have hu70:=underlying70;have HB:=am (q0i w.heap.size w);unfold q3E.f at h;replace h:=Option.bind_eq_some_iff.mp h;obtain ⟨⟨l,ln,er⟩,aH,h⟩:=h;have A2:=am aH;clear aH;(try simp only at h);go_enter func15,ntmps15;try go_wp2_with (first|((with_reducible refine gd 2 ?_);(try (refine q1l (by rfl) ?_;dsimp only));refine be 2 #[.string (⟨#[]⟩:q0a),.slice none 0 0,.slice none 0 0,.slice none 0 0,iv 0,.string (⟨#[]⟩:q0a),iv 0,.slice none 0 0] 44 ?_;intro aI hg w1 hbox hb;have aJ:=am (hbox);have aK:=am ((X50:w.heap.size≤aI));replace HB:=bS X6 hb;clear hb hbox hg)|((with_reducible refine gc 33 ?_);refine gL (some 13) func33 #[.string a0] ?_;(with_reducible refine (q1g.calls k a0 l ln _ _ A2.out).mono ?_);rintro e w2 ⟨vt,rfl,ho_,hb⟩;refine ⟨_,rfl,?_⟩;have htg_:=Kd.R_newB ho_ (show (_:World).heap[aI]? = some (.cells #[.string (⟨#[]⟩:q0a),.slice none 0 0,.slice none 0 0,.slice none 0 0,iv 0,.string (⟨#[]⟩:q0a),iv 0,.slice none 0 0] 44 (0,0)) from (X9 aJ));replace HB:=bS (X10 HB aK) hb;replace aJ:=kBg0 aJ hb;clear hb;obtain ⟨At,ct,et⟩:=q0I ho_;subst et;have HT:=am (q0Y ho_).2.2;have HTR:=am ho_;have HTG:=am (show ∀ W_,q2g w2 W_ aI none → Kd.C k36 W_ At l.length l from fun W_ hK_=>(q0Y (q1Z htg_ hK_ (fun k_ hk_=>hk_.2))).2.2);clear htg_;clear ho_;obtain ⟨Z3_2_0,Y3_2_0⟩:=b8_0 aJ;obtain ⟨Z3_2_1,Y3_2_1⟩:=b8_1 aJ;obtain ⟨Z3_2_2,Y3_2_2⟩:=b8_2 aJ;obtain ⟨Z3_2_3,Y3_2_3⟩:=b8_3 aJ;obtain ⟨Z3_2_4,Y3_2_4⟩:=b8_4 aJ;obtain ⟨Z3_2_5,Y3_2_5⟩:=b8_5 aJ;obtain ⟨Z3_2_6,Y3_2_6⟩:=b8_6 aJ;obtain ⟨Z3_2_7,Y3_2_7⟩:=b8_7 aJ;refine v1I ?_))
 by_cases c1:er = 0
 case neg=>
  rw [if_neg c1] at h;cases h
 subst c1;rw [if_pos rfl] at h;by_cases c2:(l.length:Int) = 0
 case pos=>
  rw [if_pos c2] at h;cases h
 rw [if_neg c2] at h;have c2b:((l.length:Int) == 0) = false:=beq_eq_false_iff_ne.mpr c2;replace h:=Option.bind_eq_some_iff.mp h;obtain ⟨⟨b1,p1,f1⟩,aM,h⟩:=h;have A3:=am aM;clear aM;(try simp only at h);refine on_ ?_;try go_wp2_with (first|((with_reducible refine gd 28 ?_);(try (refine q1l (by rfl) ?_;dsimp only));refine be 28 #[sl At l ct,iv 0,.bool false] 70 ?_;intro gp hg w4 hbox hb;have hst_:∃ aQ:World,q0K aQ w4 gp l 0 false∧Below aQ.heap.size aQ w4:=⟨_,⟨_,_,hbox,q1d hg.symm,X53⟩,hb⟩;obtain ⟨w0,hi_,hs_⟩:=hst_;have HI:=am (hi_);have HS:=am (hs_);have GWp:=am ((by rw [hg];exact ((X10 HB aK):Below w.heap.size w _).size:w.heap.size≤gp));replace HB:=bS (X10 HB aK) hb;have NB2_p:=am ((by rw [hg];exact q1p (q3V (show (_:World).heap[aI]? = some (.cells #[.string (⟨#[]⟩:q0a),.slice none 0 0,.slice none 0 0,.slice none 0 0,iv 0,.string (⟨#[]⟩:q0a),iv 0,.slice none 0 0] 44 (0,0)) from (X9 aJ))):aI≠gp));have aT:=am ((by rw [hg];exact q1D (q3V (show (_:World).heap[aI]? = some (.cells #[.string (⟨#[]⟩:q0a),.slice none 0 0,.slice none 0 0,.slice none 0 0,iv 0,.string (⟨#[]⟩:q0a),iv 0,.slice none 0 0] 44 (0,0)) from (X9 aJ))):gp≠aI));replace aJ:=kBg0 aJ hb;have htf_:∀ W_,q2g w4 W_ gp none → Kd.C k36 W_ At l.length l:=fun W_ hK_=>(q0Y (q1Z (q2k (Kd.R_elderB (by repeat (first | exact HTR.out | apply Kd.R_drewN | apply Kd.R_drew | apply Kd.R_alloc):Kd.R k36 36 _ _ (fun _=>True) (sl At l ct) l) gp (q1d hg.symm)) hb) hK_ (fun k_ hk_=>hk_.2))).2.2;clear hb hbox hg hi_ hs_;have hgl_:=am (q0K.lt HI.out);obtain ⟨wm,hwm⟩:∃ wm:World,wm = w4:=⟨_,rfl⟩;have HM:=am (show q2g wm w4 gp none by rw [hwm];exact q3k _ _ _);have HMW:=am (show w.heap.size≤wm.heap.size by rw [hwm];exact (HB.out:Below w.heap.size w _).size);have HMS:=am (show w0.heap.size≤wm.heap.size by rw [hwm];exact (HS.out:Below w0.heap.size w0 _).size);have HML:=am (show gp < wm.heap.size by rw [hwm];exact hgl_.out);have HBm:=am (show Below w.heap.size w wm by rw [hwm];exact HB.out);have HSm:=am (show Below w0.heap.size w0 wm by rw [hwm];exact HS.out);have aU:=am (show aI < wm.heap.size by rw [hwm];exact q3V aJ.out);have HTF:=am (show ∀ W_,q2g wm W_ gp none → Kd.C k36 W_ At l.length l by rw [hwm];exact htf_);clear hgl_ hwm htf_ HTR HT)|((with_reducible refine gd 9 ?_);(try (refine q1l (by rfl) ?_;dsimp only));refine be 9 #[.string (⟨#[]⟩:q0a),.slice none 0 0,.slice none 0 0,.slice none 0 0,iv 0,.string (⟨#[]⟩:q0a),iv 0,.slice none 0 0] 44 ?_;intro aW hg w5 hbox hb;have aX:=am (hbox);have aY:=am ((by rw [hg];exact ((X13 HB aK GWp):Below w.heap.size w _).size:w.heap.size≤aW));replace HB:=bS (X13 HB aK GWp) hb;have aZ:=am ((by rw [hg];exact q1p (q3V (show (_:World).heap[aI]? = some (.cells #[.string (⟨#[]⟩:q0a),.slice none 0 0,.slice none 0 0,.slice none 0 0,iv 0,.string (⟨#[]⟩:q0a),iv 0,.slice none 0 0] 44 (0,0)) from (X55 NB2_p aJ))):aI≠aW));have bA:=am ((by rw [hg];exact q1D (q3V (show (_:World).heap[aI]? = some (.cells #[.string (⟨#[]⟩:q0a),.slice none 0 0,.slice none 0 0,.slice none 0 0,iv 0,.string (⟨#[]⟩:q0a),iv 0,.slice none 0 0] 44 (0,0)) from (X55 NB2_p aJ))):aW≠aI));replace aJ:=kBg1 aJ NB2_p hb;have bB:=am ((by rw [hg];exact q1p (q0K.lt (X24 HI aT)):gp≠aW));have NB9_p:=am ((by rw [hg];exact q1D (q0K.lt (X24 HI aT)):aW≠gp));have bC:=am ((X57:w0.heap.size≤aW));replace HS:=bS X58 hb;replace HI:=am (q0K.below (X24 HI aT) hb);have bD:=am ((by rw [hg];exact (X59:q2g wm _ gp none).1:wm.heap.size≤aW));replace HM:=am (q0e X59 (q0z hb gp none) (.inl rfl));clear hb hbox hg;obtain ⟨Z6_2_0,Y6_2_0⟩:=b8_0 aJ;obtain ⟨Z6_2_1,Y6_2_1⟩:=b8_1 aJ;obtain ⟨Z6_2_2,Y6_2_2⟩:=b8_2 aJ;obtain ⟨Z6_2_3,Y6_2_3⟩:=b8_3 aJ;obtain ⟨Z6_2_4,Y6_2_4⟩:=b8_4 aJ;obtain ⟨Z6_2_5,Y6_2_5⟩:=b8_5 aJ;obtain ⟨Z6_2_6,Y6_2_6⟩:=b8_6 aJ;obtain ⟨Z6_2_7,Y6_2_7⟩:=b8_7 aJ;obtain ⟨Z6_9_0,Y6_9_0⟩:=b8_0 aX;obtain ⟨Z6_9_1,Y6_9_1⟩:=b8_1 aX;obtain ⟨Z6_9_2,Y6_9_2⟩:=b8_2 aX;obtain ⟨Z6_9_3,Y6_9_3⟩:=b8_3 aX;obtain ⟨Z6_9_4,Y6_9_4⟩:=b8_4 aX;obtain ⟨Z6_9_5,Y6_9_5⟩:=b8_5 aX;obtain ⟨Z6_9_6,Y6_9_6⟩:=b8_6 aX;obtain ⟨Z6_9_7,Y6_9_7⟩:=b8_7 aX;obtain ⟨AS6,cS6,bE,bF,bG⟩:=HI.out;have hcs6_0:=q2K bE;have hcs6_1:=q2L bE;have hcs6_2:=q2J bE;have hfs6_1:=q0B bE 1;have hfs6_2:=q0B bE 2;clear bE bF bG;have hne6_2:=aT.out;have hnf6_2:=NB2_p.out;have hne6_9:=bB.out;have hnf6_9:=NB9_p.out;have hnn6_2_9:=aZ.out;have hnn6_9_2:=bA.out)|((with_reducible refine gc 42 ?_);refine gL (some 30) func42 #[.pointer (some ⟨gp,0,none⟩),iv 1,.string (⟨#[109,101,116,114,101]⟩:q0a)] ?_;(with_reducible refine (q1E.calls gp l 0 false 1 (⟨#[109,101,116,114,101]⟩:q0a) b1 p1 f1 w0 _ ?side1 ?side2 A3.out).mono ?_);(case side1=>exact X60);(case side2=>exact (X26 HS HI bC));rintro e w7 ⟨rfl,hi_,hs_,hk_⟩;refine ⟨_,rfl,?_⟩;replace HB:=am (q4S (X62 HB aK aY GWp) (X26 HS HI bC) hs_ hk_ GWp.out);replace HI:=am (hi_);replace HS:=am (hs_);replace aJ:=kKg2 aJ aZ NB2_p hk_ NB2_p;replace aX:=kKg2 aX bA NB9_p hk_ NB9_p;replace HM:=am (q0e (X25 HM bD) hk_ (.inl rfl));clear hi_ hs_ hk_;obtain ⟨Z8_2_0,Y8_2_0⟩:=b8_0 aJ;obtain ⟨Z8_2_1,Y8_2_1⟩:=b8_1 aJ;obtain ⟨Z8_2_2,Y8_2_2⟩:=b8_2 aJ;obtain ⟨Z8_2_3,Y8_2_3⟩:=b8_3 aJ;obtain ⟨Z8_2_4,Y8_2_4⟩:=b8_4 aJ;obtain ⟨Z8_2_5,Y8_2_5⟩:=b8_5 aJ;obtain ⟨Z8_2_6,Y8_2_6⟩:=b8_6 aJ;obtain ⟨Z8_2_7,Y8_2_7⟩:=b8_7 aJ;obtain ⟨Z8_9_0,Y8_9_0⟩:=b8_0 aX;obtain ⟨Z8_9_1,Y8_9_1⟩:=b8_1 aX;obtain ⟨Z8_9_2,Y8_9_2⟩:=b8_2 aX;obtain ⟨Z8_9_3,Y8_9_3⟩:=b8_3 aX;obtain ⟨Z8_9_4,Y8_9_4⟩:=b8_4 aX;obtain ⟨Z8_9_5,Y8_9_5⟩:=b8_5 aX;obtain ⟨Z8_9_6,Y8_9_6⟩:=b8_6 aX;obtain ⟨Z8_9_7,Y8_9_7⟩:=b8_7 aX;obtain ⟨AS8,cS8,bH,bI,bJ⟩:=HI.out;have hcs8_0:=q2K bH;have hcs8_1:=q2L bH;have hcs8_2:=q2J bH;have hfs8_1:=q0B bH 1;have hfs8_2:=q0B bH 2;clear bH bI bJ;have hne8_2:=aT.out;have hnf8_2:=NB2_p.out;have hne8_9:=bB.out;have hnf8_9:=NB9_p.out;have hnn8_2_9:=aZ.out;have hnn8_9_2:=bA.out;refine v1I ?_))
 cases b1 with
 | false=>
  rw [if_neg (by decide)] at h;cases h
 | true=>
  rw [if_pos rfl] at h;replace h:=Option.bind_eq_some_iff.mp h;obtain ⟨⟨t2,p2,f2⟩,aM,h⟩:=h;have A4:=am aM;clear aM;(try simp only at h);replace h:=Option.bind_eq_some_iff.mp h;obtain ⟨⟨t3,p3,f3⟩,aM,h⟩:=h;have A5:=am aM;clear aM;(try simp only at h);replace h:=Option.bind_eq_some_iff.mp h;obtain ⟨⟨p4,f4⟩,aM,h⟩:=h;have A6:=am aM;clear aM;(try simp only at h);replace h:=Option.bind_eq_some_iff.mp h;obtain ⟨⟨m1,m2,m3,m4,m5,m6,m7,m8,p5,f5⟩,aM,h⟩:=h;have A7:=am aM;clear aM;(try simp only at h);replace h:=Option.bind_eq_some_iff.mp h;obtain ⟨⟨p6,f6⟩,aM,h⟩:=h;have A8:=am aM;clear aM;(try simp only at h);refine on_ ?_;try go_wp2_with (first|((with_reducible refine gc 43 ?_);refine gL (some 36) func43 #[.pointer (some ⟨gp,0,none⟩),iv 1] ?_;(with_reducible refine (q2n.calls gp l p1 f1 1 t2 p2 f2 w0 _ ?side1 ?side2 A4.out).mono ?_);(case side1=>exact X60);(case side2=>exact (X26 HS HI bC));rintro e w9 ⟨rfl,hi_,hs_,hk_⟩;refine ⟨_,rfl,?_⟩;replace HB:=am (q4S (X62 HB aK aY GWp) (X26 HS HI bC) hs_ hk_ GWp.out);replace HI:=am (hi_);replace HS:=am (hs_);replace aJ:=kKg2 aJ aZ NB2_p hk_ NB2_p;replace aX:=kKg2 aX bA NB9_p hk_ NB9_p;replace HM:=am (q0e (X25 HM bD) hk_ (.inl rfl));clear hi_ hs_ hk_;obtain ⟨Z10_2_0,Y10_2_0⟩:=b8_0 aJ;obtain ⟨Z10_2_1,Y10_2_1⟩:=b8_1 aJ;obtain ⟨Z10_2_2,Y10_2_2⟩:=b8_2 aJ;obtain ⟨Z10_2_3,Y10_2_3⟩:=b8_3 aJ;obtain ⟨Z10_2_4,Y10_2_4⟩:=b8_4 aJ;obtain ⟨Z10_2_5,Y10_2_5⟩:=b8_5 aJ;obtain ⟨Z10_2_6,Y10_2_6⟩:=b8_6 aJ;obtain ⟨Z10_2_7,Y10_2_7⟩:=b8_7 aJ;obtain ⟨Z10_9_0,Y10_9_0⟩:=b8_0 aX;obtain ⟨Z10_9_1,Y10_9_1⟩:=b8_1 aX;obtain ⟨Z10_9_2,Y10_9_2⟩:=b8_2 aX;obtain ⟨Z10_9_3,Y10_9_3⟩:=b8_3 aX;obtain ⟨Z10_9_4,Y10_9_4⟩:=b8_4 aX;obtain ⟨Z10_9_5,Y10_9_5⟩:=b8_5 aX;obtain ⟨Z10_9_6,Y10_9_6⟩:=b8_6 aX;obtain ⟨Z10_9_7,Y10_9_7⟩:=b8_7 aX;obtain ⟨AS10,cS10,bK,bL,bM⟩:=HI.out;have hcs10_0:=q2K bK;have hcs10_1:=q2L bK;have hcs10_2:=q2J bK;have hfs10_1:=q0B bK 1;have hfs10_2:=q0B bK 2;clear bK bL bM;have hne10_2:=aT.out;have hnf10_2:=NB2_p.out;have hne10_9:=bB.out;have hnf10_9:=NB9_p.out;have hnn10_2_9:=aZ.out;have hnn10_9_2:=bA.out)|((with_reducible refine gc 43 ?_);refine gL (some 38) func43 #[.pointer (some ⟨gp,0,none⟩),iv 1] ?_;(with_reducible refine (q2n.calls gp l p2 f2 1 t3 p3 f3 w0 _ ?side1 ?side2 A5.out).mono ?_);(case side1=>exact X60);(case side2=>exact (X26 HS HI bC));rintro e w11 ⟨rfl,hi_,hs_,hk_⟩;refine ⟨_,rfl,?_⟩;replace HB:=am (q4S (X62 HB aK aY GWp) (X26 HS HI bC) hs_ hk_ GWp.out);replace HI:=am (hi_);replace HS:=am (hs_);replace aJ:=kKg2 aJ aZ NB2_p hk_ NB2_p;replace aX:=kKg2 aX bA NB9_p hk_ NB9_p;replace HM:=am (q0e (X25 HM bD) hk_ (.inl rfl));clear hi_ hs_ hk_;obtain ⟨Z12_2_0,Y12_2_0⟩:=b8_0 aJ;obtain ⟨Z12_2_1,Y12_2_1⟩:=b8_1 aJ;obtain ⟨Z12_2_2,Y12_2_2⟩:=b8_2 aJ;obtain ⟨Z12_2_3,Y12_2_3⟩:=b8_3 aJ;obtain ⟨Z12_2_4,Y12_2_4⟩:=b8_4 aJ;obtain ⟨Z12_2_5,Y12_2_5⟩:=b8_5 aJ;obtain ⟨Z12_2_6,Y12_2_6⟩:=b8_6 aJ;obtain ⟨Z12_2_7,Y12_2_7⟩:=b8_7 aJ;obtain ⟨Z12_9_0,Y12_9_0⟩:=b8_0 aX;obtain ⟨Z12_9_1,Y12_9_1⟩:=b8_1 aX;obtain ⟨Z12_9_2,Y12_9_2⟩:=b8_2 aX;obtain ⟨Z12_9_3,Y12_9_3⟩:=b8_3 aX;obtain ⟨Z12_9_4,Y12_9_4⟩:=b8_4 aX;obtain ⟨Z12_9_5,Y12_9_5⟩:=b8_5 aX;obtain ⟨Z12_9_6,Y12_9_6⟩:=b8_6 aX;obtain ⟨Z12_9_7,Y12_9_7⟩:=b8_7 aX;obtain ⟨AS12,cS12,bN,bO,bP⟩:=HI.out;have hcs12_0:=q2K bN;have hcs12_1:=q2L bN;have hcs12_2:=q2J bN;have hfs12_1:=q0B bN 1;have hfs12_2:=q0B bN 2;clear bN bO bP;have hne12_2:=aT.out;have hnf12_2:=NB2_p.out;have hne12_9:=bB.out;have hnf12_9:=NB9_p.out;have hnn12_2_9:=aZ.out;have hnn12_9_2:=bA.out)|((with_reducible refine gc 44 ?_);refine gL (some 41) func44 #[.pointer (some ⟨gp,0,none⟩),.string (⟨#[123]⟩:q0a)] ?_;(with_reducible refine (q1m.calls gp l p3 f3 (⟨#[123]⟩:q0a) p4 f4 w0 _ ?side1 ?side2 A6.out).mono ?_);(case side1=>exact X60);(case side2=>exact (X26 HS HI bC));rintro e w13 ⟨rfl,hi_,hs_,hk_⟩;refine ⟨_,rfl,?_⟩;replace HB:=am (q4S (X62 HB aK aY GWp) (X26 HS HI bC) hs_ hk_ GWp.out);replace HI:=am (hi_);replace HS:=am (hs_);replace aJ:=kKg2 aJ aZ NB2_p hk_ NB2_p;replace aX:=am (q3B hk_ (show (_:World).heap[aW]? = some (.cells #[.string t3,.slice none 0 0,.slice none 0 0,.slice none 0 0,iv 0,.string (⟨#[]⟩:q0a),iv 0,.slice none 0 0] 44 (0,0)) from by (with_reducible repeat (first | refine q1f ?_ _ | refine q1b ?_ | refine q0N ?_ _ | refine q2B ?_ bA.out _ | refine q2B ?_ NB9_p.out _));refine q2x (cs:=#[.string (⟨#[]⟩:q0a),.slice none 0 0,.slice none 0 0,.slice none 0 0,iv 0,.string (⟨#[]⟩:q0a),iv 0,.slice none 0 0]) ?_ 0 _ rfl;(with_reducible repeat (first | refine q1f ?_ _ | refine q1b ?_ | refine q0N ?_ _ | refine q2B ?_ bA.out _ | refine q2B ?_ NB9_p.out _));exact aX.out) NB9_p.out (by simp));replace HM:=am (q0e (X25 HM bD) hk_ (.inl rfl));clear hi_ hs_ hk_;obtain ⟨Z14_2_0,Y14_2_0⟩:=b8_0 aJ;obtain ⟨Z14_2_1,Y14_2_1⟩:=b8_1 aJ;obtain ⟨Z14_2_2,Y14_2_2⟩:=b8_2 aJ;obtain ⟨Z14_2_3,Y14_2_3⟩:=b8_3 aJ;obtain ⟨Z14_2_4,Y14_2_4⟩:=b8_4 aJ;obtain ⟨Z14_2_5,Y14_2_5⟩:=b8_5 aJ;obtain ⟨Z14_2_6,Y14_2_6⟩:=b8_6 aJ;obtain ⟨Z14_2_7,Y14_2_7⟩:=b8_7 aJ;obtain ⟨Z14_9_0,Y14_9_0⟩:=b8_0 aX;obtain ⟨Z14_9_1,Y14_9_1⟩:=b8_1 aX;obtain ⟨Z14_9_2,Y14_9_2⟩:=b8_2 aX;obtain ⟨Z14_9_3,Y14_9_3⟩:=b8_3 aX;obtain ⟨Z14_9_4,Y14_9_4⟩:=b8_4 aX;obtain ⟨Z14_9_5,Y14_9_5⟩:=b8_5 aX;obtain ⟨Z14_9_6,Y14_9_6⟩:=b8_6 aX;obtain ⟨Z14_9_7,Y14_9_7⟩:=b8_7 aX;obtain ⟨AS14,cS14,bQ,bR,bT⟩:=HI.out;have hcs14_0:=q2K bQ;have hcs14_1:=q2L bQ;have hcs14_2:=q2J bQ;have hfs14_1:=q0B bQ 1;have hfs14_2:=q0B bQ 2;clear bQ bR bT;have hne14_2:=aT.out;have hnf14_2:=NB2_p.out;have hne14_9:=bB.out;have hnf14_9:=NB9_p.out;have hnn14_2_9:=aZ.out;have hnn14_9_2:=bA.out)|((with_reducible refine gc 45 ?_);refine gL (some 43) func45 #[.pointer (some ⟨gp,0,none⟩),.pointer (some ⟨aW,0,none⟩)] ?_;(with_reducible refine (q0h.calls k gp aW l p4 f4 t3 m1 m2 m3 m4 m5 m6 m7 m8 p5 f5 w0 wm _ ?side1 ?side2 HMS.out ?side3 ?side4 bD.out bB.out HML.out A7.out).mono ?_);(case side1=>exact X60);(case side2=>exact (X26 HS HI bC));(case side3=>exact (X25 HM bD));(case side4=>exact (show (_:World).heap[aW]? = some (.cells #[.string t3,.slice none 0 0,.slice none 0 0,.slice none 0 0,iv 0,.string (⟨#[]⟩:q0a),iv 0,.slice none 0 0] 44 (0,0)) from by (with_reducible repeat (first | refine q1f ?_ _ | refine q1b ?_ | refine q0N ?_ _ | refine q2B ?_ bA.out _ | refine q2B ?_ NB9_p.out _));exact aX.out));rintro e w15 ⟨v1,v2,v3,v7,rfl,hbk_,bU,bV,bW,bX,hi_,hs_,hk_⟩;refine ⟨_,rfl,?_⟩;replace HB:=am (q4S HBm.out HSm.out hs_ hk_ GWp.out);replace HI:=am (hi_);replace HS:=am (hs_);replace aJ:=am (v2z (X25 HM bD) hk_ aU.out NB2_p.out (show (_:World).heap[aI]? = some (.cells #[.string (⟨#[]⟩:q0a),.slice none 0 0,.slice none 0 0,.slice none 0 0,iv 0,.string (⟨#[]⟩:q0a),iv 0,.slice none 0 0] 44 (0,0)) from by (with_reducible repeat (first | refine q1f ?_ _ | refine q1b ?_ | refine q0N ?_ _ | refine q2B ?_ aZ.out _ | refine q2B ?_ NB2_p.out _));exact aJ.out));replace HM:=am (hk_);clear aX;obtain ⟨bY,bZ,cA⟩:=q1o bU;subst cA;obtain ⟨cC,cD,cE⟩:=q0I bV;subst cE;obtain ⟨cF,cG,cH⟩:=q1o bW;subst cH;obtain ⟨cI,cJ,cK⟩:=q2a bX;subst cK;have aX:=am hbk_;have cL:=am bU;have cM:=am bV;have cN:=am bW;have cO:=am bX;clear hbk_ bU bV bW bX hi_ hs_ hk_;obtain ⟨Z16_2_0,Y16_2_0⟩:=b8_0 aJ;obtain ⟨Z16_2_1,Y16_2_1⟩:=b8_1 aJ;obtain ⟨Z16_2_2,Y16_2_2⟩:=b8_2 aJ;obtain ⟨Z16_2_3,Y16_2_3⟩:=b8_3 aJ;obtain ⟨Z16_2_4,Y16_2_4⟩:=b8_4 aJ;obtain ⟨Z16_2_5,Y16_2_5⟩:=b8_5 aJ;obtain ⟨Z16_2_6,Y16_2_6⟩:=b8_6 aJ;obtain ⟨Z16_2_7,Y16_2_7⟩:=b8_7 aJ;obtain ⟨Z16_9_0,Y16_9_0⟩:=b8_0 aX;obtain ⟨Z16_9_1,Y16_9_1⟩:=b8_1 aX;obtain ⟨Z16_9_2,Y16_9_2⟩:=b8_2 aX;obtain ⟨Z16_9_3,Y16_9_3⟩:=b8_3 aX;obtain ⟨Z16_9_4,Y16_9_4⟩:=b8_4 aX;obtain ⟨Z16_9_5,Y16_9_5⟩:=b8_5 aX;obtain ⟨Z16_9_6,Y16_9_6⟩:=b8_6 aX;obtain ⟨Z16_9_7,Y16_9_7⟩:=b8_7 aX;obtain ⟨AS16,cS16,cP,cQ,cR⟩:=HI.out;have hcs16_0:=q2K cP;have hcs16_1:=q2L cP;have hcs16_2:=q2J cP;have hfs16_1:=q0B cP 1;have hfs16_2:=q0B cP 2;clear cP cQ cR;have hne16_2:=aT.out;have hnf16_2:=NB2_p.out;have hne16_9:=bB.out;have hnf16_9:=NB9_p.out;have hnn16_2_9:=aZ.out;have hnn16_9_2:=bA.out)|((with_reducible refine gc 44 ?_);refine gL (some 45) func44 #[.pointer (some ⟨gp,0,none⟩),.string (⟨#[125]⟩:q0a)] ?_;(with_reducible refine (q1m.calls gp l p5 f5 (⟨#[125]⟩:q0a) p6 f6 w0 _ ?side1 ?side2 A8.out).mono ?_);(case side1=>exact X60);(case side2=>exact (X26 HS HI bC));rintro e w17 ⟨rfl,hi_,hs_,hk_⟩;refine ⟨_,rfl,?_⟩;replace HB:=am (q4S (X62 HB aK aY GWp) (X26 HS HI bC) hs_ hk_ GWp.out);replace HI:=am (hi_);replace HS:=am (hs_);replace aJ:=kKg2 aJ aZ NB2_p hk_ NB2_p;replace aX:=kKg2 aX bA NB9_p hk_ NB9_p;replace HM:=am (q0e (X25 HM bD) hk_ (.inl rfl));replace cL:=am (q0X (show Kd.N k86 86 _ wm.heap.size (fun k_=>(wm.heap.size≤k_)∧nO k_ (sl cC m3 cD)∧nO k_ (sl cF m4 cG)) (sl bY m2 bZ) m2 from (X64 cL aU)) hk_ (fun k_ hk_=>q1D (q1A HML.out hk_.1)));replace cM:=am (q1Z (show Kd.R k88 88 _ wm.heap.size (fun k_=>(wm.heap.size≤k_)) (sl cC m3 cD) m3 from X65) hk_ (fun k_ hk_=>q1D (q1A HML.out hk_)));replace cN:=am (q0X (show Kd.N (Kd.slice 9 Kd.string) 39 _ wm.heap.size (fun k_=>(wm.heap.size≤k_)∧nO k_ (sl bY m2 bZ)∧nO k_ (sl cC m3 cD)) (sl cF m4 cG) m4 from (X64 cN aU)) hk_ (fun k_ hk_=>q1D (q1A HML.out hk_.1)));replace cO:=am (q1P (show Kd.V k25 25 _ wm.heap.size (fun k_=>(wm.heap.size≤k_)∧nO k_ (sl bY m2 bZ)∧nO k_ (sl cC m3 cD)∧nO k_ (sl cF m4 cG)) (sl cI m8 cJ) m8 from X67) hk_ (fun k_ hk_=>q1D (q1A HML.out hk_.1)));clear hi_ hs_ hk_;obtain ⟨Z18_2_0,Y18_2_0⟩:=b8_0 aJ;obtain ⟨Z18_2_1,Y18_2_1⟩:=b8_1 aJ;obtain ⟨Z18_2_2,Y18_2_2⟩:=b8_2 aJ;obtain ⟨Z18_2_3,Y18_2_3⟩:=b8_3 aJ;obtain ⟨Z18_2_4,Y18_2_4⟩:=b8_4 aJ;obtain ⟨Z18_2_5,Y18_2_5⟩:=b8_5 aJ;obtain ⟨Z18_2_6,Y18_2_6⟩:=b8_6 aJ;obtain ⟨Z18_2_7,Y18_2_7⟩:=b8_7 aJ;obtain ⟨Z18_9_0,Y18_9_0⟩:=b8_0 aX;obtain ⟨Z18_9_1,Y18_9_1⟩:=b8_1 aX;obtain ⟨Z18_9_2,Y18_9_2⟩:=b8_2 aX;obtain ⟨Z18_9_3,Y18_9_3⟩:=b8_3 aX;obtain ⟨Z18_9_4,Y18_9_4⟩:=b8_4 aX;obtain ⟨Z18_9_5,Y18_9_5⟩:=b8_5 aX;obtain ⟨Z18_9_6,Y18_9_6⟩:=b8_6 aX;obtain ⟨Z18_9_7,Y18_9_7⟩:=b8_7 aX;obtain ⟨AS18,cS18,cS,cT,cU⟩:=HI.out;have hcs18_0:=q2K cS;have hcs18_1:=q2L cS;have hcs18_2:=q2J cS;have hfs18_1:=q0B cS 1;have hfs18_2:=q0B cS 2;clear cS cT cU;have hne18_2:=aT.out;have hnf18_2:=NB2_p.out;have hne18_9:=bB.out;have hnf18_9:=NB9_p.out;have hnn18_2_9:=aZ.out;have hnn18_9_2:=bA.out;refine v1I ?_))
  cases f6 with
  | true=>
   rw [if_pos rfl] at h;cases h
  | false=>
   rw [if_neg (by decide)] at h;by_cases c3:p6 < (l.length:Int)
   case pos=>
    rw [if_pos c3] at h;cases h
   rw [if_neg c3] at h;have c3b:=q0S c3;replace h:=Option.bind_eq_some_iff.mp h;obtain ⟨e,cV,h⟩:=h;have A9:=am cV;clear cV;(try simp only at h);refine on_ ?_;try go_wp2_with (first|((with_reducible refine gc 19 ?_);refine gL (some 73) func19 #[.agg #[.string m1,sl bY m2 bZ,sl cC m3 cD,sl cF m4 cG,iv m5,.string m6,iv m7,sl cI m8 cJ]] ?_;(with_reducible refine (q0D.calls k m1 _ _ m2 _ _ m3 _ _ m4 m5 m6 m7 _ _ m8 _ _ ?side1 ?side2 ?side3 ?side4 ?side5 ?side6 ?side7 ?side8 A9.out).mono ?_);(case side1=>exact (q0M (show Kd.N k86 86 _ wm.heap.size (fun k_=>(wm.heap.size≤k_)∧nO k_ (sl cC m3 cD)∧nO k_ (sl cF m4 cG)) (sl bY m2 bZ) m2 from (X64 cL aU))).2.2);(case side2=>exact (q0M (show Kd.N k86 86 _ wm.heap.size (fun k_=>(wm.heap.size≤k_)∧nO k_ (sl cC m3 cD)∧nO k_ (sl cF m4 cG)) (sl bY m2 bZ) m2 from (X64 cL aU))).2.1);(case side3=>exact (q0Y (show Kd.R k88 88 _ wm.heap.size (fun k_=>(wm.heap.size≤k_)) (sl cC m3 cD) m3 from X65)).2.2);(case side4=>exact (q0Y (show Kd.R k88 88 _ wm.heap.size (fun k_=>(wm.heap.size≤k_)) (sl cC m3 cD) m3 from X65)).2.1);(case side5=>exact (q0M (show Kd.N (Kd.slice 9 Kd.string) 39 _ wm.heap.size (fun k_=>(wm.heap.size≤k_)∧nO k_ (sl bY m2 bZ)∧nO k_ (sl cC m3 cD)) (sl cF m4 cG) m4 from (X64 cN aU))).2.2);(case side6=>exact (q0M (show Kd.N (Kd.slice 9 Kd.string) 39 _ wm.heap.size (fun k_=>(wm.heap.size≤k_)∧nO k_ (sl bY m2 bZ)∧nO k_ (sl cC m3 cD)) (sl cF m4 cG) m4 from (X64 cN aU))).2.1);(case side7=>exact (q0y (show Kd.V k25 25 _ wm.heap.size (fun k_=>(wm.heap.size≤k_)∧nO k_ (sl bY m2 bZ)∧nO k_ (sl cC m3 cD)∧nO k_ (sl cF m4 cG)) (sl cI m8 cJ) m8 from X67)).2.2);(case side8=>exact (q0y (show Kd.V k25 25 _ wm.heap.size (fun k_=>(wm.heap.size≤k_)∧nO k_ (sl bY m2 bZ)∧nO k_ (sl cC m3 cD)∧nO k_ (sl cF m4 cG)) (sl cI m8 cJ) m8 from X67)).2.1);rintro e w19 ⟨rfl,hb⟩;refine ⟨_,rfl,?_⟩;replace HB:=bS (X62 HB aK aY GWp) hb;replace HS:=bS (X26 HS HI bC) hb;replace HI:=am (q0K.below X60 hb);replace aJ:=kBg2 aJ aZ NB2_p hb;replace aX:=kBg2 aX bA NB9_p hb;replace HM:=am (q0e (X25 HM bD) (q0z hb gp none) (.inl rfl));replace cL:=am (q0u (show Kd.N k86 86 _ wm.heap.size (fun k_=>(wm.heap.size≤k_)∧nO k_ (sl cC m3 cD)∧nO k_ (sl cF m4 cG)) (sl bY m2 bZ) m2 from (X64 cL aU)) hb);replace cM:=am (q2k (show Kd.R k88 88 _ wm.heap.size (fun k_=>(wm.heap.size≤k_)) (sl cC m3 cD) m3 from X65) hb);replace cN:=am (q0u (show Kd.N (Kd.slice 9 Kd.string) 39 _ wm.heap.size (fun k_=>(wm.heap.size≤k_)∧nO k_ (sl bY m2 bZ)∧nO k_ (sl cC m3 cD)) (sl cF m4 cG) m4 from (X64 cN aU)) hb);replace cO:=am (q1s (show Kd.V k25 25 _ wm.heap.size (fun k_=>(wm.heap.size≤k_)∧nO k_ (sl bY m2 bZ)∧nO k_ (sl cC m3 cD)∧nO k_ (sl cF m4 cG)) (sl cI m8 cJ) m8 from X67) hb);clear hb;obtain ⟨Z20_2_0,Y20_2_0⟩:=b8_0 aJ;obtain ⟨Z20_2_1,Y20_2_1⟩:=b8_1 aJ;obtain ⟨Z20_2_2,Y20_2_2⟩:=b8_2 aJ;obtain ⟨Z20_2_3,Y20_2_3⟩:=b8_3 aJ;obtain ⟨Z20_2_4,Y20_2_4⟩:=b8_4 aJ;obtain ⟨Z20_2_5,Y20_2_5⟩:=b8_5 aJ;obtain ⟨Z20_2_6,Y20_2_6⟩:=b8_6 aJ;obtain ⟨Z20_2_7,Y20_2_7⟩:=b8_7 aJ;obtain ⟨Z20_9_0,Y20_9_0⟩:=b8_0 aX;obtain ⟨Z20_9_1,Y20_9_1⟩:=b8_1 aX;obtain ⟨Z20_9_2,Y20_9_2⟩:=b8_2 aX;obtain ⟨Z20_9_3,Y20_9_3⟩:=b8_3 aX;obtain ⟨Z20_9_4,Y20_9_4⟩:=b8_4 aX;obtain ⟨Z20_9_5,Y20_9_5⟩:=b8_5 aX;obtain ⟨Z20_9_6,Y20_9_6⟩:=b8_6 aX;obtain ⟨Z20_9_7,Y20_9_7⟩:=b8_7 aX;obtain ⟨AS20,cS20,cX,cY,cZ⟩:=HI.out;have hcs20_0:=q2K cX;have hcs20_1:=q2L cX;have hcs20_2:=q2J cX;have hfs20_1:=q0B cX 1;have hfs20_2:=q0B cX 2;clear cX cY cZ;have hne20_2:=aT.out;have hnf20_2:=NB2_p.out;have hne20_9:=bB.out;have hnf20_9:=NB9_p.out;have hnn20_2_9:=aZ.out;have hnn20_9_2:=bA.out;refine v1I ?_))
   by_cases c4:e = 0
   case neg=>
    rw [if_neg c4] at h;cases h
   subst c4;rw [if_pos rfl] at h;simp only [Option.some.injEq,Prod.mk.injEq] at h;obtain ⟨rfl,rfl,rfl,rfl,rfl,rfl,rfl,rfl,rfl,rfl⟩:=h;refine on_ ?_;go_wp2
   refine bodyPost_ret (q5z rfl _ _ aI 44 #[.string m1,sl bY m2 bZ,sl cC m3 cD,sl cF m4 cG,iv m5,.string m6,iv m7,sl cI m8 cJ] (0,0) _ rfl (show (_:World).heap[aI]? = some (.cells #[.string m1,sl bY m2 bZ,sl cC m3 cD,sl cF m4 cG,iv m5,.string m6,iv m7,sl cI m8 cJ] 44 (0,0)) from by (with_reducible repeat (first | refine q1f ?_ _ | refine q1b ?_ | refine q0N ?_ _ | refine q2B ?_ aZ.out _ | refine q2B ?_ NB2_p.out _));refine q2x (cs:=#[.string m1,sl bY m2 bZ,sl cC m3 cD,sl cF m4 cG,iv m5,.string m6,iv m7,.slice none 0 0]) ?_ 7 _ rfl;(with_reducible repeat (first | refine q1f ?_ _ | refine q1b ?_ | refine q0N ?_ _ | refine q2B ?_ aZ.out _ | refine q2B ?_ NB2_p.out _));refine q2x (cs:=#[.string m1,sl bY m2 bZ,sl cC m3 cD,sl cF m4 cG,iv m5,.string m6,iv 0,.slice none 0 0]) ?_ 6 _ rfl;(with_reducible repeat (first | refine q1f ?_ _ | refine q1b ?_ | refine q0N ?_ _ | refine q2B ?_ aZ.out _ | refine q2B ?_ NB2_p.out _));refine q2x (cs:=#[.string m1,sl bY m2 bZ,sl cC m3 cD,sl cF m4 cG,iv m5,.string (⟨#[]⟩:q0a),iv 0,.slice none 0 0]) ?_ 5 _ rfl;(with_reducible repeat (first | refine q1f ?_ _ | refine q1b ?_ | refine q0N ?_ _ | refine q2B ?_ aZ.out _ | refine q2B ?_ NB2_p.out _));refine q2x (cs:=#[.string m1,sl bY m2 bZ,sl cC m3 cD,sl cF m4 cG,iv 0,.string (⟨#[]⟩:q0a),iv 0,.slice none 0 0]) ?_ 4 _ rfl;(with_reducible repeat (first | refine q1f ?_ _ | refine q1b ?_ | refine q0N ?_ _ | refine q2B ?_ aZ.out _ | refine q2B ?_ NB2_p.out _));refine q2x (cs:=#[.string m1,sl bY m2 bZ,sl cC m3 cD,.slice none 0 0,iv 0,.string (⟨#[]⟩:q0a),iv 0,.slice none 0 0]) ?_ 3 _ rfl;(with_reducible repeat (first | refine q1f ?_ _ | refine q1b ?_ | refine q0N ?_ _ | refine q2B ?_ aZ.out _ | refine q2B ?_ NB2_p.out _));refine q2x (cs:=#[.string m1,sl bY m2 bZ,.slice none 0 0,.slice none 0 0,iv 0,.string (⟨#[]⟩:q0a),iv 0,.slice none 0 0]) ?_ 2 _ rfl;(with_reducible repeat (first | refine q1f ?_ _ | refine q1b ?_ | refine q0N ?_ _ | refine q2B ?_ aZ.out _ | refine q2B ?_ NB2_p.out _));refine q2x (cs:=#[.string m1,.slice none 0 0,.slice none 0 0,.slice none 0 0,iv 0,.string (⟨#[]⟩:q0a),iv 0,.slice none 0 0]) ?_ 1 _ rfl;(with_reducible repeat (first | refine q1f ?_ _ | refine q1b ?_ | refine q0N ?_ _ | refine q2B ?_ aZ.out _ | refine q2B ?_ NB2_p.out _));refine q2x (cs:=#[.string (⟨#[]⟩:q0a),.slice none 0 0,.slice none 0 0,.slice none 0 0,iv 0,.string (⟨#[]⟩:q0a),iv 0,.slice none 0 0]) ?_ 0 _ rfl;(with_reducible repeat (first | refine q1f ?_ _ | refine q1b ?_ | refine q0N ?_ _ | refine q2B ?_ aZ.out _ | refine q2B ?_ NB2_p.out _));exact aJ.out) underlying44 rfl X4) rfl ?_;exact ⟨_,_,_,_,rfl,q3g (q0F (show Kd.N k86 86 _ wm.heap.size (fun k_=>(wm.heap.size≤k_)∧nO k_ (sl cC m3 cD)∧nO k_ (sl cF m4 cG)) (sl bY m2 bZ) m2 from (X64 cL aU)) (fun k_ hk_=>⟨q0k HMW.out hk_.1,hk_.2⟩)) HMW.out,q0H (q0n (show Kd.R k88 88 _ wm.heap.size (fun k_=>(wm.heap.size≤k_)) (sl cC m3 cD) m3 from X65) (fun k_ hk_=>q0k HMW.out hk_)) HMW.out,q3g (q0F (show Kd.N (Kd.slice 9 Kd.string) 39 _ wm.heap.size (fun k_=>(wm.heap.size≤k_)∧nO k_ (sl bY m2 bZ)∧nO k_ (sl cC m3 cD)) (sl cF m4 cG) m4 from (X64 cN aU)) (fun k_ hk_=>⟨q0k HMW.out hk_.1,hk_.2⟩)) HMW.out,q2R (q0v (show Kd.V k25 25 _ wm.heap.size (fun k_=>(wm.heap.size≤k_)∧nO k_ (sl bY m2 bZ)∧nO k_ (sl cC m3 cD)∧nO k_ (sl cF m4 cG)) (sl cI m8 cJ) m8 from X67) (fun k_ hk_=>⟨q0k HMW.out hk_.1,hk_.2⟩)) HMW.out,(X62 HB aK aY GWp)⟩









def q3W.f (l0:List q0a) (a1:q0a):Option (q0a):=
 if l0.length≤140737488355328∧(Lib.join (l0.map (·.data.toList)) a1.data.toList).length≤140737488355328 then some ⟨(Lib.join (l0.map (·.data.toList)) a1.data.toList).toArray⟩ else none
theorem q3W.calls (A0:Option Addr) (c0:Nat) (l0:List q0a) (a1:q0a) (r:q0a) (w:World) (aA:Kd.C Kd.string w A0 l0.length l0) (aC:l0.length≤c0) (h:q3W.f l0 a1 = some r) :
  Calls prog 54 #[sl A0 l0 c0,.string a1] w fun e w'=>e = .returned (.string r)∧Below w.heap.size w w':=by
 unfold q3W.f at h;split at h
 ·rename_i hlen
  obtain rfl:=q0d h;by_cases h0:l0 = []
  ·subst h0;refine (Tryd.strings_Join_none A0 c0 a1 w).mono ?_;rintro e w' ⟨rfl,rfl⟩;exact ⟨rfl,q0i _ _⟩
  ·obtain ⟨b,o,rfl,hb,hc⟩:=C_cells aA (List.length_pos_iff.2 h0);refine (Tryd.strings_Join b o c0 l0 a1 w hc hb hlen.1 aC hlen.2).mono ?_;rintro e w' ⟨rfl,hw⟩;exact ⟨rfl,hw⟩
 ·cases h


def q3s.nil (n:Int):Option (List q0a):=if 0≤n∧n≤1048576 then some [] else none
def Tryd.growRen:Go.Shelf.Ren:=⟨fun | 4=>75 | n=>n,fun | 22=>39 | 25=>9 | n=>n,fun | n=>n⟩
theorem Tryd.laysGrow:Lays8.n4 prog Tryd.growRen:={
 mixed:=by kernel_rfl
 f4 := ⟨"slices.Grow[[]string,string]", by decide, Tryd.func75.trans (congrArg some X4)⟩
 t0:=underlying0
 a0:=Tryd.isAgg0
 z0:=Tryd.sizeOf0
 v0:=Tryd.zeroValue0
 t3:=underlying3
 a3:=Tryd.isAgg3
 z3:=Tryd.sizeOf3
 v3:=Tryd.zeroValue3
 t4:=underlying4
 a4:=Tryd.isAgg4
 z4:=Tryd.sizeOf4
 v4:=Tryd.zeroValue4
 t9:=underlying9
 a9:=Tryd.isAgg9
 z9:=Tryd.sizeOf9
 v9:=Tryd.zeroValue9
 t20:=underlying20
 a20:=Tryd.isAgg20
 z20:=Tryd.sizeOf20
 v20:=Tryd.zeroValue20
 t22:=underlying39
 a22:=Tryd.isAgg39
 z22:=Tryd.sizeOf39
 v22:=Tryd.zeroValue39}
theorem q3s.nil_calls (n:Int) (r:List q0a) (h:q3s.nil n = some r) (w:World) :
  Calls prog 75 #[.slice none 0 0,iv n] w fun e w'=>∃ aA:Value,e = .returned aA∧Kd.R Kd.string 9 w' w.heap.size (fun _=>True) aA r∧Below w.heap.size w w':=by
 unfold q3s.nil at h;split at h
 ·rename_i hn
  obtain rfl:=q0d h;obtain ⟨m,rfl⟩:=Int.eq_ofNat_of_zero_le hn.1;have hm:m≤1048576:=by omega
  by_cases h0:m = 0
  ·subst h0;exact (Any8.slices_Grow_room Tryd.laysGrow none 0 0 0 w (q0f _) (by omega) (by omega) (by omega)).mono (fun e w' ⟨he,hw⟩=>⟨_,he,Kd.R_nil _ _ _ _ _,hw ▸ q0i _ _⟩)
  ·obtain ⟨i0,hi,aC,hz1,aD⟩:=info_parts q4K;refine (Any8.slices_Grow_grow Tryd.laysGrow i0 _ hi aC (by omega) none 0 0 m [] w (q0f _) (by omega) (by rw [aD];omega) (by omega) (by simp) (fun _=>rfl) (fun _ h=>by cases h)).mono ?_;rintro e w' ⟨rfl,rfl⟩;refine ⟨_,rfl,Kd.R_of_own ?_ (fun _ _=>trivial),q2o (q4W (q0i _ _)) _⟩;refine ⟨rfl,.inr ⟨w.heap.size,_,_,rfl,q0f _,heap_alloc_new _ _,q2c _,?_,?_,by simp;rfl⟩⟩
   ·exact grownCap_le_maxLen _ _ _ _ (by unfold maxLen;omega)
   ·have hge:=grownCap_ge w m 0 (Tryd.growRen.t 25);have e1:(Value.string ⟨#[]⟩).cells.size = 1:=rfl;simp only [Nat.zero_add,Nat.sub_zero,Builtin.zeroCells,e1,Nat.mul_one,Array.size_append,List.size_toArray,List.length_nil];simp [e1]
    omega
 ·cases h


mutual
def q0o.l0:Nat → List (List q0a) → Int → List (List q0a) → Int → Int → Option (List q0a)
 | 0,_,_,_,_,_=>none
 | k + 1,x0,x3,x9,aA,aC=>if aC < aA then (if 0≤aC then (if aC < (x9.length:Int) then (if (wrap64 (x3 + ((q2M x9 aC).length:Int))) < 0 then (none) else (q0o.l0 k x0 (wrap64 (x3 + ((q2M x9 aC).length:Int))) x9 aA (wrap64 (aC + 1)))) else (none)) else (none)) else (((q3s.nil x3)).bind fun aD=>(q0o.l1 k aD x0 (x0.length:Int) 0))
def q0o.l1:Nat → List q0a → List (List q0a) → Int → Int → Option (List q0a)
 | 0,_,_,_,_=>none
 | k + 1,x6,aA,aC,aD=>if aD < aC then (if 0≤aD then (if aD < (aA.length:Int) then (if x6.length + (q2M aA aD).length < 8796093022208 then (q0o.l1 k (x6++(q2M aA aD)) aA aC (wrap64 (aD + 1))) else (none)) else (none)) else (none)) else (some x6)
end
def q0o.f (k:Nat) (l0:List (List q0a)):Option (List q0a):=q0o.l0 k l0 0 l0 (l0.length:Int) 0
theorem q0o.mono_l:∀ k,(∀ y0 y1 y2 y3 y4,LeO (q0o.l0 k y0 y1 y2 y3 y4) (q0o.l0 (k + 1) y0 y1 y2 y3 y4))∧(∀ y0 y1 y2 y3,LeO (q0o.l1 k y0 y1 y2 y3) (q0o.l1 (k + 1) y0 y1 y2 y3))
 | 0=>⟨fun _ _ _ _ _ r h=>by simp [q0o.l0] at h,fun _ _ _ _ r h=>by simp [q0o.l1] at h⟩
 | k + 1=>by
  obtain ⟨aA,aC⟩:=q0o.mono_l k;refine ⟨?_,?_⟩
  ·intro y0 y1 y2 y3 y4;unfold q0o.l0;exact X68
  ·intro y0 y1 y2 y3;unfold q0o.l1;exact X68
theorem q0o.mono:∀ a0 k,LeO (q0o.f k a0) (q0o.f (k + 1) a0):=by
 intro a0 k;obtain ⟨aA,aC⟩:=q0o.mono_l k;unfold q0o.f;exact X68
theorem q0o.calls (k:Nat) (A0:Option Addr) (c0:Nat) (l0:List (List q0a)) (r:List q0a) (w:World) (aA:Kd.C (Kd.slice 9 Kd.string) w A0 l0.length l0) (aC:l0.length≤c0) (h:q0o.f k l0 = some r) :
  Calls prog 27 #[sl A0 l0 c0] w fun e w'=>∃ aD:Value,e = .returned (aD)∧Kd.R Kd.string 9 w' w.heap.size (fun _=>True) aD r∧Below w.heap.size w w':=by
 have aE:=am aA;have HC0:=am aC;clear aA aC;have HB:=am (q0i w.heap.size w);have H:=h;clear h;unfold q0o.f at H;have H':=am H;clear H;go_enter func27,ntmps27;go_wp2
 go_loopg [3,11] k (fun kq v3 aG w'=>∃ (aH:Int) (aI:Int),v3 = iv aH∧aG = iv aI∧q0j (q0o.l0 kq l0 aH l0 (l0.length:Int) aI = some r)∧q0j (kq≤k)∧q0j (Below w.heap.size w w'))
 case atStart=>exact ⟨(0),(0),X7,X7,H',⟨q0f _⟩,⟨X6⟩⟩
 case round=>
  clear H';obtain ⟨aH,aI,rfl,rfl,HA,aJ,HB⟩:=hrel;cases gk with
  | zero=>exact absurd HA.out (by simp [q0o.l0])
  | succ k1=>
   have H:=HA.out;clear HA;simp only [q0o.l0] at H;by_cases c2:aI < (l0.length:Int)
   ·rw [if_pos c2] at H;have c2b0:=dT c2;clear c2;by_cases c3:0≤aI
    ·rw [if_pos c3] at H;have c3b0:=dT c3;clear c3;by_cases c4:aI < (l0.length:Int)
     ·rw [if_pos c4] at H;have c4b0:=dT c4;clear c4;by_cases c5:(wrap64 (aH + ((q2M l0 aI).length:Int))) < 0
      ·exact iP c5 H
      ·rw [if_neg c5] at H;have c5b0:=dF c5;clear c5;have H':=am H;clear H;have aK:0≤(aI:Int):=q0b X12;have aM:aI < (l0.length:Int):=q0b X12;obtain ⟨ad534,A534_0,c534_0,e534,aQ,aT,aU⟩:=q5Y aE.out aI aK aM;cases e534;replace aQ:=cB HB aQ;have HR534_0:=am aU;have HC534_0:=am aT;clear aU aT;replace aK:=q0c aK;replace aM:=q0c aM;go_wp2
       go_roundg k1
       case measure=>have:=aJ.out;omega
       case rel=>exact ⟨(wrap64 (aH + ((q2M l0 aI).length:Int))),(wrap64 (aI + 1)),X7,X7,H',⟨by have:=aJ.out;omega⟩,⟨X6⟩⟩
     ·exact iN c4 H
    ·exact iN c3 H
   ·rw [if_neg c2] at H;have c2b0:=dF c2;clear c2;obtain ⟨aW,A6,H⟩:=oA H;(try dsimp only at H);have H':=am H;clear H;go_wp2_with (first|((with_reducible refine gc 75 ?_);refine q6b (some 24) rfl rfl func75 X4 rfl #[.slice none 0 0,iv aH] rfl X69 ?_;refine (q3s.nil_calls aH _ A6.out _).mono ?_;rintro e w7 ⟨v536,rfl,aY,hb⟩;refine ⟨_,rfl,?_⟩;have aZ:=am (q0H aY (q1c X6));replace HB:=bS X6 hb;clear hb;(try clear aY)))
    go_loopg [6,27] k1 (fun kq v6 bA w'=>∃ (bB:List q0a) (bC:Int),bA = iv bC∧q0j (q0o.l1 kq bB l0 (l0.length:Int) bC = some r)∧q0j (kq≤k1)∧q0j (Kd.R Kd.string 9 w' w.heap.size (fun _=>True) v6 bB)∧q0j (Below w.heap.size w w'))
    case atStart=>exact ⟨(aW),(0),X7,H',⟨q0f _⟩,⟨aR aZ.out⟩,⟨X6⟩⟩
    case round=>
     clear H';(try clear c2 c2b0 p2 c3 c3b0 c4 c4b0 c5 c5b0 p5 q5 hx5 p6 c7 aQ aK aM);obtain ⟨bB,bC,rfl,HA,bD,bE,HB⟩:=hrel;cases gk with
     | zero=>exact absurd HA.out (by simp [q0o.l1])
     | succ k2=>
      have H:=HA.out;clear HA;simp only [q0o.l1] at H;by_cases c8:bC < (l0.length:Int)
      ·rw [if_pos c8] at H;have c8b0:=dT c8;clear c8;by_cases c9:0≤bC
       ·rw [if_pos c9] at H;have c9b0:=dT c9;clear c9;by_cases c10:bC < (l0.length:Int)
        ·rw [if_pos c10] at H;have c10b0:=dT c10;clear c10;by_cases bF:bB.length + (q2M l0 bC).length < 8796093022208
         ·rw [if_pos bF] at H;have bG:=am bF;clear bF;obtain ⟨bH,bI⟩:∃ y_:List q0a,y_ = (bB++(q2M l0 bC)):=⟨_,rfl⟩;rw [← bI] at H;(try rw [oG bH] at H)
          have bK:=am bI;clear bI;have H':=am H;clear H;have bL:0≤(bC:Int):=q0b X12;have bM:bC < (l0.length:Int):=q0b X12;obtain ⟨ad538,A538_0,c538_0,e538,bN,bO,bP⟩:=q5Y aE.out bC bL bM;cases e538;replace bN:=cB HB bN;have bQ:=am bP;have HC538_0:=am bO;clear bP bO;replace bL:=q0c bL;replace bM:=q0c bM;go_wp2_with (first|((with_reducible refine q1J (b:=.append) (xs:=#[.tmp 31,.tmp 32]) rfl ?_);at_builtin;refine q3e Kd.string (w0:=w) w.heap.size rfl (.tmp 31) (.tmp 32) 39 9 (.string ⟨#[]⟩) 16 rfl underlying39 q4K rfl (by decide) (by omega) u6 bB (q2M l0 bC) _ _ _ (fun _=>True) (fun _=>False) rfl rfl ?aO ?aR (fun _ _ h=>h) (fun _ h=>h.elim) ?aF ?aB ?aS ?aL ?_;(case aR=>exact cW (q0r bQ.out HB.out));(case aB=>exact X6);(case aF=>exact (fun _ _=>trivial));(case aO=>exact (aR bE.out));(case aS=>exact (q1c X6));(case aL=>have:=bG.out;omega);intro v540 w12 ho hb hg hat;rw [← bK.out] at ho;replace HB:=am (hb);have bR:=am (ho);clear bE;clear ho hb hg hat))
          go_roundg k2
          case measure=>have:=aJ.out;have:=bD.out;omega
          case rel=>exact ⟨(bH),(wrap64 (bC + 1)),X7,H',⟨by have:=aJ.out;have:=bD.out;omega⟩,⟨aR bR.out⟩,⟨X6⟩⟩
         ·exact iN bF H
        ·exact iN c10 H
       ·exact iN c9 H
      ·rw [if_neg c8] at H;have c8b0:=dF c8;clear c8;obtain rfl:=q0d H;go_wp2
       go_ret
       exact ⟨_,X11,aR bE.out,X6⟩

def q4I.f (a0:Int):Option (q0a):=if a0 < 10 then (if 0≤a0 then (if a0≤(wrap64 (a0 + 1)) then (if (wrap64 (a0 + 1))≤36 then (some ((⟨#[48,49,50,51,52,53,54,55,56,57,97,98,99,100,101,102,103,104,105,106,107,108,109,110,111,112,113,114,115,116,117,118,119,120,121,122]⟩:q0a).extract (a0:Int).toNat ((wrap64 (a0 + 1)):Int).toNat)) else (none)) else (none)) else (none)) else (if 0≤(wrap64 (a0 * 2)) then (if (wrap64 (a0 * 2))≤(wrap64 ((wrap64 (a0 * 2)) + 2)) then (if (wrap64 ((wrap64 (a0 * 2)) + 2))≤200 then (some ((⟨#[48,48,48,49,48,50,48,51,48,52,48,53,48,54,48,55,48,56,48,57,49,48,49,49,49,50,49,51,49,52,49,53,49,54,49,55,49,56,49,57,50,48,50,49,50,50,50,51,50,52,50,53,50,54,50,55,50,56,50,57,51,48,51,49,51,50,51,51,51,52,51,53,51,54,51,55,51,56,51,57,52,48,52,49,52,50,52,51,52,52,52,53,52,54,52,55,52,56,52,57,53,48,53,49,53,50,53,51,53,52,53,53,53,54,53,55,53,56,53,57,54,48,54,49,54,50,54,51,54,52,54,53,54,54,54,55,54,56,54,57,55,48,55,49,55,50,55,51,55,52,55,53,55,54,55,55,55,56,55,57,56,48,56,49,56,50,56,51,56,52,56,53,56,54,56,55,56,56,56,57,57,48,57,49,57,50,57,51,57,52,57,53,57,54,57,55,57,56,57,57]⟩:q0a).extract ((wrap64 (a0 * 2)):Int).toNat ((wrap64 ((wrap64 (a0 * 2)) + 2)):Int).toNat)) else (none)) else (none)) else (none))
theorem q4I.calls (a0:Int) (r:q0a) (w:World) (h:q4I.f a0 = some r) :
  Calls prog 143 #[iv a0] w fun e w'=>e = .returned (.string r)∧q3Q w w':=by
 have H:=h;clear h;unfold q4I.f at H;by_cases c2:a0 < 10
 ·rw [if_pos c2] at H;have c2b0:=dT c2;clear c2;by_cases c3:0≤a0
  ·rw [if_pos c3] at H;have c3b0:=q0c c3;have c3b1:=dT c3;clear c3;by_cases c4:a0≤(wrap64 (a0 + 1))
   ·rw [if_pos c4] at H;have c4b0:=q0c c4;have c4b1:=dT c4;by_cases c5:(wrap64 (a0 + 1))≤36
    ·rw [if_pos c5] at H;have c5b0:=q0c c5;have c5b1:=dT c5;obtain rfl:=q0d H;go_enter func143,ntmps143;go_wp2
     go_ret
     exact ⟨X7,X18⟩
    ·exact iN c5 H
   ·exact iN c4 H
  ·exact iN c3 H
 ·rw [if_neg c2] at H;have c2b0:=dF c2;clear c2;obtain ⟨aA,aC⟩:∃ j_:Int,(wrap64 (a0 * 2)) = j_:=⟨_,rfl⟩;replace H:(if 0≤(aA) then (if (aA)≤(wrap64 ((aA) + 2)) then (if (wrap64 ((aA) + 2))≤200 then (some ((⟨#[48,48,48,49,48,50,48,51,48,52,48,53,48,54,48,55,48,56,48,57,49,48,49,49,49,50,49,51,49,52,49,53,49,54,49,55,49,56,49,57,50,48,50,49,50,50,50,51,50,52,50,53,50,54,50,55,50,56,50,57,51,48,51,49,51,50,51,51,51,52,51,53,51,54,51,55,51,56,51,57,52,48,52,49,52,50,52,51,52,52,52,53,52,54,52,55,52,56,52,57,53,48,53,49,53,50,53,51,53,52,53,53,53,54,53,55,53,56,53,57,54,48,54,49,54,50,54,51,54,52,54,53,54,54,54,55,54,56,54,57,55,48,55,49,55,50,55,51,55,52,55,53,55,54,55,55,55,56,55,57,56,48,56,49,56,50,56,51,56,52,56,53,56,54,56,55,56,56,56,57,57,48,57,49,57,50,57,51,57,52,57,53,57,54,57,55,57,56,57,57]⟩:q0a).extract ((aA):Int).toNat ((wrap64 ((aA) + 2)):Int).toNat)) else (none)) else (none)) else (none)) = some r:=by first|(rw [aC] at H;exact H)|(simp only [aC] at H ⊢;exact H)
  have hji6w:(IntKind.i64.wrap (a0 * 2)) = aA:=(q3O _).trans aC;by_cases c7:0≤(aA)
  ·rw [if_pos c7] at H;have c7b0:=q0c c7;have c7b1:=dT c7;clear c7;by_cases c8:(aA)≤(wrap64 ((aA) + 2))
   ·rw [if_pos c8] at H;have c8b0:=q0c c8;have c8b1:=dT c8;by_cases c9:(wrap64 ((aA) + 2))≤200
    ·rw [if_pos c9] at H;have c9b0:=q0c c9;have c9b1:=dT c9;obtain rfl:=q0d H;go_enter func143,ntmps143;go_wp2
     go_ret
     exact ⟨by first | rfl|(simp;done)|(simp only [← aC] <;> (first | rfl | simp))|(simp [*];done),X18⟩
    ·exact iN c9 H
   ·exact iN c8 H
  ·exact iN c7 H











def q1L.j0:Nat → Int → Bool → Option (q0a)
 | 0,_,_=>none
 | k + 1,x0,aA=>if aA = true then ((q4I.f x0).bind fun aC=>(some aC)) else (none)
def q1L.f (k:Nat) (a0:Int) (a1:Int):Option (q0a):=if a1 = 10 then (if 0≤a0 then (q1L.j0 k a0 (decide (a0 < 100))) else (q1L.j0 k a0 false)) else (none)
theorem q1L.mono_l:∀ k,(∀ y0 y1,LeO (q1L.j0 k y0 y1) (q1L.j0 (k + 1) y0 y1))
 | 0=>fun _ _ r h=>by simp [q1L.j0] at h
 | k + 1=>by
  have aA:=q1L.mono_l k
  ·intro y0 y1;unfold q1L.j0;exact X70
theorem q1L.mono:∀ a0 a1 k,LeO (q1L.f k a0 a1) (q1L.f (k + 1) a0 a1):=by
 intro a0 a1 k;have aA:=q1L.mono_l k;unfold q1L.f;exact X70
theorem q1L.calls (k:Nat) (a0:Int) (a1:Int) (r:q0a) (w:World) (h:q1L.f k a0 a1 = some r) :
  Calls prog 126 #[iv a0,iv a1] w fun e w'=>e = .returned (.string r)∧Below w.heap.size w w':=by
 have HB:=am (q0i w.heap.size w);have H:=h;clear h;unfold q1L.f at H;by_cases c3:a1 = 10
 ·rw [if_pos c3] at H;have c3b0:=eT c3;have c3b1:=eF c3;clear c3;have aA:=am H;clear H;go_enter func126,ntmps126;go_upto_region 2 with (fail)
  go_cut [17] (fun aC wc=>∃ (kq:Nat) (aD:Bool),aC = .bool aD∧q0j (q1L.j0 kq a0 aD = some r)∧q0j (kq≤k)∧q0j (Below w.heap.size w wc))
  case first=>
   have H:=aA.out;clear aA;by_cases c5:0≤a0
   ·rw [if_pos c5] at H;have c5b0:=dT c5;clear c5;(first | rw [c5b0]|(simp only [q3O,q3U];rw [c5b0]) | skip);have H':=am H;clear H;go_wp2
    go_meet
    case rel=>exact ⟨_,(decide (a0 < 100)),X7,H',⟨X8⟩,⟨X6⟩⟩
   ·rw [if_neg c5] at H;have c5b0:=dF c5;clear c5;(first | rw [c5b0]|(simp only [q3O,q3U];rw [c5b0]) | skip);have H':=am H;clear H;go_wp2
    go_meet
    case rel=>exact ⟨_,(false),X7,H',⟨X8⟩,⟨X6⟩⟩
  case rest=>
   clear aA;(try clear c1 p2 c3 c3b0 c3b1 c5 c5b0);obtain ⟨kq,aD,rfl,HA,HJ3,HB⟩:=hcut;cases kq with
   | zero=>exact absurd HA.out (by simp [q1L.j0])
   | succ kj3=>
    have H:=HA.out;clear HA;simp only [q1L.j0] at H;by_cases c6:aD = true
    ·subst c6;replace H:=tP H;obtain ⟨aE,A7,H⟩:=oA H;(try dsimp only at H);obtain rfl:=q0d H;go_wp2_with (first|((with_reducible refine gc 143 ?_);refine gL (some 19) func143 #[iv a0] ?_;(with_reducible refine (q4I.calls a0 aE _ A7.out).mono ?_);rintro e w' ⟨rfl,⟨nd,rfl⟩⟩;refine ⟨_,rfl,?_⟩))
     go_ret
     exact ⟨X11,X6⟩
    ·replace c6:=fI c6;subst c6;replace H:=tN H;exact absurd H (by simp)
 ·exact iN c3 H

def q3A.f (k:Nat) (a0:Int):Option (q0a):=(q1L.f k a0 10).bind fun aA=>(some aA)
theorem q3A.mono:∀ a0 k,LeO (q3A.f k a0) (q3A.f (k + 1) a0):=by
 intro a0 k;unfold q3A.f;exact (by repeat' (with_reducible first | exact q1L.mono _ _ _ | exact LeO.refl _ | exact LeO.none _ | refine LeO.ite ?_ ?_ | refine LeO.bind ?_ (fun _=>?_) | apply q1L.mono))
theorem q3A.calls (k:Nat) (a0:Int) (r:q0a) (w:World) (h:q3A.f k a0 = some r) :
  Calls prog 100 #[iv a0] w fun e w'=>e = .returned (.string r)∧Below w.heap.size w w':=by
 have HB:=am (q0i w.heap.size w);have H:=h;clear h;unfold q3A.f at H;obtain ⟨aA,A2,H⟩:=oA H;(try dsimp only at H);obtain rfl:=q0d H;go_enter func100,ntmps100;go_wp2_with (first|((with_reducible refine gc 126 ?_);refine gL (some 4) func126 #[iv a0,iv 10] ?_;(with_reducible refine (q1L.calls k a0 10 aA _ A2.out).mono ?_);rintro e w3 ⟨rfl,hb⟩;refine ⟨_,rfl,?_⟩;replace HB:=bS X6 hb;clear hb))
 go_ret
 exact ⟨X11,X6⟩

def q1U.f (k:Nat) (a0:Int):Option (q0a):=(q3A.f k a0).bind fun aA=>(some aA)
theorem q1U.mono:∀ a0 k,LeO (q1U.f k a0) (q1U.f (k + 1) a0):=by
 intro a0 k;unfold q1U.f;exact (by repeat' (with_reducible first | exact q3A.mono _ _ | exact LeO.refl _ | exact LeO.none _ | refine LeO.ite ?_ ?_ | refine LeO.bind ?_ (fun _=>?_)))
theorem q1U.calls (k:Nat) (a0:Int) (r:q0a) (w:World) (h:q1U.f k a0 = some r) :
  Calls prog 56 #[iv a0] w fun e w'=>e = .returned (.string r)∧Below w.heap.size w w':=by
 have HB:=am (q0i w.heap.size w);have H:=h;clear h;unfold q1U.f at H;obtain ⟨aA,A2,H⟩:=oA H;(try dsimp only at H);obtain rfl:=q0d H;go_enter func56,ntmps56;go_wp2_with (first|((with_reducible refine gc 100 ?_);refine gL (some 4) func100 #[iv a0] ?_;(with_reducible refine (q3A.calls k a0 aA _ A2.out).mono ?_);rintro e w3 ⟨rfl,hb⟩;refine ⟨_,rfl,?_⟩;replace HB:=bS X6 hb;clear hb))
 go_ret
 exact ⟨X11,X6⟩

mutual
def q1V.l0:Nat → List (List q0a) → List (S25) → Int → Int → Int → q0a → Int → List (S25) → Option (List q0a)
 | 0,_,_,_,_,_,_,_,_=>none
 | k + 1,x3,aA,aC,aD,aE,aG,aH,aI=>if aD < aC then (if 0≤aD then (if aD < (aA.length:Int) then ((q1O.f k ((q0A aA aD).f0) ((q0A aA aD).f1) ((q0A aA aD).f2) ((q0A aA aD).f3)).bind fun aJ=>(if x3.length < 5864062014805 then (q1V.l0 k (x3++[aJ]) aA aC (wrap64 (aD + 1)) aE aG aH aI) else (none))) else (none)) else (none)) else (if aE = 1 then (none) else (if aE = 2 then (none) else (if aE = 3 then (none) else (if aE = 4 then (none) else (if aE = 9 then (none) else (if aE = 10 then (none) else (if aE = 11 then (none) else (if aE = 8 then (none) else (if aE = 12 then (none) else (if aE = 7 then (if 0 < (x3.length:Int) then ((some (q2M x3 0:List q0a)).bind fun aK=>(if 0 < (aI.length:Int) then (if ((q0A aI 0).f0) = 5 then (none) else (if ((q0A aI 0).f0) = 7 then (none) else ((q1U.f k aH).bind fun aM=>((some (([(⟨#[94]⟩:q0a),aM]:List q0a):List q0a)).bind fun aQ=>(if aK.length + aQ.length < 8796093022208 then (some (aK++aQ)) else (none)))))) else (none))) else (none)) else (if aE = 6 then (none) else (none))))))))))))
def q1V.f:Nat → Int → q0a → Int → List (S25) → Option (List q0a)
 | 0,_,_,_,_=>none
 | k + 1,aA,aC,aD,aE=>q1V.l0 k ([]:List (List q0a)) aE (aE.length:Int) 0 aA aC aD aE
def q0T.l0:Nat → List (List q0a) → List (S25) → Int → Int → Int → q0a → Int → List (S25) → Option (List q0a)
 | 0,_,_,_,_,_,_,_,_=>none
 | k + 1,x3,aA,aC,aD,aE,aG,aH,aI=>if aD < aC then (if 0≤aD then (if aD < (aA.length:Int) then ((q1O.f k ((q0A aA aD).f0) ((q0A aA aD).f1) ((q0A aA aD).f2) ((q0A aA aD).f3)).bind fun aJ=>(if x3.length < 5864062014805 then (q0T.l0 k (x3++[aJ]) aA aC (wrap64 (aD + 1)) aE aG aH aI) else (none))) else (none)) else (none)) else (if aE = 1 then (some (([(⟨#[117]⟩:q0a)]:List q0a))) else (if aE = 2 then (some (([(⟨#[45]⟩:q0a)]:List q0a))) else (if aE = 3 then (some (([(⟨#[120]⟩:q0a)]:List q0a))) else (if aE = 4 then (some (([aG]:List q0a))) else (if aE = 9 then (some (([(⟨#[58]⟩:q0a)]:List q0a))) else (if aE = 10 then (some (([(⟨#[126]⟩:q0a)]:List q0a))) else (if aE = 11 then (some (([(⟨#[64]⟩:q0a),aG]:List q0a))) else (if aE = 8 then (if 0 < (x3.length:Int) then ((q0o.f k (([(([(⟨#[91]⟩:q0a)]:List q0a)),q2M x3 0,(([(⟨#[93]⟩:q0a)]:List q0a))]:List (List q0a)))).bind fun aK=>(some aK)) else (none)) else (if aE = 12 then (if 0 < (x3.length:Int) then ((q0o.f k (([(([aG,(⟨#[123]⟩:q0a)]:List q0a)),q2M x3 0,(([(⟨#[125]⟩:q0a)]:List q0a))]:List (List q0a)))).bind fun aM=>(some aM)) else (none)) else (if aE = 7 then (if 0 < (x3.length:Int) then (if 0 < (aI.length:Int) then (if ((q0A aI 0).f0) = 5 then ((q0o.f k (([(([(⟨#[40]⟩:q0a)]:List q0a)),q2M x3 0,(([(⟨#[41]⟩:q0a)]:List q0a))]:List (List q0a)))).bind fun aQ=>((q1U.f k aH).bind fun aT=>((some (([(⟨#[94]⟩:q0a),aT]:List q0a):List q0a)).bind fun aU=>(if aQ.length + aU.length < 8796093022208 then (some (aQ++aU)) else (none))))) else (if ((q0A aI 0).f0) = 7 then ((q0o.f k (([(([(⟨#[40]⟩:q0a)]:List q0a)),q2M x3 0,(([(⟨#[41]⟩:q0a)]:List q0a))]:List (List q0a)))).bind fun aW=>((q1U.f k aH).bind fun aX=>((some (([(⟨#[94]⟩:q0a),aX]:List q0a):List q0a)).bind fun aY=>(if aW.length + aY.length < 8796093022208 then (some (aW++aY)) else (none))))) else ((q1U.f k aH).bind fun t662=>(none)))) else (none)) else (none)) else (if aE = 6 then (q0T.l1 k (([(⟨#[40]⟩:q0a)]:List q0a)) x3 (x3.length:Int) 0) else ((q0o.f k x3).bind fun aZ=>(some aZ)))))))))))))
def q0T.l1:Nat → List q0a → List (List q0a) → Int → Int → Option (List q0a)
 | 0,_,_,_,_=>none
 | k + 1,x8,aA,aC,aD=>if aD < aC then (if 0≤aD then (if aD < (aA.length:Int) then (if aD > 0 then (if x8.length < 8796093022208 then ((some (x8++[(⟨#[47]⟩:q0a)]:List q0a)).bind fun aE=>(if aE.length + (q2M aA aD).length < 8796093022208 then (q0T.l1 k (aE++(q2M aA aD)) aA aC (wrap64 (aD + 1))) else (none))) else (none)) else (if x8.length + (q2M aA aD).length < 8796093022208 then (q0T.l1 k (x8++(q2M aA aD)) aA aC (wrap64 (aD + 1))) else (none))) else (none)) else (none)) else (if x8.length < 8796093022208 then (some (x8++[(⟨#[41]⟩:q0a)])) else (none))
def q0T.f:Nat → Int → q0a → Int → List (S25) → Option (List q0a)
 | 0,_,_,_,_=>none
 | k + 1,aA,aC,aD,aE=>q0T.l0 k ([]:List (List q0a)) aE (aE.length:Int) 0 aA aC aD aE
def q1O.f:Nat → Int → q0a → Int → List (S25) → Option (List q0a)
 | 0,_,_,_,_=>none
 | k + 1,a0,a1,a2,a3=>if a0 = 7∧(q0A a3 0).f0≠5∧(q0A a3 0).f0≠7 then q1V.f k a0 a1 a2 a3 else q0T.f k a0 a1 a2 a3
end
theorem q1O.mono_l:∀ k,(∀ y0 y1 y2 y3,LeO (q1V.f k y0 y1 y2 y3) (q1V.f (k + 1) y0 y1 y2 y3))∧(∀ y0 y1 y2 y3 y4 y5 y6 y7,LeO (q1V.l0 k y0 y1 y2 y3 y4 y5 y6 y7) (q1V.l0 (k + 1) y0 y1 y2 y3 y4 y5 y6 y7))∧(∀ y0 y1 y2 y3,LeO (q0T.f k y0 y1 y2 y3) (q0T.f (k + 1) y0 y1 y2 y3))∧(∀ y0 y1 y2 y3 y4 y5 y6 y7,LeO (q0T.l0 k y0 y1 y2 y3 y4 y5 y6 y7) (q0T.l0 (k + 1) y0 y1 y2 y3 y4 y5 y6 y7))∧(∀ y0 y1 y2 y3,LeO (q0T.l1 k y0 y1 y2 y3) (q0T.l1 (k + 1) y0 y1 y2 y3))∧(∀ y0 y1 y2 y3,LeO (q1O.f k y0 y1 y2 y3) (q1O.f (k + 1) y0 y1 y2 y3))
 | 0=>⟨fun _ _ _ _ r h=>by simp [q1V.f] at h,fun _ _ _ _ _ _ _ _ r h=>by simp [q1V.l0] at h,fun _ _ _ _ r h=>by simp [q0T.f] at h,fun _ _ _ _ _ _ _ _ r h=>by simp [q0T.l0] at h,fun _ _ _ _ r h=>by simp [q0T.l1] at h,fun _ _ _ _ r h=>by simp [q1O.f] at h⟩
 | k + 1=>by
  obtain ⟨aA,aC,aD,aE,aG,aH⟩:=q1O.mono_l k;refine ⟨?_,?_,?_,?_,?_,?_⟩
  ·intro y0 y1 y2 y3;unfold q1V.f;exact X71
  ·intro y0 y1 y2 y3 y4 y5 y6 y7;unfold q1V.l0;exact X71
  ·intro y0 y1 y2 y3;unfold q0T.f;exact X71
  ·intro y0 y1 y2 y3 y4 y5 y6 y7;unfold q0T.l0;exact X71
  ·intro y0 y1 y2 y3;unfold q0T.l1;exact X71
  ·intro y0 y1 y2 y3;unfold q1O.f;exact X71
theorem q1O.mono:∀ a0 a1 a2 a3 k,LeO (q1O.f k a0 a1 a2 a3) (q1O.f (k + 1) a0 a1 a2 a3):=by
 intro a0 a1 a2 a3 k;obtain ⟨ih0,ih1,ih2,ih3,ih4,aA⟩:=q1O.mono_l k;exact aA a0 a1 a2 a3
def q0T.T25:Bool × List (List Nat × List Nat):=(true,[([],[]),([0],[0]),([1],[1]),([],[]),([3],[3]),([4],[4]),([],[]),([2,5,6],[2,5,6]),([7],[7]),([8,8,0,1,2,3,4,5,6,7,8],[8])])
def q0T.B25:List Nat:=[0,1,3,0,8,24,0,127,255,511]
theorem q0T.tab25:rtab .any (q5m Tryd.f55 25) = q0T.T25:=by kernel_rfl
theorem q0T.bits25:q3G q0T.T25.2 q0T.B25 = true:=by kernel_rfl

@[reducible] def q1O.Stmt (k:Nat):Prop:=∀ (a0_0:Int) (a0_1:q0a) (a0_2:Int) (A0_3:Option Addr) (c0_3:Nat) (l0_3:List (S25)) (r:List q0a) (w:World) (hr0_3:Kd.C k25 w A0_3 l0_3.length l0_3) (hc0_3:l0_3.length≤c0_3) (h:q1O.f k a0_0 a0_1 a0_2 l0_3 = some r),
  Calls prog 55 #[.agg #[iv a0_0,.string a0_1,iv a0_2,sl A0_3 l0_3 c0_3]] w fun e w'=>∃ v0_:Value,e = .returned (v0_)∧Kd.R Kd.string 9 w' w.heap.size (fun _=>True) v0_ r∧Below w.heap.size w w'
@[reducible] def q1V.Stmt (k:Nat):Prop:=∀ (a0_0:Int) (a0_1:q0a) (a0_2:Int) (A0_3:Option Addr) (c0_3:Nat) (l0_3:List (S25)) (r:List q0a) (w:World) (hr0_3:Kd.C k25 w A0_3 l0_3.length l0_3) (hc0_3:l0_3.length≤c0_3) (h:q1V.f k a0_0 a0_1 a0_2 l0_3 = some r),
  Calls prog 55 #[.agg #[iv a0_0,.string a0_1,iv a0_2,sl A0_3 l0_3 c0_3]] w fun e w'=>∃ v0_:Value,e = .returned (v0_)∧Kd.R Kd.string 9 w' w.heap.size (fun _=>True) v0_ r∧Below w.heap.size w w'
theorem q1V.step (k:Nat) (ih:∀ m_,m_ < k → q1O.Stmt m_):q1V.Stmt k:=by
 intro aA aC aD aE aG aH r w aI aJ h;cases k with
 | zero=>exact absurd h (by simp [q1V.f])
 | succ k=>
 simp only [q1V.f] at h;have hu25:=underlying25;have aK:=am aI;have HC0_3:=am aJ;clear aI aJ;have HB:=am (q0i w.heap.size w);have H:(q1V.l0 k ([]:List (List q0a)) aH (aH.length:Int) 0 aA aC aD aH) = some r:=h;clear h;have H':=am H;clear H;go_enter func55,ntmps55;go_wp2_with (first|((with_reducible refine gd 1 ?_);refine be 1 #[iv aA,.string aC,iv aD,sl aE aH aG] 25 ?_;intro aM hg w2 hbox hb;have aQ:=am (hbox);have GW545:=sG (w:=w) hg X6;have aT:=sG (w:=w) hg X6;replace HB:=bS X6 hb;clear hb hbox hg;have Z3:=bc4 aQ))
 go_loopg [3,14] k (fun kq v3 aU w'=>∃ (aW:List (List q0a)) (aX:Int),aU = iv aX∧q0j (q1V.l0 kq aW aH (aH.length:Int) aX aA aC aD aH = some r)∧q0j (kq≤k)∧q0j (Kd.S (Kd.slice 9 Kd.string) 39 w' w.heap.size (fun _=>True) v3 aW)∧q0j (w'.heap[aM]? = some (.cells #[iv aA,.string aC,iv aD,(sl aE aH aG)] 25 (0,0)))∧q0j (Below w.heap.size w w'))
 case atStart=>exact ⟨(([]:List (List q0a))),(0),X7,H',⟨q0f _⟩,⟨X22⟩,⟨(X9 aQ)⟩,⟨(X10 HB aT)⟩⟩
 case round=>
  clear H';(try clear p2 Z3);obtain ⟨aW,aX,rfl,HA,aY,aZ,aQ,HB⟩:=hrel;cases gk with
  | zero=>exact absurd HA.out (by simp [q1V.l0])
  | succ k1=>
   have H:=HA.out;clear HA;simp only [q1V.l0] at H;by_cases c4:aX < (aH.length:Int)
   ·rw [if_pos c4] at H;have c4b0:=dT c4;clear c4;by_cases c5:0≤aX
    ·rw [if_pos c5] at H;have c5b0:=dT c5;clear c5;by_cases c6:aX < (aH.length:Int)
     ·rw [if_pos c6] at H;have c6b0:=dT c6;clear c6;obtain ⟨bA,A7,H⟩:=oA H;(try dsimp only at H);by_cases c8:aW.length < 5864062014805
      ·rw [if_pos c8] at H;have bC:=am c8;clear c8;obtain ⟨bD,bE⟩:∃ y_:List (List q0a),y_ = (aW++[bA]):=⟨_,rfl⟩;rw [← bE] at H;(try rw [oG bD] at H)
       have bG:=am bE;clear bE;have H':=am H;clear H;have bH:0≤(aX:Int):=q0b X12;have bI:aX < (aH.length:Int):=q0b X12;obtain ⟨bJ,bK,bL,e546,bM,bN,bO,bP,bQ,bR⟩:=q4w aK.out aX bH bI;cases e546;replace bM:=cB HB bM;replace bN:=cB HB bN;replace bO:=cB HB bO;replace bP:=cB HB bP;have bT:=am bR;have bU:=am bQ;clear bR bQ;replace bH:=q0c bH;replace bI:=q0c bI;go_wp2_with (first|((with_reducible refine gd 5 ?_);refine be 5 #[iv 0,.string (⟨#[]⟩:q0a),iv 0,.slice none 0 0] 25 ?_;intro bV hg w9 hbox hb;replace aZ:=am (Kd.S_below (by (with_reducible repeat (first | apply Kd.S_alloc | apply Kd.S_drewN | apply Kd.S_drew));exact aZ.out) hb);have bW:=am (hbox);have GW547:=sG (w:=w) hg (X10 HB aT);have bX:=sG (w:=w) hg (X10 HB aT);replace HB:=bS (X10 HB aT) hb;have bY:=nLT hg aQ;have bZ:=nGT hg aQ;replace aQ:=kB aQ hb;clear hb hbox hg;have hnb10:=bZ.out;have hnc10:=bY.out;have Z11:=bc4 bW)|((with_reducible refine gc 55 ?_);refine gL (some 20) func55 #[.agg #[iv ((q0A aH aX).f0),.string ((q0A aH aX).f1),iv ((q0A aH aX).f2),sl bK ((q0A aH aX).f3) bL]] ?_;(with_reducible refine (ih k1 (by have:=aY.out;omega) ((q0A aH aX).f0) ((q0A aH aX).f1) ((q0A aH aX).f2) _ _ ((q0A aH aX).f3) bA _ ?side1 ?side2 A7.out).mono ?_);(case side1=>exact q0r bT.out (X13 HB aT bX));(case side2=>exact bU.out);rintro e w12 ⟨v549,rfl,cA,hb⟩;refine ⟨_,rfl,?_⟩;replace aZ:=am (Kd.S_elder' (by (with_reducible repeat (first | apply Kd.S_alloc | apply Kd.S_drewN | apply Kd.S_drew));exact (Kd.S_mono (fxS bV 3 (sl bK ((q0A aH aX).f3) bL) (fxS bV 2 (iv ((q0A aH aX).f2)) (fxS bV 1 (.string ((q0A aH aX).f1)) (fxS bV 0 (iv ((q0A aH aX).f0)) (Kd.S_types aZ.out bW.out (by decide)))))) (fun _ h_=>h_.1))) (q0x cA) hb);have cC:=am (q0H cA (q1c (X13 HB aT bX)));replace aQ:=kBg1 aQ bY hb;replace bW:=kBg0 bW hb;replace HB:=bS (X13 HB aT bX) hb;clear hb;(try clear cA);obtain ⟨cD,cE,cF⟩:=q0I cC.out;subst cF)|((with_reducible refine q1J (b:=.append) (xs:=#[.tmp 18,.tmp 21]) rfl ?_);at_builtin;refine Kd.S_append (Kd.slice 9 Kd.string) (w0:=w) w.heap.size rfl (.tmp 18) (.tmp 21) 42 39 (.slice none 0 0) 24 rfl underlying42 q9z rfl (by decide) (by omega) u3 aW bA [sl cD bA cE] (fun _=>True) (fun k_=>some k_ = (sl cD bA cE:Value).ownBlock) rfl rfl ?aP (fun k_ hk_=>((q0n (ok':=fun k_=>((fun _=>True)) k_∧nO k_ u3) (q1I (cC.out) (Kd.S_typed aZ.out) (by decide)) (fun k_ hk=>⟨trivial,hk.2⟩))).1 k_ hk_.symm) ?aF ?aO ?aB ?aS ?aL ?_;(case aP=>exact Kd.M_row (q0n (Kd.R_tight rfl (q0n (ok':=fun k_=>((fun _=>True)) k_∧nO k_ u3) (q1I (cC.out) (Kd.S_typed aZ.out) (by decide)) (fun k_ hk=>⟨trivial,hk.2⟩))) (fun _ h_=>h_)));(case aB=>exact (X13 HB aT bX));(case aF=>exact (fun _ _=>trivial));(case aO=>exact (by (with_reducible repeat (first | apply Kd.S_alloc | apply Kd.S_drewN | apply Kd.S_drew));exact Kd.S_mono aZ.out (fun k_ hk=>⟨trivial,fun e_=>hk.2 e_⟩)));(case aS=>exact (q1c (X13 HB aT bX)));(case aL=>have:=bC.out;omega);intro v552 w13 ho hb hg hat;rw [← bG.out] at ho;replace aQ:=kG aQ hg (Kd.S_ne aZ.out aQ.out (by decide));replace bW:=kG bW hg (Kd.S_ne aZ.out bW.out (by decide));replace HB:=am (hb);have cG:=am (ho);clear aZ cC;clear ho hb hg hat))
       go_roundg k1
       case measure=>have:=aY.out;omega
       case rel=>exact ⟨(bD),(wrap64 (aX + 1)),X7,H',⟨by have:=aY.out;omega⟩,⟨by (with_reducible repeat (first | apply Kd.S_alloc | apply Kd.S_drewN | apply Kd.S_drew));exact cG.out⟩,⟨(X9 aQ)⟩,⟨(X13 HB aT bX)⟩⟩
      ·exact iN c8 H
     ·exact iN c6 H
    ·exact iN c5 H
   ·rw [if_neg c4] at H;have c4b0:=dF c4;clear c4;by_cases cH:aA = 1
    ·exact iP cH H
    ·rw [if_neg cH] at H;have c15b0:=nF cH;have c15b1:=nT cH;by_cases cI:aA = 2
     ·exact iP cI H
     ·rw [if_neg cI] at H;have c16b0:=nF cI;have c16b1:=nT cI;by_cases cJ:aA = 3
      ·exact iP cJ H
      ·rw [if_neg cJ] at H;have c17b0:=nF cJ;have c17b1:=nT cJ;by_cases cK:aA = 4
       ·exact iP cK H
       ·rw [if_neg cK] at H;have c18b0:=nF cK;have c18b1:=nT cK;by_cases cL:aA = 9
        ·exact iP cL H
        ·rw [if_neg cL] at H;have c19b0:=nF cL;have c19b1:=nT cL;by_cases cM:aA = 10
         ·exact iP cM H
         ·rw [if_neg cM] at H;have c20b0:=nF cM;have c20b1:=nT cM;by_cases cN:aA = 11
          ·exact iP cN H
          ·rw [if_neg cN] at H;have c21b0:=nF cN;have c21b1:=nT cN;by_cases cO:aA = 8
           ·exact iP cO H
           ·rw [if_neg cO] at H;have c22b0:=nF cO;have c22b1:=nT cO;by_cases cP:aA = 12
            ·rw [if_pos cP] at H;have c23b0:=eT cP;have c23b1:=eF cP;clear cP;exact absurd H (by simp)
            ·rw [if_neg cP] at H;have c23b0:=nF cP;have c23b1:=nT cP;by_cases cQ:aA = 7
             ·rw [if_pos cQ] at H;have c24b0:=eT cQ;have c24b1:=eF cQ;clear cQ;by_cases cR:0 < (aW.length:Int)
              ·rw [if_pos cR] at H;have c25b0:=dT cR;have c25b1:decide (0 < aW.length) = true:=q0w (by omega);clear cR;obtain ⟨cS,cT⟩:∃ y_:List q0a,y_ = (q2M aW 0):=⟨_,rfl⟩;rw [← cT] at H;(try rw [oG cS] at H)
               have cX:=am cT;clear cT;by_cases cY:0 < (aH.length:Int)
               ·rw [if_pos cY] at H;have c26b0:=dT cY;have c26b1:decide (0 < aH.length) = true:=q0w (by omega);clear cY;by_cases cZ:((q0A aH 0).f0) = 5
                ·exact iP cZ H
                ·rw [if_neg cZ] at H;have c27b0:=nF cZ;have c27b1:=nT cZ;by_cases dA:((q0A aH 0).f0) = 7
                 ·exact iP dA H
                 ·rw [if_neg dA] at H;have c28b0:=nF dA;have c28b1:=nT dA;obtain ⟨cU,dC,H⟩:=oA H;(try dsimp only at H);obtain ⟨cV,dD,H⟩:=oE H;(try dsimp only at H)
                  have dE:=am dD;clear dD;by_cases dG:cS.length + cV.length < 8796093022208
                  ·rw [if_pos dG] at H;have dH:=am dG;clear dG;obtain ⟨dI,dJ⟩:∃ y_:List q0a,y_ = (cS++cV):=⟨_,rfl⟩;rw [← dJ] at H;(try rw [oG dI] at H)
                   have dK:=am dJ;clear dJ;obtain rfl:=q0d H;have Z31:=bc4 aQ;obtain ⟨Ao32,co32,dL⟩:=Kd.S_slice aZ.out;subst dL;have dM:0≤(0:Int):=(by omega);have dN:0 < (aW.length:Int):=q0b X12;obtain ⟨ad554,dO,dP,e554,dQ,dR,dS⟩:=q5Y (Kd.S_reads' aZ.out).2.2 0 dM dN;cases e554;obtain ⟨ce554,dU,dV,dW⟩:=Kd.S_get aZ.out [] 0 dM (by first | exact dN | exact q0b X12|(have e_:=(Kd.S_reads' aZ.out).1;omega));obtain ⟨ve554_0,rfl,dX⟩:=dV;have dY:=dW 0 _ rfl;rw [Nat.add_zero,show ((Kd.slice 9 Kd.string)).sz = 1 from rfl,Nat.mul_one] at dY;replace dY:=q0d (dY.symm.trans dQ);rw [dY] at dX;have dZ:=am (show Kd.R Kd.string 9 _ _ _ _ (q2M aW 0) from dX);clear dY dX;clear dW dU;have qi554:(0 < aW.length) = True:=q0c (by omega);(try rw [show ((0:Int)).toNat = 0 from rfl] at dQ);(try rw [Addr.add_zero'] at dQ);have eA:=am dS;have HC554_0:=am dR;clear dS dR;replace dM:=q0c dM;replace dN:=q0c dN;have eB:=Kd.S_taken aZ.out 0 (of_eq_true dM) (of_eq_true dN) (by first | rfl | assumption) dQ;have eC:q0j (Kd.R Kd.string 9 _ w.heap.size _ (sl dO (q2M aW 0) dP) cS):=am (show Kd.R _ _ _ _ _ _ cS from (by rw [cX.out];exact eB));clear eB;have eD:=eC;clear eC aZ;clear dZ;have eE:0≤(0:Int):=(by omega);have eG:0 < (aH.length:Int):=q0b X12;obtain ⟨eH,A558_3,c558_3,e558,eI,eJ,eK,eL,eM,eN⟩:=q4w aK.out 0 eE eG;cases e558;have qi558:(0 < aH.length) = True:=q0c (by omega);(try simp only [tz0,tz1,tz2] at eI);(try simp only [tz0,tz1,tz2] at eJ);(try simp only [tz0,tz1,tz2] at eK);(try simp only [tz0,tz1,tz2] at eL);replace eI:=cB HB eI;replace eJ:=cB HB eJ;replace eK:=cB HB eK;replace eL:=cB HB eL;have HR558_3:=am eN;have HC558_3:=am eM;clear eN eM;replace eE:=q0c eE;replace eG:=q0c eG;go_wp2_with (first|((with_reducible refine gc 56 ?_);refine gL (some 95) func56 #[iv aD] ?_;(with_reducible refine (q1U.calls k1 aD cU _ dC.out).mono ?_);rintro e w34 ⟨rfl,hb⟩;refine ⟨_,rfl,?_⟩;replace eD:=am (q2k (aR eD.out) hb);replace aQ:=kB aQ hb;replace eA:=am (q0r (X76 eA) hb);replace HB:=bS (X10 HB aT) hb;clear hb)|((with_reducible refine gd 96 ?_);refine q2j Kd.string _ 9 ?hg (N:=96) ?hd (xs:=([(⟨#[94]⟩:q0a),cU]:List q0a)) (inner:=[.string (⟨#[94]⟩:q0a),.string cU]) (ok:=fun _=>True) (okp:=fun _=>True) ?hr ?hp (fun _ hk=>hk) trivial (q0i _ _) (q0f _) (by simp) ?_;(case hd=>rfl);(case hg=>rfl);(case hr=>exact X35);(case hp=>exact rp);intro v561 w35 eO hb hg_ hnew_;clear hg_ hnew_;(first | rw [← dE.out] at eO|(simp only [Int.reduceToNat] at eO;rw [← dE.out] at eO));have eP:=am (q0H (q2A eO (q1F (aR eD.out))) (q1c (X10 HB aT)));replace eD:=am (q2m (aR eD.out) (q0x eO) hb);replace aQ:=kB aQ hb;replace eA:=am (q0r (X76 eA) hb);replace HB:=bS (X10 HB aT) hb;clear hb eO;obtain ⟨eQ,eR,eS⟩:=q0I eP.out;subst eS)|((with_reducible refine q1J (b:=.append) (xs:=#[.tmp 92,.tmp 96]) rfl ?_);at_builtin;refine q3e Kd.string (w0:=w) w.heap.size rfl (.tmp 92) (.tmp 96) 39 9 (.string ⟨#[]⟩) 16 rfl underlying39 q4K rfl (by decide) (by omega) (sl dO (q2M aW 0) dP) cS cV _ _ _ (fun k_=>nO k_ (sl eQ cV eR)) (fun _=>False) rfl rfl ?aO ?aR (fun _ _ h=>h) (fun _ h=>h.elim) ?aF ?aB ?aS ?aL ?_;(case aR=>exact cW ((q0Y eP.out).2.2));(case aB=>exact (X10 HB aT));(case aF=>exact (fun k_ hk=>q1y (q1F (aR eP.out)) k_ hk));(case aO=>exact (aR (q0n eD.out (fun _ hk=>hk.2))));(case aS=>exact (q1c (X10 HB aT)));(case aL=>have:=dH.out;omega);intro v564 w37 ho hb hg hat;rw [← dK.out] at ho;replace aQ:=kG aQ hg (q2Z eD.out aQ.out (by decide));replace eP:=am (q3m (ok:=(fun _=>True)) (aR eP.out) hg hat);replace HB:=am (hb);have eU:=am (ho);clear eD;clear ho hb hg hat))
                   go_ret
                   exact ⟨_,X11,aR (q0n eU.out (fun _ hk=>trivial)),(X10 HB aT)⟩
                  ·exact iN dG H
               ·exact iN cY H
              ·exact iN cR H
             ·rw [if_neg cQ] at H;have c24b0:=nF cQ;have c24b1:=nT cQ;by_cases eV:aA = 6
              ·exact iP eV H
              ·exact iN eV H
end Go.Proofs.YtmffocankommaaaDoor.J
