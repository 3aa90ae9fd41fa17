/- Printed walks: what each function of the program computes. Condition: the Lean function gives a value. -/
import Derived.Test.YtmffocankommaaaGreatDoorDYZed
import Derived.Test.YtmffocankommaaaGreatDoorDx5
import Derived.Test.YtmffocankommaaaGreatDoorDx7
import Derived.Test.YtmffocankommaaaGreatDoorDx13
import Derived.Test.YtmffocankommaaaGreatDoorDx15
namespace Go.Proofs.YtmffocankommaaaGreatDoor.P
open Go.RowKit Go.Proofs.YtmffocankommaaaGreatDoorW.PrintWords Go.Proofs.YtmffocankommaaaGreatDoorW.PrintLast Go.Proofs.YtmffocankommaaaGreatDoorW.PrintMore Go.Proofs.YtmffocankommaaaGreatDoorY Go.Proofs.YtmffocankommaaaGreatDoorS Go.Proofs.YtmffocankommaaaGreatDoorS _root_.Go.Proofs.Tryz
attribute [local go_sem] q2U q3x q3u q3V q3S q3i q3f q3v q3w
set_option linter.unusedVariables false
set_option maxHeartbeats 8000000
set_option maxRecDepth 100000
set_option linter.unusedSimpArgs false
theorem q2C.calls (k:Nat):q2C.Stmt k:=by
 induction k using Nat.strongRecOn with
 | _ k ih=>
 cases k with
 | zero=>
  intro aA aC aD aE aG aH r w aI aJ h;exact absurd h (by simp [q2C.f])
 | succ k=>
  intro aA aC aD aE aG aH r w aI aJ h;have h':(if aA=7∧(q1o aH 0).f0≠5∧(q1o aH 0).f0≠7 then q2F.f k aA aC aD aH else q1k.f k aA aC aD aH)=some r:=h;split at h'
  ·exact q2F.step k (fun m_ h_=>ih m_ (by omega)) aA aC aD aE aG aH r w aI aJ h'
  ·exact q1k.step k (fun m_ h_=>ih m_ (by omega)) aA aC aD aE aG aH r w aI aJ h'

def q4u.f (k:Nat) (aA:Int) (aC:q0b) (aD:Int) (aE:List (S28)):Option (q0b × Int):=(q3p.f k aA aC aD aE).bind fun aG=>(if aG=0 then ((q2C.f k aA aC aD aE).bind fun aH=>((q4o.f aH (⟨#[32]⟩:q0b)).bind fun aI=>(some (aI,0)))) else (some ((⟨#[]⟩:q0b),aG)))
theorem q4u.mono:∀ a0 a1 a2 a3 k,LeO (q4u.f k a0 a1 a2 a3) (q4u.f (k+1) a0 a1 a2 a3):=by
 intro a0 a1 a2 a3 k;unfold q4u.f;exact(by repeat' (with_reducible first|apply q3p.mono|apply q2C.mono|exact LeO.refl _|exact LeO.none _|refine LeO.ite ?_ ?_|refine LeO.bind ?_ (fun _=>?_)))
theorem q4u.calls (k:Nat) (aA:Int) (aC:q0b) (aD:Int) (aE:Option Addr) (aG:Nat) (aH:List (S28)) (r1:q0b) (r2:Int) (w:World) (aI:Kd.C k28 w aE aH.length aH) (aJ:aH.length≤aG) (h:q4u.f k aA aC aD aH=some (r1,r2)) :
  Calls prog 11 #[.agg #[iv aA,.string aC,iv aD,sl aE aH aG]] w fun e w'=>e=.returned (.tuple #[.string r1,iv r2])∧Below w.heap.size w w':=by
 have hu28:=underlying28;have aK:=am aI;have aM:=am aJ;clear aI aJ;have HB:=am (q0r w.heap.size w);have H:=h;clear h;unfold q4u.f at H;obtain⟨aQ,A2,H⟩:=oA H;(try dsimp only at H);by_cases c3:aQ=0
 ·rw[if_pos c3]at H;have AA:=eT c3;have AB:=eF c3;clear c3;obtain⟨aU,A4,H⟩:=oA H;(try dsimp only at H);obtain⟨aX,A5,H⟩:=oA H;(try dsimp only at H);replace H:=iJ2 H;obtain⟨rfl,rfl⟩:=H;go_enter func11,ntmps11;go_wp2_with (first|((with_reducible refine gd 1 ?_);refine be 1 #[iv aA,.string aC,iv aD,sl aE aH aG] 28 ?_;intro aZ hg w6 hbox hb;have bA:=am (hbox);have bB:=sG (w:=w) hg X6;have bC:=sG (w:=w) hg X6;replace HB:=bS X6 hb;clear hb hbox hg;have Z7:=bc4 bA)|((with_reducible refine gc 38 ?_);refine gCc (some 6) func38 (q3p.calls k aA aC aD _ _ aH aQ _ (X12 aK HB) aM.out A2.out) ?_;rintro w8 hb;replace bA:=kB bA hb;replace HB:=bS (X10 HB bC) hb;clear hb;have Z9:=bc4 bA)|((with_reducible refine gc 34 ?_);refine gC1 (some 11) func34 (q2C.calls k aA aC aD _ _ aH aU _ (X12 aK HB) aM.out A4.out) ?_;rintro v688 w10 ⟨bD,hb⟩;have bE:=am (q1p bD (q1H (X10 HB bC)));replace bA:=kB bA hb;replace HB:=bS (X10 HB bC) hb;clear hb;(try clear bD);obtain⟨bF,bG,bH⟩:=q1I bE.out;subst bH)|((with_reducible refine gc 33 ?_);refine gCc (some 12) func33 (q4o.calls _ _ aU (⟨#[32]⟩:q0b) aX _ (cW ((q0R bE.out).2.2)) ((q0R bE.out).2.1) A5.out) ?_;rintro w12 hb;replace bE:=am (q1t (aR bE.out) hb);replace bA:=kB bA hb;replace HB:=bS (X10 HB bC) hb;clear hb))
  go_ret2
  exact⟨X11,(X10 HB bC)⟩
 ·rw[if_neg c3]at H;have AA:=nF c3;have AB:=nT c3;replace H:=iJ2 H;obtain⟨rfl,rfl⟩:=H;go_enter func11,ntmps11;go_wp2_with (first|((with_reducible refine gd 1 ?_);refine be 1 #[iv aA,.string aC,iv aD,sl aE aH aG] 28 ?_;intro aZ hg w13 hbox hb;have bA:=am (hbox);have bB:=sG (w:=w) hg X6;have bC:=sG (w:=w) hg X6;replace HB:=bS X6 hb;clear hb hbox hg;have Z14:=bc4 bA)|((with_reducible refine gc 38 ?_);refine gCc (some 6) func38 (q3p.calls k aA aC aD _ _ aH aQ _ (X12 aK HB) aM.out A2.out) ?_;rintro w15 hb;replace bA:=kB bA hb;replace HB:=bS (X10 HB bC) hb;clear hb))
  go_ret2
  exact⟨X11,(X10 HB bC)⟩

def q3J.f (k:Nat) (a0:q0b):Option (Int × q0b × Int × (List S28) × Int):=(q0V.f k a0).bind fun t=>if t.2.2=0 then (q0g.f k t.1 0 false).bind fun s=>if s.2.2.2.2.2=true then none else if s.2.2.2.2.1<(t.1.length:Int) then none else (q3p.f k s.1 s.2.1 s.2.2.1 s.2.2.2.1).bind fun b=>if b=0 then some (s.1,s.2.1,s.2.2.1,s.2.2.2.1,0) else none
 else none
theorem q3J.mono:∀ a0 k,LeO (q3J.f k a0) (q3J.f (k+1) a0):=by
 intro a0 k;unfold q3J.f;exact(by repeat' (with_reducible first|exact q0V.mono _ _|apply q0g.mono|apply q3p.mono|exact LeO.refl _|refine LeO.ite ?_ ?_|refine LeO.bind ?_ (fun _=>?_)))
theorem q3J.calls (k:Nat) (a0:q0b) (r1:Int) (r2:q0b) (r3:Int) (r4:List S28) (r5:Int) (w:World) (h:q3J.f k a0=some (r1,r2,r3,r4,r5)) :
  Calls prog 19 #[.string a0] w fun e w'=>∃ aA:Value,e=.returned (.tuple #[.agg #[iv r1,.string r2,iv r3,aA],iv r5])∧Kd.V k28 28 w' w.heap.size (fun k_=>w.heap.size≤k_) aA r4∧Below w.heap.size w w':=by
 have hu25:=underlying28;have hu70:=underlying54;have HB:=am (q0r w.heap.size w);unfold q3J.f at h;obtain⟨⟨l,ln,er⟩,aC,h⟩:=Option.bind_eq_some_iff.mp h;have A2:=am aC;clear aC;simp only at h
 by_cases c1:er=0
 ·subst c1;rw[if_pos rfl]at h;obtain⟨⟨s1,s2,s3,s4,s5,s6⟩,aD,h⟩:=Option.bind_eq_some_iff.mp h;have A3:=am aD;clear aD;(try simp only at h);cases s6 with
  | true=>
   rw[if_pos rfl]at h;cases h
  | false=>
   rw[if_neg (by decide)]at h;by_cases c2:s5<(l.length:Int)
   ·rw[if_pos c2]at h;have c2b:=q0p c2;cases h
   ·rw[if_neg c2]at h;have c2b:=q0z c2;obtain⟨b,aE,h⟩:=Option.bind_eq_some_iff.mp h;have A4:=am aE;clear aE;(try simp only at h);by_cases c3:b=0
    ·subst c3;rw[if_pos rfl]at h;simp only[Option.some.injEq,Prod.mk.injEq]at h;obtain⟨rfl,rfl,rfl,rfl,rfl⟩:=h;go_enter func19,ntmps19;go_wp2_with (first|((with_reducible refine gd 2 ?_);(try (refine q2p (by rfl) ?_;dsimp only));refine be 2 zNn 28 ?_;intro aG hg w1 hbox hb;have aH:=am (hbox);have aI:=am ((X29:w.heap.size≤aG));replace HB:=bS X6 hb;clear hb hbox hg)|((with_reducible refine gc 21 ?_);refine gC1 (some 12) func21 (q0V.calls k a0 l ln _ _ A2.out) ?_;rintro vt w2 ⟨ho_,hb⟩;replace HB:=bS (X10 HB aI) hb;replace aH:=kBg0 aH hb;clear hb;obtain⟨At,ct,et⟩:=q1I ho_;subst et;have HT:=am (q0R ho_).2.2;clear ho_)|((with_reducible refine gd 22 ?_);(try (refine q2p (by rfl) ?_;dsimp only));refine be 22 #[sl At l ct,iv 0,.bool false] 54 ?_;intro gp hg w3 hbox hb;have hst_:∃ aJ:World,q1f aJ w3 gp l 0 false∧Below aJ.heap.size aJ w3:=⟨_,⟨_,_,hbox,q0w hg.symm,X33⟩,hb⟩;obtain⟨w0,hi_,hs_⟩:=hst_;have HI:=am (hi_);have HS:=am (hs_);have GWp:=am ((by rw[hg];exact((X10 HB aI):Below w.heap.size w _).size:w.heap.size≤gp));replace HB:=bS (X10 HB aI) hb;have NB2_p:=am ((by rw[hg];exact q0S (q4N (show(_:World).heap[aG]?=some (.cells zNn 28 (0,0)) from by exact(X9 aH))):aG≠gp));have aK:=am ((by rw[hg];exact q1r (q4N (show(_:World).heap[aG]?=some (.cells zNn 28 (0,0)) from by exact(X9 aH))):gp≠aG));replace aH:=kBg0 aH hb;clear hb hbox hg hi_ hs_)|((with_reducible refine gc 46 ?_);refine gC1 (some 24) func46 (q0g.calls k gp l 0 false s1 s2 s3 s4 s5 _ w0 _ (X42 HI aK) X44 A3.out) ?_;rintro vs w4 ⟨ho_,hi_,hs_,hk_⟩;have HVs:=am (q0n ho_ (ok':=fun k_=>w.heap.size≤k_∧k_≠aG∧k_≠gp) (fun k_ h_=>⟨q0m ((X17 HB aI GWp):Below w.heap.size w _).size h_,q1r (q0L (q4N (show(_:World).heap[aG]?=some (.cells zNn 28 (0,0)) from by exact X81)) h_),q1r (q0L (q1f.lt (X42 HI aK)) h_)⟩));replace HB:=am (q4Y (X17 HB aI GWp) X44 hs_ hk_ GWp.out);replace HI:=am (hi_);replace HS:=am (hs_);replace aH:=kKg1 aH NB2_p hk_ NB2_p;clear hi_ hs_ hk_ ho_;obtain⟨Avs,cvs,evs⟩:=q1R HVs.out;subst evs)|((with_reducible refine gd 8 ?_);(try (refine q2p (by rfl) ?_;dsimp only));refine be 8 zNn 28 ?_;intro aM hg w5 hbox hb;have aQ:=am (hbox);have aT:=am ((by rw[hg];exact((X17 HB aI GWp):Below w.heap.size w _).size:w.heap.size≤aM));replace HB:=bS (X17 HB aI GWp) hb;have aU:=am ((by rw[hg];exact q0S (q4N (show(_:World).heap[aG]?=some (.cells zNn 28 (0,0)) from by exact X81)):aG≠aM));have aW:=am ((by rw[hg];exact q1r (q4N (show(_:World).heap[aG]?=some (.cells zNn 28 (0,0)) from by exact X81)):aM≠aG));replace aH:=kBg1 aH NB2_p hb;have aX:=am ((by rw[hg];exact q0S (q1f.lt (X42 HI aK)):gp≠aM));have NB8_p:=am ((by rw[hg];exact q1r (q1f.lt (X42 HI aK)):aM≠gp));have aY:=am ((X43:w0.heap.size≤aM));replace HS:=bS X44 hb;replace HI:=am (q1f.below (X42 HI aK) hb);replace HVs:=am (q0n (q0P (Kd.V_bound (show Kd.V k28 28 _ w.heap.size (fun k_=>w.heap.size≤k_∧k_≠aG∧k_≠gp) (.slice Avs _ cvs) s4 from by repeat (first|(with_reducible first|exact HVs.out|apply Kd.V_alloc|apply Kd.V_drewN|apply q3G|refine q1K (p:=⟨aG,_,none⟩) ?_ (fun k_ hk_=>hk_.2.1) _|refine q1K (p:=⟨gbp,_,none⟩) ?_ (fun k_ hk_=>hk_.2.2) _)|exact HVs.out))) hb) (ok':=fun k_=>w.heap.size≤k_∧k_≠aG∧k_≠gp∧k_≠aM) (fun k_ hk_=>⟨hk_.1.1,hk_.1.2.1,hk_.1.2.2,(by rw[hg];exact q0S hk_.2)⟩));clear hb hbox hg;obtain⟨Z6_2_0,Y6_2_0⟩:=b4_0 aH;obtain⟨Z6_2_1,Y6_2_1⟩:=b4_1 aH;obtain⟨Z6_2_2,Y6_2_2⟩:=b4_2 aH;obtain⟨Z6_2_3,Y6_2_3⟩:=b4_3 aH;obtain⟨Z6_8_0,Y6_8_0⟩:=b4_0 aQ;obtain⟨Z6_8_1,Y6_8_1⟩:=b4_1 aQ;obtain⟨Z6_8_2,Y6_8_2⟩:=b4_2 aQ;obtain⟨Z6_8_3,Y6_8_3⟩:=b4_3 aQ;obtain⟨_,_,_,_,_,_,_,-⟩:=tS54 HI;have hne6_2:=aK.out;have hnf6_2:=NB2_p.out;have hne6_8:=aX.out;have hnf6_8:=NB8_p.out;have hnn6_2_8:=aU.out;have hnn6_8_2:=aW.out)|((with_reducible refine gc 38 ?_);refine gCc (some 40) func38 (q3p.calls k s1 s2 s3 _ _ s4 _ _ ((q1a (show Kd.V k28 28 _ w.heap.size (fun k_=>w.heap.size≤k_∧k_≠aG∧k_≠gp∧k_≠aM) (.slice Avs _ cvs) s4 from by exact X82)).2.2) ((Kd.V_at HVs.out).2.1) A4.out) ?_;rintro w7 hb;replace HB:=bS (X49 HB aI aT GWp) hb;replace HS:=bS (by repeat (first|(with_reducible first|exact HS.out|apply q2j|apply q2c|apply q1U|refine q2l ?_ (q1f.ge HI.out)|refine q2l ?_ aY.out)|exact HS.out)) hb;replace HI:=am (q1f.below (by repeat (first|(with_reducible first|exact HI.out|apply q1f.alloc|apply q1f.drewN|apply q1f.drew|apply q1f.set_1|apply q1f.set_2|apply q1f.farB aK.out|apply q1f.farB aX.out)|exact HI.out)) hb);replace aH:=kBg2 aH aU NB2_p hb;replace aQ:=kBg2 aQ aW NB8_p hb;replace HVs:=am (q0P (show Kd.V k28 28 _ w.heap.size (fun k_=>w.heap.size≤k_∧k_≠aG∧k_≠gp∧k_≠aM) (.slice Avs _ cvs) s4 from by exact X82) hb);clear hb;obtain⟨Z8_2_0,Y8_2_0⟩:=b4_0 aH;obtain⟨Z8_2_1,Y8_2_1⟩:=b4_1 aH;obtain⟨Z8_2_2,Y8_2_2⟩:=b4_2 aH;obtain⟨Z8_2_3,Y8_2_3⟩:=b4_3 aH;obtain⟨Z8_8_0,Y8_8_0⟩:=b4_0 aQ;obtain⟨Z8_8_1,Y8_8_1⟩:=b4_1 aQ;obtain⟨Z8_8_2,Y8_8_2⟩:=b4_2 aQ;obtain⟨Z8_8_3,Y8_8_3⟩:=b4_3 aQ;obtain⟨_,_,_,_,_,_,_,-⟩:=tS54 HI;have hne8_2:=aK.out;have hnf8_2:=NB2_p.out;have hne8_8:=aX.out;have hnf8_8:=NB8_p.out;have hnn8_2_8:=aU.out;have hnn8_8_2:=aW.out))
     refine bodyPost_ret (q3o rfl _ _ aG 28 #[iv s1,.string s2,iv s3,sl Avs s4 cvs] (0,0) _ rfl (show(_:World).heap[aG]?=some (.cells #[iv s1,.string s2,iv s3,sl Avs s4 cvs] 28 (0,0)) from by (with_reducible repeat (first|refine q0A ?_ _|refine q0B ?_|refine q0v ?_ _|refine q1M ?_ aU.out _|refine q1M ?_ NB2_p.out _));refine q1T (cs:=#[iv s1,.string s2,iv s3,.slice none 0 0]) ?_ 3 _ rfl;(with_reducible repeat (first|refine q0A ?_ _|refine q0B ?_|refine q0v ?_ _|refine q1M ?_ aU.out _|refine q1M ?_ NB2_p.out _));refine q1T (cs:=#[iv s1,.string s2,iv 0,.slice none 0 0]) ?_ 2 _ rfl;(with_reducible repeat (first|refine q0A ?_ _|refine q0B ?_|refine q0v ?_ _|refine q1M ?_ aU.out _|refine q1M ?_ NB2_p.out _));refine q1T (cs:=#[iv s1,.string eBb,iv 0,.slice none 0 0]) ?_ 1 _ rfl;(with_reducible repeat (first|refine q0A ?_ _|refine q0B ?_|refine q0v ?_ _|refine q1M ?_ aU.out _|refine q1M ?_ NB2_p.out _));refine q1T (cs:=zNn) ?_ 0 _ rfl;(with_reducible repeat (first|refine q0A ?_ _|refine q0B ?_|refine q0v ?_ _|refine q1M ?_ aU.out _|refine q1M ?_ NB2_p.out _));exact aH.out) underlying28 rfl X4) rfl ?_;exact⟨_,rfl,q0n (show Kd.V k28 28 _ w.heap.size (fun k_=>w.heap.size≤k_∧k_≠aG∧k_≠gp∧k_≠aM) (.slice Avs _ cvs) s4 from by exact X82) (fun _ h_=>h_.1),(X49 HB aI aT GWp)⟩
    ·rw[if_neg c3]at h;have c3b:(b != 0)=true:=bne_iff_ne.mpr c3;cases h
 ·rw[if_neg c1]at h;have c1b:(er != 0)=true:=bne_iff_ne.mpr c1;cases h


def q3d.f (k:Nat)  : Option (Bool):=(q1Y.f k (⟨#[109,101,116,114,101,32,104,32,123,32,102,111,111,116,32,100,32,61,32,45,32,117,32,117,59,32,108,105,110,101,32,61,32,40,100,32,47,32,45,32,45,41,94,50,32,58,32,45,32,120,59,32,115,111,109,101,32,109,59,32,125]⟩:q0b)).bind fun aA=>(if aA.2.2.2.2.2.2.2.2.2=0 then (if aA.2.2.2.2.2.2.2.2.1=0 then (if (aA.2.1.length:Int)=1 then (if aA.2.2.2.2.1=5 then (if (aA.2.2.2.2.2.2.2.1.length:Int)=4 then (if 0<(aA.2.2.2.2.2.2.2.1.length:Int) then (if ((q1o aA.2.2.2.2.2.2.2.1 0).f0)=7 then (if ((q1o aA.2.2.2.2.2.2.2.1 0).f2)=2 then ((q4u.f k aA.2.2.2.2.1 aA.2.2.2.2.2.1 aA.2.2.2.2.2.2.1 aA.2.2.2.2.2.2.2.1).bind fun aC=>((q3J.f k (⟨#[40,117,32,117,41,32,45]⟩:q0b)).bind fun aD=>((q3J.f k (⟨#[117,94,50,94,51]⟩:q0b)).bind fun aE=>((q4u.f k aE.1 aE.2.1 aE.2.2.1 aE.2.2.2.1).bind fun aG=>(if aC.2=0 then (if aC.1.toList=([40,32,100,32,47,32,45,32,45,32,41,32,94,32,50,32,58,32,45,32,120]:List UInt8) then (if aD.2.2.2.2=0 then (if aD.1=5 then (if (aD.2.2.2.1.length:Int)=3 then (if aE.2.2.2.2=0 then (if aG.2=0 then (some (aG.1.toList == ([40,32,117,32,94,32,50,32,41,32,94,32,51]:List UInt8))) else (none)) else (none)) else (none)) else (none)) else (none)) else (none)) else (none)))))) else (none)) else (none)) else (none)) else (none)) else (none)) else (none)) else (none)) else (none))
theorem q3d.mono:∀ k,LeO (q3d.f k) (q3d.f (k+1)):=by
 intro  k;unfold q3d.f;exact(by repeat' (with_reducible first|apply q4u.mono|exact q1Y.mono _ _|exact q3J.mono _ _|exact LeO.refl _|exact LeO.none _|refine LeO.ite ?_ ?_|refine LeO.bind ?_ (fun _=>?_)))
theorem q3d.calls (k:Nat)  (r:Bool) (w:World) (h:q3d.f k  = some r) :
  Calls prog 5 #[] w fun e w'=>e=.returned (.bool r)∧Below w.heap.size w w':=by
 have hu30:=underlying30;have hu28:=underlying28;have HB:=am (q0r w.heap.size w);have H:=h;clear h;unfold q3d.f at H;obtain⟨⟨aA,aC,aD,aE,aG,aH,aI,aJ,aK,aM⟩,A1,H⟩:=oA H;(try dsimp only at H);by_cases c2:aM=0
 ·rw[if_pos c2]at H;have AW:=eT c2;have AX:=eF c2;clear c2;by_cases c3:aK=0
  ·rw[if_pos c3]at H;have AY:=eT c3;have AZ:=eF c3;clear c3;by_cases c4:(aC.length:Int)=1
   ·rw[if_pos c4]at H;have BA:=eT c4;have BB:=eF c4;clear c4;by_cases c5:aG=5
    ·rw[if_pos c5]at H;have BC:=eT c5;have BD:=eF c5;clear c5;by_cases c6:(aJ.length:Int)=4
     ·rw[if_pos c6]at H;have BE:=eT c6;have BG:=eF c6;clear c6;by_cases c7:0<(aJ.length:Int)
      ·rw[if_pos c7]at H;have BH:=dT c7;have BI:decide (0<aJ.length)=true:=q0p (by omega);clear c7;by_cases c8:((q1o aJ 0).f0)=7
       ·rw[if_pos c8]at H;have BK:=eT c8;have BL:=eF c8;clear c8;by_cases c9:((q1o aJ 0).f2)=2
        ·rw[if_pos c9]at H;have BN:=eT c9;have BO:=eF c9;clear c9;obtain⟨⟨aT,aU⟩,aQ,H⟩:=oA H;(try dsimp only at H);obtain⟨⟨aX,aY,aZ,bA,bB⟩,bD,H⟩:=oA H;(try dsimp only at H);obtain⟨⟨bE,bF,bG,bH,bI⟩,bK,H⟩:=oA H;(try dsimp only at H);obtain⟨⟨bL,bM⟩,bO,H⟩:=oA H;(try dsimp only at H);by_cases bP:aU=0
         ·rw[if_pos bP]at H;have AC:=eT bP;have AD:=eF bP;clear bP;by_cases bQ:aT.toList=([40,32,100,32,47,32,45,32,45,32,41,32,94,32,50,32,58,32,45,32,120]:List UInt8)
          ·rw[if_pos bQ]at H;have AE:=eT bQ;have AF:=eF bQ;clear bQ;by_cases bR:bB=0
           ·rw[if_pos bR]at H;have AG:=eT bR;have AH:=eF bR;clear bR;by_cases bT:aX=5
            ·rw[if_pos bT]at H;have AI:=eT bT;have AJ:=eF bT;clear bT;by_cases bU:(bA.length:Int)=3
             ·rw[if_pos bU]at H;have AK:=eT bU;have AL:=eF bU;clear bU;by_cases bV:bI=0
              ·rw[if_pos bV]at H;have AM:=eT bV;have AN:=eF bV;clear bV;by_cases bW:bM=0
               ·rw[if_pos bW]at H;have AO:=eT bW;have AP:=eF bW;clear bW;obtain rfl:=q0d H;go_enter func5,ntmps5;go_wp2_with (first|((with_reducible refine gc 6 ?_);refine gL (some 13) func6 #[.string (⟨#[109,101,116,114,101,32,104,32,123,32,102,111,111,116,32,100,32,61,32,45,32,117,32,117,59,32,108,105,110,101,32,61,32,40,100,32,47,32,45,32,45,41,94,50,32,58,32,45,32,120,59,32,115,111,109,101,32,109,59,32,125]⟩:q0b)] ?_;(with_reducible refine(q1Y.calls k (⟨#[109,101,116,114,101,32,104,32,123,32,102,111,111,116,32,100,32,61,32,45,32,117,32,117,59,32,108,105,110,101,32,61,32,40,100,32,47,32,45,32,45,41,94,50,32,58,32,45,32,120,59,32,115,111,109,101,32,109,59,32,125]⟩:q0b) aA aC aD aE aG aH aI aJ aK aM _ A1.out).mono ?_);rintro e w21 ⟨bX,bY,bZ,v705,rfl,cA,cC,cD,cE,hb⟩;refine⟨_,rfl,?_⟩;have cF:=am (q2s (q0o (ok':=fun k_=>nO k_ bY∧nO k_ bZ) cA oKk) (q1H X6));have cG:=am (q1p (q0j (ok':=fun k_=>True) cC (fun _ hk_=>trivial)) (q1H X6));have cH:=am (q2s (q0o (ok':=fun k_=>nO k_ bX∧nO k_ bY) cD oKk) (q1H X6));have cI:=am (q2o (q0n (ok':=fun k_=>nO k_ bX∧nO k_ bY∧nO k_ bZ) cE oKk) (q1H X6));replace HB:=bS X6 hb;clear hb;(try clear cA);(try clear cC);(try clear cD);(try clear cE))|((with_reducible refine gd 1 ?_);(try (refine q2p (by rfl) ?_;dsimp only));refine be 1 zMm 30 ?_;intro cJ hg cK hbox hb;replace cF:=am (q0F (q1N (aN cF.out) cJ (q0w hg.symm)) hb);replace cG:=am (q1t (aR cG.out) hb);replace cH:=am (q0F (q1N (aN cH.out) cJ (q0w hg.symm)) hb);replace cI:=am (q0P (q1Z (aV cI.out) cJ (q0w hg.symm)) hb);have cL:=am (hbox);have GW709:=sG (w:=w) hg X6;have cM:=sG (w:=w) hg X6;replace HB:=bS X6 hb;clear hb hbox hg;have Z23:=bc8 cL;obtain⟨cN,cO,cP⟩:=q1h cF.out;subst cP;obtain⟨cQ,cR,cS⟩:=q1I cG.out;subst cS;obtain⟨cT,cU,cV⟩:=q1h cH.out;subst cV;obtain⟨cX,cY,cZ⟩:=q1R cI.out;subst cZ)|((with_reducible refine q6N (t:=30) (p:=1) rfl ?_);refine q6h (t:=30) (p:=1) (v:=?vo_w28) (w1:=((((((((cK.setCell ⟨cJ,0,none⟩ (.string aA)).setCell ⟨cJ,1,none⟩ (sl cN aC cO)).setCell ⟨cJ,2,none⟩ (sl cQ aD cR)).setCell ⟨cJ,3,none⟩ (sl cT aE cU)).setCell ⟨cJ,4,none⟩ (iv aG)).setCell ⟨cJ,5,none⟩ (.string aH)).setCell ⟨cJ,6,none⟩ (iv aI)).setCell ⟨cJ,7,none⟩ (sl cX aJ cY))) ?hg ?ho ?hn ?hr ?_;(case ho=>rfl);(case hg=>rfl);(case hn=>rfl);(case hr=>exact X70);intro dA hw;replace cF:q0i (Kd.N k68 68 dA w.heap.size (fun k_=>nO k_ (sl cQ aD cR)∧nO k_ (sl cT aE cU)∧k_≠cJ) (sl cN aC cO) aC):=⟨(by rw[hw];exact(aN (q0o (f8N cJ (sl cX aJ cY) (iv aI) (.string aH) (iv aG) (sl cT aE cU) (sl cQ aD cR) (sl cN aC cO) (.string aA) cF.out oKk) oKk)))⟩;replace cG:q0i (Kd.R k70 70 dA w.heap.size (fun _=>True) (sl cQ aD cR) aD):=⟨(by rw[hw];exact(aR (q0j (f8R cJ (sl cX aJ cY) (iv aI) (.string aH) (iv aG) (sl cT aE cU) (sl cQ aD cR) (sl cN aC cO) (.string aA) (q0E cG.out cL.out (by decide)) oKk) (fun _ hk=>trivial))))⟩;replace cH:q0i (Kd.N (Kd.slice 9 Kd.string) 43 dA w.heap.size (fun k_=>nO k_ (sl cN aC cO)∧nO k_ (sl cQ aD cR)∧k_≠cJ) (sl cT aE cU) aE):=⟨(by rw[hw];exact(aN (q0o (f8N cJ (sl cX aJ cY) (iv aI) (.string aH) (iv aG) (sl cT aE cU) (sl cQ aD cR) (sl cN aC cO) (.string aA) cH.out oKk) oKk)))⟩;replace cI:q0i (Kd.V k28 28 dA w.heap.size (fun k_=>nO k_ (sl cN aC cO)∧nO k_ (sl cQ aD cR)∧nO k_ (sl cT aE cU)∧k_≠cJ) (sl cX aJ cY) aJ):=⟨(by rw[hw];exact(aV (q0n (f8V cJ (sl cX aJ cY) (iv aI) (.string aH) (iv aG) (sl cT aE cU) (sl cQ aD cR) (sl cN aC cO) (.string aA) cI.out oKk) oKk)))⟩;replace cL:q0i (dA.heap[cJ]?=some (.cells #[.string aA,sl cN aC cO,sl cQ aD cR,sl cT aE cU,iv aG,.string aH,iv aI,sl cX aJ cY] 30 (0,0))):=⟨(by rw[hw];exact(bq0 cL))⟩;replace HB:q0i (Below w.heap.size w dA):=⟨(by rw[hw];exact(X10 HB cM))⟩;clear hw;have Z29:=bc8 cL;have dB:0≤(0:Int):=(by omega);have dC:0<(aJ.length:Int):=q0a X16;obtain⟨dD,A710_3,c710_3,AA,dE,dG,dH,dI,dJ,dK⟩:=q4K (q1a cI.out).2.2 0 dB dC;cases AA;obtain⟨ce710,dL,dM,dN⟩:=Kd.V_get cI.out z28 0 dB (by first|exact dC|exact q0a X16|(have e_:=(q1a cI.out).1;omega));obtain⟨ua710_3,uc710_3,rfl,dO,dP⟩:=q5J dM;have dQ:=dN 3 _ rfl;rw[q4R _ _ 3 (by omega)]at dQ;replace dQ:=q0d (dQ.symm.trans dI);injection dQ with hva_ hvn_ hvc_;rw[hva_]at dP;rw[hvc_]at dO;have dR:=am (show Kd.V k28 28 _ w.heap.size _ _ ((q1o aJ 0).f3) from Kd.V_mk dO dP);clear hva_ hvn_ hvc_ dP dO;clear dN dL;have qi710:(0<aJ.length)=True:=q0c (by omega);(try simp only[tz0,tz1,tz2]at dE);(try simp only[tz0,tz1,tz2]at dG);(try simp only[tz0,tz1,tz2]at dH);(try simp only[tz0,tz1,tz2]at dI);have dS:=am dK;have HC710_3:=am dJ;clear dK dJ;replace dB:=q0c dB;replace dC:=q0c dC;have dU:0≤(0:Int):=(by omega);have dV:0<(aJ.length:Int):=q0a X16;obtain⟨dW,A711_3,c711_3,AB,dX,dY,dZ,eA,eB,eC⟩:=q4K (q1a cI.out).2.2 0 dU dV;obtain rfl:dD=dW:=(by injection AB);obtain⟨ce711,eD,eE,eG⟩:=Kd.V_get cI.out z28 0 dU (by first|exact dV|exact q0a X16|(have e_:=(q1a cI.out).1;omega));obtain⟨ua711_3,uc711_3,rfl,eH,eI⟩:=q5J eE;have eJ:=eG 3 _ rfl;rw[q4R _ _ 3 (by omega)]at eJ;replace eJ:=q0d (eJ.symm.trans eA);injection eJ with hva_ hvn_ hvc_;rw[hva_]at eI;rw[hvc_]at eH;have eK:=am (show Kd.V k28 28 _ w.heap.size _ _ ((q1o aJ 0).f3) from Kd.V_mk eH eI);clear hva_ hvn_ hvc_ eI eH;clear eG eD;have qi711:(0<aJ.length)=True:=q0c (by omega);(try simp only[tz0,tz1,tz2]at dX);(try simp only[tz0,tz1,tz2]at dY);(try simp only[tz0,tz1,tz2]at dZ);(try simp only[tz0,tz1,tz2]at eA);have eL:=am eC;have HC711_3:=am eB;clear eC eB;replace dU:=q0c dU;replace dV:=q0c dV;have ea_:=q0d (dI.symm.trans eA);injection ea_ with ea_ en_ ec_;subst ea_;subst ec_;clear en_)|((with_reducible refine gc 11 ?_);refine gCc (some 63) func11 (q4u.calls k aG aH aI _ _ aJ aT aU _ (cW ((q1a cI.out).2.2)) ((q1a cI.out).2.1) aQ.out) ?_;rintro w30 hb;replace cF:=am (q0F (aN cF.out) hb);replace cG:=am (q1t (aR cG.out) hb);replace cH:=am (q0F (aN cH.out) hb);replace cI:=am (q0P (aV cI.out) hb);replace dR:=am (q0P (aV dR.out) hb);replace eK:=am (q0P (aV eK.out) hb);replace cL:=kB cL hb;replace dS:=am (q0Y (X69 dS) hb);replace eL:=am (q0Y (X69 eL) hb);replace HB:=bS (X10 HB cM) hb;clear hb)|((with_reducible refine gc 19 ?_);refine gC1 (some 67) func19 (q3J.calls k (⟨#[40,117,32,117,41,32,45]⟩:q0b) aX aY aZ bA bB _ bD.out) ?_;rintro v718 w31 ⟨cA,hb⟩;replace cI:=am (q0P (aV cI.out) hb);replace dR:=am (q0P (aV dR.out) hb);replace eK:=am (q0P (aV eK.out) hb);have eM:=am (q2o (q0n (ok':=fun k_=>nO k_ (sl cN aC cO)∧nO k_ (sl cQ aD cR)∧nO k_ (sl cT aE cU)∧k_≠cJ) cA (fun k_ hk_=>⟨(q0K (q1V (aN cF.out)) k_ hk_),(q0K (q2h (aR cG.out)) k_ hk_),(q0K (q1V (aN cH.out)) k_ hk_),(q0u (g:=cJ) (o:=.cells #[.string aA,sl cN aC cO,sl cQ aD cR,sl cT aE cU,iv aG,.string aH,iv aI,sl (some dD) aJ cY] 30 (0,0)) (by (with_reducible repeat (first|refine q0A ?_ _|refine q0B ?_|refine q0v ?_ _));exact cL.out) k_ hk_)⟩)) (q1H (X10 HB cM)));replace cF:=am (q0F (aN cF.out) hb);replace cG:=am (q1t (aR cG.out) hb);replace cH:=am (q0F (aN cH.out) hb);replace cL:=kB cL hb;replace dS:=am (q0Y (X69 dS) hb);replace eL:=am (q0Y (X69 eL) hb);replace HB:=bS (X10 HB cM) hb;clear hb;(try clear cA))|((with_reducible refine gd 6 ?_);(try (refine q2p (by rfl) ?_;dsimp only));refine be 6 zNn 28 ?_;intro eN hg w32 hbox hb;replace cF:=am (q0F (q1N (aN cF.out) eN (q0w hg.symm)) hb);replace cG:=am (q1t (aR cG.out) hb);replace cH:=am (q0F (q1N (aN cH.out) eN (q0w hg.symm)) hb);replace cI:=am (q0P (q1Z (aV cI.out) eN (q0w hg.symm)) hb);replace dR:=am (q0P (q1Z (aV dR.out) eN (q0w hg.symm)) hb);replace eK:=am (q0P (q1Z (aV eK.out) eN (q0w hg.symm)) hb);replace eM:=am (q0P (q1Z (aV eM.out) eN (q0w hg.symm)) hb);replace dS:=am (q0Y (X69 dS) hb);replace eL:=am (q0Y (X69 eL) hb);have eO:=am (hbox);have GW721:=sG (w:=w) hg (X10 HB cM);have eP:=sG (w:=w) hg (X10 HB cM);replace HB:=bS (X10 HB cM) hb;have eQ:=nLT hg cL;have eR:=nGT hg cL;replace cL:=kB cL hb;clear hb hbox hg;have AQ:=eR.out;have AR:=eQ.out;have Z34:=bc4 eO;obtain⟨eS,eU,eV⟩:=q1R eM.out;subst eV)|((with_reducible refine gc 19 ?_);refine gC1 (some 71) func19 (q3J.calls k (⟨#[117,94,50,94,51]⟩:q0b) bE bF bG bH bI _ bK.out) ?_;rintro v726 w36 ⟨cA,hb⟩;replace cI:=am (q0P (aV (f4V eN (sl eS bA eU) (iv aZ) (.string aY) (iv aX) cI.out oKk)) hb);replace eM:=am (q0P (aV (f4V eN (sl eS bA eU) (iv aZ) (.string aY) (iv aX) eM.out oKk)) hb);have eW:=am (q2o (q0n (ok':=fun k_=>nO k_ (sl cN aC cO)∧nO k_ (sl cQ aD cR)∧nO k_ (sl cT aE cU)∧k_≠cJ∧k_≠eN) cA (fun k_ hk_=>⟨(q0K (q1V (aN (f4N eN (sl eS bA eU) (iv aZ) (.string aY) (iv aX) cF.out oKk))) k_ hk_),(q0K (q2h (aR (q0j (f4R eN (sl eS bA eU) (iv aZ) (.string aY) (iv aX) (q0E cG.out eO.out (by decide)) oKk) (fun _ h_=>h_.1)))) k_ hk_),(q0K (q1V (aN (f4N eN (sl eS bA eU) (iv aZ) (.string aY) (iv aX) cH.out oKk))) k_ hk_),(q0u (g:=cJ) (o:=.cells #[.string aA,sl cN aC cO,sl cQ aD cR,sl cT aE cU,iv aG,.string aH,iv aI,sl (some dD) aJ cY] 30 (0,0)) (bq1 cL eQ) k_ hk_),(q0u (g:=eN) (o:=.cells #[iv aX,.string aY,iv aZ,sl eS bA eU] 28 (0,0)) (bq0 eO) k_ hk_)⟩)) (q1H (X17 HB cM eP)));replace cF:=am (q0F (aN (f4N eN (sl eS bA eU) (iv aZ) (.string aY) (iv aX) cF.out oKk)) hb);replace cG:=am (q1t (aR (q0j (f4R eN (sl eS bA eU) (iv aZ) (.string aY) (iv aX) (q0E cG.out eO.out (by decide)) oKk) (fun _ h_=>h_.1))) hb);replace cH:=am (q0F (aN (f4N eN (sl eS bA eU) (iv aZ) (.string aY) (iv aX) cH.out oKk)) hb);replace cL:=kBg1 cL eQ hb;replace dS:=am (q0Y ((q1a (aV (f4V eN (sl eS bA eU) (iv aZ) (.string aY) (iv aX) dR.out oKk))).2.2) hb);replace dR:=am (q0P (aV (f4V eN (sl eS bA eU) (iv aZ) (.string aY) (iv aX) dR.out oKk)) hb);replace eL:=am (q0Y ((q1a (aV (f4V eN (sl eS bA eU) (iv aZ) (.string aY) (iv aX) eK.out oKk))).2.2) hb);replace eK:=am (q0P (aV (f4V eN (sl eS bA eU) (iv aZ) (.string aY) (iv aX) eK.out oKk)) hb);replace eO:=kBg0 eO hb;replace HB:=bS (X17 HB cM eP) hb;clear hb;(try clear cA))|((with_reducible refine gd 8 ?_);(try (refine q2p (by rfl) ?_;dsimp only));refine be 8 zNn 28 ?_;intro eX hg w37 hbox hb;replace cF:=am (q0F (q1N (aN cF.out) eX (q0w hg.symm)) hb);replace cG:=am (q1t (aR cG.out) hb);replace cH:=am (q0F (q1N (aN cH.out) eX (q0w hg.symm)) hb);replace cI:=am (q0P (q1Z (aV cI.out) eX (q0w hg.symm)) hb);replace dR:=am (q0P (q1Z (aV dR.out) eX (q0w hg.symm)) hb);replace eK:=am (q0P (q1Z (aV eK.out) eX (q0w hg.symm)) hb);replace eM:=am (q0P (q1Z (aV eM.out) eX (q0w hg.symm)) hb);replace eW:=am (q0P (q1Z (aV eW.out) eX (q0w hg.symm)) hb);replace dS:=am (q0Y (X69 dS) hb);replace eL:=am (q0Y (X69 eL) hb);have eY:=am (hbox);have GW729:=sG (w:=w) hg (X17 HB cM eP);have eZ:=sG (w:=w) hg (X17 HB cM eP);replace HB:=bS (X17 HB cM eP) hb;have fA:=nLT hg cL;have fB:=nGT hg cL;replace cL:=kB cL hb;have fC:=nLT hg eO;have fD:=nGT hg eO;replace eO:=kB eO hb;clear hb hbox hg;have AS:=fB.out;have AT:=fA.out;have AU:=fD.out;have AV:=fC.out;have Z40:=bc4 eY;obtain⟨fE,fF,fG⟩:=q1R eW.out;subst fG)|((with_reducible refine gc 11 ?_);refine gL (some 76) func11 #[.agg #[iv bE,.string bF,iv bG,sl fE bH fF]] ?_;(with_reducible refine(q4u.calls k bE bF bG _ _ bH bL bM _ ?side1 ?side2 bO.out).mono ?_);(case side1=>refine(q1a (e:=28) (base:=w.heap.size) (ok:=fun k_=>((nO k_ (sl cN aC cO)∧(nO k_ (sl cQ aD cR)∧(nO k_ (sl cT aE cU)∧(k_≠cJ∧k_≠eN))))∧k_≠eX)) (n:=bH.length) (c:=fF) ?_).2.2;exact(aV (f4V eX (sl fE bH fF) (iv bG) (.string bF) (iv bE) eW.out oKk)));(case side2=>exact(q1a eW.out).2.1);rintro e w42 ⟨rfl,hb⟩;refine⟨_,rfl,?_⟩;replace cF:=am (q0F (aN (f4N eX (sl fE bH fF) (iv bG) (.string bF) (iv bE) cF.out oKk)) hb);replace cG:=am (q1t (aR (q0j (f4R eX (sl fE bH fF) (iv bG) (.string bF) (iv bE) (q0E cG.out eY.out (by decide)) oKk) (fun _ h_=>h_.1))) hb);replace cH:=am (q0F (aN (f4N eX (sl fE bH fF) (iv bG) (.string bF) (iv bE) cH.out oKk)) hb);replace cI:=am (q0P (aV (f4V eX (sl fE bH fF) (iv bG) (.string bF) (iv bE) cI.out oKk)) hb);replace eM:=am (q0P (aV (f4V eX (sl fE bH fF) (iv bG) (.string bF) (iv bE) eM.out oKk)) hb);replace eW:=am (q0P (aV (f4V eX (sl fE bH fF) (iv bG) (.string bF) (iv bE) eW.out oKk)) hb);replace cL:=kBg1 cL fA hb;replace dS:=am (q0Y ((q1a (aV (f4V eX (sl fE bH fF) (iv bG) (.string bF) (iv bE) dR.out oKk))).2.2) hb);replace dR:=am (q0P (aV (f4V eX (sl fE bH fF) (iv bG) (.string bF) (iv bE) dR.out oKk)) hb);replace eL:=am (q0Y ((q1a (aV (f4V eX (sl fE bH fF) (iv bG) (.string bF) (iv bE) eK.out oKk))).2.2) hb);replace eK:=am (q0P (aV (f4V eX (sl fE bH fF) (iv bG) (.string bF) (iv bE) eK.out oKk)) hb);replace eO:=kBg1 eO fC hb;replace eY:=kBg0 eY hb;replace HB:=bS (X49 HB cM eP eZ) hb;clear hb;have Z43:=bc4 eO))
                go_ret
                exact⟨X11,(X49 HB cM eP eZ)⟩
               ·exact iN bW H
              ·exact iN bV H
             ·exact iN bU H
            ·exact iN bT H
           ·exact iN bR H
          ·exact iN bQ H
         ·exact iN bP H
        ·exact iN c9 H
       ·exact iN c8 H
      ·exact iN c7 H
     ·exact iN c6 H
    ·exact iN c5 H
   ·exact iN c4 H
  ·exact iN c3 H
 ·exact iN c2 H

mutual
def q1e.l0:Nat→q0b→Int→Option (Int)
 | 0,_,_=>none
 | k+1,x0,x3=>if x3<(x0.size:Int) then (if 0≤x3 then (if (bt x0 x3)=32 then (q1e.j1 k x0 x3 (bt x0 x3) ((bt x0 x3) == 32)) else (if (bt x0 x3)=9 then (q1e.j1 k x0 x3 (bt x0 x3) ((bt x0 x3) == 9)) else (if (bt x0 x3)=10 then (q1e.j1 k x0 x3 (bt x0 x3) ((bt x0 x3) == 10)) else (q1e.j1 k x0 x3 (bt x0 x3) ((bt x0 x3) == 13))))) else (none)) else (some x3)
def q1e.j1:Nat→q0b→Int→Int→Bool→Option (Int)
 | 0,_,_,_,_=>none
 | k+1,x0,x3,aA,aC=>if aC=true then (q1e.l0 k x0 (wrap64 (x3+1))) else (if aA=35 then (q1e.l1 k x0 x3) else (some x3))
def q1e.l1:Nat→q0b→Int→Option (Int)
 | 0,_,_=>none
 | k+1,x0,x3=>if x3<(x0.size:Int) then (if 0≤x3 then (if (bt x0 x3)=10 then (q1e.l0 k x0 x3) else (q1e.l1 k x0 (wrap64 (x3+1)))) else (none)) else (q1e.l0 k x0 x3)
end
def q1e.f (k:Nat) (a0:q0b):Option (Int):=q1e.l0 k a0 0
theorem q1e.calls (k:Nat) (a0:q0b) (r:Int) (w:World) (h:q1e.f k a0=some r) :
  Calls prog 57 #[.string a0] w fun e w'=>e=.returned (iv r)∧q3t w w':=by
 have H:=h;clear h;unfold q1e.f at H;have H':=am H;clear H;go_enter func57,ntmps57;go_wp2
 go_loopg [3] k (fun kq v3 w'=>∃ (aA:Int),v3=iv aA∧q0i (q1e.l0 kq a0 aA=some r)∧q0i (kq≤k)∧q3t w w')
 case atStart=>exact⟨(0),X7,H',⟨q0f _⟩,X18⟩
 case round=>
  clear H';obtain⟨aA,rfl,HA,aC,⟨m1,rfl⟩⟩:=hrel;cases gk with
  | zero=>exact absurd HA.out (by simp [q1e.l0])
  | succ k1=>
   have H:=HA.out;clear HA;simp only[q1e.l0]at H;by_cases c2:aA<(a0.size:Int)
   ·rw[if_pos c2]at H;have AB:=dT c2;clear c2;by_cases c3:0≤aA
    ·rw[if_pos c3]at H;have AJ:=dT c3;clear c3;have aD:=am H;clear H;have p4:0≤(aA:Int):=q0a X16;have q4:aA<(a0.size:Int):=q0a X16;have aE:=q4d a0 aA;replace p4:=q0c p4;replace q4:=q0c q4;go_upto_if 12 with (fail)
     go_cut [12] (fun aG wc=>∃ (kq:Nat) (aH:Bool),aG=.bool aH∧q0i (q1e.j1 kq a0 aA (bt a0 aA) aH=some r)∧q0i (kq≤k1)∧q3t w wc)
     case first=>
      have H:=aD.out;clear aD;by_cases c6:(bt a0 aA)=32
      ·rw[if_pos c6]at H;have AA:=eT c6;have AC:=eF c6;clear c6;(first|rw[AA]|(simp only[q4g,q4q];rw[AA])|skip);have H':=am H;clear H;go_wp2
       go_meet
       case rel=>exact⟨_,(((bt a0 aA) == 32)),X7,H',⟨(X90 aC)⟩,X18⟩
      ·rw[if_neg c6]at H;have AA:=nF c6;have AC:=nT c6;(first|rw[AA]|(simp only[q4g,q4q];rw[AA])|skip);by_cases c7:(bt a0 aA)=9
       ·rw[if_pos c7]at H;have AD:=eT c7;have AE:=eF c7;clear c7;have H':=am H;clear H;go_wp2
        go_meet
        case rel=>exact⟨_,(((bt a0 aA) == 9)),X7,H',⟨(X90 aC)⟩,X18⟩
       ·rw[if_neg c7]at H;have AD:=nF c7;have AE:=nT c7;by_cases c8:(bt a0 aA)=10
        ·rw[if_pos c8]at H;have AF:=eT c8;have AG:=eF c8;clear c8;have H':=am H;clear H;go_wp2
         go_meet
         case rel=>exact⟨_,(((bt a0 aA) == 10)),X7,H',⟨(X90 aC)⟩,X18⟩
        ·rw[if_neg c8]at H;have AF:=nF c8;have AG:=nT c8;have H':=am H;clear H;go_wp2
         go_meet
         case rel=>exact⟨_,(((bt a0 aA) == 13)),X7,H',⟨(X90 aC)⟩,X18⟩
     case rest=>
      clear aD;(try clear c2 AB p2 c3 AJ);(try clear p4 p4);(try clear q4 q4);(try clear aE c5 c6 AA AC c7 AD AE c8 AF AG);obtain⟨kq,aH,rfl,HA,aI,⟨mc4,rfl⟩⟩:=hcut;cases kq with
      | zero=>exact absurd HA.out (by simp [q1e.j1])
      | succ aJ=>
       have H:=HA.out;clear HA;simp only[q1e.j1]at H;by_cases c9:aH=true
       ·subst c9;replace H:=tP H;have H':=am H;clear H;go_wp2
        go_roundg aJ
        case measure=>have:=aC.out;have:=aI.out;omega
        case rel=>exact⟨(wrap64 (aA+1)),X7,H',⟨by have:=aC.out;have:=aI.out;omega⟩,X18⟩
       ·replace c9:=fI c9;subst c9;replace H:=tN H;by_cases c10:(bt a0 aA)=35
        ·rw[if_pos c10]at H;have AH:=eT c10;have AI:=eF c10;clear c10;have H':=am H;clear H;go_wp2
         go_loopg [3] aJ (fun kq v3 w'=>∃ (aK:Int),v3=iv aK∧q0i (q1e.l1 kq a0 aK=some r)∧q0i (kq≤aJ)∧q3t w w')
         case atStart=>exact⟨(aA),X7,H',⟨q0f _⟩,X18⟩
         case round=>
          clear H';(try clear c1 c2 AB);(try clear p2 p2);(try clear c3 AJ c4);(try clear p4 p4);(try clear q4 q4);(try clear aE c5 c6 AA AC p6 c7 AD AE c8 AF AG c9 c10 AH AI);obtain⟨aK,rfl,HA,aM,⟨m3,rfl⟩⟩:=hrel;cases gk with
          | zero=>exact absurd HA.out (by simp [q1e.l1])
          | succ k3=>
           have H:=HA.out;clear HA;simp only[q1e.l1]at H;by_cases aQ:aK<(a0.size:Int)
           ·rw[if_pos aQ]at H;have AK:=dT aQ;clear aQ;by_cases aT:0≤aK
            ·rw[if_pos aT]at H;have AN:=dT aT;clear aT;by_cases aU:(bt a0 aK)=10
             ·rw[if_pos aU]at H;have AL:=eT aU;have AM:=eF aU;clear aU;have H':=am H;clear H;have aW:0≤(aK:Int):=q0a X16;have aX:aK<(a0.size:Int):=q0a X16;have aY:=q4d a0 aK;replace aW:=q0c aW;replace aX:=q0c aX;go_wp2
              go_roundg k3
              case measure=>have:=aC.out;have:=aI.out;have:=aM.out;omega
              case rel=>exact⟨(aK),X7,H',⟨(X91 aC aI aM)⟩,X18⟩
             ·rw[if_neg aU]at H;have AL:=nF aU;have AM:=nT aU;have H':=am H;clear H;have aW:0≤(aK:Int):=q0a X16;have aX:aK<(a0.size:Int):=q0a X16;have aY:=q4d a0 aK;replace aW:=q0c aW;replace aX:=q0c aX;go_wp2
              go_roundg k3
              case measure=>have:=aC.out;have:=aI.out;have:=aM.out;omega
              case rel=>exact⟨(wrap64 (aK+1)),X7,H',⟨(X91 aC aI aM)⟩,X18⟩
            ·exact iN aT H
           ·rw[if_neg aQ]at H;have AK:=dF aQ;clear aQ;have H':=am H;clear H;go_wp2
            go_roundg k3
            case measure=>have:=aC.out;have:=aI.out;have:=aM.out;omega
            case rel=>exact⟨(aK),X7,H',⟨(X91 aC aI aM)⟩,X18⟩
        ·rw[if_neg c10]at H;have AH:=nF c10;have AI:=nT c10;obtain rfl:=q0d H;go_wp2
         go_ret
         exact⟨X7,X18⟩
    ·exact iN c3 H
   ·rw[if_neg c2]at H;have AB:=dF c2;clear c2;obtain rfl:=q0d H;go_wp2
    go_ret
    exact⟨X7,X18⟩

def q2M.l0:Nat→q0b→Int→Int→Option (Int)
 | 0,_,_,_=>none
 | k+1,x0,x3,x4=>if x4<(x0.size:Int) then (if 0≤x4 then (if (bt x0 x4)=10 then (q2M.l0 k x0 (wrap64 (x3+1)) (wrap64 (x4+1))) else (q2M.l0 k x0 x3 (wrap64 (x4+1)))) else (none)) else (some x3)
def q2M.f (k:Nat) (a0:q0b):Option (Int):=q2M.l0 k a0 0 0
theorem q2M.calls (k:Nat) (a0:q0b) (r:Int) (w:World) (h:q2M.f k a0=some r) :
  Calls prog 58 #[.string a0] w fun e w'=>e=.returned (iv r)∧q3t w w':=by
 have H:=h;clear h;unfold q2M.f at H;have H':=am H;clear H;go_enter func58,ntmps58;go_wp2
 go_loopg [3,4] k (fun kq v3 v4 w'=>∃ (aA:Int) (aC:Int),v3=iv aA∧v4=iv aC∧q0i (q2M.l0 kq a0 aA aC=some r)∧q0i (kq≤k)∧q3t w w')
 case atStart=>exact⟨(0),(0),X7,X7,H',⟨q0f _⟩,X18⟩
 case round=>
  clear H';obtain⟨aA,aC,rfl,rfl,HA,aD,⟨m1,rfl⟩⟩:=hrel;cases gk with
  | zero=>exact absurd HA.out (by simp [q2M.l0])
  | succ k1=>
   have H:=HA.out;clear HA;simp only[q2M.l0]at H;by_cases c2:aC<(a0.size:Int)
   ·rw[if_pos c2]at H;have AA:=dT c2;clear c2;by_cases c3:0≤aC
    ·rw[if_pos c3]at H;have AD:=dT c3;clear c3;by_cases c5:(bt a0 aC)=10
     ·rw[if_pos c5]at H;have AB:=eT c5;have AC:=eF c5;clear c5;have H':=am H;clear H;have p4:0≤(aC:Int):=q0a X16;have q4:aC<(a0.size:Int):=q0a X16;have aE:=q4d a0 aC;replace p4:=q0c p4;replace q4:=q0c q4;go_wp2
      go_roundg k1
      case measure=>have:=aD.out;omega
      case rel=>exact⟨(wrap64 (aA+1)),(wrap64 (aC+1)),X7,X7,H',⟨by have:=aD.out;omega⟩,X18⟩
     ·rw[if_neg c5]at H;have AB:=nF c5;have AC:=nT c5;have H':=am H;clear H;have p4:0≤(aC:Int):=q0a X16;have q4:aC<(a0.size:Int):=q0a X16;have aE:=q4d a0 aC;replace p4:=q0c p4;replace q4:=q0c q4;go_wp2
      go_roundg k1
      case measure=>have:=aD.out;omega
      case rel=>exact⟨(aA),(wrap64 (aC+1)),X7,X7,H',⟨by have:=aD.out;omega⟩,X18⟩
    ·exact iN c3 H
   ·rw[if_neg c2]at H;have AA:=dF c2;clear c2;obtain rfl:=q0d H;go_wp2
    go_ret
    exact⟨X7,X18⟩

def q3h.f (a0:Int):Option (Bool):=if a0≥97 then (some (decide (a0≤122))) else (some false)
theorem q3h.calls (a0:Int) (r:Bool) (w:World) (h:q3h.f a0=some r) :
  Calls prog 115 #[.int .u8 a0] w fun e w'=>e=.returned (.bool r)∧q3t w w':=by
 have H:=h;clear h;unfold q3h.f at H;by_cases c2:a0≥97
 ·rw[if_pos c2]at H;have AA:decide (97≤a0)=true:=q0p c2;clear c2;obtain rfl:=q0d H;go_enter func115,ntmps115;go_wp2
  go_ret
  exact⟨X7,X18⟩
 ·rw[if_neg c2]at H;have AA:decide (97≤a0)=false:=q0z c2;clear c2;obtain rfl:=q0d H;go_enter func115,ntmps115;go_wp2
  go_ret
  exact⟨X7,X18⟩

def q3g.f (a0:Int):Option (Bool):=if a0≥48 then (some (decide (a0≤57))) else (some false)
theorem q3g.calls (a0:Int) (r:Bool) (w:World) (h:q3g.f a0=some r) :
  Calls prog 116 #[.int .u8 a0] w fun e w'=>e=.returned (.bool r)∧q3t w w':=by
 have H:=h;clear h;unfold q3g.f at H;by_cases c2:a0≥48
 ·rw[if_pos c2]at H;have AA:decide (48≤a0)=true:=q0p c2;clear c2;obtain rfl:=q0d H;go_enter func116,ntmps116;go_wp2
  go_ret
  exact⟨X7,X18⟩
 ·rw[if_neg c2]at H;have AA:decide (48≤a0)=false:=q0z c2;clear c2;obtain rfl:=q0d H;go_enter func116,ntmps116;go_wp2
  go_ret
  exact⟨X7,X18⟩
mutual
def q1z.j0:Nat→q0b→Bool→Option (Int)
 | 0,_,_=>none
 | k+1,x0,aA=>if aA=true then (some 0) else (q1z.l0 k x0 1)
def q1z.l0:Nat→q0b→Int→Option (Int)
 | 0,_,_=>none
 | k+1,x0,x3=>if x3<(x0.size:Int) then (if 0≤x3 then ((q3h.f (bt x0 x3)).bind fun aA=>(if aA=true then (q1z.j2 k x0 x3 true) else ((q3g.f (bt x0 x3)).bind fun aC=>(q1z.j2 k x0 x3 aC)))) else (none)) else (some x3)
def q1z.j2:Nat→q0b→Int→Bool→Option (Int)
 | 0,_,_,_=>none
 | k+1,x0,x3,aA=>if aA=true then (q1z.l0 k x0 (wrap64 (x3+1))) else (if 0≤x3 then (if x3<(x0.size:Int) then (if (bt x0 x3)=45 then (if (wrap64 (x3+1))=(x0.size:Int) then (some x3) else (if 0≤(wrap64 (x3+1)) then (if (wrap64 (x3+1))<(x0.size:Int) then ((q3h.f (bt x0 (wrap64 (x3+1)))).bind fun aC=>(if aC=true then (q1z.l0 k x0 (wrap64 (x3+2))) else ((q3g.f (bt x0 (wrap64 (x3+1)))).bind fun aD=>(if aD=true then (q1z.l0 k x0 (wrap64 (x3+2))) else (some x3))))) else (none)) else (none))) else (some x3)) else (none)) else (none))
end
def q1z.f (k:Nat) (a0:q0b):Option (Int):=if a0.toList=([]:List UInt8) then (q1z.j0 k a0 true) else (if 0<(a0.size:Int) then ((q3h.f (bt a0 0)).bind fun aA=>(q1z.j0 k a0 (!aA))) else (none))
theorem q1z.calls (k:Nat) (a0:q0b) (r:Int) (w:World) (h:q1z.f k a0=some r) :
  Calls prog 89 #[.string a0] w fun e w'=>e=.returned (iv r)∧q3t w w':=by
 have H:=h;clear h;unfold q1z.f at H;have aA:=am H;clear H;go_enter func89,ntmps89;go_upto_region 1 with (fail)
 go_cut [11] (fun aC wc=>∃ (kq:Nat) (aD:Bool),aC=.bool aD∧q0i (q1z.j0 kq a0 aD=some r)∧q0i (kq≤k)∧q3t w wc)
 case first=>
  have H:=aA.out;clear aA;by_cases c3:a0.toList=([]:List UInt8)
  ·rw[if_pos c3]at H;have AA:=eT c3;have AB:=eF c3;clear c3;(first|rw[AA]|(simp only[q4g,q4q];rw[AA])|skip);have H':=am H;clear H;go_wp2
   go_meet
   case rel=>exact⟨_,(true),X7,H',⟨X8⟩,X18⟩
  ·rw[if_neg c3]at H;have AA:=nF c3;have AB:=nT c3;(first|rw[AA]|(simp only[q4g,q4q];rw[AA])|skip);by_cases c4:0<(a0.size:Int)
   ·rw[if_pos c4]at H;have AD:=dT c4;have AE:decide (0<a0.size)=true:=q0p (by omega);clear c4;obtain⟨aE,A6,H⟩:=oA H;(try dsimp only at H);have H':=am H;clear H;have p5:0≤(0:Int):=(by omega);have q5:0<a0.size:=(by have:(0:Int)<(a0.size:Int):=q0a X16;omega);have aH:∀ h:0<a0.size,((a0[0]'h).toNat:Int)=bt a0 0:=q4d a0 0;clear p5;have aI:(0<(a0.size:Int))=True:=q0c (q0a X16);replace q5:=q0c q5;go_wp2_with (first|(go_at_call 115;(with_reducible refine(q3h.calls (bt a0 0) aE _ A6.out).mono ?_);rintro e w' ⟨rfl,⟨nd,rfl⟩⟩))
    go_meet
    case rel=>exact⟨_,(!aE),X7,H',⟨X8⟩,X18⟩
   ·exact iN c4 H
 case rest=>
  clear aA;(try clear p2 c3 AA AB c4 AD AE);(try clear p5 p5);(try clear q5 q5);(try clear aH aI);obtain⟨kq,aD,rfl,HA,aJ,⟨mc1,rfl⟩⟩:=hcut;cases kq with
  | zero=>exact absurd HA.out (by simp [q1z.j0])
  | succ aK=>
   have H:=HA.out;clear HA;simp only[q1z.j0]at H;by_cases c7:aD=true
   ·subst c7;replace H:=tP H;obtain rfl:=q0d H;go_wp2
    go_ret
    exact⟨X7,X18⟩
   ·replace c7:=fI c7;subst c7;replace H:=tN H;have H':=am H;clear H;go_wp2
    go_loopg [3] aK (fun kq v3 w'=>∃ (aM:Int),v3=iv aM∧q0i (q1z.l0 kq a0 aM=some r)∧q0i (kq≤aK)∧q3t w w')
    case atStart=>exact⟨(1),X7,H',⟨q0f _⟩,X18⟩
    case round=>
     clear H';(try clear c1);(try clear p2 p2);(try clear c3 AA AB c4 AD AE);(try clear p5 p5);(try clear q5 q5);(try clear aH aI c7);obtain⟨aM,rfl,HA,aQ,⟨m2,rfl⟩⟩:=hrel;cases gk with
     | zero=>exact absurd HA.out (by simp [q1z.l0])
     | succ k2=>
      have H:=HA.out;clear HA;simp only[q1z.l0]at H;by_cases c8:aM<(a0.size:Int)
      ·rw[if_pos c8]at H;have AH:=dT c8;clear c8;have aT:=am H;clear H;go_upto_region 5 with (fail)
       go_cut [25] (fun aU wc=>∃ (kq:Nat) (aW:Bool),aU=.bool aW∧q0i (q1z.j2 kq a0 aM aW=some r)∧q0i (kq≤k2)∧q3t w wc)
       case first=>
        have H:=aT.out;clear aT;by_cases c10:0≤aM
        ·rw[if_pos c10]at H;have AC:=dT c10;clear c10;(first|rw[AC]|(simp only[q4g,q4q];rw[AC])|skip);obtain⟨aX,aZ,H⟩:=oA H;(try dsimp only at H);by_cases bA:aX=true
         ·subst bA;replace H:=tP H;have H':=am H;clear H;have bB:0≤(aM:Int):=q0a X16;have bC:aM<(a0.size:Int):=q0a X16;have bD:=q4d a0 aM;replace bB:=q0c bB;replace bC:=q0c bC;go_wp2_with (first|((with_reducible refine gc 115 ?_);refine gCc (some 19) func115 (q3h.calls (bt a0 aM) true _ aZ.out) ?_;rintro w' ⟨nd,rfl⟩))
          go_meet
          case rel=>exact⟨_,(true),X7,H',⟨(X94 aJ aQ)⟩,X18⟩
         ·replace bA:=fI bA;subst bA;replace H:=tN H;obtain⟨bE,bG,H⟩:=oA H;(try dsimp only at H);have H':=am H;clear H;have bB:0≤(aM:Int):=q0a X16;have bC:aM<(a0.size:Int):=q0a X16;have bD:=q4d a0 aM;replace bB:=q0c bB;replace bC:=q0c bC;go_wp2_with (first|((with_reducible refine gc 115 ?_);refine gCc (some 19) func115 (q3h.calls (bt a0 aM) false _ aZ.out) ?_;rintro w' ⟨nd,rfl⟩;have bH:0≤(aM:Int):=q0a X16;have bI:aM<(a0.size:Int):=q0a X16;have bJ:=q4d a0 aM;replace bH:=q0c bH;replace bI:=q0c bI)|(go_at_call 116;(with_reducible refine(q3g.calls (bt a0 aM) bE _ bG.out).mono ?_);rintro e w' ⟨rfl,⟨nd,rfl⟩⟩))
          go_meet
          case rel=>exact⟨_,(bE),X7,H',⟨(X94 aJ aQ)⟩,X18⟩
        ·exact iN c10 H
       case rest=>
        clear aT;(try clear c1 p1 q1 hx1);(try clear p2 p2);(try clear c3 AA AB c4 AD AE);(try clear p5 p5);(try clear q5 q5);(try clear aH aI c7 c8 AH c10 AC c11);(try clear bB bB);(try clear bC bC);(try clear bD bA);(try clear bH bH);(try clear bI bI);(try clear bJ);obtain⟨kq,aW,rfl,HA,bK,⟨mc8,rfl⟩⟩:=hcut;cases kq with
        | zero=>exact absurd HA.out (by simp [q1z.j2])
        | succ bL=>
         have H:=HA.out;clear HA;simp only[q1z.j2]at H;by_cases bM:aW=true
         ·subst bM;replace H:=tP H;have H':=am H;clear H;go_wp2
          go_roundg bL
          case measure=>have:=aJ.out;have:=aQ.out;have:=bK.out;omega
          case rel=>exact⟨(wrap64 (aM+1)),X7,H',⟨(X91 aJ aQ bK)⟩,X18⟩
         ·replace bM:=fI bM;subst bM;replace H:=tN H;by_cases bN:0≤aM
          ·rw[if_pos bN]at H;have AK:=dT bN;clear bN;by_cases bO:aM<(a0.size:Int)
           ·rw[if_pos bO]at H;have AL:=dT bO;clear bO;by_cases bP:(bt a0 aM)=45
            ·rw[if_pos bP]at H;have AI:=eT bP;have AJ:=eF bP;clear bP;by_cases bQ:(wrap64 (aM+1))=(a0.size:Int)
             ·rw[if_pos bQ]at H;have AF:=eT bQ;have AG:=eF bQ;clear bQ;obtain rfl:=q0d H;have bR:0≤(aM:Int):=q0a X16;have bT:aM<(a0.size:Int):=q0a X16;have bU:=q4d a0 aM;replace bR:=q0c bR;replace bT:=q0c bT;go_wp2
              go_ret
              exact⟨X7,X18⟩
             ·rw[if_neg bQ]at H;have AF:=nF bQ;have AG:=nT bQ;obtain⟨bV,bW⟩:∃ j_:Int,(wrap64 (aM+1))=j_:=⟨_,rfl⟩;replace H:(if 0≤(bV) then (if (bV)<(a0.size:Int) then ((q3h.f (bt a0 (bV))).bind fun bX=>(if bX=true then (q1z.l0 bL a0 (wrap64 (aM+2))) else ((q3g.f (bt a0 (bV))).bind fun bY=>(if bY=true then (q1z.l0 bL a0 (wrap64 (aM+2))) else (some aM))))) else (none)) else (none))=some r:=by first|(rw[bW]at H;exact H)|(simp only[bW]at H ⊢;exact H)
              (try rw[bW]at AF);(try rw[bW]at AG);have hji22w:(IntKind.i64.wrap (aM+1))=bV:=(q4g _).trans bW;by_cases bZ:0≤(bV)
              ·rw[if_pos bZ]at H;have AM:=dT bZ;clear bZ;by_cases cA:(bV)<(a0.size:Int)
               ·rw[if_pos cA]at H;have AN:=dT cA;clear cA;obtain⟨bX,cD,H⟩:=oA H;(try dsimp only at H);by_cases cE:bX=true
                ·subst cE;replace H:=tP H;have H':=am H;clear H;have bR:0≤(aM:Int):=q0a X16;have bT:aM<(a0.size:Int):=q0a X16;have bU:=q4d a0 aM;replace bR:=q0c bR;replace bT:=q0c bT;have cF:0≤((bV):Int):=q0a X16;have cG:(bV)<(a0.size:Int):=q0a X16;have cH:=q4d a0 (bV);replace cF:=q0c cF;replace cG:=q0c cG;go_wp2_with (first|(go_at_call 115;(with_reducible refine(q3h.calls (bt a0 (bV)) true _ cD.out).mono ?_);rintro e w' ⟨rfl,⟨nd,rfl⟩⟩))
                 go_roundg bL
                 case measure=>have:=aJ.out;have:=aQ.out;have:=bK.out;omega
                 case rel=>exact⟨(wrap64 (aM+2)),X7,H',⟨(X91 aJ aQ bK)⟩,X18⟩
                ·replace cE:=fI cE;subst cE;replace H:=tN H;obtain⟨bY,cJ,H⟩:=oA H;(try dsimp only at H);by_cases cK:bY=true
                 ·subst cK;replace H:=tP H;have H':=am H;clear H;have bR:0≤(aM:Int):=q0a X16;have bT:aM<(a0.size:Int):=q0a X16;have bU:=q4d a0 aM;replace bR:=q0c bR;replace bT:=q0c bT;have cF:0≤((bV):Int):=q0a X16;have cG:(bV)<(a0.size:Int):=q0a X16;have cH:=q4d a0 (bV);replace cF:=q0c cF;replace cG:=q0c cG;go_wp2_with (first|(go_at_call 115;(with_reducible refine(q3h.calls (bt a0 (bV)) false _ cD.out).mono ?_);rintro e w' ⟨rfl,⟨nd,rfl⟩⟩;have cL:0≤((bV):Int):=q0a X16;have cM:(bV)<(a0.size:Int):=q0a X16;have cN:=q4d a0 (bV);replace cL:=q0c cL;replace cM:=q0c cM)|(go_at_call 116;(with_reducible refine(q3g.calls (bt a0 (bV)) true _ cJ.out).mono ?_);rintro e w' ⟨rfl,⟨nd,rfl⟩⟩))
                  go_roundg bL
                  case measure=>have:=aJ.out;have:=aQ.out;have:=bK.out;omega
                  case rel=>exact⟨(wrap64 (aM+2)),X7,H',⟨(X91 aJ aQ bK)⟩,X18⟩
                 ·replace cK:=fI cK;subst cK;replace H:=tN H;obtain rfl:=q0d H;have bR:0≤(aM:Int):=q0a X16;have bT:aM<(a0.size:Int):=q0a X16;have bU:=q4d a0 aM;replace bR:=q0c bR;replace bT:=q0c bT;have cF:0≤((bV):Int):=q0a X16;have cG:(bV)<(a0.size:Int):=q0a X16;have cH:=q4d a0 (bV);replace cF:=q0c cF;replace cG:=q0c cG;go_wp2_with (first|(go_at_call 115;(with_reducible refine(q3h.calls (bt a0 (bV)) false _ cD.out).mono ?_);rintro e w' ⟨rfl,⟨nd,rfl⟩⟩;have cL:0≤((bV):Int):=q0a X16;have cM:(bV)<(a0.size:Int):=q0a X16;have cN:=q4d a0 (bV);replace cL:=q0c cL;replace cM:=q0c cM)|(go_at_call 116;(with_reducible refine(q3g.calls (bt a0 (bV)) false _ cJ.out).mono ?_);rintro e w' ⟨rfl,⟨nd,rfl⟩⟩))
                  go_ret
                  exact⟨by first|rfl|(simp;done)|(simp only[← bW] <;> (first|rfl|simp))|(simp [*];done),X18⟩
               ·exact iN cA H
              ·exact iN bZ H
            ·rw[if_neg bP]at H;have AI:=nF bP;have AJ:=nT bP;obtain rfl:=q0d H;have bR:0≤(aM:Int):=q0a X16;have bT:aM<(a0.size:Int):=q0a X16;have bU:=q4d a0 aM;replace bR:=q0c bR;replace bT:=q0c bT;go_wp2
             go_ret
             exact⟨X7,X18⟩
           ·exact iN bO H
          ·exact iN bN H
      ·rw[if_neg c8]at H;have AH:=dF c8;clear c8;obtain rfl:=q0d H;go_wp2
       go_ret
       exact⟨X7,X18⟩

def q2g.l0:Nat→q0b→Int→Option (Int)
 | 0,_,_=>none
 | k+1,x0,x3=>if x3<(x0.size:Int) then (if 0≤x3 then ((q3g.f (bt x0 x3)).bind fun aA=>(if aA=true then (q2g.l0 k x0 (wrap64 (x3+1))) else (some x3))) else (none)) else (some x3)
def q2g.f (k:Nat) (a0:q0b):Option (Int):=q2g.l0 k a0 0
theorem q2g.calls (k:Nat) (a0:q0b) (r:Int) (w:World) (h:q2g.f k a0=some r) :
  Calls prog 90 #[.string a0] w fun e w'=>e=.returned (iv r)∧q3t w w':=by
 have H:=h;clear h;unfold q2g.f at H;have H':=am H;clear H;go_enter func90,ntmps90;go_wp2
 go_loopg [3] k (fun kq v3 w'=>∃ (aA:Int),v3=iv aA∧q0i (q2g.l0 kq a0 aA=some r)∧q0i (kq≤k)∧q3t w w')
 case atStart=>exact⟨(0),X7,H',⟨q0f _⟩,X18⟩
 case round=>
  clear H';obtain⟨aA,rfl,HA,aC,⟨m1,rfl⟩⟩:=hrel;cases gk with
  | zero=>exact absurd HA.out (by simp [q2g.l0])
  | succ k1=>
   have H:=HA.out;clear HA;simp only[q2g.l0]at H;by_cases c2:aA<(a0.size:Int)
   ·rw[if_pos c2]at H;have AA:=dT c2;clear c2;by_cases c3:0≤aA
    ·rw[if_pos c3]at H;have AB:=dT c3;clear c3;obtain⟨aD,A5,H⟩:=oA H;(try dsimp only at H);by_cases c6:aD=true
     ·subst c6;replace H:=tP H;have H':=am H;clear H;have p4:0≤(aA:Int):=q0a X16;have q4:aA<(a0.size:Int):=q0a X16;have aG:=q4d a0 aA;replace p4:=q0c p4;replace q4:=q0c q4;go_wp2_with (first|(go_at_call 116;(with_reducible refine(q3g.calls (bt a0 aA) true _ A5.out).mono ?_);rintro e w' ⟨rfl,⟨nd,rfl⟩⟩))
      go_roundg k1
      case measure=>have:=aC.out;omega
      case rel=>exact⟨(wrap64 (aA+1)),X7,H',⟨by have:=aC.out;omega⟩,X18⟩
     ·replace c6:=fI c6;subst c6;replace H:=tN H;obtain rfl:=q0d H;have p4:0≤(aA:Int):=q0a X16;have q4:aA<(a0.size:Int):=q0a X16;have aG:=q4d a0 aA;replace p4:=q0c p4;replace q4:=q0c q4;go_wp2_with (first|(go_at_call 116;(with_reducible refine(q3g.calls (bt a0 aA) false _ A5.out).mono ?_);rintro e w' ⟨rfl,⟨nd,rfl⟩⟩))
      go_ret
      exact⟨X7,X18⟩
    ·exact iN c3 H
   ·rw[if_neg c2]at H;have AA:=dF c2;clear c2;obtain rfl:=q0d H;go_wp2
    go_ret
    exact⟨X7,X18⟩

def q3Y.f (a0:Int):Option (Bool):=if a0≥32 then (if a0≤126 then (some (a0 != 34)) else (some false)) else (some false)
theorem q3Y.calls (a0:Int) (r:Bool) (w:World) (h:q3Y.f a0=some r) :
  Calls prog 117 #[.int .u8 a0] w fun e w'=>e=.returned (.bool r)∧q3t w w':=by
 have H:=h;clear h;unfold q3Y.f at H;by_cases c2:a0≥32
 ·rw[if_pos c2]at H;have AA:decide (32≤a0)=true:=q0p c2;clear c2;by_cases c3:a0≤126
  ·rw[if_pos c3]at H;have AB:=dT c3;clear c3;obtain rfl:=q0d H;go_enter func117,ntmps117;go_wp2
   go_ret
   exact⟨X7,X18⟩
  ·rw[if_neg c3]at H;have AB:=dF c3;clear c3;obtain rfl:=q0d H;go_enter func117,ntmps117;go_wp2
   go_ret
   exact⟨X7,X18⟩
 ·rw[if_neg c2]at H;have AA:decide (32≤a0)=false:=q0z c2;clear c2;obtain rfl:=q0d H;go_enter func117,ntmps117;go_wp2
  go_ret
  exact⟨X7,X18⟩
mutual
def q1l.j1:Nat→q0b→Int→Option (Int × q0b × Int × Int × Int)
 | 0,_,_=>none
 | k+1,x0,x5=>if x5=(x0.size:Int) then (q1l.j2 k x0 x5 true) else (if 0≤x5 then (if x5<(x0.size:Int) then (q1l.j2 k x0 x5 ((bt x0 x5) != 34)) else (none)) else (none))
def q1l.j2:Nat→q0b→Int→Bool→Option (Int × q0b × Int × Int × Int)
 | 0,_,_,_=>none
 | k+1,x0,x5,aA=>if aA=true then (some (0,(⟨#[]⟩:q0b),0,0,2)) else (if (wrap64 (x5 - 1)) > 60 then (some (0,(⟨#[]⟩:q0b),0,0,3)) else (if 1≤x5 then (if x5≤(x0.size:Int) then (some (3,x0.extract 1 (x5:Int).toNat,0,wrap64 (x5+1),0)) else (none)) else (none)))
def q1l.l0:Nat→q0b→Int→Option (Int × q0b × Int × Int × Int)
 | 0,_,_=>none
 | k+1,x0,x5=>if x5<(x0.size:Int) then (if 0≤x5 then ((q3Y.f (bt x0 x5)).bind fun aA=>(if aA=true then (q1l.l0 k x0 (wrap64 (x5+1))) else (q1l.j1 k x0 x5))) else (none)) else (q1l.j1 k x0 x5)
end
def q1l.f (k:Nat) (a0:q0b):Option (Int × q0b × Int × Int × Int):=q1l.l0 k a0 1
theorem q1l.calls (k:Nat) (a0:q0b) (r1:Int) (r2:q0b) (r3:Int) (r4:Int) (r5:Int) (w:World) (h:q1l.f k a0=some (r1,r2,r3,r4,r5)) :
  Calls prog 91 #[.string a0] w fun e w'=>e=.returned (.tuple #[.agg #[iv r1,.string r2,iv r3],iv r4,iv r5])∧Below w.heap.size w w':=by
 have hu61:=underlying61;have HB:=am (q0r w.heap.size w);have H:=h;clear h;unfold q1l.f at H;have aA:=am H;clear H;go_enter func91,ntmps91;go_upto_block 0 with (first|((with_reducible refine gd 2 ?_);refine be 2 zTt 61 ?_;intro aC hg w3 hbox hb;have aD:=am (hbox);have GW738:=sG (w:=w) hg X6;have aE:=sG (w:=w) hg X6;replace HB:=bS X6 hb;clear hb hbox hg))
 (try simp only[Act.put,List.setIfInBounds_toArray,List.set_cons_zero,List.set_cons_succ]);go_cut [5] (fun v5 wc=>∃ (kq:Nat) (aG:Int),v5=iv aG∧q0i (q1l.j1 kq a0 aG=some (r1,r2,r3,r4,r5))∧q0i (kq≤k)∧q0i (wc.heap[aC]?=some (.cells zTt 61 (0,0)))∧q0i (Below w.heap.size w wc))
 case first=>
  have H:=aA.out;clear aA;have H':=am H;clear H;go_wp2
  go_loopg [5] k (fun kq v5 w'=>∃ (aG:Int),v5=iv aG∧q0i (q1l.l0 kq a0 aG=some (r1,r2,r3,r4,r5))∧q0i (kq≤k)∧q0i (w'.heap[aC]?=some (.cells zTt 61 (0,0)))∧q0i (Below w.heap.size w w'))
  case atStart=>exact⟨(1),X7,H',⟨q0f _⟩,⟨(X9 aD)⟩,⟨(X10 HB aE)⟩⟩
  case round=>
   clear H';(try clear p2);obtain⟨aG,rfl,HA,aH,aD,HB⟩:=hrel;cases gk with
   | zero=>exact absurd HA.out (by simp [q1l.l0])
   | succ k1=>
    have H:=HA.out;clear HA;simp only[q1l.l0]at H;by_cases c4:aG<(a0.size:Int)
    ·rw[if_pos c4]at H;have AB:=dT c4;clear c4;(first|rw[AB]|(simp only[q4g,q4q];rw[AB])|skip);by_cases c5:0≤aG
     ·rw[if_pos c5]at H;have AD:=dT c5;clear c5;obtain⟨aI,A7,H⟩:=oA H;(try dsimp only at H);by_cases c8:aI=true
      ·subst c8;replace H:=tP H;have H':=am H;clear H;have p6:0≤(aG:Int):=q0a X16;have q6:aG<(a0.size:Int):=q0a X16;have aK:=q4d a0 aG;replace p6:=q0c p6;replace q6:=q0c q6;go_wp2_with (first|(go_at_call 117;(with_reducible refine(q3Y.calls (bt a0 aG) true _ A7.out).mono ?_);rintro e w' ⟨rfl,⟨nd,rfl⟩⟩))
       go_roundg k1
       case measure=>have:=aH.out;omega
       case rel=>exact⟨(wrap64 (aG+1)),X7,H',⟨by have:=aH.out;omega⟩,⟨(X9 aD)⟩,⟨(X10 HB aE)⟩⟩
      ·replace c8:=fI c8;subst c8;replace H:=tN H;have H':=am H;clear H;have p6:0≤(aG:Int):=q0a X16;have q6:aG<(a0.size:Int):=q0a X16;have aK:=q4d a0 aG;replace p6:=q0c p6;replace q6:=q0c q6;go_wp2_with (first|(go_at_call 117;(with_reducible refine(q3Y.calls (bt a0 aG) false _ A7.out).mono ?_);rintro e w' ⟨rfl,⟨nd,rfl⟩⟩))
       go_meet
       case rel=>exact⟨_,(aG),X7,H',⟨(X90 aH)⟩,⟨(X9 aD)⟩,⟨(X10 HB aE)⟩⟩
     ·exact iN c5 H
    ·rw[if_neg c4]at H;have AB:=dF c4;clear c4;(first|rw[AB]|(simp only[q4g,q4q];rw[AB])|skip);have H':=am H;clear H;go_wp2
     go_meet
     case rel=>exact⟨_,(aG),X7,H',⟨(X90 aH)⟩,⟨(X9 aD)⟩,⟨(X10 HB aE)⟩⟩
 case rest=>
  clear aA;(try clear p2 p2);(try clear c4 AB c5 AD);(try clear p6 p6);(try clear q6 q6);(try clear aK c8);obtain⟨kq,aG,rfl,HA,aM,aD,HB⟩:=hcut;cases kq with
  | zero=>exact absurd HA.out (by simp [q1l.j1])
  | succ aQ=>
   have H:=HA.out;clear HA;simp only[q1l.j1]at H;have aT:=am H;clear H;go_upto_region 4 with (fail)
   go_cut [27] (fun aU wc=>∃ (kq:Nat) (aW:Bool),aU=.bool aW∧q0i (q1l.j2 kq a0 aG aW=some (r1,r2,r3,r4,r5))∧q0i (kq≤aQ)∧q0i (wc.heap[aC]?=some (.cells zTt 61 (0,0)))∧q0i (Below w.heap.size w wc))
   case first=>
    have H:=aT.out;clear aT;by_cases c10:aG=(a0.size:Int)
    ·rw[if_pos c10]at H;have AA:=eT c10;have AC:=eF c10;clear c10;(first|rw[AA]|(simp only[q4g,q4q];rw[AA])|skip);have H':=am H;clear H;go_wp2
     go_meet
     case rel=>exact⟨_,(true),X7,H',⟨by have:=aM.out;first|omega|exact q0f _⟩,⟨(X9 aD)⟩,⟨(X10 HB aE)⟩⟩
    ·rw[if_neg c10]at H;have AA:=nF c10;have AC:=nT c10;(first|rw[AA]|(simp only[q4g,q4q];rw[AA])|skip);by_cases aX:0≤aG
     ·rw[if_pos aX]at H;have AE:=dT aX;clear aX;by_cases aY:aG<(a0.size:Int)
      ·rw[if_pos aY]at H;have AF:=dT aY;clear aY;have H':=am H;clear H;have aZ:0≤(aG:Int):=q0a X16;have bA:aG<(a0.size:Int):=q0a X16;have bB:=q4d a0 aG;replace aZ:=q0c aZ;replace bA:=q0c bA;go_wp2
       go_meet
       case rel=>exact⟨_,(((bt a0 aG) != 34)),X7,H',⟨by have:=aM.out;first|omega|exact q0f _⟩,⟨(X9 aD)⟩,⟨(X10 HB aE)⟩⟩
      ·exact iN aY H
     ·exact iN aX H
   case rest=>
    clear aT;(try clear c1 p1 q1 hx1);(try clear p2 p2);(try clear c4 AB c5 AD);(try clear p6 p6);(try clear q6 q6);(try clear aK c8 c9 c10 AA AC aX AE aY AF);(try clear aZ aZ);(try clear bA bA);(try clear bB);obtain⟨kq,aW,rfl,HA,HJ8,aD,HB⟩:=hcut;cases kq with
    | zero=>exact absurd HA.out (by simp [q1l.j2])
    | succ kj8=>
     have H:=HA.out;clear HA;simp only[q1l.j2]at H;by_cases bC:aW=true
     ·subst bC;replace H:=tP H;replace H:=iJ5 H;obtain⟨rfl,rfl,rfl,rfl,rfl⟩:=H;have Z15:=bc3 aD;go_wp2
      refine bodyPost_ret (q2P rfl _ _ aC 61 zTt (0,0) _ rfl (bq0 aD) underlying61 rfl X4) rfl ?_;exact⟨X11,(X10 HB aE)⟩
     ·replace bC:=fI bC;subst bC;replace H:=tN H;by_cases bD:(wrap64 (aG - 1)) > 60
      ·rw[if_pos bD]at H;have AG:decide (60<(wrap64 (aG - 1)))=true:=q0p bD;clear bD;replace H:=iJ5 H;obtain⟨rfl,rfl,rfl,rfl,rfl⟩:=H;have Z17:=bc3 aD;go_wp2
       refine bodyPost_ret (q2P rfl _ _ aC 61 zTt (0,0) _ rfl (bq0 aD) underlying61 rfl X4) rfl ?_;exact⟨X11,(X10 HB aE)⟩
      ·rw[if_neg bD]at H;have AG:decide (60<(wrap64 (aG - 1)))=false:=q0z bD;clear bD;by_cases bE:1≤aG
       ·rw[if_pos bE]at H;have AH:=q0c bE;have AI:=dT bE;clear bE;by_cases bF:aG≤(a0.size:Int)
        ·rw[if_pos bF]at H;have AJ:=q0c bF;have AK:=dT bF;clear bF;replace H:=iJ5 H;obtain⟨rfl,rfl,rfl,rfl,rfl⟩:=H;have Z20:=bc3 aD;go_wp2
         refine bodyPost_ret (q2P rfl _ _ aC 61 #[iv 3,.string (a0.extract 1 (aG:Int).toNat),iv 0] (0,0) _ rfl (bq0 aD) underlying61 rfl X4) rfl ?_;exact⟨X11,(X10 HB aE)⟩
        ·exact iN bF H
       ·exact iN bE H

def q2n.l0:Nat→Int→Int→Option (Bool)
 | 0,_,_=>none
 | k+1,x0,x3=>if x3<21 then (if 0≤x3 then (if (bt (⟨#[123,125,40,41,91,93,47,59,58,126,64,61,94,44,46,124,43,42,60,62,45]⟩:q0b) x3)=x0 then (some true) else (q2n.l0 k x0 (wrap64 (x3+1)))) else (none)) else (some false)
def q2n.f (k:Nat) (a0:Int):Option (Bool):=q2n.l0 k a0 0
theorem q2n.mono_l:∀ k,(∀ y0 y1,LeO (q2n.l0 k y0 y1) (q2n.l0 (k+1) y0 y1))
 | 0=>fun _ _ r h=>by simp [q2n.l0]at h
 | k+1=>by
  have aA:=q2n.mono_l k
  ·intro y0 y1;unfold q2n.l0;exact X60
theorem q2n.mono:∀ a0 k,LeO (q2n.f k a0) (q2n.f (k+1) a0):=by
 intro a0 k;have aA:=q2n.mono_l k;unfold q2n.f;exact X60
theorem q2n.calls (k:Nat) (a0:Int) (r:Bool) (w:World) (h:q2n.f k a0=some r) :
  Calls prog 92 #[.int .u8 a0] w fun e w'=>e=.returned (.bool r)∧q3t w w':=by
 have H:=h;clear h;unfold q2n.f at H;have H':=am H;clear H;go_enter func92,ntmps92;go_wp2
 go_loopg [3] k (fun kq v3 w'=>∃ (aA:Int),v3=iv aA∧q0i (q2n.l0 kq a0 aA=some r)∧q0i (kq≤k)∧q3t w w')
 case atStart=>exact⟨(0),X7,H',⟨q0f _⟩,X18⟩
 case round=>
  clear H';obtain⟨aA,rfl,HA,aC,⟨m1,rfl⟩⟩:=hrel;cases gk with
  | zero=>exact absurd HA.out (by simp [q2n.l0])
  | succ k1=>
   have H:=HA.out;clear HA;simp only[q2n.l0]at H;by_cases c2:aA<21
   ·rw[if_pos c2]at H;have AA:=dT c2;clear c2;by_cases c3:0≤aA
    ·rw[if_pos c3]at H;have AD:=dT c3;clear c3;by_cases c5:(bt (⟨#[123,125,40,41,91,93,47,59,58,126,64,61,94,44,46,124,43,42,60,62,45]⟩:q0b) aA)=a0
     ·rw[if_pos c5]at H;have AB:=eT c5;have AC:=eF c5;clear c5;obtain rfl:=q0d H;have p4:0≤(aA:Int):=q0a X16;have q4:aA<(21:Int):=q0a X16;have aD:=q4d (⟨#[123,125,40,41,91,93,47,59,58,126,64,61,94,44,46,124,43,42,60,62,45]⟩:q0b) aA;replace p4:=q0c p4;replace q4:=q0c q4;go_wp2
      go_ret
      exact⟨X7,X18⟩
     ·rw[if_neg c5]at H;have AB:=nF c5;have AC:=nT c5;have H':=am H;clear H;have p4:0≤(aA:Int):=q0a X16;have q4:aA<(21:Int):=q0a X16;have aD:=q4d (⟨#[123,125,40,41,91,93,47,59,58,126,64,61,94,44,46,124,43,42,60,62,45]⟩:q0b) aA;replace p4:=q0c p4;replace q4:=q0c q4;go_wp2
      go_roundg k1
      case measure=>have:=aC.out;omega
      case rel=>exact⟨(wrap64 (aA+1)),X7,H',⟨by have:=aC.out;omega⟩,X18⟩
    ·exact iN c3 H
   ·rw[if_neg c2]at H;have AA:=dF c2;clear c2;obtain rfl:=q0d H;go_wp2
    go_ret
    exact⟨X7,X18⟩

def q2Z.f (k:Nat) (a0:q0b):Option (Int × q0b × Int × Int × Int):=(q1z.f k a0).bind fun aA=>(if aA > 0 then (if aA > 20 then (some (0,(⟨#[]⟩:q0b),0,0,3)) else (if 0≤aA then (if aA≤(a0.size:Int) then (some (1,a0.extract 0 (aA:Int).toNat,0,aA,0)) else (none)) else (none))) else ((q2g.f k a0).bind fun aC=>(if aC > 0 then (if aC > 6 then (some (0,(⟨#[]⟩:q0b),0,0,3)) else (if 0<(a0.size:Int) then (if (bt a0 0)=48 then (if aC > 1 then (some (0,(⟨#[]⟩:q0b),0,0,2)) else (if 0≤aC then (if aC≤(a0.size:Int) then (some (2,a0.extract 0 (aC:Int).toNat,0,aC,0)) else (none)) else (none))) else (if 0≤aC then (if aC≤(a0.size:Int) then (some (2,a0.extract 0 (aC:Int).toNat,0,aC,0)) else (none)) else (none))) else (none))) else (if 0<(a0.size:Int) then (if (bt a0 0)=34 then ((q1l.f k a0).bind fun aD=>(some (aD.1,aD.2.1,aD.2.2.1,aD.2.2.2.1,aD.2.2.2.2))) else ((q2n.f k (bt a0 0)).bind fun aE=>(if aE=true then (if 0≤1 then (if 1≤(a0.size:Int) then (some (4,a0.extract 0 1,0,1,0)) else (none)) else (none)) else (some (0,(⟨#[]⟩:q0b),0,0,2))))) else (none)))))
theorem q2Z.calls (k:Nat) (a0:q0b) (r1:Int) (r2:q0b) (r3:Int) (r4:Int) (r5:Int) (w:World) (h:q2Z.f k a0=some (r1,r2,r3,r4,r5)) :
  Calls prog 59 #[.string a0] w fun e w'=>e=.returned (.tuple #[.agg #[iv r1,.string r2,iv r3],iv r4,iv r5])∧Below w.heap.size w w':=by
 have hu61:=underlying61;have HB:=am (q0r w.heap.size w);have H:=h;clear h;unfold q2Z.f at H;obtain⟨aA,A2,H⟩:=oA H;(try dsimp only at H);by_cases c3:aA > 0
 ·rw[if_pos c3]at H;have AH:decide (0<aA)=true:=q0p c3;clear c3;by_cases c4:aA > 20
  ·rw[if_pos c4]at H;have AI:decide (20<aA)=true:=q0p c4;clear c4;replace H:=iJ5 H;obtain⟨rfl,rfl,rfl,rfl,rfl⟩:=H;go_enter func59,ntmps59;go_wp2_with (first|((with_reducible refine gd 2 ?_);refine be 2 zTt 61 ?_;intro aD hg w5 hbox hb;have aE:=am (hbox);have aG:=sG (w:=w) hg X6;have aH:=sG (w:=w) hg X6;replace HB:=bS X6 hb;clear hb hbox hg)|((with_reducible refine gc 89 ?_);refine gCc (some 8) func89 (q1z.calls k a0 aA _ A2.out) ?_;rintro w' ⟨nd,rfl⟩;(try (rw[q3c w5];generalize hq_:World.drewN w5 _=w5;replace aE:q0i (w5.heap[aD]?=some (.cells zTt 61 (0,0))):=⟨X100⟩;replace HB:q0i (Below w.heap.size w w5):=⟨X101⟩;clear hq_));have Z6:=bc3 aE))
   refine bodyPost_ret (q2P rfl _ _ aD 61 zTt (0,0) _ rfl (bq0 aE) underlying61 rfl X4) rfl ?_;exact⟨X11,(X10 HB aH)⟩
  ·rw[if_neg c4]at H;have AI:decide (20<aA)=false:=q0z c4;clear c4;by_cases c7:0≤aA
   ·rw[if_pos c7]at H;have AZ:=q0c c7;have BA:=dT c7;clear c7;by_cases c8:aA≤(a0.size:Int)
    ·rw[if_pos c8]at H;have BB:=q0c c8;have BC:=dT c8;clear c8;replace H:=iJ5 H;obtain⟨rfl,rfl,rfl,rfl,rfl⟩:=H;go_enter func59,ntmps59;go_wp2_with (first|((with_reducible refine gd 2 ?_);refine be 2 zTt 61 ?_;intro aD hg w9 hbox hb;have aE:=am (hbox);have aG:=sG (w:=w) hg X6;have aH:=sG (w:=w) hg X6;replace HB:=bS X6 hb;clear hb hbox hg)|((with_reducible refine gc 89 ?_);refine gCc (some 8) func89 (q1z.calls k a0 aA _ A2.out) ?_;rintro w' ⟨nd,rfl⟩;(try (rw[q3c w9];generalize hq_:World.drewN w9 _=w9;replace aE:q0i (w9.heap[aD]?=some (.cells zTt 61 (0,0))):=⟨X100⟩;replace HB:q0i (Below w.heap.size w w9):=⟨X101⟩;clear hq_));have Z10:=bc3 aE))
     refine bodyPost_ret (q2P rfl _ _ aD 61 #[iv 1,.string (a0.extract 0 (aA:Int).toNat),iv 0] (0,0) _ rfl (bq0 aE) underlying61 rfl X4) rfl ?_;exact⟨X11,(X10 HB aH)⟩
    ·exact iN c8 H
   ·exact iN c7 H
 ·rw[if_neg c3]at H;have AH:decide (0<aA)=false:=q0z c3;clear c3;obtain⟨aI,aK,H⟩:=oA H;(try dsimp only at H);by_cases aM:aI > 0
  ·rw[if_pos aM]at H;have AA:decide (0<aI)=true:=q0p aM;clear aM;by_cases aQ:aI > 6
   ·rw[if_pos aQ]at H;have AB:decide (6<aI)=true:=q0p aQ;clear aQ;replace H:=iJ5 H;obtain⟨rfl,rfl,rfl,rfl,rfl⟩:=H;go_enter func59,ntmps59;go_wp2_with (first|((with_reducible refine gd 2 ?_);refine be 2 zTt 61 ?_;intro aD hg aT hbox hb;have aE:=am (hbox);have aG:=sG (w:=w) hg X6;have aH:=sG (w:=w) hg X6;replace HB:=bS X6 hb;clear hb hbox hg)|((with_reducible refine gc 89 ?_);refine gCc (some 8) func89 (q1z.calls k a0 aA _ A2.out) ?_;rintro w' ⟨nd,rfl⟩;(try (rw[q3c aT];generalize hq_:World.drewN aT _=aT;replace aE:q0i (aT.heap[aD]?=some (.cells zTt 61 (0,0))):=⟨X100⟩;replace HB:q0i (Below w.heap.size w aT):=⟨X101⟩;clear hq_)))|((with_reducible refine gc 90 ?_);refine gCc (some 20) func90 (q2g.calls k a0 aI _ aK.out) ?_;rintro w' ⟨nd,rfl⟩;(try (rw[q3c aT];generalize hq_:World.drewN aT _=aT;replace aE:q0i (aT.heap[aD]?=some (.cells zTt 61 (0,0))):=⟨X100⟩;replace HB:q0i (Below w.heap.size w aT):=⟨X101⟩;clear hq_));have Z15:=bc3 aE))
    refine bodyPost_ret (q2P rfl _ _ aD 61 zTt (0,0) _ rfl (bq0 aE) underlying61 rfl X4) rfl ?_;exact⟨X11,(X10 HB aH)⟩
   ·rw[if_neg aQ]at H;have AB:decide (6<aI)=false:=q0z aQ;clear aQ;by_cases aU:0<(a0.size:Int)
    ·rw[if_pos aU]at H;have AJ:=dT aU;have AK:decide (0<a0.size)=true:=q0p (by omega);clear aU;by_cases aW:(bt a0 0)=48
     ·rw[if_pos aW]at H;have AC:=eT aW;have AD:=eF aW;clear aW;by_cases aX:aI > 1
      ·rw[if_pos aX]at H;have AE:decide (1<aI)=true:=q0p aX;clear aX;replace H:=iJ5 H;obtain⟨rfl,rfl,rfl,rfl,rfl⟩:=H;go_enter func59,ntmps59;go_wp2_with (first|((with_reducible refine gd 2 ?_);refine be 2 zTt 61 ?_;intro aD hg aY hbox hb;have aE:=am (hbox);have aG:=sG (w:=w) hg X6;have aH:=sG (w:=w) hg X6;replace HB:=bS X6 hb;clear hb hbox hg)|((with_reducible refine gc 89 ?_);refine gCc (some 8) func89 (q1z.calls k a0 aA _ A2.out) ?_;rintro w' ⟨nd,rfl⟩;(try (rw[q3c aY];generalize hq_:World.drewN aY _=aY;replace aE:q0i (aY.heap[aD]?=some (.cells zTt 61 (0,0))):=⟨X100⟩;replace HB:q0i (Below w.heap.size w aY):=⟨X101⟩;clear hq_)))|((with_reducible refine gc 90 ?_);refine gCc (some 20) func90 (q2g.calls k a0 aI _ aK.out) ?_;rintro w' ⟨nd,rfl⟩;(try (rw[q3c aY];generalize hq_:World.drewN aY _=aY;replace aE:q0i (aY.heap[aD]?=some (.cells zTt 61 (0,0))):=⟨X100⟩;replace HB:q0i (Below w.heap.size w aY):=⟨X101⟩;clear hq_));have aZ:0≤(0:Int):=(by omega);have bA:0<a0.size:=(by have:(0:Int)<(a0.size:Int):=q0a X16;omega);have bB:∀ h:0<a0.size,((a0[0]'h).toNat:Int)=bt a0 0:=q4d a0 0;clear aZ;have bC:(0<(a0.size:Int))=True:=q0c (q0a X16);replace bA:=q0c bA;have Z21:=bc3 aE))
       refine bodyPost_ret (q2P rfl _ _ aD 61 zTt (0,0) _ rfl (bq0 aE) underlying61 rfl X4) rfl ?_;exact⟨X11,(X10 HB aH)⟩
      ·rw[if_neg aX]at H;have AE:decide (1<aI)=false:=q0z aX;clear aX;by_cases bD:0≤aI
       ·rw[if_pos bD]at H;have AL:=q0c bD;have AM:=dT bD;clear bD;by_cases bE:aI≤(a0.size:Int)
        ·rw[if_pos bE]at H;have AN:=q0c bE;have AO:=dT bE;clear bE;replace H:=iJ5 H;obtain⟨rfl,rfl,rfl,rfl,rfl⟩:=H;go_enter func59,ntmps59;go_wp2_with (first|((with_reducible refine gd 2 ?_);refine be 2 zTt 61 ?_;intro aD hg bF hbox hb;have aE:=am (hbox);have aG:=sG (w:=w) hg X6;have aH:=sG (w:=w) hg X6;replace HB:=bS X6 hb;clear hb hbox hg)|((with_reducible refine gc 89 ?_);refine gCc (some 8) func89 (q1z.calls k a0 aA _ A2.out) ?_;rintro w' ⟨nd,rfl⟩;(try (rw[q3c bF];generalize hq_:World.drewN bF _=bF;replace aE:q0i (bF.heap[aD]?=some (.cells zTt 61 (0,0))):=⟨X100⟩;replace HB:q0i (Below w.heap.size w bF):=⟨X101⟩;clear hq_)))|((with_reducible refine gc 90 ?_);refine gCc (some 20) func90 (q2g.calls k a0 aI _ aK.out) ?_;rintro w' ⟨nd,rfl⟩;(try (rw[q3c bF];generalize hq_:World.drewN bF _=bF;replace aE:q0i (bF.heap[aD]?=some (.cells zTt 61 (0,0))):=⟨X100⟩;replace HB:q0i (Below w.heap.size w bF):=⟨X101⟩;clear hq_));have aZ:0≤(0:Int):=(by omega);have bA:0<a0.size:=(by have:(0:Int)<(a0.size:Int):=q0a X16;omega);have bB:∀ h:0<a0.size,((a0[0]'h).toNat:Int)=bt a0 0:=q4d a0 0;clear aZ;have bC:(0<(a0.size:Int))=True:=q0c (q0a X16);replace bA:=q0c bA;have Z25:=bc3 aE))
         refine bodyPost_ret (q2P rfl _ _ aD 61 #[iv 2,.string (a0.extract 0 (aI:Int).toNat),iv 0] (0,0) _ rfl (bq0 aE) underlying61 rfl X4) rfl ?_;exact⟨X11,(X10 HB aH)⟩
        ·exact iN bE H
       ·exact iN bD H
     ·rw[if_neg aW]at H;have AC:=nF aW;have AD:=nT aW;by_cases bG:0≤aI
      ·rw[if_pos bG]at H;have AP:=q0c bG;have AQ:=dT bG;clear bG;by_cases bH:aI≤(a0.size:Int)
       ·rw[if_pos bH]at H;have AR:=q0c bH;have AS:=dT bH;clear bH;replace H:=iJ5 H;obtain⟨rfl,rfl,rfl,rfl,rfl⟩:=H;go_enter func59,ntmps59;go_wp2_with (first|((with_reducible refine gd 2 ?_);refine be 2 zTt 61 ?_;intro aD hg bI hbox hb;have aE:=am (hbox);have aG:=sG (w:=w) hg X6;have aH:=sG (w:=w) hg X6;replace HB:=bS X6 hb;clear hb hbox hg)|((with_reducible refine gc 89 ?_);refine gCc (some 8) func89 (q1z.calls k a0 aA _ A2.out) ?_;rintro w' ⟨nd,rfl⟩;(try (rw[q3c bI];generalize hq_:World.drewN bI _=bI;replace aE:q0i (bI.heap[aD]?=some (.cells zTt 61 (0,0))):=⟨X100⟩;replace HB:q0i (Below w.heap.size w bI):=⟨X101⟩;clear hq_)))|((with_reducible refine gc 90 ?_);refine gCc (some 20) func90 (q2g.calls k a0 aI _ aK.out) ?_;rintro w' ⟨nd,rfl⟩;(try (rw[q3c bI];generalize hq_:World.drewN bI _=bI;replace aE:q0i (bI.heap[aD]?=some (.cells zTt 61 (0,0))):=⟨X100⟩;replace HB:q0i (Below w.heap.size w bI):=⟨X101⟩;clear hq_));have aZ:0≤(0:Int):=(by omega);have bA:0<a0.size:=(by have:(0:Int)<(a0.size:Int):=q0a X16;omega);have bB:∀ h:0<a0.size,((a0[0]'h).toNat:Int)=bt a0 0:=q4d a0 0;clear aZ;have bC:(0<(a0.size:Int))=True:=q0c (q0a X16);replace bA:=q0c bA;have Z29:=bc3 aE))
        refine bodyPost_ret (q2P rfl _ _ aD 61 #[iv 2,.string (a0.extract 0 (aI:Int).toNat),iv 0] (0,0) _ rfl (bq0 aE) underlying61 rfl X4) rfl ?_;exact⟨X11,(X10 HB aH)⟩
       ·exact iN bH H
      ·exact iN bG H
    ·exact iN aU H
  ·rw[if_neg aM]at H;have AA:decide (0<aI)=false:=q0z aM;clear aM;by_cases bJ:0<(a0.size:Int)
   ·rw[if_pos bJ]at H;have AT:=dT bJ;have AU:decide (0<a0.size)=true:=q0p (by omega);clear bJ;by_cases bK:(bt a0 0)=34
    ·rw[if_pos bK]at H;have AF:=eT bK;have AG:=eF bK;clear bK;obtain⟨⟨bL,bM,bN,bO,bP⟩,bR,H⟩:=oA H;(try dsimp only at H);replace H:=iJ5 H;obtain⟨rfl,rfl,rfl,rfl,rfl⟩:=H;go_enter func59,ntmps59;go_wp2_with (first|((with_reducible refine gd 2 ?_);refine be 2 zTt 61 ?_;intro aD hg bT hbox hb;have aE:=am (hbox);have aG:=sG (w:=w) hg X6;have aH:=sG (w:=w) hg X6;replace HB:=bS X6 hb;clear hb hbox hg)|((with_reducible refine gc 89 ?_);refine gCc (some 8) func89 (q1z.calls k a0 aA _ A2.out) ?_;rintro w' ⟨nd,rfl⟩;(try (rw[q3c bT];generalize hq_:World.drewN bT _=bT;replace aE:q0i (bT.heap[aD]?=some (.cells zTt 61 (0,0))):=⟨X100⟩;replace HB:q0i (Below w.heap.size w bT):=⟨X101⟩;clear hq_)))|((with_reducible refine gc 90 ?_);refine gCc (some 20) func90 (q2g.calls k a0 aI _ aK.out) ?_;rintro w' ⟨nd,rfl⟩;(try (rw[q3c bT];generalize hq_:World.drewN bT _=bT;replace aE:q0i (bT.heap[aD]?=some (.cells zTt 61 (0,0))):=⟨X100⟩;replace HB:q0i (Below w.heap.size w bT):=⟨X101⟩;clear hq_));have bU:0≤(0:Int):=(by omega);have bV:0<a0.size:=(by have:(0:Int)<(a0.size:Int):=q0a X16;omega);have bW:∀ h:0<a0.size,((a0[0]'h).toNat:Int)=bt a0 0:=q4d a0 0;clear bU;have bX:(0<(a0.size:Int))=True:=q0c (q0a X16);replace bV:=q0c bV)|((with_reducible refine gc 91 ?_);refine gCc (some 43) func91 (q1l.calls k a0 bL bM bN bO bP _ bR.out) ?_;rintro w35 hb;replace aE:=kB aE hb;replace HB:=bS (X10 HB aH) hb;clear hb;have Z36:=bc3 aE))
     refine bodyPost_ret (q2P rfl _ _ aD 61 #[iv bL,.string bM,iv bN] (0,0) _ rfl (bq0 aE) underlying61 rfl X4) rfl ?_;exact⟨X11,(X10 HB aH)⟩
    ·rw[if_neg bK]at H;have AF:=nF bK;have AG:=nT bK;obtain⟨bY,cA,H⟩:=oA H;(try dsimp only at H);by_cases cC:bY=true
     ·subst cC;replace H:=tP H;by_cases cD:0≤1
      ·rw[if_pos cD]at H;have AV:=q0c cD;have AW:=dT cD;clear cD;by_cases cE:1≤(a0.size:Int)
       ·rw[if_pos cE]at H;have AX:=q0c cE;have AY:=dT cE;clear cE;replace H:=iJ5 H;obtain⟨rfl,rfl,rfl,rfl,rfl⟩:=H;go_enter func59,ntmps59;go_wp2_with (first|((with_reducible refine gd 2 ?_);refine be 2 zTt 61 ?_;intro aD hg cF hbox hb;have aE:=am (hbox);have aG:=sG (w:=w) hg X6;have aH:=sG (w:=w) hg X6;replace HB:=bS X6 hb;clear hb hbox hg)|((with_reducible refine gc 89 ?_);refine gCc (some 8) func89 (q1z.calls k a0 aA _ A2.out) ?_;rintro w' ⟨nd,rfl⟩;(try (rw[q3c cF];generalize hq_:World.drewN cF _=cF;replace aE:q0i (cF.heap[aD]?=some (.cells zTt 61 (0,0))):=⟨X100⟩;replace HB:q0i (Below w.heap.size w cF):=⟨X101⟩;clear hq_)))|((with_reducible refine gc 90 ?_);refine gCc (some 20) func90 (q2g.calls k a0 aI _ aK.out) ?_;rintro w' ⟨nd,rfl⟩;(try (rw[q3c cF];generalize hq_:World.drewN cF _=cF;replace aE:q0i (cF.heap[aD]?=some (.cells zTt 61 (0,0))):=⟨X100⟩;replace HB:q0i (Below w.heap.size w cF):=⟨X101⟩;clear hq_));have bU:0≤(0:Int):=(by omega);have bV:0<a0.size:=(by have:(0:Int)<(a0.size:Int):=q0a X16;omega);have bW:∀ h:0<a0.size,((a0[0]'h).toNat:Int)=bt a0 0:=q4d a0 0;clear bU;have bX:(0<(a0.size:Int))=True:=q0c (q0a X16);replace bV:=q0c bV;have cG:0≤(0:Int):=(by omega);have cH:0<a0.size:=(by have:(0:Int)<(a0.size:Int):=q0a X16;omega);have cI:∀ h:0<a0.size,((a0[0]'h).toNat:Int)=bt a0 0:=q4d a0 0;clear cG;have cJ:(0<(a0.size:Int))=True:=q0c (q0a X16);replace cH:=q0c cH)|((with_reducible refine gc 92 ?_);refine gCc (some 49) func92 (q2n.calls k (bt a0 0) true _ cA.out) ?_;rintro w' ⟨nd,rfl⟩;(try (rw[q3c cF];generalize hq_:World.drewN cF _=cF;replace aE:q0i (cF.heap[aD]?=some (.cells zTt 61 (0,0))):=⟨X100⟩;replace HB:q0i (Below w.heap.size w cF):=⟨X101⟩;clear hq_));have Z43:=bc3 aE))
        refine bodyPost_ret (q2P rfl _ _ aD 61 #[iv 4,.string (a0.extract 0 1),iv 0] (0,0) _ rfl (bq0 aE) underlying61 rfl X4) rfl ?_;exact⟨X11,(X10 HB aH)⟩
       ·exact iN cE H
      ·exact iN cD H
     ·replace cC:=fI cC;subst cC;replace H:=tN H;replace H:=iJ5 H;obtain⟨rfl,rfl,rfl,rfl,rfl⟩:=H;go_enter func59,ntmps59;go_wp2_with (first|((with_reducible refine gd 2 ?_);refine be 2 zTt 61 ?_;intro aD hg cK hbox hb;have aE:=am (hbox);have aG:=sG (w:=w) hg X6;have aH:=sG (w:=w) hg X6;replace HB:=bS X6 hb;clear hb hbox hg)|((with_reducible refine gc 89 ?_);refine gCc (some 8) func89 (q1z.calls k a0 aA _ A2.out) ?_;rintro w' ⟨nd,rfl⟩;(try (rw[q3c cK];generalize hq_:World.drewN cK _=cK;replace aE:q0i (cK.heap[aD]?=some (.cells zTt 61 (0,0))):=⟨X100⟩;replace HB:q0i (Below w.heap.size w cK):=⟨X101⟩;clear hq_)))|((with_reducible refine gc 90 ?_);refine gCc (some 20) func90 (q2g.calls k a0 aI _ aK.out) ?_;rintro w' ⟨nd,rfl⟩;(try (rw[q3c cK];generalize hq_:World.drewN cK _=cK;replace aE:q0i (cK.heap[aD]?=some (.cells zTt 61 (0,0))):=⟨X100⟩;replace HB:q0i (Below w.heap.size w cK):=⟨X101⟩;clear hq_));have bU:0≤(0:Int):=(by omega);have bV:0<a0.size:=(by have:(0:Int)<(a0.size:Int):=q0a X16;omega);have bW:∀ h:0<a0.size,((a0[0]'h).toNat:Int)=bt a0 0:=q4d a0 0;clear bU;have bX:(0<(a0.size:Int))=True:=q0c (q0a X16);replace bV:=q0c bV;have cG:0≤(0:Int):=(by omega);have cH:0<a0.size:=(by have:(0:Int)<(a0.size:Int):=q0a X16;omega);have cI:∀ h:0<a0.size,((a0[0]'h).toNat:Int)=bt a0 0:=q4d a0 0;clear cG;have cJ:(0<(a0.size:Int))=True:=q0c (q0a X16);replace cH:=q0c cH)|((with_reducible refine gc 92 ?_);refine gCc (some 49) func92 (q2n.calls k (bt a0 0) false _ cA.out) ?_;rintro w' ⟨nd,rfl⟩;(try (rw[q3c cK];generalize hq_:World.drewN cK _=cK;replace aE:q0i (cK.heap[aD]?=some (.cells zTt 61 (0,0))):=⟨X100⟩;replace HB:q0i (Below w.heap.size w cK):=⟨X101⟩;clear hq_));have Z45:=bc3 aE))
      refine bodyPost_ret (q2P rfl _ _ aD 61 zTt (0,0) _ rfl (bq0 aE) underlying61 rfl X4) rfl ?_;exact⟨X11,(X10 HB aH)⟩
   ·exact iN bJ H

def q2E.l0:Nat→q0b→List (S61)→Int→Int→Option ((List (S61)) × Int × Int)
 | 0,_,_,_,_=>none
 | k+1,x0,x5,x6,x7=>if 0≤x7 then (if x7≤(x0.size:Int) then ((q1e.f k (x0.extract (x7:Int).toNat x0.size)).bind fun aA=>(if x7≤(wrap64 (x7+aA)) then (if (wrap64 (x7+aA))≤(x0.size:Int) then ((q2M.f k (x0.extract (x7:Int).toNat ((wrap64 (x7+aA)):Int).toNat)).bind fun aC=>(if (wrap64 (x7+aA))=(x0.size:Int) then (some (x5,0,0)) else (if 0≤(wrap64 (x7+aA)) then ((q2Z.f k (x0.extract ((wrap64 (x7+aA)):Int).toNat x0.size)).bind fun aD=>(if aD.2.2.2.2=0 then (if x5.length<4398046511104 then (q2E.l0 k x0 (x5++[(⟨aD.1,aD.2.1,wrap64 (x6+aC)⟩:S61)]) (wrap64 (x6+aC)) (wrap64 ((wrap64 (x7+aA))+aD.2.2.2.1))) else (none)) else (some (([]:List (S61)),wrap64 (x6+aC),aD.2.2.2.2)))) else (none)))) else (none)) else (none))) else (none)) else (none)
def q2E.f (k:Nat) (a0:q0b):Option ((List (S61)) × Int × Int):=if (a0.size:Int) > 20000 then (some (([]:List (S61)),0,3)) else (q2E.l0 k a0 ([]:List (S61)) 1 0)
theorem q2E.calls (k:Nat) (a0:q0b) (r1:List (S61)) (r2:Int) (r3:Int) (w:World) (h:q2E.f k a0=some (r1,r2,r3)) :
  Calls prog 27 #[.string a0] w fun e w'=>∃ aA:Value,e=.returned (.tuple #[aA,iv r2,iv r3])∧Kd.R k61 61 w' w.heap.size (fun _=>True) aA r1∧Below w.heap.size w w':=by
 have hu61:=underlying61;have HB:=am (q0r w.heap.size w);have H:=h;clear h;unfold q2E.f at H;by_cases c2:(a0.size:Int) > 20000
 ·rw[if_pos c2]at H;have AC:decide (20000<(a0.size:Int))=true:=q0p c2;have AD:decide (20000<a0.size)=true:=q0p (by omega);clear c2;replace H:=iJ3 H;obtain⟨rfl,rfl,rfl⟩:=H;go_enter func27,ntmps27;go_wp2
  go_ret3
  exact⟨_,X11,X104,X6⟩
 ·rw[if_neg c2]at H;have AC:decide (20000<(a0.size:Int))=false:=q0z c2;have AD:decide (20000<a0.size)=false:=q0z (by omega);clear c2;have H':=am H;clear H;go_enter func27,ntmps27;go_wp2
  go_loopg [5,6,7] k (fun kq v5 v6 v7 w'=>∃ (aC:List (S61)) (aD:Int) (aE:Int),v6=iv aD∧v7=iv aE∧q0i (q2E.l0 kq a0 aC aD aE=some (r1,r2,r3))∧q0i (kq≤k)∧q0i (Kd.R k61 61 w' w.heap.size (fun _=>True) v5 aC)∧q0i (Below w.heap.size w w'))
  case atStart=>exact⟨(([]:List (S61))),(1),(0),X7,X7,H',⟨q0f _⟩,⟨X104⟩,⟨X6⟩⟩
  case round=>
   clear H';(try clear c2 AC AD p2);obtain⟨aC,aD,aE,rfl,rfl,HA,aG,aH,HB⟩:=hrel;cases gk with
   | zero=>exact absurd HA.out (by simp [q2E.l0])
   | succ k1=>
    have H:=HA.out;clear HA;simp only[q2E.l0]at H;by_cases c3:0≤aE
    ·rw[if_pos c3]at H;have AN:=q0c c3;have AO:=dT c3;clear c3;by_cases c4:aE≤(a0.size:Int)
     ·rw[if_pos c4]at H;have AP:=q0c c4;have AQ:=dT c4;clear c4;obtain⟨aI,A5,H⟩:=oA H;(try dsimp only at H);have AR:=q0c (q0a X16:0≤aE);by_cases c7:aE≤(wrap64 (aE+aI))
      ·rw[if_pos c7]at H;have AG:=q0c c7;have AH:=dT c7;by_cases c8:(wrap64 (aE+aI))≤(a0.size:Int)
       ·rw[if_pos c8]at H;have AI:=q0c c8;have AJ:=dT c8;obtain⟨aK,A9,H⟩:=oA H;(try dsimp only at H);by_cases c10:(wrap64 (aE+aI))=(a0.size:Int)
        ·rw[if_pos c10]at H;have AA:=eT c10;have AB:=eF c10;clear c10;replace H:=iJ3 H;obtain⟨rfl,rfl,rfl⟩:=H;go_wp2_with (first|((with_reducible refine gc 57 ?_);refine gCc (some 17) func57 (q1e.calls k1 (a0.extract (aE:Int).toNat a0.size) aI _ A5.out) ?_;rintro w' ⟨nd,rfl⟩)|((with_reducible refine gc 58 ?_);refine gCc (some 25) func58 (q2M.calls k1 (a0.extract (aE:Int).toNat ((wrap64 (aE+aI)):Int).toNat) aK _ A9.out) ?_;rintro w' ⟨nd,rfl⟩))
         go_ret3
         exact⟨_,X11,aR aH.out,X6⟩
        ·rw[if_neg c10]at H;have AA:=nF c10;have AB:=nT c10;obtain⟨aQ,aT⟩:∃ j_:Int,(wrap64 (aE+aI))=j_:=⟨_,rfl⟩;replace H:(if 0≤(aQ) then ((q2Z.f k1 (a0.extract ((aQ):Int).toNat a0.size)).bind fun aU=>(if aU.2.2.2.2=0 then (if aC.length<4398046511104 then (q2E.l0 k1 a0 (aC++[(⟨aU.1,aU.2.1,wrap64 (aD+aK)⟩:S61)]) (wrap64 (aD+aK)) (wrap64 ((aQ)+aU.2.2.2.1))) else (none)) else (some (([]:List (S61)),wrap64 (aD+aK),aU.2.2.2.2)))) else (none))=some (r1,r2,r3):=by first|(rw[aT]at H;exact H)|(simp only[aT]at H ⊢;exact H)
         (try rw[aT]at AG);(try rw[aT]at AH);(try rw[aT]at c7);(try rw[aT]at AI);(try rw[aT]at AJ);(try rw[aT]at c8);(try rw[aT]at AA);(try rw[aT]at AB);(try rw[aT]at A5);(try rw[aT]at A9);have hji11w:(IntKind.i64.wrap (aE+aI))=aQ:=(q4g _).trans aT;by_cases aW:0≤(aQ)
         ·rw[if_pos aW]at H;have AK:=q0c aW;have AL:=dT aW;clear aW;have AM:=q0c (q0a X16:(aQ)≤(a0.size:Int));obtain⟨⟨aX,aY,aZ,bA,bB⟩,bD,H⟩:=oA H;(try dsimp only at H);by_cases bE:bB=0
          ·rw[if_pos bE]at H;have AE:=eT bE;have AF:=eF bE;clear bE;by_cases bF:aC.length<4398046511104
           ·rw[if_pos bF]at H;have bG:=am bF;clear bF;obtain⟨bH,bI⟩:∃ y_:List (S61),y_=(aC++[(⟨aX,aY,wrap64 (aD+aK)⟩:S61)]):=⟨_,rfl⟩;rw[← bI]at H;(try rw[oG bH]at H)
            have bK:=am bI;clear bI;have H':=am H;clear H;go_wp2_with (first|((with_reducible refine gc 57 ?_);refine gCc (some 17) func57 (q1e.calls k1 (a0.extract (aE:Int).toNat a0.size) aI _ A5.out) ?_;rintro w' ⟨nd,rfl⟩;(try (rw[q3c wr];generalize hq_:World.drewN wr _=wr;replace aH:q0i (Kd.R k61 61 wr w.heap.size (fun _=>True) u5 aC):=⟨X105⟩;replace HB:q0i (Below w.heap.size w wr):=⟨X106⟩;clear hq_)))|((with_reducible refine gc 58 ?_);refine q5A (some 25) rfl rfl func58 X4 rfl #[.string (a0.extract (aE:Int).toNat ((aQ):Int).toNat)] rfl X107 ?_;(with_reducible refine(q2M.calls k1 (a0.extract (aE:Int).toNat ((aQ):Int).toNat) aK _ A9.out).mono ?_);rintro e w' ⟨rfl,⟨nd,rfl⟩⟩;refine⟨_,rfl,?_⟩;(try (rw[q3c wr];generalize hq_:World.drewN wr _=wr;replace aH:q0i (Kd.R k61 61 wr w.heap.size (fun _=>True) u5 aC):=⟨X105⟩;replace HB:q0i (Below w.heap.size w wr):=⟨X106⟩;clear hq_)))|((with_reducible refine gc 59 ?_);refine q5A (some 39) rfl rfl func59 X4 rfl #[.string (a0.extract ((aQ):Int).toNat a0.size)] rfl X107 ?_;(with_reducible refine(q2Z.calls k1 (a0.extract ((aQ):Int).toNat a0.size) aX aY aZ bA bB _ bD.out).mono ?_);rintro e w17 ⟨rfl,hb⟩;refine⟨_,rfl,?_⟩;replace aH:=am (q1t (aR aH.out) hb);replace HB:=bS X6 hb;clear hb)|((with_reducible refine gd 9 ?_);refine be 9 zTt 61 ?_;intro bL hg w18 hbox hb;replace aH:=am (q1t (q3U (aR aH.out) bL (q0w hg.symm)) hb);have bM:=am (hbox);have bN:=sG (w:=w) hg X6;have bO:=sG (w:=w) hg X6;replace HB:=bS X6 hb;clear hb hbox hg;have Z19:=bc3 bM)|((with_reducible refine q2S (b:=.append) (xs:=#[.tmp 49,.tmp 51]) rfl ?_);at_builtin;refine Kd.R_append k61 (w0:=w) w.heap.size rfl (.tmp 49) (.tmp 51) 49 61 (.agg #[(iv 0),(.string ⟨#[]⟩),(iv 0)]) 32 rfl underlying49 v2M rfl (by decide) (by omega) u5 aC (⟨aX,aY,wrap64 (aD+aK)⟩:S61) [iv aX,.string aY,iv (wrap64 (aD+aK))] (fun k_=>k_≠bL) (fun _=>False) rfl X70 ?aP (fun _ hk=>hk.elim) ?aF ?aO ?aB ?aS ?aL ?_;(case aP=>exact v1i _ _ _ (⟨aX,aY,wrap64 (aD+aK)⟩:S61));(case aB=>exact(X10 HB bO));(case aF=>exact(fun k_ hk=>q0u (g:=bL) (o:=.cells #[iv aX,.string aY,iv (wrap64 (aD+aK))] 61 (0,0)) X109 k_ hk));(case aO=>exact(aR (q0j (fxR bL 2 (iv (wrap64 (aD+aK))) (f3R bL (iv aZ) (.string aY) (iv aX) aH.out oKk) oKk) (fun _ hk=>hk.2))));(case aS=>exact(q1H (X10 HB bO)));(case aL=>have:=bG.out;omega);intro v758 w20 ho hb hg hat;rw[← bK.out]at ho;replace bM:=am (q4T (g:=bL) (o:=.cells #[iv aX,.string aY,iv (wrap64 (aD+aK))] 61 (0,0)) X109 hg (Kd.R_away aH.out (fun _ hk=>hk.2)));replace HB:=am (hb);have bP:=am (ho);clear aH;clear ho hb hg hat))
            go_roundg k1
            case measure=>have:=aG.out;omega
            case rel=>exact⟨(bH),(wrap64 (aD+aK)),(wrap64 ((aQ)+bA)),X7,(by first|rfl|(simp;done)|(simp only[← aT] <;> (first|rfl|simp))|(simp [*];done)),H',⟨by have:=aG.out;omega⟩,⟨aR (q0j bP.out (fun _ hk=>trivial))⟩,⟨(X10 HB bO)⟩⟩
           ·exact iN bF H
          ·rw[if_neg bE]at H;have AE:=nF bE;have AF:=nT bE;replace H:=iJ3 H;obtain⟨rfl,rfl,rfl⟩:=H;go_wp2_with (first|((with_reducible refine gc 57 ?_);refine gCc (some 17) func57 (q1e.calls k1 (a0.extract (aE:Int).toNat a0.size) aI _ A5.out) ?_;rintro w' ⟨nd,rfl⟩;(try (rw[q3c wr];generalize hq_:World.drewN wr _=wr;replace aH:q0i (Kd.R k61 61 wr w.heap.size (fun _=>True) u5 aC):=⟨X105⟩;replace HB:q0i (Below w.heap.size w wr):=⟨X106⟩;clear hq_)))|((with_reducible refine gc 58 ?_);refine q5A (some 25) rfl rfl func58 X4 rfl #[.string (a0.extract (aE:Int).toNat ((aQ):Int).toNat)] rfl X107 ?_;(with_reducible refine(q2M.calls k1 (a0.extract (aE:Int).toNat ((aQ):Int).toNat) aK _ A9.out).mono ?_);rintro e w' ⟨rfl,⟨nd,rfl⟩⟩;refine⟨_,rfl,?_⟩;(try (rw[q3c wr];generalize hq_:World.drewN wr _=wr;replace aH:q0i (Kd.R k61 61 wr w.heap.size (fun _=>True) u5 aC):=⟨X105⟩;replace HB:q0i (Below w.heap.size w wr):=⟨X106⟩;clear hq_)))|((with_reducible refine gc 59 ?_);refine q5A (some 39) rfl rfl func59 X4 rfl #[.string (a0.extract ((aQ):Int).toNat a0.size)] rfl X107 ?_;(with_reducible refine(q2Z.calls k1 (a0.extract ((aQ):Int).toNat a0.size) aX aY aZ bA bB _ bD.out).mono ?_);rintro e w21 ⟨rfl,hb⟩;refine⟨_,rfl,?_⟩;replace aH:=am (q1t (aR aH.out) hb);replace HB:=bS X6 hb;clear hb)|((with_reducible refine gd 9 ?_);refine be 9 zTt 61 ?_;intro bL hg w22 hbox hb;replace aH:=am (q1t (q3U (aR aH.out) bL (q0w hg.symm)) hb);have bM:=am (hbox);have bN:=sG (w:=w) hg X6;have bO:=sG (w:=w) hg X6;replace HB:=bS X6 hb;clear hb hbox hg;have Z23:=bc3 bM))
           go_ret3
           exact⟨_,by first|rfl|(simp [q5p,q5q] <;> rfl)|(simp only[← aT];first|rfl|(simp [q5p,q5q] <;> rfl))|(simp [*,q5p,q5q] <;> rfl),X104,(X10 HB bO)⟩
         ·exact iN aW H
       ·exact iN c8 H
      ·exact iN c7 H
     ·exact iN c4 H
    ·exact iN c3 H
end Go.Proofs.YtmffocankommaaaGreatDoor.P
