/- Small words of the printed walks: what of them this claim names. No condition. -/
import Derived.Test.YtmffocankommaaaGreatDoorDYAl
import Derived.Test.YtmffocankommaaaGreatDoorDYWords
import Derived.Test.YtmffocankommaaaGreatDoorDWMore
import Derived.Test.YtmffocankommaaaGreatDoorDWTab
import Derived.Test.YtmffocankommaaaGreatDoorDWShare
import Derived.Test.YtmffocankommaaaGreatDoorDWRepsOne
import Derived.Sort.OwnSorted
namespace Go.Proofs.YtmffocankommaaaGreatDoorS
open Go Go.RowKit Go.Proofs.YtmffocankommaaaGreatDoorW.PrintWords Go.Proofs.YtmffocankommaaaGreatDoorW.PrintLast Go.Proofs.YtmffocankommaaaGreatDoorW.PrintMore Go.Proofs.YtmffocankommaaaGreatDoorY
section
variable {w W W0 W':World} {g g' g1 g2 g3 n:Nat} {o:Obj} {row:Option Nat} {t:TypeId}
theorem bf {i:Nat} {u:Value} (hn:g≠g1) (h:w.heap[g]?=some o):(w.setCell ⟨g1,i,none⟩ u).heap[g]?=some o:=(Below.heap_setCell w ⟨g1,i,none⟩ u g hn).trans h
theorem kB (B:q0i (W0.heap[g]?=some o)) (hb:Below W.heap.size W W') (s:W0.heap[g]?=some o→W.heap[g]?=some o:=by intro h_;(with_reducible repeat (first|refine q0A ?_ _|refine q0B ?_|refine q0v ?_ _));exact h_):q0i (W'.heap[g]?=some o):=⟨q4s (s B.out) hb⟩
theorem kK (B:q0i (W0.heap[g]?=some o)) (hk:q2e W W' g' row) (N:q0i (g≠g')) (s:W0.heap[g]?=some o→W.heap[g]?=some o:=by intro h_;(with_reducible repeat (first|refine q0A ?_ _|refine q0B ?_|refine q0v ?_ _));exact h_) (hr:some g≠row:=by simp):q0i (W'.heap[g]?=some o):=⟨q2T hk (s B.out) N.out hr⟩
theorem nGT (hg:g'=W.heap.size) (B:q0i (W0.heap[g]?=some o)) (s:W0.heap[g]?=some o→W.heap[g]?=some o:=by intro h_;(with_reducible repeat (first|refine q0A ?_ _|refine q0B ?_|refine q0v ?_ _));exact h_):q0i (g'≠g):=⟨by rw[hg];exact q1r (q4N (s B.out))⟩
theorem nLT (hg:g'=W.heap.size) (B:q0i (W0.heap[g]?=some o)) (s:W0.heap[g]?=some o→W.heap[g]?=some o:=by intro h_;(with_reducible repeat (first|refine q0A ?_ _|refine q0B ?_|refine q0v ?_ _));exact h_):q0i (g≠g'):=⟨by rw[hg];exact q0S (q4N (s B.out))⟩
theorem bp3 {a0 a1 a2 v0 v1 v2:Value} (h:w.heap[g]?=some (.cells #[a0,a1,a2] t (0,0))):(((w.setCell ⟨g,0,none⟩ v0).setCell ⟨g,1,none⟩ v1).setCell ⟨g,2,none⟩ v2).heap[g]?=some (.cells #[v0,v1,v2] t (0,0)):=by have h:=q1T (cs':=#[v0,a1,a2]) h 0 v0 rfl;have h:=q1T (cs':=#[v0,v1,a2]) h 1 v1 rfl;have h:=q1T (cs':=#[v0,v1,v2]) h 2 v2 rfl;exact h
theorem bc3 {a0 a1 a2:Value} (B:q0i (w.heap[g]?=some (.cells #[a0,a1,a2] t (0,0)))):w.cell? ⟨g,0,none⟩=some a0∧w.cell? ⟨g,1,none⟩=some a1∧w.cell? ⟨g,2,none⟩=some a2∧w.frozen? ⟨g,0,none⟩=false∧w.frozen? ⟨g,1,none⟩=false∧w.frozen? ⟨g,2,none⟩=false:=⟨(q0X B.out 0).trans rfl,(q0X B.out 1).trans rfl,(q0X B.out 2).trans rfl,q1m B.out 0,q1m B.out 1,q1m B.out 2⟩
theorem bp4 {a0 a1 a2 a3 v0 v1 v2 v3:Value} (h:w.heap[g]?=some (.cells #[a0,a1,a2,a3] t (0,0))):((((w.setCell ⟨g,0,none⟩ v0).setCell ⟨g,1,none⟩ v1).setCell ⟨g,2,none⟩ v2).setCell ⟨g,3,none⟩ v3).heap[g]?=some (.cells #[v0,v1,v2,v3] t (0,0)):=by have h:=q1T (cs':=#[v0,a1,a2,a3]) h 0 v0 rfl;have h:=q1T (cs':=#[v0,v1,a2,a3]) h 1 v1 rfl;have h:=q1T (cs':=#[v0,v1,v2,a3]) h 2 v2 rfl;have h:=q1T (cs':=#[v0,v1,v2,v3]) h 3 v3 rfl;exact h
theorem bc4 {a0 a1 a2 a3:Value} (B:q0i (w.heap[g]?=some (.cells #[a0,a1,a2,a3] t (0,0)))):w.cell? ⟨g,0,none⟩=some a0∧w.cell? ⟨g,1,none⟩=some a1∧w.cell? ⟨g,2,none⟩=some a2∧w.cell? ⟨g,3,none⟩=some a3∧w.frozen? ⟨g,0,none⟩=false∧w.frozen? ⟨g,1,none⟩=false∧w.frozen? ⟨g,2,none⟩=false∧w.frozen? ⟨g,3,none⟩=false:=⟨(q0X B.out 0).trans rfl,(q0X B.out 1).trans rfl,(q0X B.out 2).trans rfl,(q0X B.out 3).trans rfl,q1m B.out 0,q1m B.out 1,q1m B.out 2,q1m B.out 3⟩
theorem bp5 {a0 a1 a2 a3 a4 v0 v1 v2 v3 v4:Value} (h:w.heap[g]?=some (.cells #[a0,a1,a2,a3,a4] t (0,0))):(((((w.setCell ⟨g,0,none⟩ v0).setCell ⟨g,1,none⟩ v1).setCell ⟨g,2,none⟩ v2).setCell ⟨g,3,none⟩ v3).setCell ⟨g,4,none⟩ v4).heap[g]?=some (.cells #[v0,v1,v2,v3,v4] t (0,0)):=by have h:=q1T (cs':=#[v0,a1,a2,a3,a4]) h 0 v0 rfl;have h:=q1T (cs':=#[v0,v1,a2,a3,a4]) h 1 v1 rfl;have h:=q1T (cs':=#[v0,v1,v2,a3,a4]) h 2 v2 rfl;have h:=q1T (cs':=#[v0,v1,v2,v3,a4]) h 3 v3 rfl;have h:=q1T (cs':=#[v0,v1,v2,v3,v4]) h 4 v4 rfl;exact h
theorem bc5 {a0 a1 a2 a3 a4:Value} (B:q0i (w.heap[g]?=some (.cells #[a0,a1,a2,a3,a4] t (0,0)))):w.cell? ⟨g,0,none⟩=some a0∧w.cell? ⟨g,1,none⟩=some a1∧w.cell? ⟨g,2,none⟩=some a2∧w.cell? ⟨g,3,none⟩=some a3∧w.cell? ⟨g,4,none⟩=some a4∧w.frozen? ⟨g,0,none⟩=false∧w.frozen? ⟨g,1,none⟩=false∧w.frozen? ⟨g,2,none⟩=false∧w.frozen? ⟨g,3,none⟩=false∧w.frozen? ⟨g,4,none⟩=false:=⟨(q0X B.out 0).trans rfl,(q0X B.out 1).trans rfl,(q0X B.out 2).trans rfl,(q0X B.out 3).trans rfl,(q0X B.out 4).trans rfl,q1m B.out 0,q1m B.out 1,q1m B.out 2,q1m B.out 3,q1m B.out 4⟩
theorem bp8 {a0 a1 a2 a3 a4 a5 a6 a7 v0 v1 v2 v3 v4 v5 v6 v7:Value} (h:w.heap[g]?=some (.cells #[a0,a1,a2,a3,a4,a5,a6,a7] t (0,0))):((((((((w.setCell ⟨g,0,none⟩ v0).setCell ⟨g,1,none⟩ v1).setCell ⟨g,2,none⟩ v2).setCell ⟨g,3,none⟩ v3).setCell ⟨g,4,none⟩ v4).setCell ⟨g,5,none⟩ v5).setCell ⟨g,6,none⟩ v6).setCell ⟨g,7,none⟩ v7).heap[g]?=some (.cells #[v0,v1,v2,v3,v4,v5,v6,v7] t (0,0)):=by have h:=q1T (cs':=#[v0,a1,a2,a3,a4,a5,a6,a7]) h 0 v0 rfl;have h:=q1T (cs':=#[v0,v1,a2,a3,a4,a5,a6,a7]) h 1 v1 rfl;have h:=q1T (cs':=#[v0,v1,v2,a3,a4,a5,a6,a7]) h 2 v2 rfl;have h:=q1T (cs':=#[v0,v1,v2,v3,a4,a5,a6,a7]) h 3 v3 rfl;have h:=q1T (cs':=#[v0,v1,v2,v3,v4,a5,a6,a7]) h 4 v4 rfl;have h:=q1T (cs':=#[v0,v1,v2,v3,v4,v5,a6,a7]) h 5 v5 rfl;have h:=q1T (cs':=#[v0,v1,v2,v3,v4,v5,v6,a7]) h 6 v6 rfl;have h:=q1T (cs':=#[v0,v1,v2,v3,v4,v5,v6,v7]) h 7 v7 rfl;exact h
theorem bc8 {a0 a1 a2 a3 a4 a5 a6 a7:Value} (B:q0i (w.heap[g]?=some (.cells #[a0,a1,a2,a3,a4,a5,a6,a7] t (0,0)))):w.cell? ⟨g,0,none⟩=some a0∧w.cell? ⟨g,1,none⟩=some a1∧w.cell? ⟨g,2,none⟩=some a2∧w.cell? ⟨g,3,none⟩=some a3∧w.cell? ⟨g,4,none⟩=some a4∧w.cell? ⟨g,5,none⟩=some a5∧w.cell? ⟨g,6,none⟩=some a6∧w.cell? ⟨g,7,none⟩=some a7∧w.frozen? ⟨g,0,none⟩=false∧w.frozen? ⟨g,1,none⟩=false∧w.frozen? ⟨g,2,none⟩=false∧w.frozen? ⟨g,3,none⟩=false∧w.frozen? ⟨g,4,none⟩=false∧w.frozen? ⟨g,5,none⟩=false∧w.frozen? ⟨g,6,none⟩=false∧w.frozen? ⟨g,7,none⟩=false:=⟨(q0X B.out 0).trans rfl,(q0X B.out 1).trans rfl,(q0X B.out 2).trans rfl,(q0X B.out 3).trans rfl,(q0X B.out 4).trans rfl,(q0X B.out 5).trans rfl,(q0X B.out 6).trans rfl,(q0X B.out 7).trans rfl,q1m B.out 0,q1m B.out 1,q1m B.out 2,q1m B.out 3,q1m B.out 4,q1m B.out 5,q1m B.out 6,q1m B.out 7⟩
theorem kBg0 {o':Obj} (B:q0i (W0.heap[g]?=some o)) (hb:Below W.heap.size W W') (s:W0.heap[g]?=some o→W.heap[g]?=some o':=by intro h_;(with_reducible repeat (first|apply q0A|apply q0B|apply q0v|apply bp3|apply bp4|apply bp5|apply bp8));exact h_):q0i (W'.heap[g]?=some o'):=⟨q4s (s B.out) hb⟩
theorem kKg0 {o':Obj} (B:q0i (W0.heap[g]?=some o)) (hk:q2e W W' g' row) (N:q0i (g≠g')) (s:W0.heap[g]?=some o→W.heap[g]?=some o':=by intro h_;(with_reducible repeat (first|apply q0A|apply q0B|apply q0v|apply bp3|apply bp4|apply bp5|apply bp8));exact h_) (hr:some g≠row:=by simp):q0i (W'.heap[g]?=some o'):=⟨q2T hk (s B.out) N.out hr⟩
theorem bq0 {o':Obj} (B:q0i (W0.heap[g]?=some o)) (s:W0.heap[g]?=some o→W.heap[g]?=some o':=by intro h_;(with_reducible repeat (first|apply q0A|apply q0B|apply q0v|apply bp3|apply bp4|apply bp5|apply bp8));exact h_):W.heap[g]?=some o':=s B.out
theorem kBg1 {o':Obj} (B:q0i (W0.heap[g]?=some o)) (N1:q0i (g≠g1)) (hb:Below W.heap.size W W') (s:g≠g1→W0.heap[g]?=some o→W.heap[g]?=some o':=by intro n1 h_;(with_reducible repeat (first|apply q0A|apply q0B|apply q0v|apply bf n1|apply bp3|apply bp4|apply bp5|apply bp8));exact h_):q0i (W'.heap[g]?=some o'):=⟨q4s (s N1.out B.out) hb⟩
theorem kKg1 {o':Obj} (B:q0i (W0.heap[g]?=some o)) (N1:q0i (g≠g1)) (hk:q2e W W' g' row) (N:q0i (g≠g')) (s:g≠g1→W0.heap[g]?=some o→W.heap[g]?=some o':=by intro n1 h_;(with_reducible repeat (first|apply q0A|apply q0B|apply q0v|apply bf n1|apply bp3|apply bp4|apply bp5|apply bp8));exact h_) (hr:some g≠row:=by simp):q0i (W'.heap[g]?=some o'):=⟨q2T hk (s N1.out B.out) N.out hr⟩
theorem bq1 {o':Obj} (B:q0i (W0.heap[g]?=some o)) (N1:q0i (g≠g1)) (s:g≠g1→W0.heap[g]?=some o→W.heap[g]?=some o':=by intro n1 h_;(with_reducible repeat (first|apply q0A|apply q0B|apply q0v|apply bf n1|apply bp3|apply bp4|apply bp5|apply bp8));exact h_):W.heap[g]?=some o':=s N1.out B.out
theorem kBg2 {o':Obj} (B:q0i (W0.heap[g]?=some o)) (N1:q0i (g≠g1)) (N2:q0i (g≠g2)) (hb:Below W.heap.size W W') (s:g≠g1→g≠g2→W0.heap[g]?=some o→W.heap[g]?=some o':=by intro n1 n2 h_;(with_reducible repeat (first|apply q0A|apply q0B|apply q0v|apply bf n1|apply bf n2|apply bp3|apply bp4|apply bp5|apply bp8));exact h_):q0i (W'.heap[g]?=some o'):=⟨q4s (s N1.out N2.out B.out) hb⟩
theorem kKg2 {o':Obj} (B:q0i (W0.heap[g]?=some o)) (N1:q0i (g≠g1)) (N2:q0i (g≠g2)) (hk:q2e W W' g' row) (N:q0i (g≠g')) (s:g≠g1→g≠g2→W0.heap[g]?=some o→W.heap[g]?=some o':=by intro n1 n2 h_;(with_reducible repeat (first|apply q0A|apply q0B|apply q0v|apply bf n1|apply bf n2|apply bp3|apply bp4|apply bp5|apply bp8));exact h_) (hr:some g≠row:=by simp):q0i (W'.heap[g]?=some o'):=⟨q2T hk (s N1.out N2.out B.out) N.out hr⟩
theorem bq2 {o':Obj} (B:q0i (W0.heap[g]?=some o)) (N1:q0i (g≠g1)) (N2:q0i (g≠g2)) (s:g≠g1→g≠g2→W0.heap[g]?=some o→W.heap[g]?=some o':=by intro n1 n2 h_;(with_reducible repeat (first|apply q0A|apply q0B|apply q0v|apply bf n1|apply bf n2|apply bp3|apply bp4|apply bp5|apply bp8));exact h_):W.heap[g]?=some o':=s N1.out N2.out B.out
abbrev cc3 (w:World) (g:Nat) (a0 a1 a2:Value) (r:Prop):Prop:=w.cell? ⟨g,0,none⟩=some a0∧w.cell? ⟨g,1,none⟩=some a1∧w.cell? ⟨g,2,none⟩=some a2∧r
abbrev dd3 (w:World) (g:Nat) (a0 a1 a2:Value):Prop:=w.cell? ⟨g,0,none⟩=some a0∧w.cell? ⟨g,1,none⟩=some a1∧w.cell? ⟨g,2,none⟩=some a2
theorem b3 {a0 a1 a2:Value} {r:Prop} (B:q0i (w.heap[g]?=some (.cells #[a0,a1,a2] t (0,0)))) (h:r):w.cell? ⟨g,0,none⟩=some a0∧w.cell? ⟨g,1,none⟩=some a1∧w.cell? ⟨g,2,none⟩=some a2∧r:=⟨(q0X B.out 0).trans rfl,(q0X B.out 1).trans rfl,(q0X B.out 2).trans rfl,h⟩
theorem e3 {a0 a1 a2:Value} (B:q0i (w.heap[g]?=some (.cells #[a0,a1,a2] t (0,0)))):w.cell? ⟨g,0,none⟩=some a0∧w.cell? ⟨g,1,none⟩=some a1∧w.cell? ⟨g,2,none⟩=some a2:=⟨(q0X B.out 0).trans rfl,(q0X B.out 1).trans rfl,(q0X B.out 2).trans rfl⟩
abbrev cc4 (w:World) (g:Nat) (a0 a1 a2 a3:Value) (r:Prop):Prop:=w.cell? ⟨g,0,none⟩=some a0∧w.cell? ⟨g,1,none⟩=some a1∧w.cell? ⟨g,2,none⟩=some a2∧w.cell? ⟨g,3,none⟩=some a3∧r
theorem b4 {a0 a1 a2 a3:Value} {r:Prop} (B:q0i (w.heap[g]?=some (.cells #[a0,a1,a2,a3] t (0,0)))) (h:r):w.cell? ⟨g,0,none⟩=some a0∧w.cell? ⟨g,1,none⟩=some a1∧w.cell? ⟨g,2,none⟩=some a2∧w.cell? ⟨g,3,none⟩=some a3∧r:=⟨(q0X B.out 0).trans rfl,(q0X B.out 1).trans rfl,(q0X B.out 2).trans rfl,(q0X B.out 3).trans rfl,h⟩
theorem e4 {a0 a1 a2 a3:Value} (B:q0i (w.heap[g]?=some (.cells #[a0,a1,a2,a3] t (0,0)))):w.cell? ⟨g,0,none⟩=some a0∧w.cell? ⟨g,1,none⟩=some a1∧w.cell? ⟨g,2,none⟩=some a2∧w.cell? ⟨g,3,none⟩=some a3:=⟨(q0X B.out 0).trans rfl,(q0X B.out 1).trans rfl,(q0X B.out 2).trans rfl,(q0X B.out 3).trans rfl⟩
theorem b4_0 {a0 a1 a2 a3:Value} (B:q0i (w.heap[g]?=some (.cells #[a0,a1,a2,a3] t (0,0)))):w.cell? ⟨g,0,none⟩=some a0∧w.frozen? ⟨g,0,none⟩=false:=⟨(q0X B.out 0).trans rfl,q1m B.out 0⟩
theorem b4_1 {a0 a1 a2 a3:Value} (B:q0i (w.heap[g]?=some (.cells #[a0,a1,a2,a3] t (0,0)))):w.cell? ⟨g,1,none⟩=some a1∧w.frozen? ⟨g,1,none⟩=false:=⟨(q0X B.out 1).trans rfl,q1m B.out 1⟩
theorem b4_2 {a0 a1 a2 a3:Value} (B:q0i (w.heap[g]?=some (.cells #[a0,a1,a2,a3] t (0,0)))):w.cell? ⟨g,2,none⟩=some a2∧w.frozen? ⟨g,2,none⟩=false:=⟨(q0X B.out 2).trans rfl,q1m B.out 2⟩
theorem b4_3 {a0 a1 a2 a3:Value} (B:q0i (w.heap[g]?=some (.cells #[a0,a1,a2,a3] t (0,0)))):w.cell? ⟨g,3,none⟩=some a3∧w.frozen? ⟨g,3,none⟩=false:=⟨(q0X B.out 3).trans rfl,q1m B.out 3⟩
abbrev dd5 (w:World) (g:Nat) (a0 a1 a2 a3 a4:Value):Prop:=w.cell? ⟨g,0,none⟩=some a0∧w.cell? ⟨g,1,none⟩=some a1∧w.cell? ⟨g,2,none⟩=some a2∧w.cell? ⟨g,3,none⟩=some a3∧w.cell? ⟨g,4,none⟩=some a4
theorem b5 {a0 a1 a2 a3 a4:Value} {r:Prop} (B:q0i (w.heap[g]?=some (.cells #[a0,a1,a2,a3,a4] t (0,0)))) (h:r):w.cell? ⟨g,0,none⟩=some a0∧w.cell? ⟨g,1,none⟩=some a1∧w.cell? ⟨g,2,none⟩=some a2∧w.cell? ⟨g,3,none⟩=some a3∧w.cell? ⟨g,4,none⟩=some a4∧r:=⟨(q0X B.out 0).trans rfl,(q0X B.out 1).trans rfl,(q0X B.out 2).trans rfl,(q0X B.out 3).trans rfl,(q0X B.out 4).trans rfl,h⟩
theorem e5 {a0 a1 a2 a3 a4:Value} (B:q0i (w.heap[g]?=some (.cells #[a0,a1,a2,a3,a4] t (0,0)))):w.cell? ⟨g,0,none⟩=some a0∧w.cell? ⟨g,1,none⟩=some a1∧w.cell? ⟨g,2,none⟩=some a2∧w.cell? ⟨g,3,none⟩=some a3∧w.cell? ⟨g,4,none⟩=some a4:=⟨(q0X B.out 0).trans rfl,(q0X B.out 1).trans rfl,(q0X B.out 2).trans rfl,(q0X B.out 3).trans rfl,(q0X B.out 4).trans rfl⟩
abbrev cc8 (w:World) (g:Nat) (a0 a1 a2 a3 a4 a5 a6 a7:Value) (r:Prop):Prop:=w.cell? ⟨g,0,none⟩=some a0∧w.cell? ⟨g,1,none⟩=some a1∧w.cell? ⟨g,2,none⟩=some a2∧w.cell? ⟨g,3,none⟩=some a3∧w.cell? ⟨g,4,none⟩=some a4∧w.cell? ⟨g,5,none⟩=some a5∧w.cell? ⟨g,6,none⟩=some a6∧w.cell? ⟨g,7,none⟩=some a7∧r
theorem b8 {a0 a1 a2 a3 a4 a5 a6 a7:Value} {r:Prop} (B:q0i (w.heap[g]?=some (.cells #[a0,a1,a2,a3,a4,a5,a6,a7] t (0,0)))) (h:r):w.cell? ⟨g,0,none⟩=some a0∧w.cell? ⟨g,1,none⟩=some a1∧w.cell? ⟨g,2,none⟩=some a2∧w.cell? ⟨g,3,none⟩=some a3∧w.cell? ⟨g,4,none⟩=some a4∧w.cell? ⟨g,5,none⟩=some a5∧w.cell? ⟨g,6,none⟩=some a6∧w.cell? ⟨g,7,none⟩=some a7∧r:=⟨(q0X B.out 0).trans rfl,(q0X B.out 1).trans rfl,(q0X B.out 2).trans rfl,(q0X B.out 3).trans rfl,(q0X B.out 4).trans rfl,(q0X B.out 5).trans rfl,(q0X B.out 6).trans rfl,(q0X B.out 7).trans rfl,h⟩
theorem b8_0 {a0 a1 a2 a3 a4 a5 a6 a7:Value} (B:q0i (w.heap[g]?=some (.cells #[a0,a1,a2,a3,a4,a5,a6,a7] t (0,0)))):w.cell? ⟨g,0,none⟩=some a0∧w.frozen? ⟨g,0,none⟩=false:=⟨(q0X B.out 0).trans rfl,q1m B.out 0⟩
theorem b8_1 {a0 a1 a2 a3 a4 a5 a6 a7:Value} (B:q0i (w.heap[g]?=some (.cells #[a0,a1,a2,a3,a4,a5,a6,a7] t (0,0)))):w.cell? ⟨g,1,none⟩=some a1∧w.frozen? ⟨g,1,none⟩=false:=⟨(q0X B.out 1).trans rfl,q1m B.out 1⟩
theorem b8_2 {a0 a1 a2 a3 a4 a5 a6 a7:Value} (B:q0i (w.heap[g]?=some (.cells #[a0,a1,a2,a3,a4,a5,a6,a7] t (0,0)))):w.cell? ⟨g,2,none⟩=some a2∧w.frozen? ⟨g,2,none⟩=false:=⟨(q0X B.out 2).trans rfl,q1m B.out 2⟩
theorem b8_3 {a0 a1 a2 a3 a4 a5 a6 a7:Value} (B:q0i (w.heap[g]?=some (.cells #[a0,a1,a2,a3,a4,a5,a6,a7] t (0,0)))):w.cell? ⟨g,3,none⟩=some a3∧w.frozen? ⟨g,3,none⟩=false:=⟨(q0X B.out 3).trans rfl,q1m B.out 3⟩
theorem b8_4 {a0 a1 a2 a3 a4 a5 a6 a7:Value} (B:q0i (w.heap[g]?=some (.cells #[a0,a1,a2,a3,a4,a5,a6,a7] t (0,0)))):w.cell? ⟨g,4,none⟩=some a4∧w.frozen? ⟨g,4,none⟩=false:=⟨(q0X B.out 4).trans rfl,q1m B.out 4⟩
theorem b8_5 {a0 a1 a2 a3 a4 a5 a6 a7:Value} (B:q0i (w.heap[g]?=some (.cells #[a0,a1,a2,a3,a4,a5,a6,a7] t (0,0)))):w.cell? ⟨g,5,none⟩=some a5∧w.frozen? ⟨g,5,none⟩=false:=⟨(q0X B.out 5).trans rfl,q1m B.out 5⟩
theorem b8_6 {a0 a1 a2 a3 a4 a5 a6 a7:Value} (B:q0i (w.heap[g]?=some (.cells #[a0,a1,a2,a3,a4,a5,a6,a7] t (0,0)))):w.cell? ⟨g,6,none⟩=some a6∧w.frozen? ⟨g,6,none⟩=false:=⟨(q0X B.out 6).trans rfl,q1m B.out 6⟩
theorem b8_7 {a0 a1 a2 a3 a4 a5 a6 a7:Value} (B:q0i (w.heap[g]?=some (.cells #[a0,a1,a2,a3,a4,a5,a6,a7] t (0,0)))):w.cell? ⟨g,7,none⟩=some a7∧w.frozen? ⟨g,7,none⟩=false:=⟨(q0X B.out 7).trans rfl,q1m B.out 7⟩
theorem aN {α:Type} {d:Kd α} {e base:Nat} {ok:Nat→Prop} {v:Value} {xs:List α} (h:Kd.N d e W0 base ok v xs) (s:Kd.N d e W0 base ok v xs→Kd.N d e W base ok v xs:=by intro h_;(with_reducible repeat (first|apply Kd.N_alloc|apply Kd.N_drewN|apply q3m));exact h_):Kd.N d e W base ok v xs:=s h
theorem aV {α:Type} {d:Kd α} {e base:Nat} {ok:Nat→Prop} {v:Value} {xs:List α} (h:Kd.V d e W0 base ok v xs) (s:Kd.V d e W0 base ok v xs→Kd.V d e W base ok v xs:=by intro h_;(with_reducible repeat (first|apply Kd.V_alloc|apply Kd.V_drewN|apply q3G));exact h_):Kd.V d e W base ok v xs:=s h
theorem aR {α:Type} {d:Kd α} {e base:Nat} {ok:Nat→Prop} {v:Value} {xs:List α} (h:Kd.R d e W0 base ok v xs) (s:Kd.R d e W0 base ok v xs→Kd.R d e W base ok v xs:=by intro h_;(with_reducible repeat (first|apply Kd.R_alloc|apply Kd.R_drewN|apply Kd.R_drew));exact h_):Kd.R d e W base ok v xs:=s h
theorem pA {a a':Act} {d:Option Tmp} {v:Value} (N:Option Tmp) (h:a.put N v=a':=by simp only[Act.put,List.setIfInBounds_toArray,List.set_cons_zero,List.set_cons_succ,q4g,q4q];rfl) (hd:d=N:=by exact rfl):a.put d v=a':=hd ▸ h
theorem fxN {α:Type} {d:Kd α} {e base:Nat} {ok:Nat→Prop} {w:World} {v:Value} {xs:List α} (g i:Nat) (u:Value) (h:Kd.N d e w base ok v xs) (hok:∀ k,ok k→k≠g:=by exact fun _ hk=>hk.2):Kd.N d e (w.setCell ⟨g,i,none⟩ u) base ok v xs:=q1q (p:=⟨g,i,none⟩) h hok u
theorem fxR {α:Type} {d:Kd α} {e base:Nat} {ok:Nat→Prop} {w:World} {v:Value} {xs:List α} (g i:Nat) (u:Value) (h:Kd.R d e w base ok v xs) (hok:∀ k,ok k→k≠g:=by exact fun _ hk=>hk.2):Kd.R d e (w.setCell ⟨g,i,none⟩ u) base ok v xs:=q1W (p:=⟨g,i,none⟩) h hok u
theorem fxV {α:Type} {d:Kd α} {e base:Nat} {ok:Nat→Prop} {w:World} {v:Value} {xs:List α} (g i:Nat) (u:Value) (h:Kd.V d e w base ok v xs) (hok:∀ k,ok k→k≠g:=by exact fun _ hk=>hk.2):Kd.V d e (w.setCell ⟨g,i,none⟩ u) base ok v xs:=q1K (p:=⟨g,i,none⟩) h hok u
theorem fxS {α:Type} {d:Kd α} {e base:Nat} {ok:Nat→Prop} {w:World} {v:Value} {xs:List α} (g i:Nat) (u:Value) (h:Kd.S d e w base ok v xs) (hok:∀ k,ok k→k≠g:=by exact fun _ hk=>hk.2):Kd.S d e (w.setCell ⟨g,i,none⟩ u) base ok v xs:=Kd.S_far (p:=⟨g,i,none⟩) h hok u
theorem tP {α:Type} [Decidable (true=true)] {a b:Option α} {r:α} (H:(if true=true then a else b)=some r):a=some r:=by rwa [if_pos rfl]at H
theorem tN {α:Type} [Decidable (false=true)] {a b:Option α} {r:α} (H:(if false=true then a else b)=some r):b=some r:=by rwa [if_neg (fun k_=>by cases k_)]at H
theorem am {p:Prop} (h:p):q0i p:=⟨h⟩
abbrev nO (k:Nat) (v:Value):Prop:=some k≠v.ownBlock
theorem fI {b:Bool} (h : ¬ b=true):b=false:=Bool.eq_false_iff.mpr h
theorem tz0:((0:Int)).toNat=0:=rfl
theorem tz1 (n:Nat):0*n=0:=Nat.zero_mul n
theorem tz2 (a:Addr):a.add 0=a:=Addr.add_zero' a
abbrev iv (x:Int):Value:=.int .i64 x
abbrev sl {α:Type} (A:Option Addr) (l:List α) (c:Nat):Value:=.slice A l.length c
theorem oA {α β:Type} {o:Option α} {f:α→Option β} {b:β} (h:o.bind f=some b):∃ a,q0i (o=some a)∧f a=some b:=(Option.bind_eq_some_iff.mp h).imp fun _ h=>⟨⟨h.1⟩,h.2⟩
theorem rq1 {w:World} {base:Nat} {ok:Nat→Prop} {x:q0b} {xs:List q0b} {cs:List Value} (h:Reps (Kd.M Kd.string w base ok) 1 xs cs):Reps (Kd.M Kd.string w base ok) 1 (x::xs) (.string x::cs):=q3L (show Kd.M Kd.string w base ok x [.string x] from rfl) h
theorem rp {p:Prop} (h:p:=by repeat (first|exact q3C _ _|apply rq1)):p:=h
theorem kG {W0 W W':World} {g:Nat} {o:Obj} {row:Option Nat} (B:q0i (W0.heap[g]?=some o)) (hg:W.grownBy W' row) (hne:some g≠row) (s:W0.heap[g]?=some o→W.heap[g]?=some o:=by intro h_;(with_reducible repeat (first|refine q0A ?_ _|refine q0B ?_|refine q0v ?_ _));exact h_):q0i (W'.heap[g]?=some o):=⟨q4T (s B.out) hg hne⟩
theorem cW {q p:Prop} (e:q) (h:q→p:=by intro e_;repeat (first|exact e_|(with_reducible refine q3I ?_ _)|(with_reducible refine q3z ?_ _)|(with_reducible refine q3F ?_))):p:=h e
theorem bS {W2:World} (h:Below w.heap.size w W) (k:Below W.heap.size W W2):q0i (Below w.heap.size w W2):=⟨q6J h k⟩
theorem oG {α β:Type} (x:α) (f:α→Option β):(some x).bind f=f x:=rfl
theorem oE {α β:Type} {x:α} {f:α→Option β} {b:β} (h:(some x).bind f=some b):∃ y,y=x∧f y=some b:=⟨x,rfl,h⟩
theorem iN {c:Prop} [Decidable c] {α:Type} {a:Option α} {r:α} (h : ¬ c) (H:(if c then a else none)=some r) {p:Prop} : p:=by rw[if_neg h]at H;exact absurd H (by simp)
theorem iP {c:Prop} [Decidable c] {α:Type} {a:Option α} {r:α} (h:c) (H:(if c then none else a)=some r) {p:Prop} : p:=by rw[if_pos h]at H;exact absurd H (by simp)
theorem eT {α:Type} [BEq α] [LawfulBEq α] {a b:α} (h:a=b):(a == b)=true:=beq_iff_eq.mpr h
theorem eF {α:Type} [BEq α] [LawfulBEq α] {a b:α} (h:a=b):(a != b)=false:=bne_eq_false_iff_eq.mpr h
theorem nT {α:Type} [BEq α] [LawfulBEq α] {a b:α} (h:a≠b):(a != b)=true:=bne_iff_ne.mpr h
theorem nF {α:Type} [BEq α] [LawfulBEq α] {a b:α} (h : ¬ a=b):(a == b)=false:=beq_eq_false_iff_ne.mpr h
theorem dT {p:Prop} [Decidable p] (h:p):decide p=true:=q0p h
theorem dF {p:Prop} [Decidable p] (h : ¬ p):decide p=false:=q0z h
theorem sG (hg:g=W.heap.size) (h:Below w.heap.size w W):q0i (w.heap.size≤g):=⟨by rw[hg];exact h.size⟩
theorem cB {a:Addr} {v:Value} (HB:q0i (Below w.heap.size w W)) (hx:w.cell? a=some v):W.cell? a=some v:=(HB.out.cell (q0x w _ hx)).trans hx
end
def lb (n m:Nat):Array Bool:=((List.range n).map m.testBit).toArray
section
variable {P:Program} {ops:Array Oper} {rest:List Oper} {o oi:Oper} {a:Act} {Q:Exit→Act→World→Prop} {W w:World}
theorem be (N:Tmp) (cs:Array Value) (t:TypeId) (h:∀ g,g=W.heap.size→∀ w1,w1.heap[g]?=some (.cells cs t (0,0))→Below W.heap.size W w1→wpList P ops Q rest (a.put o.dst (.pointer (some ⟨g,0,none⟩))) w1)
  (hd:o.dst=some N:=by exact rfl) (hgd:o.guard=none:=by exact rfl)
  (hrun:(execOp a.eval o).run P W=.ok (.value (.pointer (some ⟨W.heap.size,0,none⟩))) (W.alloc (.cells cs t (0,0))):=by first|(go_simp;done)|(go_simp;rfl)):wpList P ops Q (o::rest) a W:=v0J hgd hd hrun h
theorem gc (f:FuncId) {as':Array Operand} {ts:Array TypeId} (h:wpList P ops Q (o::rest) a W) (_ho:o.op=.call {callee:=.value (.func f),args:=as',argTypes:=ts}:=by exact rfl):wpList P ops Q (o::rest) a W:=h
theorem gd (N:Tmp) (h:wpList P ops Q (o::rest) a W) (_ho:o.dst=some N:=by exact rfl):wpList P ops Q (o::rest) a W:=h
theorem gL (N:Option Tmp) {f:FuncId} {fn:Func} {as':Array Operand} {ts:Array TypeId} (hf:P.funcs[f]?=some fn) (args:Array Value)
  (h:Calls P f args w fun e w'=>∃ v,e=.returned v∧wpList P ops Q rest (a.put N v) w')
  (hd : oi.dst = N := by exact rfl) (hg : oi.guard = none := by exact rfl) (hname : (fn.name == "runtime.NumGoroutine") = false := by kernel_rfl) (hb : fn.body.isSome = true := by exact rfl)
  (hop:oi.op=.call {callee:=.value (.func f),args:=as',argTypes:=ts}:=by exact rfl)
  (hargs:as'.map a.eval=args:=by (try simp only[List.map_toArray,List.map_cons,List.map_nil]);first|done|rfl|(simp only[List.length_drop,List.length_take];rfl)):wpList P ops Q (oi::rest) a w:=
 q5A N hd hg hf hname hb args hop hargs h
end
section
variable {P:Program} {ops:Array Oper} {Q:Exit→Act→World→Prop} {md:Region.Mode} {S:World→Prop} {ds:List Nat} {T:Bool × List (List Nat × List Nat)} {B:List Nat}
variable {oi:Oper} {v:Value} {fuel:Nat} {l:Array Bool} {a:Act} {w:World} {a':Act}
theorem pu (i:Nat) (N:Option Tmp) (l':Array Bool) (hT:q0i (rtab md ops=T)) (h:q2I P md ops Q S ds fuel l' a' w)
  (hi:ops[i]?=some oi:=by exact rfl) (hN:oi.dst=N:=by exact rfl) (hc:anyT T l.toList l'.toList i=true:=by kernel_rfl)
  (hQ:∀ c a w,Q (.panic c) (a.put oi.dst v) w→Q (.panic c) a w:=by exact fun _ _ _ h=>h)
  (hw:Region.wanted oi (yielded ops a.tmps)=true:=by rfl)
  (hv:∀ w,(execOp a.eval oi).run P w=.ok (.value v) w:=by intro w';go_simp;with_reducible rfl)
  (ha:a.put N v=a':=by simp only[Act.put,List.setIfInBounds_toArray,List.set_cons_zero,List.set_cons_succ,q4g,q4q];rfl):q2I P md ops Q S ds (fuel+1) l a w:=
 pure_ l' hi hN (v2V hT.out hc) hQ (Or.inl ⟨hw,hv⟩) ha h
theorem pn (i:Nat) (N:Option Tmp) (l':Array Bool) (hT:q0i (rtab md ops=T)) (h:q2I P md ops Q S ds fuel l' a' w)
  (hi:ops[i]?=some oi:=by exact rfl) (hN:oi.dst=N:=by exact rfl) (hc:anyT T l.toList l'.toList i=true:=by kernel_rfl)
  (hQ:∀ c a w,Q (.panic c) (a.put oi.dst undef) w→Q (.panic c) a w:=by exact fun _ _ _ h=>h)
  (hw:Region.wanted oi (yielded ops a.tmps)=false:=by rfl)
  (ha:a.put N undef=a':=by simp only[Act.put,List.setIfInBounds_toArray,List.set_cons_zero,List.set_cons_succ,q4g,q4q];rfl):q2I P md ops Q S ds (fuel+1) l a w:=
 pure_ l' hi hN (v2V hT.out hc) hQ (Or.inr ⟨hw,rfl⟩) ha h
theorem tk (i:Nat) (N:Option Tmp) (l':Array Bool) (hT:q0i (rtab md ops=T)) (hB:q0i (q4i T.2 B=true)) (hS:S w) (h:q2I P md ops Q S ds fuel l' a' w)
  (hi:ops[i]?=some oi:=by exact rfl) (hN:oi.dst=N:=by exact rfl) (hc:takeW T B ds l.toList l'.toList i=true:=by kernel_rfl)
  (hQ:∀ c a w,Q (.panic c) (a.put oi.dst v) w→Q (.panic c) a w:=by exact fun _ _ _ h=>h)
  (hw:Region.wanted oi (yielded ops a.tmps)=true:=by rfl)
  (hv:∀ w,S w→(execOp a.eval oi).run P w=.ok (.value v) w:=by intro w' h_;(repeat (have _:=And.left h_;replace h_:=And.right h_));go_simp;with_reducible rfl)
  (ha:a.put N v=a':=by simp only[Act.put,List.setIfInBounds_toArray,List.set_cons_zero,List.set_cons_succ,q4g,q4q];rfl):q2I P md ops Q S ds (fuel+1) l a w:=
 take_ l' hi hN (v1A hT.out hB.out hc) hQ (Or.inl ⟨hw,hv⟩) hS ha h
theorem oo (i:Nat) (N:Option Tmp) (l':Array Bool) (hT:q0i (rtab md ops=T))
  (h:∀ K:Act→World→Prop,Shut (∀ a' w',S w'→(S w'→q2I P md ops Q S ds fuel l' a' w')→K a' w')→if Region.wanted oi (yielded ops a.tmps)=true then Oper.wp P oi a w K Q else K (a.put N undef) w)
  (hi:ops[i]?=some oi:=by exact rfl) (hN:oi.dst=N:=by exact rfl) (hc:(q6B T.2 l.toList == [i] && l.toList.set i true == l'.toList)=true:=by kernel_rfl) (hd:i ∉ ds:=by decide):q2I P md ops Q S ds (fuel+1) l a w:=
 one_ l' hi hN (q8W hT.out hc) hd h
theorem gO {K:Act→World→Prop} {N:Option Tmp} {f:FuncId} {fn:Func} {as':Array Operand} {ts:Array TypeId} (hf:P.funcs[f]?=some fn) (args:Array Value)
  (h:Calls P f args w fun e w'=>∃ v,e=.returned v∧K (a.put N v) w')
  (hname : (fn.name == "runtime.NumGoroutine") = false := by kernel_rfl) (hb : fn.body.isSome = true := by exact rfl)
  (hw:Region.wanted oi (yielded ops a.tmps)=true:=by rfl) (hN:oi.dst=N:=by exact rfl) (hop:oi.op=.call {callee:=.value (.func f),args:=as',argTypes:=ts}:=by exact rfl)
  (hargs:as'.map a.eval=args:=by (try simp only[List.map_toArray,List.map_cons,List.map_nil]);first|done|rfl|(simp only[List.length_drop,List.length_take];rfl)):if Region.wanted oi (yielded ops a.tmps)=true then Oper.wp P oi a w K Q else K (a.put N undef) w:=
 q9u hf hname hb args hw hN hop hargs h
end
end Go.Proofs.YtmffocankommaaaGreatDoorS
