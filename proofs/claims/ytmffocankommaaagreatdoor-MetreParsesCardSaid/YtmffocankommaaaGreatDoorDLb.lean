/- Walks written by hand, and the law about them. No condition but what the theorems state. -/
import Derived.Test.YtmffocankommaaaGreatDoorDx33
import Derived.Test.YtmffocankommaaaGreatDoorDLaw
namespace Go.Proofs.YtmffocankommaaaGreatDoor.P
open Go.RowKit Go.Proofs.YtmffocankommaaaGreatDoorW.PrintWords Go.Proofs.YtmffocankommaaaGreatDoorW.PrintLast Go.Proofs.YtmffocankommaaaGreatDoorW.PrintMore Go.Proofs.YtmffocankommaaaGreatDoorY Go.Proofs.YtmffocankommaaaGreatDoorS
set_option linter.unusedVariables false
section
/-- A token without its line. -/
abbrev Tok:=Int × q0b
def sg (c:UInt8):Tok:=(4,⟨#[c]⟩)
def em:q0b:=⟨#[]⟩
/-- A name that can be a foot's, a mark's, a tag's. -/
def Nme (b:q0b):Prop:=b.toList≠([117]:List UInt8)∧b.toList≠([120]:List UInt8)
/-- A number's text and its value. -/
def Num (y:q0b) (c:Int):Prop:=q0O (fun k=>q1E.f k y) (c,true)
mutual
/-- The tokens of a part. -/
inductive Tk:S28→List Tok→Prop
 | light:Tk ⟨1,em,0,[]⟩ [(1,⟨#[117]⟩)]
 | heavy:Tk ⟨2,em,0,[]⟩ [sg 45]
 | anceps:Tk ⟨3,em,0,[]⟩ [(1,⟨#[120]⟩)]
 | fin:Tk ⟨9,em,0,[]⟩ [sg 58]
 | bridge:Tk ⟨10,em,0,[]⟩ [sg 126]
 | foot (b:q0b) (hb:Nme b):Tk ⟨4,b,0,[]⟩ [(1,b)]
 | mark (b:q0b) (hb:Nme b):Tk ⟨11,b,0,[]⟩ [sg 64,(1,b)]
 | opt (n:S28) (ts:List Tok) (h:TkB n ts):Tk ⟨8,em,0,[n]⟩ (sg 91::(ts++[sg 93]))
 | tag (b:q0b) (hb:Nme b) (n:S28) (ts:List Tok) (h:TkB n ts):Tk ⟨12,b,0,[n]⟩ ((1,b)::sg 123::(ts++[sg 125]))
 | alt (n n2:S28) (ns:List S28) (ts us:List Tok) (h:TkB n ts) (h2:TkA (n2::ns) us):Tk ⟨6,em,0,n::n2::ns⟩ (sg 40::(ts++us))
 | pow (n:S28) (ts:List Tok) (c:Int) (y:q0b) (h5:n.f0≠5) (h7:n.f0≠7) (h:Tk n ts) (hy:Num y c):Tk ⟨7,em,c,[n]⟩ (ts++[sg 94,(2,y)])
 | powp (n:S28) (ts:List Tok) (c:Int) (y:q0b) (h:TkB n ts) (hy:Num y c):Tk ⟨7,em,c,[n]⟩ (sg 40::(ts++[sg 41,sg 94,(2,y)]))
/-- The tokens of a body. -/
inductive TkB:S28→List Tok→Prop
 | part (n:S28) (ts:List Tok) (h5:n.f0≠5) (h:Tk n ts):TkB n ts
 | seq (ns:List S28) (ts:List Tok) (h1:ns.length≠1) (h:TkS ns ts):TkB ⟨5,em,0,ns⟩ ts
/-- Parts in a row. -/
inductive TkS:List S28→List Tok→Prop
 | nil:TkS [] []
 | cons (n:S28) (ns:List S28) (ts us:List Tok) (h5:n.f0≠5) (h:Tk n ts) (r:TkS ns us):TkS (n::ns) (ts++us)
/-- Further alternatives, up to the closing sign. -/
inductive TkA:List S28→List Tok→Prop
 | nil:TkA [] [sg 41]
 | cons (n:S28) (ns:List S28) (ts us:List Tok) (h:TkB n ts) (r:TkA ns us):TkA (n::ns) (sg 47::(ts++us))
end
/-- From i on l holds these tokens. -/
def At (l:List S61) (i:Nat) (ts:List Tok):Prop:=i+ts.length≤l.length∧∀ j (h:j<ts.length) (h':i+j<l.length),l[i+j].f0=ts[j].1∧l[i+j].f1=ts[j].2
theorem At.left {l:List S61} {i:Nat} {ts us:List Tok} (h:At l i (ts++us)):At l i ts:=by
 have hl:=h.1
 rw[List.length_append]at hl
 refine⟨by omega,fun j hj h'=>?_⟩
 have:=h.2 j (by rw[List.length_append];omega) h'
 rw[List.getElem_append_left hj]at this
 exact this
theorem At.right {l:List S61} {i:Nat} {ts us:List Tok} (h:At l i (ts++us)):At l (i+ts.length) us:=by
 have hl:=h.1
 rw[List.length_append]at hl
 refine⟨by omega,fun j hj h'=>?_⟩
 have:=h.2 (ts.length+j) (by rw[List.length_append];omega) oMm
 rw[List.getElem_append_right oMm]at this
 simp only[Nat.add_sub_cancel_left]at this
 simp only[show i+ts.length+j=i+(ts.length+j) by omega]
 exact this
theorem At.head {l:List S61} {i:Nat} {t:Tok} {ts:List Tok} (h:At l i (t::ts)):∃ hi:i<l.length,l[i].f0=t.1∧l[i].f1=t.2:=by
 have hl:=h.1
 rw[List.length_cons]at hl
 exact⟨by omega,h.2 0 (by simp) oMm⟩
theorem At.tail {l:List S61} {i:Nat} {t:Tok} {ts:List Tok} (h:At l i (t::ts)):At l (i+1) ts:=At.right (ts:=[t]) (us:=ts) h
theorem At.sign {l:List S61} {i:Nat} {c:UInt8} {ts:List Tok} (h:At l i (sg c::ts)):Hit l i ⟨#[c]⟩:=by
 obtain⟨hi,h1,h2⟩:=h.head
 exact⟨hi,h1,by rw[h2];rfl⟩
theorem At.nosign {l:List S61} {i:Nat} {t:Tok} {ts:List Tok} (h:At l i (t::ts)) {s:q0b} (hs:t.1=4→t.2.toList≠s.toList) : ¬ Hit l i s:=by
 obtain⟨hi,h1,h2⟩:=h.head
 rintro⟨_,k1,k2⟩
 exact hs (h1 ▸ k1) (by rw[← h2];exact k2)
/-- What may follow a part: neither a power nor an opening brace. -/
def Fol (l:List S61) (i:Nat):Prop:=i≤l.length∧¬ Hit l i ⟨#[94]⟩∧¬ Hit l i ⟨#[123]⟩
/-- No part begins here. -/
def q8C (l:List S61) (i:Nat):Prop:=Fol l i∧∃ n,q0O (fun k=>q0H.f k l (i:Int) false) (q5H n false i false)
theorem v1G {c d:UInt8} (h:c≠d):(sg c).1=4→(sg c).2.toList≠(⟨#[d]⟩:q0b).toList:=fun _ k=>h (by
 have:([c]:List UInt8)=[d]:=by rw[← tl1 c,← tl1 d];exact k
 simpa using this)
/-- A part begins with a name, or with a sign that is neither a power nor a brace. -/
def Beg (t:Tok):Prop:=t.1=1∨∃ c:UInt8,t=sg c∧c≠94∧c≠123
theorem Tk.first:∀ {n:S28} {ts:List Tok},Tk n ts→∃ t us,ts=t::us∧Beg t
 | _,_,.light=>⟨_,_,rfl,.inl rfl⟩
 | _,_,.heavy=>⟨_,_,rfl,.inr ⟨45,rfl,by decide,by decide⟩⟩
 | _,_,.anceps=>⟨_,_,rfl,.inl rfl⟩
 | _,_,.fin=>⟨_,_,rfl,.inr ⟨58,rfl,by decide,by decide⟩⟩
 | _,_,.bridge=>⟨_,_,rfl,.inr ⟨126,rfl,by decide,by decide⟩⟩
 | _,_,.foot b hb=>⟨_,_,rfl,.inl rfl⟩
 | _,_,.mark b hb=>⟨_,_,rfl,.inr ⟨64,rfl,by decide,by decide⟩⟩
 | _,_,.opt n ts h=>⟨_,_,rfl,.inr ⟨91,rfl,by decide,by decide⟩⟩
 | _,_,.tag b hb n ts h=>⟨_,_,rfl,.inl rfl⟩
 | _,_,.alt n n2 ns ts us h h2=>⟨_,_,rfl,.inr ⟨40,rfl,by decide,by decide⟩⟩
 | _,_,.pow n ts c y h5 h7 h hy=>by
  obtain⟨t,us,rfl,k⟩:=Tk.first h
  exact⟨t,us++[sg 94,(2,y)],rfl,k⟩
 | _,_,.powp n ts c y h hy=>⟨_,_,rfl,.inr ⟨40,rfl,by decide,by decide⟩⟩
theorem Beg.fol {l:List S61} {i:Nat} {t:Tok} {us:List Tok} (h:At l i (t::us)) (hb:Beg t):Fol l i:=by
 refine⟨by have:=h.1;omega,h.nosign (fun e=>?_),h.nosign (fun e=>?_)⟩
 ·rcases hb with h1|⟨c,rfl,h1,h2⟩
  ·rw[h1]at e;exact absurd e dDd
  ·exact v1G h1 e
 ·rcases hb with h1|⟨c,rfl,h1,h2⟩
  ·rw[h1]at e;exact absurd e dDd
  ·exact v1G h2 e
/-- Closing signs begin no part, and follow one. -/
theorem q5j {l:List S61} (hl:l.length≤1000000) {i:Nat} {c:UInt8} (h:Hit l i ⟨#[c]⟩) (hc:c=93∨c=125∨c=41∨c=47∨c=59):q8C l i:=by
 obtain⟨hi,h4,ht⟩:=h
 have hno:∀ u:UInt8,u≠c→¬ Hit l i ⟨#[u]⟩:=fun u hu k=>hu (by
  have:=k.2.2
  rw[ht,tl1,tl1]at this
  simpa using this.symm)
 have hne:∀ u:UInt8,u ∈ ([45,58,126,64,91,40,94,123]:List UInt8)→u≠c:=by
  intro u hu e
  subst e
  rcases hc with rfl|rfl|rfl|rfl|rfl <;> exact absurd hu dDd
 refine⟨⟨by omega,hno 94 (hne 94 dDd),hno 123 (hne 123 dDd)⟩,⟨0,em,0,[]⟩,cSuc ?_⟩
 have h1:l[i].f0≠1:=by rw[h4];decide
 simp only[v0Z (q3O l i hi) h1 (fun u hu=>q5L oMm oMm (hno u (hne u (by
  simp only[List.mem_cons,List.not_mem_nil,or_false]at hu ⊢
  rcases hu with h|h|h|h|h|h <;> simp [h]))))]
 exact cCon _
end
section
/-- The parser reads a part, powers apart. -/
def v2g (l:List S61) (n:S28) (i j:Nat):Prop:=q0O (fun k=>q0H.f k l (i:Int) false) (q5H n true j false)
def SeqR (l:List S61) (n:S28) (i j:Nat):Prop:=q0O (fun k=>q0g.f k l (i:Int) false) (q4w n j false)
/-- It goes on behind a part that is put behind others. -/
def OnR (l:List S61) (n:S28) (i j:Nat):Prop:=∀ (x:List S28) r,x.length≤1000000→q0O (fun k=>q0g.l0 k (x++[n]) l (j:Int) false) r→q0O (fun k=>q0g.l0 k x l (i:Int) false) r
section
variable {l:List S61} (hl:l.length≤1000000)
include hl
theorem on_part {n:S28} {i j:Nat} (h5:n.f0≠5) (hf:Fol l j) (h:v2g l n i j):OnR l n i j:=by
 intro x r hx hr
 apply cSuc
 simp only[q0g.l0]
 refine cBin h (cPos rfl (cSuc ?_))
 simp only[q0g.j1,q5H]
 refine cND (cSuc ?_)
 simp only[q0g.l1,q5L hf.1 (by have:=hf.1;omega) hf.2.1,Option.bind_some,q5l]
 exact cND (cNeg h5 (cPO hr))
theorem v2u {n:S28} {i j:Nat} {c:Int} {y:q0b} (hy:Num y c) (hA:At l j [sg 94,(2,y)]) (hf:Fol l (j+2)) (h:v2g l n i j):OnR l ⟨7,em,c,[n]⟩ i (j+2):=by
 intro x r hx hr
 have hj:=hA.1
 rw[show([sg 94,(2,y)]:List Tok).length=2 from rfl]at hj
 obtain⟨h1,k1,k2⟩:=hA.tail.head
 apply cSuc
 simp only[q0g.l0]
 refine cBin h (cPos rfl (cSuc ?_))
 simp only[q0g.j1,q5H]
 refine cND (cSuc ?_)
 simp only[q0g.l1,q5W (show j≤l.length by omega) oMm hA.sign,Option.bind_some,q5l]
 refine cPos trivial (cBin (x:=(c,((j+2:Nat):Int),false)) ?_ (cSuc ?_))
 ·unfold q2m.f
  simp only[q5w l (j+1) 2 h1 k1 oMm,Option.bind_some,k2]
  exact cBin hy (cCon _)
 ·simp only[q0g.l1,q5L hf.1 (by have:=hf.1;omega) hf.2.1,Option.bind_some]
  exact cND (cND (cPO hr))
omit hl in
theorem seq_one {n:S28} {i j:Nat} (hs:q8C l j) (h:OnR l n i j):SeqR l n i j:=by
 obtain⟨hf,m,hm⟩:=hs
 apply cSuc
 simp only[q0g.f]
 refine h [] _ (q2W _) (cSuc ?_)
 simp only[q0g.l0]
 refine cBin hm (cNeg (show ¬ (false=true) by decide) ?_)
 exact q5P l [n] j false _ _ _ _
theorem q5Q {i:Nat} {v:UInt8} (h:i<l.length) (h4:l[i].f0=4) (ht:l[i].f1.toList=[v]):∀ u:UInt8,q0J.f l (i:Int) false ⟨#[u]⟩=some (if u=v then (true,((i+1:Nat):Int),false) else (false,(i:Int),false)):=by
 intro u
 by_cases huv:u=v
 ·rw[if_pos huv,q5W oMm oMm ⟨h,h4,by rw[ht,tl1,huv]⟩]
 ·rw[if_neg huv,q5L oMm oMm (fun k=>huv (by have:=k.2.2;rw[ht,tl1]at this;simpa using this.symm))]
theorem q7D {i:Nat} (h:i<l.length) (h1:l[i].f0=1) (hb:Nme l[i].f1):q2t.f l (i:Int) false=some (l[i].f1,((i+1:Nat):Int),false):=by
 have ht:=q5w l i 1 h h1 oMm
 unfold q2t.f q1B.f
 rw[q3O l i h]
 simp only[Option.bind_some]
 have hu:(l[i].f1.toList == (⟨#[117]⟩:q0b).toList)=false:=by rw[tl1];simpa using hb.1
 have hx:(l[i].f1.toList == (⟨#[120]⟩:q0b).toList)=false:=by rw[tl1];simpa using hb.2
 rw[if_pos h1,hu]
 simp only[Option.bind_some]
 rw[if_neg dDd,q3O l i h]
 simp only[Option.bind_some]
 rw[if_pos h1,hx]
 simp only[Option.bind_some]
 rw[if_neg dDd,ht]
 rfl
theorem v1V {n:S28} {i j:Nat} (hi:i≤l.length) (hs:SeqR l n (i+1) j) (ho:Hit l i ⟨#[40]⟩) (hc:Hit l j ⟨#[41]⟩):v2g l n i (j+1):=by
 obtain⟨h,h4,ht⟩:=ho
 rw[tl1]at ht
 have hj:j<l.length:=by obtain⟨k,_⟩:=hc;exact k
 have hns : ¬ Hit l j ⟨#[47]⟩:=fun k=>by
  have a:=hc.2.2
  have b:=k.2.2
  rw[a,tl1,tl1]at b
  exact absurd b dDd
 apply cSuc
 simp only[m_alt (q3O l i h) (show l[i].f0≠1 by rw[h4];decide) (q5Q hl h h4 ht)]
 refine cBin hs ?_
 simp only[q4w,q5l]
 apply cSuc
 simp only[q0H.l0,q5L (show j≤l.length by omega) oMm hns,q4G (show j≤l.length by omega) oMm hc,Option.bind_some]
 exact cND (cPos rfl (cPos (by simp) (cCon _)))
end
def Kp (l:List S61) (n:S28) (ts:List Tok):Prop:=∀ i,At l i ts→¬ Hit l (i+ts.length) ⟨#[123]⟩→n.f0≠7→v2g l n i (i+ts.length)
def Op1 (l:List S61) (n:S28) (ts:List Tok):Prop:=∀ i,At l i ts→Fol l (i+ts.length)→OnR l n i (i+ts.length)
def Bp (l:List S61) (n:S28) (ts:List Tok):Prop:=∀ i,At l i ts→q8C l (i+ts.length)→SeqR l n i (i+ts.length)
def Sp (l:List S61) (ns:List S28) (ts:List Tok):Prop:=∀ i,At l i ts→Fol l (i+ts.length)→∀ (x:List S28) r,x.length+ts.length≤1000000→q0O (fun k=>q0g.l0 k (x++ns) l ((i+ts.length:Nat):Int) false) r→q0O (fun k=>q0g.l0 k x l (i:Int) false) r
def Ap (l:List S61) (ns:List S28) (ts:List Tok):Prop:=∀ i,At l i ts→∀ x:List S28,0<x.length→1<x.length+ns.length→x.length+ts.length≤1000000→q0O (fun k=>q0H.l0 k x l (i:Int) false) (q5H ⟨6,em,0,x++ns⟩ true (i+ts.length) false)
section
variable {l:List S61} (hl:l.length≤1000000)
include hl
theorem q8a {ns:List S28} {ts:List Tok} (h:TkA ns ts) {i:Nat} (hA:At l i ts):q8C l i:=by
 cases h with
 | nil=>exact q5j hl hA.sign (.inr (.inr (.inl rfl)))
 | cons n ns ts us h r=>exact q5j hl hA.sign (.inr (.inr (.inr (.inl rfl))))
theorem v2c:∀ (N:Nat),(∀ n ts,ts.length≤N→Tk n ts→Kp l n ts∧(n.f0≠5→Op1 l n ts))∧(∀ n ts,ts.length≤N→TkB n ts→Bp l n ts)∧(∀ ns ts,ts.length≤N→TkS ns ts→Sp l ns ts)∧(∀ ns ts,ts.length≤N→TkA ns ts→Ap l ns ts):=by
 intro N
 induction N with
 | zero=>
  refine⟨fun n ts hN h=>?_,fun n ts hN h=>?_,fun ns ts hN h=>?_,fun ns ts hN h=>?_⟩
  ·obtain⟨t,us,rfl,_⟩:=h.first
   exact absurd hN (by simp)
  ·cases h with
   | part n ts h5 h=>
    obtain⟨t,us,rfl,_⟩:=h.first
    exact absurd hN (by simp)
   | seq ns ts h1 h=>
    cases h with
    | nil=>
     intro i hA hs
     obtain⟨hf,m,hm⟩:=hs
     apply cSuc
     simp only[q0g.f]
     apply cSuc
     simp only[q0g.l0]
     exact cBin hm (cNeg (show ¬ (false=true) by decide) (q5P l [] i false _ _ _ _))
    | cons n ns ts us h5 h r=>
     obtain⟨t,us',rfl,_⟩:=h.first
     exact absurd hN (by simp)
  ·cases h with
   | nil=>intro i hA hf x r hx hr;rw[List.append_nil]at hr;exact hr
   | cons n ns ts us h5 h r=>
    obtain⟨t,us',rfl,_⟩:=h.first
    exact absurd hN (by simp)
  ·cases h with
   | nil=>exact absurd hN (by simp)
   | cons n ns ts us h r=>exact absurd hN (by simp)
 | succ N IH=>
  obtain⟨IT,IB,IS,IA⟩:=IH
  have KT:∀ n ts,ts.length≤N+1→Tk n ts→Kp l n ts:=by
   intro n ts hN h i hA hF h7
   cases h with
   | light=>
    obtain⟨h,h1,ht⟩:=hA.head
    exact cSuc (by simp only[m_one (q3O l i h) (q4y oMm) h1 (by rw[ht,tl1])];exact cCon _)
   | anceps=>
    obtain⟨h,h1,ht⟩:=hA.head
    exact cSuc (by simp only[m_any (q3O l i h) (q4y oMm) h1 (by rw[ht,tl1])];exact cCon _)
   | heavy=>
    obtain⟨h,h4,ht⟩:=hA.head
    exact cSuc (by simp only[q8c (q3O l i h) (show l[i].f0≠1 by rw[h4];decide) (.inl ⟨rfl,rfl⟩) (q5Q hl h h4 (by rw[ht];exact tl1 _))];exact cCon _)
   | fin=>
    obtain⟨h,h4,ht⟩:=hA.head
    exact cSuc (by simp only[q8c (q3O l i h) (show l[i].f0≠1 by rw[h4];decide) (.inr (.inl ⟨rfl,rfl⟩)) (q5Q hl h h4 (by rw[ht];exact tl1 _))];exact cCon _)
   | bridge=>
    obtain⟨h,h4,ht⟩:=hA.head
    exact cSuc (by simp only[q8c (q3O l i h) (show l[i].f0≠1 by rw[h4];decide) (.inr (.inr ⟨rfl,rfl⟩)) (q5Q hl h h4 (by rw[ht];exact tl1 _))];exact cCon _)
   | foot b hb=>
    obtain⟨h,h1,ht⟩:=hA.head
    have ht:l[i].f1=b:=ht
    rw[← ht]at hb ⊢
    exact cSuc (by simp only[v2D (q3O l i h) (q4y oMm) h1 hb.1 hb.2 (q5L h oMm hF)];exact cCon _)
   | mark b hb=>
    obtain⟨h,h4,ht⟩:=hA.head
    obtain⟨h',h1,hb'⟩:=hA.tail.head
    have hb':l[i+1].f1=b:=hb'
    have hn:=q7D hl h' h1 (by rw[hb'];exact hb)
    exact cSuc (by simp only[m_at (q3O l i h) (show l[i].f0≠1 by rw[h4];decide) (q5Q hl h h4 (by rw[ht];exact tl1 _)),hn,Option.bind_some,hb'];exact cCon _)
   | opt n ts h=>
    obtain⟨hi,h4,ht⟩:=hA.head
    have hT:=hA.tail
    rw[List.length_cons,List.length_append]at hN
    have hc:=(hT.right).sign
    have hs:=IB n ts oMm h (i+1) hT.left (q5j hl hc (.inl rfl))
    have hj:i+1+ts.length<l.length:=by obtain⟨k,_⟩:=hc;exact k
    apply cSuc
    simp only[m_box (q3O l i hi) (show l[i].f0≠1 by rw[h4];decide) (q5Q hl hi h4 (by rw[ht];exact tl1 _))]
    refine cBin hs ?_
    simp only[q4w,q5l,q4G (show i+1+ts.length≤l.length by omega) oMm hc,Option.bind_some]
    exact cVal (by simp only[q5H,List.length_cons,List.length_append,List.length_nil];congr 6;omega)
   | tag b hb n ts h=>
    obtain⟨hi,h1,ht⟩:=hA.head
    have ht:l[i].f1=b:=ht
    have hT:=hA.tail.tail
    rw[List.length_cons,List.length_cons,List.length_append]at hN
    have hc:=(hT.right).sign
    have ho:=hA.tail.sign
    have hi2:i+1<l.length:=by obtain⟨k,_⟩:=ho;exact k
    have hs:=IB n ts oMm h (i+1+1) hT.left (q5j hl hc (.inr (.inl rfl)))
    have hj:i+1+1+ts.length<l.length:=by obtain⟨k,_⟩:=hc;exact k
    apply cSuc
    simp only[v1w (q3O l i hi) (q4y oMm) h1 (by rw[ht];exact hb.1) (by rw[ht];exact hb.2) (q5W oMm oMm ho)]
    refine cBin hs ?_
    simp only[q4w,q5l,q4G (show i+1+1+ts.length≤l.length by omega) oMm hc,Option.bind_some,ht]
    exact cVal (by simp only[q5H,List.length_cons,List.length_append,List.length_nil];congr 6;omega)
   | alt n n2 ns ts us h h2=>
    obtain⟨hi,h4,ht⟩:=hA.head
    have hT:=hA.tail
    rw[List.length_cons,List.length_append]at hN
    have hlen:=hA.1
    rw[List.length_cons,List.length_append]at hlen
    have hs:=IB n ts oMm h (i+1) hT.left (q8a hl h2 hT.right)
    have ha:=IA (n2::ns) us oMm h2 (i+1+ts.length) hT.right [n] (by simp) (by simp) (by simp;omega)
    apply cSuc
    simp only[m_alt (q3O l i hi) (show l[i].f0≠1 by rw[h4];decide) (q5Q hl hi h4 (by rw[ht];exact tl1 _))]
    refine cBin hs ?_
    simp only[q4w,q5l]
    rw[show i+(sg 40::(ts++us)).length=i+1+ts.length+us.length by simp only[List.length_cons,List.length_append];omega]
    exact ha
   | pow n ts c y h5 h7' h hy=>exact absurd rfl h7
   | powp n ts c y h hy=>exact absurd rfl h7
  have OT:∀ n ts,ts.length≤N+1→Tk n ts→n.f0≠5→Op1 l n ts:=by
   intro n ts hN h h5 i hA hF
   by_cases h7:n.f0=7
   ·cases h with
    | pow n ts c y h5' h7' h hy=>
     rw[List.length_append]at hN
     have hk:=KT n ts oMm h i hA.left (by
      have:=(hA.right).nosign (s:=⟨#[123]⟩) (v1G dDd)
      exact this) h7'
     have hlen:i+(ts++[sg 94,(2,y)]).length=i+ts.length+2:=by rw[List.length_append];show i+(ts.length+2)=_;omega
     rw[hlen]at hF ⊢
     exact v2u hl hy hA.right hF hk
    | powp n ts c y h hy=>
     rw[List.length_cons,List.length_append]at hN
     have hT:=hA.tail
     have hR:=hT.right
     have hs:=IB n ts oMm h (i+1) hT.left (q5j hl hR.sign (.inr (.inr (.inl rfl))))
     have hk:=v1V hl (by have:=hA.1;omega) hs hA.sign hR.sign
     have hlen:i+(sg 40::(ts++[sg 41,sg 94,(2,y)])).length=i+1+ts.length+1+2:=by rw[List.length_cons,List.length_append];show i+(ts.length+3+1)=_;omega
     rw[hlen]at hF ⊢
     exact v2u hl hy hR.tail hF hk
    | light=>exact absurd h7 dDd
    | heavy=>exact absurd h7 dDd
    | anceps=>exact absurd h7 dDd
    | fin=>exact absurd h7 dDd
    | bridge=>exact absurd h7 dDd
    | foot b hb=>exact absurd (show(4:Int)=7 from h7) dDd
    | mark b hb=>exact absurd (show(11:Int)=7 from h7) dDd
    | opt n ts h=>exact absurd (show(8:Int)=7 from h7) dDd
    | tag b hb n ts h=>exact absurd (show(12:Int)=7 from h7) dDd
    | alt n n2 ns ts us h h2=>exact absurd (show(6:Int)=7 from h7) dDd
   ·exact on_part hl h5 hF (KT n ts hN h i hA hF.2.2 h7)
  have ST:∀ ns ts,ts.length≤N+1→TkS ns ts→Sp l ns ts:=by
   intro ns ts hN h i hA hF x r hx hr
   cases h with
   | nil=>rw[List.append_nil]at hr;exact hr
   | cons n ns ts us h5 h rr=>
    obtain⟨t,ts',rfl,hb⟩:=h.first
    have hlen:(t::ts'++us).length=(t::ts').length+us.length:=List.length_append
    have h1:1≤(t::ts').length:=by simp
    rw[hlen]at hN hF hx hr
    have hf:Fol l (i+(t::ts').length):=by
     cases rr with
     | nil=>exact hF
     | cons n' ns' ts2 us2 h5' h' r'=>
      obtain⟨t2,ts2',rfl,hb2⟩:=h'.first
      exact hb2.fol (us:=ts2'++us2) hA.right
    refine OT n (t::ts') oMm h h5 i hA.left hf x r oMm ?_
    have hS:=IS ns us oMm rr (i+(t::ts').length) hA.right (by rw[Nat.add_assoc];exact hF) (x++[n]) r (by rw[List.length_append,List.length_singleton];omega)
    rw[Nat.add_assoc,List.append_assoc]at hS
    exact hS hr
  refine⟨fun n ts hN h=>⟨KT n ts hN h,OT n ts hN h⟩,fun n ts hN h=>?_,ST,fun ns ts hN h=>?_⟩
  ·intro i hA hs
   cases h with
   | part n ts h5 h=>exact seq_one hs (OT n ts hN h h5 i hA hs.1)
   | seq ns ts h1 h=>
    obtain⟨hf,m,hm⟩:=hs
    apply cSuc
    simp only[q0g.f]
    refine ST ns ts hN h i hA hf [] _ (by have:=hA.1;simp;omega) (cSuc ?_)
    simp only[q0g.l0]
    refine cBin hm (cNeg (show ¬ (false=true) by decide) ?_)
    have:=q5P l ns (i+ts.length) false m.f0 m.f1 m.f2 m.f3
    unfold one at this
    rw[if_neg h1]at this
    exact this
  ·intro i hA x hx h2 hz
   cases h with
   | nil=>
    have hc:=hA.sign
    have hj:i<l.length:=by obtain⟨k,_⟩:=hc;exact k
    have hns : ¬ Hit l i ⟨#[47]⟩:=hA.nosign (v1G dDd)
    apply cSuc
    simp only[q0H.l0,q5L (show i≤l.length by omega) oMm hns,q4G (show i≤l.length by omega) oMm hc,Option.bind_some,List.append_nil]
    exact cND (cNeg (by simp at h2;omega) (cCon _))
   | cons n ns ts us h rr=>
    have hT:=hA.tail
    rw[List.length_cons,List.length_append]at hN hz
    have hlen:=hA.1
    rw[List.length_cons,List.length_append]at hlen
    have hs:=IB n ts oMm h (i+1) hT.left (q8a hl rr hT.right)
    have ha:=IA ns us oMm rr (i+1+ts.length) hT.right (x++[n]) (by simp) (by rw[List.length_append,List.length_singleton];simp at h2;omega) (by rw[List.length_append,List.length_singleton];omega)
    apply cSuc
    simp only[q0H.l0,q5W (show i≤l.length by omega) oMm hA.sign,Option.bind_some]
    refine cPos trivial (cBin hs ?_)
    simp only[q4w,q5l]
    rw[show i+(sg 47::(ts++us)).length=i+1+ts.length+us.length by simp only[List.length_cons,List.length_append];omega,show x++n::ns=x++[n]++ns by simp]
    exact cPO ha
/-- The words of a body are read as this body. -/
theorem q8I {n:S28} {ts:List Tok} (h:TkB n ts) {i:Nat} (hA:At l i ts) (hs:q8C l (i+ts.length)):SeqR l n i (i+ts.length):=(v2c hl ts.length).2.1 n ts (q0f _) h i hA hs
end
end
section
theorem byte_eq {s s':q0b} {i j:Nat} (hi:i<s.size) (hj:j<s'.size) (h:bt s ((i:Nat):Int)=bt s' ((j:Nat):Int)):s[i]=s'[j]:=by
 have h1:=q4d s ((i:Nat):Int) (by rw[Int.toNat_natCast];exact hi)
 have h2:=q4d s' ((j:Nat):Int) (by rw[Int.toNat_natCast];exact hj)
 simp only[Int.toNat_natCast]at h1 h2
 have:s[i].toNat=s'[j].toNat:=by omega
 exact UInt8.toNat_inj.1 this
theorem q7w {s s':q0b} (hz:s.size=s'.size) (h:∀ j:Nat,j<s.size→bt s ((j:Nat):Int)=bt s' ((j:Nat):Int)):s=s':=by
 have:s.data=s'.data:=by
  apply Array.ext
  ·exact hz
  ·intro i h1 h2
   exact byte_eq (s:=s) (s':=s') h1 h2 (h i h1)
 cases s
 cases s'
 exact congrArg _ this
theorem v0A {s s':q0b} {i j:Nat} (h1:j≤s.size) (h2:j≤s'.size) (h:∀ m,i≤m→m<j→bt s' ((m:Nat):Int)=bt s ((m:Nat):Int)):s'.extract i j=s.extract i j:=by
 apply q7w
 ·rw[q4v h1,q4v h2]
 ·intro m hm
  rw[q4v h2]at hm
  rw[q4t h2 hm,q4t h1 hm]
  exact h (i+m) oMm oMm
def Al1 (c:Int):Bool:=Sm c || Dg c
/-- From i on a name runs to t. -/
inductive NRun (s:q0b):Nat→Nat→Prop
 | stop (i:Nat) (hi:i≤s.size) (h:i<s.size→Al1 (bt s ((i:Nat):Int))=false∧¬ (bt s ((i:Nat):Int)=45∧i+1<s.size∧Al1 (bt s ((i+1:Nat):Int))=true)):NRun s i i
 | one (i t:Nat) (hi:i<s.size) (h:Al1 (bt s ((i:Nat):Int))=true) (r:NRun s (i+1) t):NRun s i t
 | two (i t:Nat) (hi:i+1<s.size) (h:bt s ((i:Nat):Int)=45) (h':Al1 (bt s ((i+1:Nat):Int))=true) (r:NRun s (i+2) t):NRun s i t
theorem NRun.le {s:q0b} {i t:Nat} (h:NRun s i t):i≤t∧t≤s.size:=by
 induction h with
 | stop i hi h=>exact⟨q0f _,hi⟩
 | one i t hi h r ih=>omega
 | two i t hi h h' r ih=>omega
theorem NRun.ex (s:q0b):∀ (d i:Nat),i+d=s.size→∃ t,NRun s i t:=by
 intro d
 induction d using Nat.strongRecOn with
 | _ d IH=>
  intro i hi
  by_cases h:i<s.size
  ·cases ha:Al1 (bt s ((i:Nat):Int)) with
   | true=>
    obtain⟨t,ht⟩:=IH (d - 1) oMm (i+1) oMm
    exact⟨t,.one i t h ha ht⟩
   | false=>
    by_cases h2:bt s ((i:Nat):Int)=45∧i+1<s.size∧Al1 (bt s ((i+1:Nat):Int))=true
    ·obtain⟨t,ht⟩:=IH (d - 2) oMm (i+2) oMm
     exact⟨t,.two i t h2.2.1 h2.1 h2.2.2 ht⟩
    ·exact⟨i,.stop i oMm (fun _=>⟨ha,h2⟩)⟩
  ·exact⟨i,.stop i oMm (fun k=>absurd k h)⟩
theorem q7f {c:Int} {b:Bool} (h:Al1 c=b):(b=true→Sm c=true∨(¬ Sm c=true∧Dg c=true))∧(b=false→¬ Sm c=true∧Dg c=false):=by
 unfold Al1 at h
 cases h1:Sm c <;> cases h2:Dg c <;> simp_all
theorem NRun.comes {s:q0b} (hs:s.size≤20000) {i t:Nat} (h:NRun s i t):q0O (fun k=>q1s.l0 k s ((i:Nat):Int)) (t:Int):=by
 induction h with
 | stop i hi h=>
  have w1:=q4y (show i≤1000000 by omega)
  by_cases hlt:i<s.size
  ·obtain⟨ha,h2⟩:=h hlt
   obtain⟨a1,a2⟩:=(q7f ha).2 rfl
   have J:q0O (fun k=>q1s.j2 k s ((i:Nat):Int) (bt s ((i:Nat):Int)) (Dg (bt s ((i:Nat):Int)))) (i:Int):=by
    rw[a2]
    apply cSuc
    simp only[q1s.j2,w1]
    refine cND (cIte (fun h45=>cIte (fun h3=>cPO ?_) (fun _=>cCon _)) (fun _=>cCon _))
    simp only[q4r,q4F,Option.bind_some]
    have hb:Al1 (bt s ((i+1:Nat):Int))=false:=by
     cases hb:Al1 (bt s ((i+1:Nat):Int)) with
     | false=>rfl
     | true=>exact absurd ⟨h45,by omega,hb⟩ h2
    obtain⟨b1,b2⟩:=(q7f hb).2 rfl
    exact cNeg b1 (cNeg (by rw[b2];decide) (cCon _))
   apply cSuc
   simp only[q1s.l0,q4r,q4F,Option.bind_some]
   exact cPO (cPO (cNeg a1 J))
  ·apply cSuc
   simp only[q1s.l0]
   exact cNO (cCon _)
 | one i t hi h r ih=>
  have w1:=q4y (show i≤1000000 by omega)
  have J:q0O (fun k=>q1s.j2 k s ((i:Nat):Int) (bt s ((i:Nat):Int)) true) (t:Int):=cSuc (by simp only[q1s.j2,w1];exact cPos trivial ih)
  apply cSuc
  simp only[q1s.l0,q4r,q4F,Option.bind_some]
  refine cPO (cPO ?_)
  rcases (q7f h).1 rfl with a|⟨a,b⟩
  ·exact cPos a J
  ·rw[b];exact cNeg a J
 | two i t hi h h' r ih=>
  have w1:=q4y (show i≤1000000 by omega)
  have w2:=v2p (show i≤1000000 by omega)
  have e1 : ¬ Sm (bt s ((i:Nat):Int))=true:=by rw[h];decide
  have e2:Dg (bt s ((i:Nat):Int))=false:=by rw[h];decide
  have J:q0O (fun k=>q1s.j2 k s ((i:Nat):Int) (bt s ((i:Nat):Int)) false) (t:Int):=by
   apply cSuc
   simp only[q1s.j2,w1,w2,q4r,q4F,Option.bind_some]
   refine cND (cPos h (cPO (cPO ?_)))
   rcases (q7f h').1 rfl with a|⟨a,b⟩
   ·exact cPos a ih
   ·exact cNeg a (cPos b ih)
  apply cSuc
  simp only[q1s.l0,q4r,q4F,Option.bind_some]
  refine cPO (cPO (cNeg e1 ?_))
  rw[e2]
  exact J
/-- s' begins like s, up to m. -/
def Agr (s s':q0b) (m:Nat):Prop:=m≤s.size∧m≤s'.size∧∀ j:Nat,j<m→bt s' ((j:Nat):Int)=bt s ((j:Nat):Int)
/-- At m it ends, or white space follows. -/
def Stp (s:q0b) (m:Nat):Prop:=m<s.size→bt s ((m:Nat):Int)=32∨bt s ((m:Nat):Int)=10∨bt s ((m:Nat):Int)=9∨bt s ((m:Nat):Int)=41
theorem NRun.same {s s':q0b} {i t:Nat} (h:NRun s i t) (ha:Agr s s' t) (hp:Stp s' t):NRun s' i t:=by
 induction h with
 | stop i hi h=>
  refine .stop i ha.2.1 (fun hlt=>?_)
  rcases hp hlt with e|e|e|e <;> rw[e] <;> exact⟨by decide,fun k=>absurd k.1 dDd⟩
 | one i t hi h r ih=>
  have hl:=r.le
  exact .one i t (by have:=ha.2.1;omega) (by rw[ha.2.2 i oMm];exact h) (ih ha hp)
 | two i t hi h h' r ih=>
  have hl:=r.le
  exact .two i t (by have:=ha.2.1;omega) (by rw[ha.2.2 i oMm];exact h) (by rw[ha.2.2 (i+1) oMm];exact h') (ih ha hp)
def LexN (s:q0b) (m:Nat):Prop:=Sm (bt s ((0:Nat):Int))=true∧1≤m∧m≤20∧m≤s.size∧NRun s 1 m
def LexD (s:q0b) (m:Nat):Prop:=Sm (bt s ((0:Nat):Int))=false∧1≤m∧m≤6∧m≤s.size∧(∀ j:Nat,j<m→Dg (bt s ((j:Nat):Int))=true)∧(m<s.size→Dg (bt s ((m:Nat):Int))=false)∧¬ (1<m∧bt s ((0:Nat):Int)=48)
def SGN:q0b:=⟨#[123,125,40,41,91,93,47,59,58,126,64,61,94,44,46,124,43,42,60,62,45]⟩
def LexS (s:q0b):Prop:=0<s.size∧Sm (bt s ((0:Nat):Int))=false∧Dg (bt s ((0:Nat):Int))=false∧bt s ((0:Nat):Int)≠34∧∃ q,q3k.f SGN (bt s ((0:Nat):Int))=some q∧q≥0
/-- s begins with this token, of m letters. -/
inductive Lx (s:q0b):Int→q0b→Nat→Prop
 | name (m:Nat) (h:LexN s m):Lx s 1 (s.extract 0 m) m
 | num (m:Nat) (h:LexD s m):Lx s 2 (s.extract 0 m) m
 | sign (h:LexS s):Lx s 4 (s.extract 0 1) 1
theorem Lx.same {s s':q0b} {q:Int} {y:q0b} {m:Nat} (h:Lx s q y m) (ha:Agr s s' m) (hp:Stp s' m):Lx s' q y m:=by
 obtain⟨h1,h2,h3⟩:=ha
 cases h with
 | name m h=>
  obtain⟨a,b,c,d,e⟩:=h
  rw[← v0A h1 h2 (fun j _ hj=>h3 j hj)]
  exact .name m ⟨by rw[h3 0 oMm];exact a,b,c,h2,e.same ⟨h1,h2,h3⟩ hp⟩
 | num m h=>
  obtain⟨a,b,c,d,e,f,g⟩:=h
  rw[← v0A h1 h2 (fun j _ hj=>h3 j hj)]
  refine .num m ⟨by rw[h3 0 oMm];exact a,b,c,h2,fun j hj=>by rw[h3 j hj];exact e j hj,fun hlt=>?_,by rw[h3 0 oMm];exact g⟩
  rcases hp hlt with k|k|k|k <;> rw[k] <;> decide
 | sign h=>
  obtain⟨a,b,c,d,e⟩:=h
  rw[← v0A h1 h2 (fun j _ hj=>h3 j hj)]
  exact .sign ⟨by omega,by rw[h3 0 oMm];exact b,by rw[h3 0 oMm];exact c,by rw[h3 0 oMm];exact d,by rw[h3 0 oMm];exact e⟩
end
section
theorem nonnil {s:q0b} (h0:0<s.size) : ¬ s.toList=([]:List UInt8):=by
 rw[ByteArray.toList_eq]
 intro h
 have:=congrArg List.length h
 rw[q4W]at this
 have:s.size=0:=this
 omega
theorem v0Q {s:q0b} (hs:s.size≤20000) (h0:0<s.size) {m:Nat} (hb:Sm (bt s ((0:Nat):Int))=true) (h:NRun s 1 m):q0O (fun k=>q1s.f k s) (m:Int):=by
 have hb:Sm (bt s 0)=true:=hb
 unfold q1s.f
 simp only[q4r,hb,Option.bind_some]
 exact cNeg (nonnil h0) (cPO (cSuc (by simp only[q1s.j0];exact cND (h.comes hs))))
theorem v1f {s:q0b} (hs:s.size≤20000) {m:Nat} (hm:m≤s.size) (h1:∀ j:Nat,j<m→Dg (bt s ((j:Nat):Int))=true) (h2:m<s.size→Dg (bt s ((m:Nat):Int))=false):q0O (fun k=>q2i.f k s) (m:Int):=by
 obtain⟨t,t2,hd,hn,d1,d2⟩:=q6m s hs
 obtain rfl:t=m:=by
  rcases Nat.lt_trichotomy t m with h|h|h
  ·have a:=hn oMm
   rw[h1 t h]at a
   cases a
  ·exact h
  ·have a:=hd m h
   rw[h2 oMm]at a
   cases a
 exact d1
theorem Lx.comes {s:q0b} (hs:s.size≤20000) {q:Int} {y:q0b} {m:Nat} (h:Lx s q y m):q0O (fun k=>q3B.f k s) (q,y,0,(m:Int),0):=by
 have ti:∀ t:Nat,((t:Nat):Int).toNat=t:=Int.toNat_natCast
 unfold q3B.f
 cases h with
 | name m h=>
  obtain⟨a,b,c,d,e⟩:=h
  have a':Sm (bt s 0)=true:=a
  refine cPO ?_
  simp only[q4r,a',Option.bind_some]
  refine cPos trivial (cBin (v0Q hs oMm a e) ?_)
  simp only[ti]
  exact cNO (cPO (cPO (cCon _)))
 | num m h=>
  obtain⟨a,b,c,d,e,f,g⟩:=h
  have a':Sm (bt s 0)=false:=a
  have e0:Dg (bt s 0)=true:=e 0 oMm
  have he:(s.extract 0 m).size=m:=by rw[q4v d];omega
  have hbt:∀ j,j<m→bt (s.extract 0 m) ((j:Nat):Int)=bt s ((j:Nat):Int):=fun j hj=>by rw[q4t d oMm,Nat.zero_add]
  obtain⟨v,hv⟩:=q7R (s.extract 0 m) oMm oMm (fun j hj=>by rw[he]at hj;rw[hbt j hj];exact e j hj)
  have hb0:bt (s.extract 0 m) 0=bt s ((0:Nat):Int):=hbt 0 oMm
  rw[he,hb0,if_neg g]at hv
  refine cPO ?_
  simp only[q4r,q4F,a',e0,Option.bind_some]
  refine cND (cPos trivial (cBin (v1f hs d e f) ?_))
  simp only[ti]
  exact cNO (cPO (cPO (cBin hv (cPos rfl (cCon _)))))
 | sign h=>
  obtain⟨z,a,b,c,q,e1,e2⟩:=h
  have a':Sm (bt s 0)=false:=a
  have b':Dg (bt s 0)=false:=b
  have e1':q3k.f (⟨#[123,125,40,41,91,93,47,59,58,126,64,61,94,44,46,124,43,42,60,62,45]⟩:q0b) (bt s 0)=some q:=e1
  refine cPO ?_
  simp only[q4r,q4F,a',b',e1',Option.bind_some]
  exact cND (cND (cNeg c (cPos e2 (cPD (cPO (cCon _))))))
theorem Lx.size {s:q0b} {q:Int} {y:q0b} {m:Nat} (h:Lx s q y m):1≤m∧m≤s.size∧m≤62:=by
 cases h with
 | name m h=>exact⟨h.2.1,h.2.2.2.1,by have:=h.2.2.1;omega⟩
 | num m h=>exact⟨h.2.1,h.2.2.2.1,by have:=h.2.2.1;omega⟩
 | sign h=>exact⟨q0f _,h.1,by decide⟩
theorem Lx.head {s:q0b} {q:Int} {y:q0b} {m:Nat} (h:Lx s q y m) : ¬ Wh (bt s ((0:Nat):Int)):=by
 have key:∀ c:Int,Wh c→Sm c=false∧Dg c=false∧c≠34∧∀ q,q3k.f SGN c=some q→¬ q≥0:=by
  intro c hc
  have e:∀ c ∈ ([10,32,9,13,35]:List Int),q3k.f SGN c=some (-1)∧Sm c=false∧Dg c=false∧c≠34:=by decide +kernel
  obtain⟨e1,e2,e3,e4⟩:=e c (by rcases hc with rfl|rfl|rfl|rfl|rfl <;> decide)
  exact⟨e2,e3,e4,fun q hq k=>by rw[← Option.some.inj (e1.symm.trans hq)]at k;exact absurd k dDd⟩
 intro hw
 obtain⟨k1,k2,k3,k4⟩:=key _ hw
 cases h with
 | name m h=>rw[h.1]at k1;cases k1
 | num m h=>have:=h.2.2.2.2.1 0 h.2.1;rw[k2]at this;cases this
 | sign h=>
  obtain⟨_,_,_,_,q,e1,e2⟩:=h
  exact k4 q e1 e2
end
section
theorem bt_left {a b:q0b} {j:Nat} (h:j<a.size):bt (a++b) ((j:Nat):Int)=bt a ((j:Nat):Int):=by
 have h2:j<(a++b).size:=by rw[ByteArray.size_append];omega
 have e1:=q4d (a++b) ((j:Nat):Int) (by rw[Int.toNat_natCast];exact h2)
 have e2:=q4d a ((j:Nat):Int) (by rw[Int.toNat_natCast];exact h)
 simp only[Int.toNat_natCast]at e1 e2
 rw[← e1,← e2,ByteArray.getElem_append_left h]
theorem v1J {a b:q0b} {j:Nat} (h:j<b.size):bt (a++b) ((a.size+j:Nat):Int)=bt b ((j:Nat):Int):=by
 have h2:a.size+j<(a++b).size:=by rw[ByteArray.size_append];omega
 have e1:=q4d (a++b) ((a.size+j:Nat):Int) (by rw[Int.toNat_natCast];exact h2)
 have e2:=q4d b ((j:Nat):Int) (by rw[Int.toNat_natCast];exact h)
 simp only[Int.toNat_natCast]at e1 e2
 rw[← e1,← e2,ByteArray.getElem_append_right oMm]
 simp
theorem bt_one (c:UInt8):bt (⟨#[c]⟩:q0b) ((0:Nat):Int)=(c.toNat:Int):=rfl
end
section
theorem q9Z (n:S28) (h:Small n) (d:Int):∃ e,q0O (fun k=>q1x.f k n.f0 n.f1 n.f2 n.f3 d) e:=by
 obtain⟨e,h1,_⟩:=q6d n h d
 exact⟨e,h1⟩
theorem q7k (x:List S28) (hl:x.length≤1048576) (d:Int) (ih:∀ y,y ∈ x→Small y) (m i:Nat) (hi:i+m=x.length):∃ e,q0O (fun k=>q1x.l0 k d x (x.length:Int) (i:Int)) e:=by
 obtain⟨e,h1,_⟩:=q7W x hl 0 ⟨#[]⟩ 0 d (fun y hy=>q6d y (ih y hy) _) m i hi
 exact⟨e,h1⟩
theorem q7p (s:q0b):∃ r,q0O (fun k=>q3b.f k s) r:=by
 obtain⟨r,h,_⟩:=q6o s
 exact⟨r,h⟩
theorem q9t (s:q0b):∃ r,q0O (fun k=>q2z.f k s) r:=by
 obtain⟨r,h,_⟩:=q5R s
 exact⟨r,h⟩
theorem q0O.same {α:Type} {f:Nat→Option α} {r r':α} (h:q0O f r) (h':q0O f r'):r=r':=by
 obtain⟨K,h⟩:=h
 obtain⟨K',h'⟩:=h'
 exact q0d ((h (max K K') oMm).symm.trans (h' (max K K') oMm))
def q4Q (b:q0b):Prop:=q0O (fun k=>q2z.f k b) true
/-- A node without an error. -/
inductive Vl:S28→Prop
 | mk (a:Int) (b:q0b) (c:Int) (x:List S28) (hS:Shp a b c x=true) (hn:Nm a=true→q4Q b) (hc:0≤c∧c≤9) (hl:x.length≤1048576) (hk:∀ y,y ∈ x→Vl y):Vl ⟨a,b,c,x⟩
theorem q9r (x:List S28) (hl:x.length≤1048576) (d:Int) (hk:∀ y,y ∈ x→Small y):∀ (m i:Nat),i+m=x.length→q0O (fun k=>q1x.l0 k d x (x.length:Int) (i:Int)) 0→∀ j (h:j<x.length),i≤j→q0O (fun k=>q1x.f k x[j].f0 x[j].f1 x[j].f2 x[j].f3 (wrap64 (d+1))) 0:=by
 intro m
 induction m with
 | zero=>intro i hi _ j h hij;omega
 | succ m IH=>
  intro i hi hz j h hij
  have hlt:i<x.length:=by omega
  obtain⟨e,he⟩:=q9Z x[i] (hk _ (List.getElem_mem hlt)) (wrap64 (d+1))
  by_cases h0:e=0
  ·subst h0
   rcases q4c hij with rfl|hij
   ·exact he
   ·obtain⟨e',he'⟩:=q7k x hl d hk m (i+1) oMm
    have hs:q0O (fun k=>q1x.l0 k d x (x.length:Int) (i:Int)) e':=by
     apply cSuc
     simp only[q1x.l0,rd25 hlt,q3j (show i≤1048576 by omega)]
     exact cPO (cPO (cPO (cBin he (cPos rfl he'))))
    obtain rfl:=hs.same hz
    exact IH (i+1) oMm he' j h hij
  ·exfalso
   have hs:q0O (fun k=>q1x.l0 k d x (x.length:Int) (i:Int)) e:=by
    apply cSuc
    simp only[q1x.l0,rd25 hlt]
    exact cPO (cPO (cPO (cBin he (cNeg h0 (cCon _)))))
   exact h0 (hs.same hz)
theorem q8S:∀ (n:S28),Small n→∀ d:Int,q0O (fun k=>q1x.f k n.f0 n.f1 n.f2 n.f3 d) 0→Vl n
 | ⟨a,b,c,x⟩,hs,d,h=>by
  cases hs with
  | mk _ _ _ _ hl hk=>
  obtain⟨e,L1⟩:=q7k x hl d hk x.length 0 oMm
  have s1:=q6Y a b c x hl
  obtain⟨u,u1⟩:=q9t b
  have J:∀ z:Bool,q0O (fun k=>q1x.j0 k d z a b c x) (if z=true then 2 else if c<0 then 6 else if c > 9 then 6 else e):=by
   intro z
   apply cSuc
   simp only[q1x.j0]
   refine cIte (fun hz=>cVal (by rw[if_pos hz])) (fun hz=>?_)
   rw[if_neg hz]
   refine cIte (fun h0=>cVal (by rw[if_pos h0])) (fun h0=>?_)
   rw[if_neg h0]
   refine cIte (fun h9=>cVal (by rw[if_pos h9])) (fun h9=>?_)
   rw[if_neg h9]
   exact L1
  by_cases h12:d > 12
  ·have:q0O (fun k=>q1x.f k a b c x d) 3:=cSuc (by simp only[q1x.f];exact cPos h12 (cCon _))
   exact absurd (this.same h) dDd
  by_cases hS:Shp a b c x=true
  case neg=>
   have:q0O (fun k=>q1x.f k a b c x d) 1:=cSuc (by simp only[q1x.f];exact cNeg h12 (cBin s1 (cNeg hS (cCon _))))
   exact absurd (this.same h) dDd
  have fin:∀ z:Bool,(Nm a=true→z = !u)→(if z=true then (2:Int) else if c<0 then 6 else if c > 9 then 6 else e)=0→Vl ⟨a,b,c,x⟩:=by
   intro z hz he
   by_cases hzt:z=true
   ·rw[if_pos hzt]at he;exact absurd he dDd
   rw[if_neg hzt]at he
   by_cases h0:c<0
   ·rw[if_pos h0]at he;exact absurd he dDd
   rw[if_neg h0]at he
   by_cases h9:c > 9
   ·rw[if_pos h9]at he;exact absurd he dDd
   rw[if_neg h9]at he
   subst he
   refine .mk a b c x hS (fun hn=>?_) ⟨by omega,by omega⟩ hl (fun y hy=>?_)
   ·have:u=true:=by
     have:=hz hn
     cases u with
     | true=>rfl
     | false=>exact absurd this (by simpa using hzt)
    rw[this]at u1
    exact u1
   ·obtain⟨j,hj,rfl⟩:=List.getElem_of_mem hy
    exact q8S x[j] (hk _ hy) _ (q9r x hl d hk x.length 0 oMm L1 j hj (q2W _))
  by_cases hn:Nm a=true
  ·have:q0O (fun k=>q1x.f k a b c x d) _:=cSuc (by
    simp only[q1x.f,q7v,Option.bind_some]
    exact cNeg h12 (cBin s1 (cPos hS (cPos hn (cBin u1 (J (!u)))))))
   exact fin (!u) (fun _=>rfl) (this.same h)
  ·have:q0O (fun k=>q1x.f k a b c x d) _:=cSuc (by
    simp only[q1x.f,q7v,Option.bind_some]
    exact cNeg h12 (cBin s1 (cPos hS (cNeg hn (J false)))))
   exact fin false (fun k=>absurd k hn) (this.same h)
 termination_by n=>SizeOf.sizeOf n
 decreasing_by
  have:=List.sizeOf_lt_of_mem hy
  simp only[S28.mk.sizeOf_spec]
  omega
/-- The text of a number of one digit. -/
def dig (c:Int):q0b:=⟨#[(48+c).toNat.toUInt8]⟩
set_option maxRecDepth 100000 in
theorem dig_tab:∀ c:Fin 10,q1E.f 10 (dig (c.val:Int))=some ((c.val:Int),true):=by decide +kernel
theorem q8v {c:Int} (h:0≤c∧c≤9):Num (dig c) c:=by
 obtain⟨n,rfl⟩:∃ n:Nat,c=(n:Int):=⟨c.toNat,by omega⟩
 exact q0O.mono (fun k=>q1E.mono _ k) 10 (dig_tab ⟨n,by omega⟩)
theorem q5m {b:q0b} (h:q4Q b):Nme b:=by
 obtain⟨r,hr⟩:=q7p b
 have key:q0O (fun k=>q2z.f k b) (if r=true then (if b.toList=([117]:List UInt8) then false else (b.toList != ([120]:List UInt8))) else false):=by
  unfold q2z.f
  refine cBin hr ?_
  refine cIte (fun h1=>?_) (fun h1=>cVal (by rw[if_neg h1]))
  rw[if_pos h1]
  exact cIte (fun h2=>cVal (by rw[if_pos h2])) (fun h2=>cVal (by rw[if_neg h2]))
 have e:=key.same h
 by_cases h1:r=true
 ·rw[if_pos h1]at e
  by_cases h2:b.toList=([117]:List UInt8)
  ·rw[if_pos h2]at e;cases e
  ·rw[if_neg h2]at e
   exact⟨h2,by simpa using e⟩
 ·rw[if_neg h1]at e;cases e
end
section
/-- From c on b holds these tokens. -/
inductive Rd (b:q0b):Nat→List Tok→Prop
 | fin:Rd b b.size []
 | nl (c:Nat) (ts:List Tok) (h:c<b.size) (hb:bt b ((c:Nat):Int)=10) (r:Rd b (c+1) ts):Rd b c ts
 | white (c:Nat) (ts:List Tok) (h:c<b.size) (hb:bt b ((c:Nat):Int)=32) (r:Rd b (c+1) ts):Rd b c ts
 | tok (c m:Nat) (q:Int) (y:q0b) (ts:List Tok) (h:Lx (b.extract c b.size) q y m) (hc:c≤b.size) (r:Rd b (c+m) ts):Rd b c ((q,y)::ts)
/-- The cutter gives them. -/
theorem Rd.comes {b:q0b} (hb:b.size≤20000) {c:Nat} {ts:List Tok} (h:Rd b c ts):∀ (xs:List S61) (x:Nat),xs.length≤c→x≤c+1→∃ l',l'.map (fun t=>(t.f0,t.f1))=ts∧q0O (fun k=>q0V.l0 k b xs (x:Int) ((c:Nat):Int)) (xs++l',0,0):=by
 induction h with
 | fin=>
  intro xs x hx hx1
  refine⟨[],rfl,cSuc ?_⟩
  simp only[q0V.l0,List.append_nil]
  exact cNO (cCon _)
 | nl c ts h hb' r ih=>
  intro xs x hx hx1
  obtain⟨l',h1,h2⟩:=ih xs (x+1) oMm oMm
  refine⟨l',h1,cSuc ?_⟩
  simp only[q0V.l0,q4y (show c≤1000000 by omega),q4y (show x≤1000000 by omega)]
  exact cPO (cPO (cPos hb' h2))
 | white c ts h hb' r ih=>
  intro xs x hx hx1
  obtain⟨l',h1,h2⟩:=ih xs x oMm oMm
  exact⟨l',h1,v0I b hb h (.inl hb') h2⟩
 | tok c m q y ts h hc r ih=>
  intro xs x hx hx1
  have hz:=h.size
  have hez:(b.extract c b.size).size=b.size - c:=q4v (q0f _)
  have g0:bt (b.extract c b.size) ((0:Nat):Int)=bt b ((c:Nat):Int):=by rw[q4t (Nat.le_refl _) oMm,Nat.add_zero]
  have hw:=h.head
  rw[g0]at hw
  have hn1 : ¬ (bt b ((c:Nat):Int)=10∨bt b ((c:Nat):Int)=32∨bt b ((c:Nat):Int)=9∨bt b ((c:Nat):Int)=13):=by
   intro k
   rcases k with k|k|k|k
   ·exact hw (.inl k)
   ·exact hw (.inr (.inl k))
   ·exact hw (.inr (.inr (.inl k)))
   ·exact hw (.inr (.inr (.inr (.inl k))))
  have hn2:bt b ((c:Nat):Int)≠35:=fun k=>hw (.inr (.inr (.inr (.inr k))))
  have tn:((c:Nat):Int).toNat=c:=Int.toNat_natCast _
  have z1:1≤m:=hz.1
  have z2:c+m≤b.size:=by have z3:=hz.2;rw[hez]at z3;clear ih hez hz;omega
  clear hz
  have a1:(xs++[(⟨q,y,(x:Int)⟩:S61)]).length≤c+m:=by rw[List.length_append,List.length_singleton];clear ih hez g0 hw;omega
  have hwr:wrap64 (((c:Nat):Int)+(m:Int))=((c+m:Nat):Int):=by clear ih hez a1;unfold wrap64;omega
  have b1:c<b.size:=by clear ih hwr a1;omega
  have b2:((c:Nat):Int)≤(b.size:Int):=by clear ih hwr a1;omega
  have b3:xs.length<4398046511104:=by clear ih hwr a1 hez;omega
  have b4:(b.extract c b.size).size≤20000:=by rw[hez];clear ih hwr a1;omega
  have b5:x≤c+m+1:=by clear ih hwr a1;omega
  obtain⟨l',h1,h2⟩:=ih (xs++[⟨q,y,(x:Int)⟩]) x a1 b5
  rw[List.append_assoc]at h2
  exact⟨⟨q,y,(x:Int)⟩::l',by rw[List.map_cons,h1],q8q b b1 hn1 (v2E tn (Int.natCast_nonneg _) b2 hwr b3 hn2 (h.comes b4) h2)⟩
theorem Rd.tokens {b:q0b} (hb:b.size≤20000) {ts:List Tok} (h:Rd b 0 ts):∃ l:List S61,l.map (fun t=>(t.f0,t.f1))=ts∧q0O (fun k=>q0V.f k b) (l,0,0):=by
 obtain⟨l,h1,h2⟩:=h.comes hb [] 1 (q0f _) (q0f _)
 refine⟨l,h1,?_⟩
 unfold q0V.f
 exact cNO h2
/-- A word is cut as this token. -/
def Wk (u:q0b) (t:Tok):Prop:=Lx u t.1 t.2 u.size
/-- What may stand behind a word. -/
def Bhd (b:q0b) (c:Nat):Prop:=c<b.size→bt b ((c:Nat):Int)=32∨bt b ((c:Nat):Int)=10∨bt b ((c:Nat):Int)=9∨bt b ((c:Nat):Int)=41
/-- u stands in b at c. -/
def q5D (b u:q0b) (c:Nat):Prop:=c+u.size≤b.size∧∀ j:Nat,j<u.size→bt b ((c+j:Nat):Int)=bt u ((j:Nat):Int)
theorem Rd.word {b u:q0b} {c:Nat} {t:Tok} {ts:List Tok} (h:Wk u t) (hs:q5D b u c) (hp:Bhd b (c+u.size)) (r:Rd b (c+u.size) ts):Rd b c (t::ts):=by
 obtain⟨h1,h2⟩:=hs
 have hez:(b.extract c b.size).size=b.size - c:=q4v (q0f _)
 refine .tok c u.size t.1 t.2 ts (Lx.same h ⟨q0f _,by omega,fun j hj=>?_⟩ (fun hlt=>?_)) oMm r
 ·rw[q4t (Nat.le_refl _) oMm]
  exact h2 j hj
 ·rw[q4t (Nat.le_refl _) oMm]
  exact hp oMm
theorem Rd.sgn {b:q0b} {c:Nat} {v:UInt8} {ts:List Tok} (h:c<b.size) (hb:bt b ((c:Nat):Int)=(v.toNat:Int)) (hv:LexS ⟨#[v]⟩) (r:Rd b (c+1) ts):Rd b c (sg v::ts):=by
 have hez:(b.extract c b.size).size=b.size - c:=q4v (q0f _)
 have g0:bt (b.extract c b.size) ((0:Nat):Int)=bt (⟨#[v]⟩:q0b) ((0:Nat):Int):=by rw[q4t (Nat.le_refl _) oMm,Nat.add_zero,bt_one];exact hb
 have hx:(b.extract c b.size).extract 0 1=⟨#[v]⟩:=by
  apply q7w
  ·rw[q4v oMm];rfl
  ·intro j hj
   rw[q4v oMm]at hj
   obtain rfl:j=0:=by omega
   rw[q4t oMm oMm,Nat.add_zero]
   exact g0
 have key:Lx (b.extract c b.size) 4 ((b.extract c b.size).extract 0 1) 1:=by
  obtain⟨z,e1,e2,e3,e4⟩:=hv
  exact .sign ⟨by omega,by rw[g0];exact e1,by rw[g0];exact e2,by rw[g0];exact e3,by rw[g0];exact e4⟩
 rw[hx]at key
 exact .tok c 1 4 ⟨#[v]⟩ ts key oMm r
end
section
/-- The letters of words, with one more each. -/
def wid:List q0b→Nat
 | []=>0
 | u::us=>u.size+1+wid us
theorem q5k (a b:List q0b):wid (a++b)=wid a+wid b:=by
 induction a with
 | nil=>simp [wid]
 | cons u us ih=>simp only[List.cons_append,wid,ih];omega
theorem q5Y (a:List q0b):a.length≤wid a:=by
 induction a with
 | nil=>simp [wid]
 | cons u us ih=>simp only[List.length_cons,wid];omega
inductive Prs:List q0b→List Tok→Prop
 | nil:Prs [] []
 | cons (u:q0b) (t:Tok) (us:List q0b) (ts:List Tok) (h:Wk u t) (r:Prs us ts):Prs (u::us) (t::ts)
theorem Prs.app {a:List q0b} {s:List Tok} {b:List q0b} {t:List Tok} (h:Prs a s) (h':Prs b t):Prs (a++b) (s++t):=by
 induction h with
 | nil=>exact h'
 | cons u t us ts h r ih=>exact .cons _ _ _ _ h ih
theorem Prs.one {u:q0b} {t:Tok} (h:Wk u t):Prs [u] [t]:=.cons _ _ _ _ h .nil
def SG:List UInt8:=[45,58,126,64,91,93,40,41,47,94,123,125,61,59]
theorem sgn_tab:∀ v ∈ SG,Sm (bt (⟨#[v]⟩:q0b) ((0:Nat):Int))=false∧Dg (bt (⟨#[v]⟩:q0b) ((0:Nat):Int))=false∧bt (⟨#[v]⟩:q0b) ((0:Nat):Int)≠34∧(match q3k.f SGN (bt (⟨#[v]⟩:q0b) ((0:Nat):Int)) with|some q=>decide (q≥0)|none=>false)=true:=by decide +kernel
theorem q8y {v:UInt8} (h:v ∈ SG):LexS ⟨#[v]⟩:=by
 obtain⟨h1,h2,h3,h4⟩:=sgn_tab v h
 refine⟨Nat.one_pos,h1,h2,h3,?_⟩
 cases hq:q3k.f SGN (bt (⟨#[v]⟩:q0b) ((0:Nat):Int)) with
 | none=>rw[hq]at h4;cases h4
 | some q=>rw[hq]at h4;exact⟨q,rfl,q0a h4⟩
theorem q9f {u:q0b} {m:Nat} (h:u.size=m):u.extract 0 m=u:=by
 subst h
 apply q7w
 ·rw[q4v (Nat.le_refl _),Nat.sub_zero]
 ·intro j hj
  rw[q4v (Nat.le_refl _),Nat.sub_zero]at hj
  rw[q4t (Nat.le_refl _) oMm,Nat.zero_add]
theorem q4H {v:UInt8} (h:v ∈ SG):Wk ⟨#[v]⟩ (sg v):=by
 have:=Lx.sign (q8y h)
 rw[q9f (show(⟨#[v]⟩:q0b).size=1 from rfl)]at this
 exact this
theorem q9P {c:Int} (h:0≤c∧c≤9):Wk (dig c) (2,dig c):=by
 obtain⟨n,rfl⟩:∃ n:Nat,c=(n:Int):=⟨c.toNat,by omega⟩
 have tab:∀ n:Fin 10,Sm (bt (dig (n.val:Int)) ((0:Nat):Int))=false∧Dg (bt (dig (n.val:Int)) ((0:Nat):Int))=true:=by decide +kernel
 obtain⟨a,b⟩:=tab ⟨n,by omega⟩
 have hz:(dig (n:Int)).size=1:=rfl
 have hd:∀ j:Nat,j<1→Dg (bt (dig (n:Int)) ((j:Nat):Int))=true:=fun j hj=>by
  obtain rfl:j=0:=by omega
  exact b
 have:=Lx.num (s:=dig (n:Int)) 1 ⟨a,q0f _,by decide,by omega,hd,fun k=>absurd k oMm,fun k=>absurd k.1 dDd⟩
 rw[q9f hz]at this
 exact this
theorem v0W {b:q0b} (h:LexN b b.size):Wk b (1,b):=by
 have:=Lx.name b.size h
 rw[q9f rfl]at this
 exact this
theorem q8Y {v:UInt8} (h:v=117∨v=120):Wk ⟨#[v]⟩ (1,⟨#[v]⟩):=by
 apply v0W
 refine⟨?_,q0f _,by show(1:Nat)≤20;decide,q0f _,.stop 1 (q0f _) (fun k=>absurd k (Nat.lt_irrefl _))⟩
 rcases h with rfl|rfl <;> decide
theorem q7B {b:q0b} (hN:q0O (fun k=>q3b.f k b) true):Wk b (1,b)∧b.size≤20:=by
 unfold q3b.f at hN
 have h0 : ¬ b.toList=([]:List UInt8):=fun k=>by cases (cPos k (cCon false)).same hN
 have hz:0<b.size:=Nat.pos_of_ne_zero (fun k=>h0 (by
  have:b.data.toList.length=0:=k
  rw[ByteArray.toList_eq]
  exact List.eq_nil_of_length_eq_zero this))
 have h20:(b.size:Int)≤20:=by
  by_cases k:(b.size:Int)≤20
  ·exact k
  ·cases (cNeg h0 (cNeg k (cCon false))).same hN
 have key:∀ t:Int,q0O (fun k=>q1s.f k b) t→t=(b.size:Int):=fun t ht=>by
  have:=(cNeg h0 (cPos h20 (cBin ht (cCon (t == (b.size:Int)))))).same hN
  exact beq_iff_eq.1 this
 have hs:b.size≤20000:=by omega
 cases hb:Sm (bt b ((0:Nat):Int)) with
 | false=>
  have:=key 0 ((q6u b hs hz).2 hb)
  omega
 | true=>
  obtain⟨t,ht⟩:=NRun.ex b (b.size - 1) 1 oMm
  have e:=key t (v0Q hs hz hb ht)
  obtain rfl:t=b.size:=by omega
  exact⟨v0W ⟨hb,by omega,by omega,q0f _,ht⟩,by omega⟩
theorem q4S {b:q0b} (h:q4Q b):Wk b (1,b)∧b.size≤20:=by
 obtain⟨r,hr⟩:=q7p b
 cases r with
 | true=>exact q7B hr
 | false=>
  have key:q0O (fun k=>q2z.f k b) false:=by
   unfold q2z.f
   exact cBin hr (cND (cCon _))
  cases key.same h
end
section
/-- What is written of a node. -/
structure Wr (n:S28) (m:Nat) (ws:List q0b) (ts:List Tok):Prop where
 w:q0O (fun k=>q2C.f k n.f0 n.f1 n.f2 n.f3) ws
 p:Prs ws ts
 t:n.f0≠5→Tk n ts
 b:TkB n ts
 z:wid ws+2≤27*m
inductive Wrs:List S28→Nat→List (List q0b)→List (List Tok)→Prop
 | nil:Wrs [] 0 [] []
 | cons (n:S28) (ns:List S28) (m ms:Nat) (ws:List q0b) (wss:List (List q0b)) (ts:List Tok) (tss:List (List Tok)) (h:Wr n m ws ts) (r:Wrs ns ms wss tss):Wrs (n::ns) (m+ms) (ws::wss) (ts::tss)
theorem Wrs.len {l:List S28} {m:Nat} {wss:List (List q0b)} {tss:List (List Tok)} (h:Wrs l m wss tss):wss.length=l.length:=by
 induction h with
 | nil=>rfl
 | cons n ns m ms ws wss ts tss h r ih=>rw[List.length_cons,List.length_cons,ih]
theorem Wrs.wr {l:List S28} {m:Nat} {wss:List (List q0b)} {tss:List (List Tok)} (h:Wrs l m wss tss):∀ i (h:i<l.length) (h':i<wss.length),q0O (fun k=>q2C.f k l[i].f0 l[i].f1 l[i].f2 l[i].f3) wss[i]:=by
 induction h with
 | nil=>intro i h;exact absurd h (by simp)
 | cons n ns m ms ws wss ts tss h r ih=>
  intro i hi hi'
  cases i with
  | zero=>exact h.w
  | succ i=>exact ih i (by simpa using hi) (by simpa using hi')
theorem Wrs.wide {l:List S28} {m:Nat} {wss:List (List q0b)} {tss:List (List Tok)} (h:Wrs l m wss tss):wid wss.flatten+2*wss.length≤27*m:=by
 induction h with
 | nil=>simp [wid]
 | cons n ns m ms ws wss ts tss h r ih=>
  have:=h.z
  rw[List.flatten_cons,q5k,List.length_cons]
  omega
theorem wrs_of {l:List S28} : ∀ {m:Nat} {ys:List q0b},(∀ y,y ∈ l→∀ m1 y1,CntN y m1 y1→m1≤260→∃ ws ts,Wr y m1 ws ts)→CntL l m ys→m≤260→∃ wss tss,Wrs l m wss tss:=by
 induction l with
 | nil=>
  intro m ys _ h _
  obtain⟨rfl,rfl⟩:=h.nil_inv
  exact⟨_,_,.nil⟩
 | cons x l IH=>
  intro m ys ih h hm
  obtain⟨m1,m2,y1,y2,rfl,rfl,h1,h2⟩:=h.inv
  obtain⟨ws,ts,hw⟩:=ih x (by simp) m1 y1 h1 oMm
  obtain⟨wss,tss,hs⟩:=IH (fun y hy=>ih y (List.mem_cons_of_mem _ hy)) h2 oMm
  exact⟨_,_,.cons _ _ _ _ _ _ _ _ hw hs⟩
section
variable {l:List S28} {wss:List (List q0b)} (hl:l.length≤1048576) (hw:wss.length=l.length)
include hl hw
theorem kids_N (hk:∀ i (h:i<l.length) (h':i<wss.length),q0O (fun k=>q2C.f k l[i].f0 l[i].f1 l[i].f2 l[i].f3) wss[i]) (a:Int) (b:q0b) (c:Int) (r:List q0b)
  (hr:q0O (fun k=>q1k.l0 k wss l (l.length:Int) ((l.length:Nat):Int) a b c l) r):∀ (d i:Nat),i+d=l.length→q0O (fun k=>q1k.l0 k (wss.take i) l (l.length:Int) ((i:Nat):Int) a b c l) r:=by
 intro d
 induction d with
 | zero=>
  intro i hi
  obtain rfl:i=l.length:=by omega
  rw[List.take_of_length_le oMm]
  exact hr
 | succ d IH=>
  intro i hi
  have h:i<l.length:=by omega
  have h':i<wss.length:=by omega
  apply cSuc
  simp only[q1k.l0,rd25 h,q3j (show i≤1048576 by omega)]
  refine cPO (cPO (cPO (cBin (hk i h h') (cPos (by rw[List.length_take];omega) ?_))))
  have:=IH (i+1) oMm
  rw[List.take_succ_eq_append_getElem h']at this
  exact this
theorem kids_P (hk:∀ i (h:i<l.length) (h':i<wss.length),q0O (fun k=>q2C.f k l[i].f0 l[i].f1 l[i].f2 l[i].f3) wss[i]) (a:Int) (b:q0b) (c:Int) (r:List q0b)
  (hr:q0O (fun k=>q2F.l0 k wss l (l.length:Int) ((l.length:Nat):Int) a b c l) r):∀ (d i:Nat),i+d=l.length→q0O (fun k=>q2F.l0 k (wss.take i) l (l.length:Int) ((i:Nat):Int) a b c l) r:=by
 intro d
 induction d with
 | zero=>
  intro i hi
  obtain rfl:i=l.length:=by omega
  rw[List.take_of_length_le oMm]
  exact hr
 | succ d IH=>
  intro i hi
  have h:i<l.length:=by omega
  have h':i<wss.length:=by omega
  apply cSuc
  simp only[q2F.l0,rd25 h,q3j (show i≤1048576 by omega)]
  refine cPO (cPO (cPO (cBin (hk i h h') (cPos (by rw[List.length_take];omega) ?_))))
  have:=IH (i+1) oMm
  rw[List.take_succ_eq_append_getElem h']at this
  exact this
end
theorem q6H {l:List S28} {wss:List (List q0b)} (hl:l.length≤1048576) (hw:wss.length=l.length) (hk:∀ i (h:i<l.length) (h':i<wss.length),q0O (fun k=>q2C.f k l[i].f0 l[i].f1 l[i].f2 l[i].f3) wss[i]) {a:Int} {b:q0b} {c:Int} {r:List q0b}
  (hn : ¬ (a=7∧(q1o l 0).f0≠5∧(q1o l 0).f0≠7)) (hr:q0O (fun k=>q1k.l0 k wss l (l.length:Int) ((l.length:Nat):Int) a b c l) r):q0O (fun k=>q2C.f k a b c l) r:=by
 apply cSuc
 simp only[q2C.f]
 refine cNeg hn (cSuc ?_)
 simp only[q1k.f]
 exact kids_N hl hw hk a b c r hr l.length 0 oMm
theorem write_P {l:List S28} {wss:List (List q0b)} (hl:l.length≤1048576) (hw:wss.length=l.length) (hk:∀ i (h:i<l.length) (h':i<wss.length),q0O (fun k=>q2C.f k l[i].f0 l[i].f1 l[i].f2 l[i].f3) wss[i]) {a:Int} {b:q0b} {c:Int} {r:List q0b}
  (hn:a=7∧(q1o l 0).f0≠5∧(q1o l 0).f0≠7) (hr:q0O (fun k=>q2F.l0 k wss l (l.length:Int) ((l.length:Nat):Int) a b c l) r):q0O (fun k=>q2C.f k a b c l) r:=by
 apply cSuc
 simp only[q2C.f]
 refine cPos hn (cSuc ?_)
 simp only[q2F.f]
 exact kids_P hl hw hk a b c r hr l.length 0 oMm
theorem q6Q (xss:List (List q0b)) {i:Nat} (h:i<xss.length):(xss.drop i).flatten=xss[i]++(xss.drop (i+1)).flatten:=by rw[List.drop_eq_getElem_cons h,List.flatten_cons]
/-- Concat puts lists behind each other. -/
theorem q7m (xss:List (List q0b)) (hx:xss.length≤1048576) (ht:xss.flatten.length≤1048576):q0O (fun k=>q0t.f k xss) xss.flatten:=by
 have rl:∀ {i:Nat} (h:i<xss.length),q2Y xss (i:Int)=xss[i]:=fun {i} h=>rdl7 h
 have L1:∀ (d i:Nat) (out:List q0b),i+d=xss.length→out.length+(xss.drop i).flatten.length≤1048576→q0O (fun k=>q0t.l1 k out xss (xss.length:Int) ((i:Nat):Int)) (out++(xss.drop i).flatten):=by
  intro d
  induction d with
  | zero=>
   intro i out hi _
   rw[List.drop_eq_nil_of_le oMm,List.flatten_nil,List.append_nil]
   apply cSuc
   simp only[q0t.l1]
   exact cNO (cCon _)
  | succ d IH=>
   intro i out hi hz
   have h:i<xss.length:=by omega
   rw[q6Q xss h,List.length_append]at hz
   apply cSuc
   simp only[q0t.l1,rl h,q3j (show i≤1048576 by omega)]
   refine cPO (cPO (cPO (cPO ?_)))
   rw[q6Q xss h,← List.append_assoc]
   exact IH (i+1) _ oMm (by rw[List.length_append];omega)
 have L0:∀ (d i q:Nat),i+d=xss.length→q+(xss.drop i).flatten.length≤1048576→q0O (fun k=>q0t.l0 k xss (q:Int) xss (xss.length:Int) ((i:Nat):Int)) xss.flatten:=by
  intro d
  induction d with
  | zero=>
   intro i q hi hq
   have hg:q3M.nil (q:Int)=some []:=if_pos oMm
   apply cSuc
   simp only[q0t.l0,hg,Option.bind_some]
   refine cNO ?_
   have:=L1 xss.length 0 [] oMm (by simpa using ht)
   rwa [List.drop_zero,List.nil_append]at this
  | succ d IH=>
   intro i q hi hq
   have h:i<xss.length:=by omega
   rw[q6Q xss h,List.length_append]at hq
   have hwr:wrap64 ((q:Int)+((xss[i]).length:Int))=((q+(xss[i]).length:Nat):Int):=by unfold wrap64;omega
   apply cSuc
   simp only[q0t.l0,rl h,q3j (show i≤1048576 by omega),hwr]
   exact cPO (cPO (cPO (cNO (IH (i+1) _ oMm oMm))))
 unfold q0t.f
 exact L0 xss.length 0 0 oMm (by simpa using ht)
/-- Alternatives behind the first, with the closing sign. -/
def altw:List (List q0b)→List q0b
 | []=>[⟨#[41]⟩]
 | ws::wss=>⟨#[47]⟩::(ws++altw wss)
def altt:List (List Tok)→List Tok
 | []=>[sg 41]
 | ts::tss=>sg 47::(ts++altt tss)
theorem q8K (xss:List (List q0b)) {i:Nat} (h:i<xss.length):altw (xss.drop i)=⟨#[47]⟩::(xss[i]++altw (xss.drop (i+1))):=by rw[List.drop_eq_getElem_cons h];rfl
theorem v1K (wss:List (List q0b)):wid (altw wss)=wid wss.flatten+2*wss.length+2:=by
 induction wss with
 | nil=>rfl
 | cons ws wss ih=>
  simp only[altw,wid,List.flatten_cons,q5k,ih,List.length_cons]
  show 1+1+(wid ws+(wid wss.flatten+2*wss.length+2))=_
  omega
theorem v1L (wss:List (List q0b)) (hx:wss.length≤1048576):∀ (d i:Nat) (out:List q0b),1≤i→i+d=wss.length→out.length+(altw (wss.drop i)).length≤1048576→q0O (fun k=>q1k.l1 k out wss (wss.length:Int) ((i:Nat):Int)) (out++altw (wss.drop i)):=by
 intro d
 induction d with
 | zero=>
  intro i out h1 hi hz
  rw[List.drop_eq_nil_of_le oMm]at hz ⊢
  apply cSuc
  simp only[q1k.l1]
  exact cNO (cPO (cCon _))
 | succ d IH=>
  intro i out h1 hi hz
  have h:i<wss.length:=by omega
  rw[q8K wss h,List.length_cons,List.length_append]at hz
  apply cSuc
  simp only[q1k.l1,rdl7 h,q3j (show i≤1048576 by omega),Option.bind_some]
  refine cPO (cPO (cPO (cPO (cPO (cPos (by rw[List.length_append,List.length_singleton];omega) ?_)))))
  have:=IH (i+1) (out++[⟨#[47]⟩]++wss[i]) oMm oMm (by rw[List.length_append,List.length_append,List.length_singleton];omega)
  rw[q8K wss h]
  simpa only[List.append_assoc,List.cons_append,List.nil_append] using this
set_option maxRecDepth 100000 in
theorem v2t:∀ c:Fin 10,q2J.f 10 (c.val:Int)=some (dig (c.val:Int)):=by decide +kernel
theorem q6T {c:Int} (h:0≤c∧c≤9):q0O (fun k=>q2J.f k c) (dig c):=by
 obtain⟨n,rfl⟩:∃ n:Nat,c=(n:Int):=⟨c.toNat,by omega⟩
 exact q0O.mono (fun k=>q2J.mono _ k) 10 (v2t ⟨n,by omega⟩)
theorem v1m {b:q0b} (h:b.toList=[]):b=em:=by
 rw[ByteArray.toList_eq]at h
 cases b with
 | mk d=>
  have:d = #[]:=Array.toList_eq_nil_iff.1 h
  rw[this];rfl
theorem v0r {a:Int} {b:q0b} {c:Int} {x:List S28} (h:Shp a b c x=true):(1≤a∧a≤12)∧(Nm a=true∨b=em)∧(a=7∨c=0)∧ShpT a x=true:=by
 unfold Shp at h
 simp only[Bool.and_eq_true,Bool.or_eq_true,decide_eq_true_eq]at h
 obtain⟨⟨⟨⟨h1,h2⟩,h3⟩,h4⟩,h5⟩:=h
 exact⟨⟨h1,h2⟩,h3.imp id v1m,h4,h5⟩
theorem shpT0 {a:Int} {x:List S28} (h:ShpT a x=true) (h5:a≠5) (h6:a≠6) (h7:a≠7) (h8:a≠8) (h12:a≠12):x=[]:=by
 unfold ShpT at h
 rw[if_neg h5,if_neg h6,if_neg h7,if_neg h8,if_neg h12]at h
 exact List.eq_nil_of_length_eq_zero (q0a h)
theorem shpT1 {a:Int} {x:List S28} (h:ShpT a x=true) (ha:a=7∨a=8∨a=12):∃ y,x=[y]:=by
 have:x.length=1:=by
  unfold ShpT at h
  rcases ha with rfl|rfl|rfl <;> simpa using h
 exact List.length_eq_one_iff.1 this
theorem shpT5 {x:List S28} (h:ShpT 5 x=true):x.length≠1∧∀ y,y ∈ x→y.f0≠5:=by
 unfold ShpT no5 at h
 rw[if_pos rfl,Bool.and_eq_true,List.all_eq_true]at h
 exact⟨q0a h.1,fun y hy=>q0a (h.2 y hy)⟩
theorem shpT6 {x:List S28} (h:ShpT 6 x=true):∃ n n2 ns,x=n::n2::ns:=by
 unfold ShpT at h
 rw[if_neg dDd,if_pos rfl]at h
 have h:=q0a h
 match x,h with
 | n::n2::ns,_=>exact⟨n,n2,ns,rfl⟩
end
section
/-- Words, each with a blank ahead of it. -/
def tls:List q0b→q0b
 | []=>em
 | u::us=>((⟨#[32]⟩:q0b)++u)++tls us
/-- Words, joined by blanks. -/
def jn:List q0b→q0b
 | []=>em
 | u::us=>u++tls us
theorem em_app (z:q0b):em++z=z:=ByteArray.empty_append
theorem v2s (us:List q0b):(tls us).size=wid us:=by
 induction us with
 | nil=>rfl
 | cons u us ih=>
  simp only[tls,wid,ByteArray.size_append,ih]
  show 1+u.size+wid us=_
  omega
theorem q6k (us:List q0b):(jn us).size≤wid us:=by
 cases us with
 | nil=>exact q0f _
 | cons u us=>simp only[jn,wid,ByteArray.size_append,v2s];omega
theorem q5D.left {b x y:q0b} {c:Nat} (h:q5D b (x++y) c):q5D b x c:=by
 obtain⟨h1,h2⟩:=h
 rw[ByteArray.size_append]at h1
 refine⟨by omega,fun j hj=>?_⟩
 rw[h2 j (by rw[ByteArray.size_append];omega),bt_left hj]
theorem q5D.right {b x y:q0b} {c:Nat} (h:q5D b (x++y) c):q5D b y (c+x.size):=by
 obtain⟨h1,h2⟩:=h
 rw[ByteArray.size_append]at h1
 refine⟨by omega,fun j hj=>?_⟩
 rw[show c+x.size+j=c+(x.size+j) by omega,h2 (x.size+j) (by rw[ByteArray.size_append];omega),v1J hj]
theorem q9X {b:q0b} {us:List q0b} {c:Nat} (h:q5D b (tls us) c) (hp:Bhd b (c+(tls us).size)):Bhd b c:=by
 cases us with
 | nil=>exact hp
 | cons u us=>
  intro _
  have:=h.left.left.2 0 Nat.one_pos
  rw[Nat.add_zero]at this
  exact .inl this
theorem Rd.tail {b:q0b} {us:List q0b} {ts:List Tok} (h:Prs us ts):∀ (c:Nat) (rest:List Tok),q5D b (tls us) c→Bhd b (c+(tls us).size)→Rd b (c+(tls us).size) rest→Rd b c (ts++rest):=by
 induction h with
 | nil=>intro c rest _ _ r;exact r
 | cons u t us ts h r ih=>
  intro c rest hs hp hr
  have e:(tls (u::us)).size=1+u.size+(tls us).size:=by
   simp only[tls,ByteArray.size_append];rfl
  rw[e]at hp hr
  have s1:=hs.left.left
  have s2:=hs.left.right
  have s3:=hs.right
  have e1:(⟨#[32]⟩:q0b).size=1:=rfl
  rw[e1]at s2
  rw[ByteArray.size_append,e1]at s3
  have h1:=s1.1
  rw[e1]at h1
  have hb:=s1.2 0 Nat.one_pos
  rw[Nat.add_zero]at hb
  rw[show c+(1+u.size+(tls us).size)=c+(1+u.size)+(tls us).size by omega]at hp hr
  refine .white c _ oMm hb (Rd.word h s2 ?_ ?_)
  ·rw[show c+1+u.size=c+(1+u.size) by omega]
   exact q9X s3 hp
  ·rw[show c+1+u.size=c+(1+u.size) by omega]
   exact ih _ rest s3 hp hr
theorem Rd.join {b:q0b} {ws:List q0b} {ts:List Tok} (h:Prs ws ts) {c:Nat} {rest:List Tok} (hs:q5D b (jn ws) c) (hp:Bhd b (c+(jn ws).size)) (hr:Rd b (c+(jn ws).size) rest):Rd b c (ts++rest):=by
 cases h with
 | nil=>exact hr
 | cons u t us ts h r=>
  have s1:=hs.left
  have s2:=hs.right
  have e:(jn (u::us)).size=u.size+(tls us).size:=by simp only[jn,ByteArray.size_append]
  rw[e,← Nat.add_assoc]at hp hr
  exact Rd.word h s1 (q9X s2 hp) (Rd.tail r _ rest s2 hp hr)
/-- The two joins. -/
theorem q8T (us:List q0b):(tls us).data.toList=Lib.joinTail [32] (us.map (·.data.toList)):=by
 induction us with
 | nil=>rfl
 | cons u us ih=>
  simp only[tls,ByteArray.data_append,Array.toList_append,ih,List.map_cons,Lib.joinTail,List.flatten_cons]
end
section
theorem z1 (v:UInt8):(⟨#[v]⟩:q0b).size=1:=rfl
theorem dz (c:Int):(dig c).size=1:=rfl
section
variable {a:Int} {b:q0b} {c:Int} {r:List q0b}
/-- A node without kids is written at once. -/
theorem q6U (hr:q0O (fun k=>q1k.l0 k [] [] (([]:List S28).length:Int) ((([]:List S28).length:Nat):Int) a b c []) r) (h7:a≠7):q0O (fun k=>q2C.f k a b c []) r:=
 q6H (wss:=[]) (by simp) rfl (fun i h=>absurd h (by simp)) (fun k=>h7 k.1) hr
end
theorem q5d {a:Int} {v:UInt8} (h7:a≠7) (h5:a≠5) (t:Tok) (ht:Tk ⟨a,em,0,[]⟩ [t]) (hw:Wk ⟨#[v]⟩ t)
  (hd:q0O (fun k=>q1k.l0 k [] [] (([]:List S28).length:Int) ((([]:List S28).length:Nat):Int) a em 0 []) [⟨#[v]⟩]):∃ ws ts,Wr ⟨a,em,0,[]⟩ 1 ws ts:=by
 refine⟨[⟨#[v]⟩],[t],q6U hd h7,Prs.one hw,fun _=>ht,.part _ _ h5 ht,?_⟩
 ·simp only[wid,z1]
  omega
/-- Nodes without kids. -/
theorem wr_leaf {a:Int} {b:q0b} {c:Int} (hS:Shp a b c []=true) (hn:Nm a=true→q4Q b) (ha:a=1∨a=2∨a=3∨a=4∨a=9∨a=10∨a=11):∃ ws ts,Wr ⟨a,b,c,[]⟩ 1 ws ts:=by
 obtain⟨_,hb,hc,_⟩:=v0r hS
 have hc:c=0:=hc.resolve_left oMm
 subst hc
 rcases ha with rfl|rfl|rfl|rfl|rfl|rfl|rfl
 ·obtain rfl:=hb.resolve_left dDd
  refine q5d (v:=117) dDd dDd _ .light (q8Y (.inl rfl)) (cSuc ?_)
  simp only[q1k.l0]
  exact cNeg (by simp) (cPD (cCon _))
 ·obtain rfl:=hb.resolve_left dDd
  refine q5d (v:=45) dDd dDd _ .heavy (q4H dDd) (cSuc ?_)
  simp only[q1k.l0]
  exact cNeg (by simp) (cND (cPD (cCon _)))
 ·obtain rfl:=hb.resolve_left dDd
  refine q5d (v:=120) dDd dDd _ .anceps (q8Y (.inr rfl)) (cSuc ?_)
  simp only[q1k.l0]
  exact cNeg (by simp) (cND (cND (cPD (cCon _))))
 ·have hu:=hn dDd
  obtain⟨hw,hz⟩:=q4S hu
  have ht:Tk ⟨4,b,0,[]⟩ [(1,b)]:=.foot b (q5m hu)
  refine⟨[b],[(1,b)],q6U (cSuc ?_) (show(4:Int)≠7 by decide),Prs.one hw,fun _=>ht,.part _ _ (show(4:Int)≠5 by decide) ht,?_⟩
  ·simp only[q1k.l0]
   exact cNeg (by simp) (cND (cND (cND (cPD (cCon _)))))
  ·simp only[wid];omega
 ·obtain rfl:=hb.resolve_left dDd
  refine q5d (v:=58) dDd dDd _ .fin (q4H dDd) (cSuc ?_)
  simp only[q1k.l0]
  exact cNeg (by simp) (cND (cND (cND (cND (cPD (cCon _))))))
 ·obtain rfl:=hb.resolve_left dDd
  refine q5d (v:=126) dDd dDd _ .bridge (q4H dDd) (cSuc ?_)
  simp only[q1k.l0]
  exact cNeg (by simp) (cND (cND (cND (cND (cND (cPD (cCon _)))))))
 ·have hu:=hn dDd
  obtain⟨hw,hz⟩:=q4S hu
  have ht:Tk ⟨11,b,0,[]⟩ [sg 64,(1,b)]:=.mark b (q5m hu)
  refine⟨[⟨#[64]⟩,b],[sg 64,(1,b)],q6U (cSuc ?_) (show(11:Int)≠7 by decide),.cons _ _ _ _ (q4H dDd) (Prs.one hw),fun _=>ht,.part _ _ (show(11:Int)≠5 by decide) ht,?_⟩
  ·simp only[q1k.l0]
   exact cNeg (by simp) (cND (cND (cND (cND (cND (cND (cPD (cCon _))))))))
  ·simp only[wid,z1];omega
/-- Lists put together out of three. -/
theorem q9l (p q s:List q0b) (h:p.length+q.length+s.length≤1048576):q0O (fun k=>q0t.f k [p,q,s]) (p++(q++s)):=by
 have:=q7m [p,q,s] (by simp) (by simp only[List.flatten_cons,List.flatten_nil,List.length_append,List.length_nil];omega)
 simpa using this
section
variable {n:S28} {m:Nat} {ws:List q0b} {ts:List Tok} (h:Wr n m ws ts) (hm:m≤260)
include h
theorem Wr.one {i:Nat} (hi:i<[n].length) (hi':i<[ws].length):q0O (fun k=>q2C.f k ([n][i]).f0 ([n][i]).f1 ([n][i]).f2 ([n][i]).f3) ([ws][i]):=by
 obtain rfl:i=0:=by simpa using hi
 exact h.w
include hm
theorem Wr.few:ws.length≤7020:=by
 have:=h.z
 have:=q5Y ws
 omega
theorem wr_opt:∃ ws' ts',Wr ⟨8,em,0,[n]⟩ (m+1) ws' ts':=by
 have hf:=h.few hm
 have ht:Tk ⟨8,em,0,[n]⟩ (sg 91::(ts++[sg 93])):=.opt n ts h.b
 refine⟨⟨#[91]⟩::(ws++[⟨#[93]⟩]),_,q6H (wss:=[ws]) (by simp) rfl (fun i=>h.one) (fun k=>absurd (show(8:Int)=7 from k.1) dDd) (cSuc ?_),.cons _ _ _ _ (q4H dDd) (h.p.app (Prs.one (q4H dDd))),fun _=>ht,.part _ _ (show(8:Int)≠5 by decide) ht,?_⟩
 ·simp only[q1k.l0,show q2Y [ws] 0=ws from rfl]
  refine cNeg (by simp) (cND (cND (cND (cND (cND (cND (cND (cPD (cPos (by simp) (cBin (q9l _ _ _ ?_) (cCon _)))))))))))
  simp only[List.length_cons,List.length_nil];omega
 ·have:=h.z
  simp only[wid,q5k,z1];omega
theorem wr_tag {b:q0b} (hu:q4Q b):∃ ws' ts',Wr ⟨12,b,0,[n]⟩ (m+1) ws' ts':=by
 have hf:=h.few hm
 obtain⟨hw,hz⟩:=q4S hu
 have ht:Tk ⟨12,b,0,[n]⟩ ((1,b)::sg 123::(ts++[sg 125])):=.tag b (q5m hu) n ts h.b
 refine⟨b::⟨#[123]⟩::(ws++[⟨#[125]⟩]),_,q6H (wss:=[ws]) (by simp) rfl (fun i=>h.one) (fun k=>absurd (show(12:Int)=7 from k.1) dDd) (cSuc ?_),.cons _ _ _ _ hw (.cons _ _ _ _ (q4H dDd) (h.p.app (Prs.one (q4H dDd)))),fun _=>ht,.part _ _ (show(12:Int)≠5 by decide) ht,?_⟩
 ·simp only[q1k.l0,show q2Y [ws] 0=ws from rfl]
  refine cNeg (by simp) (cND (cND (cND (cND (cND (cND (cND (cND (cPD (cPos (by simp) (cBin (q9l _ _ _ ?_) (cCon _))))))))))))
  simp only[List.length_cons,List.length_nil];omega
 ·have:=h.z
  simp only[wid,q5k,z1];omega
theorem wr_pow {c:Int} (hc:0≤c∧c≤9):∃ ws' ts',Wr ⟨7,em,c,[n]⟩ (m+1) ws' ts':=by
 have hf:=h.few hm
 have hd:=q6T hc
 by_cases hk:n.f0=5∨n.f0=7
 ·have ht:Tk ⟨7,em,c,[n]⟩ (sg 40::(ts++[sg 41,sg 94,(2,dig c)])):=.powp n ts c (dig c) h.b (q8v hc)
  refine⟨⟨#[40]⟩::(ws++[⟨#[41]⟩,⟨#[94]⟩,dig c]),_,q6H (wss:=[ws]) (by simp) rfl (fun i=>h.one) (fun k=>hk.elim k.2.1 k.2.2) (cSuc ?_),.cons _ _ _ _ (q4H dDd) (h.p.app (.cons _ _ _ _ (q4H dDd) (.cons _ _ _ _ (q4H dDd) (Prs.one (q9P hc))))),fun _=>ht,.part _ _ (show(7:Int)≠5 by decide) ht,?_⟩
  ·simp only[q1k.l0,show q2Y [ws] 0=ws from rfl,show q1o [n] 0=n from rfl,Option.bind_some]
   have key:q0O (fun k=>(q0t.f k [[⟨#[40]⟩],ws,[⟨#[41]⟩]]).bind fun t=>(q2J.f k c).bind fun u=>if t.length+[(⟨#[94]⟩:q0b),u].length<8796093022208 then some (t++[⟨#[94]⟩,u]) else none) (⟨#[40]⟩::(ws++[⟨#[41]⟩,⟨#[94]⟩,dig c])):=by
    refine cBin (q9l _ _ _ ?_) (cBin hd (cPos ?_ (cVal (by simp))))
    ·simp only[List.length_cons,List.length_nil];omega
    ·simp only[List.length_append,List.length_cons,List.length_nil];omega
   refine cNeg (by simp) (cND (cND (cND (cND (cND (cND (cND (cND (cND (cPD (cPos (by simp) (cPos (by simp) (cIte (fun _=>key) (fun h5=>cPos (hk.resolve_left h5) key))))))))))))))
  ·have:=h.z
   simp only[wid,q5k,z1,dz];omega
 ·have h5:n.f0≠5:=fun k=>hk (.inl k)
  have h7:n.f0≠7:=fun k=>hk (.inr k)
  have ht:Tk ⟨7,em,c,[n]⟩ (ts++[sg 94,(2,dig c)]):=.pow n ts c (dig c) h5 h7 (h.t h5) (q8v hc)
  refine⟨ws++[⟨#[94]⟩,dig c],_,write_P (wss:=[ws]) (by simp) rfl (fun i=>h.one) ⟨rfl,h5,h7⟩ (cSuc ?_),h.p.app (.cons _ _ _ _ (q4H dDd) (Prs.one (q9P hc))),fun _=>ht,.part _ _ (show(7:Int)≠5 by decide) ht,?_⟩
  ·simp only[q2F.l0,show q2Y [ws] 0=ws from rfl,show q1o [n] 0=n from rfl,Option.bind_some]
   refine cNeg (by simp) (cND (cND (cND (cND (cND (cND (cND (cND (cND (cPD (cPos (by simp) (cPos (by simp) (cNeg h5 (cNeg h7 (cBin hd (cPos ?_ (cCon _)))))))))))))))))
   simp only[List.length_cons,List.length_nil];omega
  ·have:=h.z
   simp only[wid,q5k,z1,dz];omega
end
theorem Wrs.tkS {l:List S28} {m:Nat} {wss:List (List q0b)} {tss:List (List Tok)} (h:Wrs l m wss tss):(∀ y,y ∈ l→y.f0≠5)→TkS l tss.flatten:=by
 induction h with
 | nil=>intro _;exact .nil
 | cons n ns m ms ws wss ts tss h r ih=>
  intro h5
  rw[List.flatten_cons]
  exact .cons _ _ _ _ (h5 n (by simp)) (h.t (h5 n (by simp))) (ih (fun y hy=>h5 y (List.mem_cons_of_mem _ hy)))
theorem Wrs.tkA {l:List S28} {m:Nat} {wss:List (List q0b)} {tss:List (List Tok)} (h:Wrs l m wss tss):TkA l (altt tss):=by
 induction h with
 | nil=>exact .nil
 | cons n ns m ms ws wss ts tss h r ih=>exact .cons _ _ _ _ h.b ih
theorem Wrs.prs {l:List S28} {m:Nat} {wss:List (List q0b)} {tss:List (List Tok)} (h:Wrs l m wss tss):Prs wss.flatten tss.flatten∧Prs (altw wss) (altt tss):=by
 induction h with
 | nil=>exact⟨.nil,Prs.one (q4H dDd)⟩
 | cons n ns m ms ws wss ts tss h r ih=>
  rw[List.flatten_cons,List.flatten_cons]
  exact⟨h.p.app ih.1,.cons _ _ _ _ (q4H dDd) (h.p.app ih.2)⟩
theorem wr_seq {x:List S28} {m:Nat} {wss:List (List q0b)} {tss:List (List Tok)} (h:Wrs x m wss tss) (hm:m≤260) (hl:x.length≤1048576) (h1:x.length≠1) (h5:∀ y,y ∈ x→y.f0≠5):∃ ws ts,Wr ⟨5,em,0,x⟩ (m+1) ws ts:=by
 have hw:=h.wide
 have hz:=q5Y wss.flatten
 have hlen:=h.len
 refine⟨wss.flatten,tss.flatten,q6H hl hlen (fun i a b=>h.wr i a b) (fun k=>absurd (show(5:Int)=7 from k.1) dDd) (cSuc ?_),h.prs.1,fun k=>absurd rfl k,.seq _ _ h1 (h.tkS h5),by omega⟩
 ·simp only[q1k.l0]
  exact cNO (cND (cND (cND (cND (cND (cND (cND (cND (cND (cND (cND (cBin (q7m wss oMm oMm) (cCon _)))))))))))))
theorem wr_alt {n n2:S28} {x:List S28} {m:Nat} {wss:List (List q0b)} {tss:List (List Tok)} (h:Wrs (n::n2::x) m wss tss) (hm:m≤260) (hl:(n::n2::x).length≤1048576):∃ ws ts,Wr ⟨6,em,0,n::n2::x⟩ (m+1) ws ts:=by
 have hw:=h.wide
 have hlen:=h.len
 obtain⟨ws,wss,ts,tss,rfl,rfl,m1,m2,hW,hR⟩:∃ ws wss' ts tss',wss=ws::wss'∧tss=ts::tss'∧∃ m1 m2,Wr n m1 ws ts∧Wrs (n2::x) m2 wss' tss':=by
  cases h with
  | cons _ _ m1 m2 ws wss ts tss h r=>exact⟨_,_,_,_,rfl,rfl,_,_,h,r⟩
 have hwr:=h.wr
 have ht:Tk ⟨6,em,0,n::n2::x⟩ (sg 40::(ts++altt tss)):=.alt n n2 x ts _ hW.b hR.tkA
 have haw:=v1K wss
 have haz:=q5Y (altw wss)
 have hwz:=q5Y ws
 rw[List.flatten_cons,q5k,List.length_cons]at hw
 have hd:(ws::wss).drop 1=wss:=rfl
 refine⟨⟨#[40]⟩::(ws++altw wss),sg 40::(ts++altt tss),q6H hl hlen (fun i a b=>hwr i a b) (fun k=>absurd (show(6:Int)=7 from k.1) dDd) (cSuc ?_),.cons _ _ _ _ (q4H dDd) (hW.p.app hR.prs.2),fun _=>ht,.part _ _ (show(6:Int)≠5 by decide) ht,?_⟩
 ·simp only[q1k.l0]
  refine cNO (cND (cND (cND (cND (cND (cND (cND (cND (cND (cND (cPD (cSuc ?_))))))))))))
  have w1:wrap64 ((0:Int)+1)=((1:Nat):Int):=by unfold wrap64;omega
  simp only[q1k.l1,show q2Y (ws::wss) 0=ws from rfl,w1]
  refine cPos (by rw[List.length_cons];omega) (cPO (cPos (by rw[List.length_cons];omega) (cNO (cPos ?_ ?_))))
  ·simp only[List.length_cons,List.length_nil];omega
  ·have:=v1L (ws::wss) oMm wss.length 1 ([⟨#[40]⟩]++ws) oMm (by rw[List.length_cons];omega) (by rw[hd,List.length_append,List.length_singleton];omega)
   rw[hd]at this
   simpa only[List.append_assoc,List.cons_append,List.nil_append] using this
 ·simp only[wid,q5k,z1];omega
/-- Every node without an error is written. -/
theorem v0x:∀ (n:S28),Vl n→∀ (m:Nat) (ys:List q0b),CntN n m ys→m≤260→∃ ws ts,Wr n m ws ts
 | ⟨a,b,c,x⟩,hv,m,ys,hc,hm=>by
  cases hv with
  | mk _ _ _ _ hS hn hcc hl hk=>
  obtain⟨m',zs,rfl,rfl,hcl⟩:=hc.inv
  obtain⟨wss,tss,hW⟩:=wrs_of (fun y hy m1 y1 h1 h2=>v0x y (hk y hy) m1 y1 h1 h2) hcl oMm
  obtain⟨⟨a1,a12⟩,hb,hc0,hT⟩:=v0r hS
  by_cases h5:a=5
  ·subst h5
   obtain rfl:=hb.resolve_left dDd
   obtain rfl:=hc0.resolve_left dDd
   obtain⟨k1,k5⟩:=shpT5 hT
   exact wr_seq hW oMm hl k1 k5
  by_cases h6:a=6
  ·subst h6
   obtain rfl:=hb.resolve_left dDd
   obtain rfl:=hc0.resolve_left dDd
   obtain⟨n,n2,ns,rfl⟩:=shpT6 hT
   exact wr_alt hW oMm hl
  by_cases h1:a=7∨a=8∨a=12
  ·obtain⟨y,rfl⟩:=shpT1 hT h1
   obtain⟨mw,ws,ts,hw,e⟩:∃ mw ws ts,Wr y mw ws ts∧mw=m':=by
    cases hW with
    | cons _ _ m1 m2 ws wss ts tss h r=>
     cases r
     exact⟨_,_,_,h,rfl⟩
   subst e
   rcases h1 with rfl|rfl|rfl
   ·obtain rfl:=hb.resolve_left dDd
    exact wr_pow hw oMm hcc
   ·obtain rfl:=hb.resolve_left dDd
    obtain rfl:=hc0.resolve_left dDd
    exact wr_opt hw oMm
   ·obtain rfl:=hc0.resolve_left dDd
    exact wr_tag hw oMm (hn dDd)
  ·obtain rfl:=shpT0 hT h5 h6 (fun k=>h1 (.inl k)) (fun k=>h1 (.inr (.inl k))) (fun k=>h1 (.inr (.inr k)))
   obtain⟨rfl,rfl⟩:=hcl.nil_inv
   exact wr_leaf hS hn oMm
 termination_by n=>SizeOf.sizeOf n
 decreasing_by
  have:=List.sizeOf_lt_of_mem hy
  simp only[S28.mk.sizeOf_spec]
  omega
end
section
theorem at_of {l:List S61} {ts:List Tok} (h:l.map (fun t=>(t.f0,t.f1))=ts):At l 0 ts:=by
 subst h
 refine⟨by simp,fun j hj h'=>?_⟩
 rw[List.getElem_map]
 simp only[Nat.zero_add]
 exact⟨trivial,trivial⟩
theorem Prs.len {a:List q0b} {s:List Tok} (h:Prs a s):s.length=a.length:=by
 induction h with
 | nil=>rfl
 | cons u t us ts h r ih=>rw[List.length_cons,List.length_cons,ih]
end
section
theorem join_f (ws:List q0b) (h:wid ws≤100000):q4o.f ws (⟨#[32]⟩:q0b)=some (jn ws):=by
 have e:Lib.join (ws.map (·.data.toList)) (⟨#[32]⟩:q0b).data.toList=(jn ws).data.toList:=by
  cases ws with
  | nil=>rfl
  | cons u us=>
   rw[List.map_cons,Lib.join_cons]
   simp only[jn,ByteArray.data_append,Array.toList_append,q8T]
 have h1:=q5Y ws
 have h2:=q6k ws
 have h3:(jn ws).data.toList.length=(jn ws).size:=by rw[Array.length_toList];rfl
 unfold q4o.f
 rw[e,if_pos ⟨by omega,by omega⟩]
theorem v1p (n:S28) (hs:Small n) {m:Nat} {ys:List q0b} (hc:CntN n m ys) (hm:m≤1048576):(∃ e:Int,e≠0∧q0O (fun k=>q3p.f k n.f0 n.f1 n.f2 n.f3) e∧q0O (fun k=>q3r.f k n.f0 n.f1 n.f2 n.f3) e)∨
  (Vl n∧m≤200∧q0O (fun k=>q3p.f k n.f0 n.f1 n.f2 n.f3) 0∧q0O (fun k=>q3r.f k n.f0 n.f1 n.f2 n.f3) 0):=by
 obtain⟨e,h1,h2⟩:=q6d n hs 1
 have s0:=q6S m n m ys (q0f _) hc oMm
 obtain⟨v,s1,s2⟩:=q6D n hs
 obtain rfl:=s1.same s0
 unfold q3p.f q3r.f
 by_cases he:e=0
 ·subst he
  by_cases hv:m≤200
  ·exact .inr ⟨q8S n hs 1 h1,hv,cBin h1 (cPos rfl (cBin s1 (cNO (cCon _)))),cBin h2 (cPos rfl (cBin s2 (cNO (cCon _))))⟩
  ·exact .inl ⟨3,by decide,cBin h1 (cPos rfl (cBin s1 (cPO (cCon _)))),cBin h2 (cPos rfl (cBin s2 (cPO (cCon _))))⟩
 ·exact .inl ⟨e,he,cBin h1 (cNeg he (cCon _)),cBin h2 (cNeg he (cCon _))⟩
end
section
/-- How many nodes feet hold. -/
inductive CntF:List S68→Nat→Prop
 | nil:CntF [] 0
 | cons (f:S68) (fs:List S68) (m n:Nat) (ys:List q0b) (h:CntN f.f1 m ys) (r:CntF fs n):CntF (f::fs) (m+n)
theorem CntF.get {fs:List S68} {n:Nat} (h:CntF fs n):∀ i (hi:i<fs.length),∃ m ys,CntN fs[i].f1 m ys∧m≤n:=by
 induction h with
 | nil=>intro i hi;exact absurd hi (by simp)
 | cons f fs m n ys h r ih=>
  intro i hi
  cases i with
  | zero=>exact⟨m,ys,h,by omega⟩
  | succ i=>
   obtain⟨m',ys',h1,h2⟩:=ih i (by simpa using hi)
   exact⟨m',ys',h1,by omega⟩
theorem v0s {q m:Nat} (h:q+m≤200000):wrap64 ((q:Int)+(m:Int))=((q+m:Nat):Int):=by unfold wrap64;omega
theorem CntF.inv {f:S68} {fs:List S68} {k:Nat} (h:CntF (f::fs) k):∃ m n ys,k=m+n∧CntN f.f1 m ys∧CntF fs n:=by
 cases h with
 | cons _ _ m n ys h r=>exact⟨m,n,ys,rfl,h,r⟩
theorem CntF.nil_inv {k:Nat} (h:CntF [] k):k=0:=by cases h;rfl
/-- A foot without an error. -/
def FtOk (f:S68):Prop:=q4Q f.f0∧Vl f.f1
def CtOk (c:S70):Prop:=q4Q c.f0∧0≤c.f1∧c.f1≤c.f2∧c.f2≤6
def SmOk (l:List q0b):Prop:=l≠[]∧l.length≤6∧∀ x,x ∈ l→q4Q x
theorem q5a {b:q0b} (h : ¬ q4Q b):q0O (fun k=>q2z.f k b) false∧q0O (fun k=>q2x.f k b) false:=by
 obtain⟨r,h1,h2⟩:=q5R b
 cases r with
 | true=>exact absurd h1 h
 | false=>exact⟨h1,h2⟩
theorem q6n {b:q0b} (h:q4Q b):q0O (fun k=>q2x.f k b) true:=by
 obtain⟨r,h1,h2⟩:=q5R b
 obtain rfl:=h1.same h
 exact h2
theorem q9b (l:List q0b) (hl:l.length≤1048576):∀ (d i:Nat),i+d=l.length→∃ q:Int,q0O (fun k=>q0Q.l0 k l (l.length:Int) ((i:Nat):Int)) q∧(q≥0∨(q=-1∧∀ j (h:j<l.length),i≤j→q4Q l[j]))∧(q≥0→∃ j,∃ h:j<l.length,¬ q4Q l[j]):=by
 intro d
 induction d with
 | zero=>
  intro i hi
  refine⟨-1,cSuc ?_,.inr ⟨rfl,fun j h hij=>by omega⟩,fun k=>absurd k dDd⟩
  simp only[q0Q.l0]
  exact cNO (cCon _)
 | succ d IH=>
  intro i hi
  have h:i<l.length:=by omega
  by_cases hu:q4Q l[i]
  ·obtain⟨q,hq,hc,hx⟩:=IH (i+1) oMm
   refine⟨q,cSuc ?_,hc.imp id (fun k=>⟨k.1,fun j hj hij=>?_⟩),hx⟩
   ·simp only[q0Q.l0,q3T.f,q9x h,q3j (show i≤1048576 by omega)]
    exact cPO (cPO (cPO (cBin (cBin hu (cCon _)) (cND hq))))
   ·rcases q4c hij with rfl|k'
    ·exact hu
    ·exact k.2 j hj k'
  ·refine⟨(i:Int),cSuc ?_,.inl oMm,fun _=>⟨i,h,hu⟩⟩
   simp only[q0Q.l0,q3T.f,q9x h]
   exact cPO (cPO (cPO (cBin (cBin (q5a hu).1 (cCon _)) (cPos rfl (cCon _)))))
section
variable (a0:q0b) (l1:List S68) (l2:List S70) (l3:List (List q0b)) (a4:Int) (a5:q0b) (a6:Int) (l7:List S28)
/-- What a metre without an error is. -/
structure VM:Prop where
 nm:q0O (fun k=>q3b.f k a0) true
 ft:∀ x,x ∈ l1→FtOk x
 ct:∀ x,x ∈ l2→CtOk x
 sm:∀ x,x ∈ l3→SmOk x
 ln:Vl ⟨a4,a5,a6,l7⟩
variable {l1 l2 l3 a4 a5 a6 l7} {n m:Nat} {ys:List q0b} (hF:CntF l1 n) (hL:CntN ⟨a4,a5,a6,l7⟩ m ys) (hz:n+m≤100000) (z1:l1.length≤100000) (z2:l2.length≤100000) (z3:l3.length≤100000) (z4:∀ x,x ∈ l3→x.length≤100000)
include hL hz z3 z4
theorem v1z (q:Nat) (hq:q≤100000):∀ (d i:Nat),i+d=l3.length→∃ e,q0O (fun k=>q1j.l2 k (q:Int) l3 (l3.length:Int) ((i:Nat):Int) a0 l1 l2 l3 a4 a5 a6 l7) e∧q0O (fun k=>q0I.l2 k (q:Int) ((i:Nat):Int) a0 l1 l2 l3 a4 a5 a6 l7) e∧(e=0→(∀ j (h:j<l3.length),i≤j→SmOk l3[j])∧Vl ⟨a4,a5,a6,l7⟩∧q+m≤200):=by
 have hsm:=q6E m _ m ys (q0f _) hL oMm
 intro d
 induction d with
 | zero=>
  intro i hi
  rcases v1p _ hsm hL oMm with ⟨e,he,b1,b2⟩|⟨hv,h2,b1,b2⟩
  ·refine⟨e,cSuc ?_,cSuc ?_,fun k=>absurd k he⟩
   ·simp only[q1j.l2];exact cNO (cBin b1 (cNeg he (cCon _)))
   ·simp only[q0I.l2];exact cNO (cBin b2 (cNeg he (cCon _)))
  ·obtain⟨v,s1,s2⟩:=q6D _ hsm
   obtain rfl:=s1.same (q6S m _ m ys (q0f _) hL oMm)
   have hw:=v0s (show q+m≤200000 by omega)
   by_cases hv2:wrap64 ((q:Int)+(m:Int)) > 200
   ·refine⟨3,cSuc ?_,cSuc ?_,fun k=>absurd k dDd⟩
    ·simp only[q1j.l2];exact cNO (cBin b1 (cPos rfl (cBin s1 (cPos hv2 (cCon _)))))
    ·simp only[q0I.l2];exact cNO (cBin b2 (cPos rfl (cBin s2 (cPos hv2 (cCon _)))))
   ·refine⟨0,cSuc ?_,cSuc ?_,fun _=>⟨fun j h hij=>by omega,hv,by omega⟩⟩
    ·simp only[q1j.l2];exact cNO (cBin b1 (cPos rfl (cBin s1 (cNeg hv2 (cCon _)))))
    ·simp only[q0I.l2];exact cNO (cBin b2 (cPos rfl (cBin s2 (cNeg hv2 (cCon _)))))
 | succ d IH=>
  intro i hi
  have h:i<l3.length:=by omega
  have h10:=z4 _ (List.getElem_mem h)
  by_cases h0:l3[i].length=0
  ·refine⟨7,cSuc ?_,cSuc ?_,fun k=>absurd k dDd⟩
   ·simp only[q1j.l2,rdl7 h];exact cPO (cPO (cPO (cPO (cCon _))))
   ·simp only[q0I.l2,rdl7 h];exact cPO (cPO (cPO (cCon _)))
  by_cases h6:l3[i].length > 6
  ·refine⟨3,cSuc ?_,cSuc ?_,fun k=>absurd k dDd⟩
   ·simp only[q1j.l2,rdl7 h];exact cPO (cPO (cPO (cNO (cPO (cCon _)))))
   ·simp only[q0I.l2,rdl7 h];exact cPO (cPO (cNO (cPO (cCon _))))
  obtain⟨c,hc,hcc,hcx⟩:=q9b l3[i] oMm l3[i].length 0 oMm
  have hcf:q0O (fun k=>q1L.f k l3[i] ()) (decide (c≥0)):=by
   unfold q1L.f q0Q.f
   exact cBin hc (cCon _)
  obtain⟨e,e1,e2,e3⟩:=IH (i+1) oMm
  have inner:∀ (d2 j:Nat),j+d2=l3[i].length→(∀ p (hp:p<l3[i].length),p<j→q4Q l3[i][p])→q0O (fun k=>q0I.l3 k (q:Int) ((i:Nat):Int) ((j:Nat):Int) a0 l1 l2 l3 a4 a5 a6 l7) (if c≥0 then 2 else e):=by
   intro d2
   induction d2 with
   | zero=>
    intro j hj hall
    have hneg : ¬ c≥0:=fun k=>by
     obtain⟨p,hp,hpu⟩:=hcx k
     exact hpu (hall p hp oMm)
    rw[if_neg hneg]
    apply cSuc
    simp only[q0I.l3,rdl7 h,q3j (show i≤1048576 by omega)]
    exact cPO (cPO (cNO e2))
   | succ d2 IH2=>
    intro j hj hall
    have hj2:j<l3[i].length:=by omega
    apply cSuc
    simp only[q0I.l3,rdl7 h,q9x hj2,q3j (show j≤1048576 by omega)]
    refine cPO (cPO (cPO (cPO ?_)))
    by_cases hu:q4Q l3[i][j]
    ·refine cBin (q6n hu) (cPos rfl (IH2 (j+1) oMm (fun p hp hpj=>?_)))
     rcases Nat.lt_or_ge p j with k|k
     ·exact hall p hp k
     ·obtain rfl:p=j:=by omega
      exact hu
    ·have hpos:c≥0:=by
      rcases hcc with k|⟨_,k⟩
      ·exact k
      ·exact absurd (k j hj2 (q2W _)) hu
     rw[if_pos hpos]
     exact cBin (q5a hu).2 (cND (cCon _))
  have r3:=inner l3[i].length 0 oMm (fun p hp k=>absurd k (Nat.not_lt_zero _))
  refine⟨if c≥0 then 2 else e,cSuc ?_,cSuc ?_,fun k=>?_⟩
  ·simp only[q1j.l2,rdl7 h,q3j (show i≤1048576 by omega)]
   refine cPO (cPO (cPO (cNO (cNO (cBin hcf ?_)))))
   by_cases hc0:c≥0
   ·rw[if_pos hc0];exact cPos (q0p hc0) (cCon _)
   ·rw[if_neg hc0];exact cNeg (by rw[decide_eq_false hc0];decide) e1
  ·simp only[q0I.l2,rdl7 h]
   exact cPO (cPO (cNO (cNO r3)))
  ·by_cases hc0:c≥0
   ·rw[if_pos hc0]at k;exact absurd k dDd
   ·rw[if_neg hc0]at k
    obtain⟨k1,k2⟩:=e3 k
    refine⟨fun j hj hij=>?_,k2⟩
    rcases q4c hij with rfl|hij'
    ·rcases hcc with k'|⟨_,k'⟩
     ·exact absurd k' hc0
     ·refine⟨fun e0=>h0 (by rw[e0];rfl),by omega,fun x hx=>?_⟩
      obtain⟨p,hp,rfl⟩:=List.getElem_of_mem hx
      exact k' p hp (q2W _)
    ·exact k1 j hj hij'
include z2
theorem v2r (q:Nat) (hq:q≤100000):∀ (d i:Nat),i+d=l2.length→∃ e,q0O (fun k=>q1j.l1 k (q:Int) l2 (l2.length:Int) ((i:Nat):Int) a0 l1 l2 l3 a4 a5 a6 l7) e∧q0O (fun k=>q0I.l1 k (q:Int) ((i:Nat):Int) a0 l1 l2 l3 a4 a5 a6 l7) e∧(e=0→(∀ j (h:j<l2.length),i≤j→CtOk l2[j])∧(∀ j (h:j<l3.length),SmOk l3[j])∧Vl ⟨a4,a5,a6,l7⟩∧q+m≤200):=by
 intro d
 induction d with
 | zero=>
  intro i hi
  obtain⟨e,e1,e2,e3⟩:=v1z a0 (l1:=l1) (l2:=l2) hL hz z3 z4 q hq l3.length 0 oMm
  refine⟨e,cSuc ?_,cSuc ?_,fun k=>⟨fun j h hij=>by omega,fun j h=>(e3 k).1 j h (q2W _),(e3 k).2⟩⟩
  ·simp only[q1j.l1];exact cNO e1
  ·simp only[q0I.l1];exact cNO e2
 | succ d IH=>
  intro i hi
  have h:i<l2.length:=by omega
  by_cases hu:q4Q l2[i].f0
  case neg=>
   refine⟨2,cSuc ?_,cSuc ?_,fun k=>absurd k dDd⟩
   ·simp only[q1j.l1,rd88 h];exact cPO (cPO (cPO (cBin (q5a hu).1 (cND (cCon _)))))
   ·simp only[q0I.l1,rd88 h];exact cPO (cPO (cBin (q5a hu).2 (cND (cCon _))))
  have ht:=q6n hu
  by_cases hr:l2[i].f1<0∨l2[i].f2<l2[i].f1∨6<l2[i].f2
  ·refine⟨6,cSuc ?_,cSuc ?_,fun k=>absurd k dDd⟩
   ·simp only[q1j.l1,rd88 h]
    exact cPO (cPO (cPO (cBin hu (cPos rfl (cIte (fun _=>cCon _) (fun k1=>cIte (fun _=>cCon _) (fun k2=>cPO (cCon _))))))))
   ·simp only[q0I.l1,rd88 h]
    exact cPO (cPO (cBin ht (cPos rfl (cIte (fun _=>cCon _) (fun k1=>cIte (fun _=>cCon _) (fun k2=>cPO (cCon _)))))))
  ·obtain⟨e,e1,e2,e3⟩:=IH (i+1) oMm
   refine⟨e,cSuc ?_,cSuc ?_,fun k=>?_⟩
   ·simp only[q1j.l1,rd88 h,q3j (show i≤1048576 by omega)]
    exact cPO (cPO (cPO (cBin hu (cPos rfl (cNO (cNO (cNO e1)))))))
   ·simp only[q0I.l1,rd88 h,q3j (show i≤1048576 by omega)]
    exact cPO (cPO (cBin ht (cPos rfl (cNO (cNO (cNO e2))))))
   ·obtain⟨k1,k2⟩:=e3 k
    refine⟨fun j hj hij=>?_,k2⟩
    rcases q4c hij with rfl|hij'
    ·exact⟨hu,by omega,by omega,by omega⟩
    ·exact k1 j hj hij'
include z1
theorem v1Q:∀ (d i:Nat) (q c:Nat),i+d=l1.length→CntF (l1.drop i) c→q+c+m≤100000→∃ e,q0O (fun k=>q1j.l0 k (q:Int) l1 (l1.length:Int) ((i:Nat):Int) a0 l1 l2 l3 a4 a5 a6 l7) e∧q0O (fun k=>q0I.l0 k (q:Int) ((i:Nat):Int) a0 l1 l2 l3 a4 a5 a6 l7) e∧(e=0→(∀ j (h:j<l1.length),i≤j→FtOk l1[j])∧(∀ j (h:j<l2.length),CtOk l2[j])∧(∀ j (h:j<l3.length),SmOk l3[j])∧Vl ⟨a4,a5,a6,l7⟩∧q+c+m≤200):=by
 intro d
 induction d with
 | zero=>
  intro i q c hi hC hqc
  rw[List.drop_eq_nil_of_le oMm]at hC
  obtain rfl:=hC.nil_inv
  obtain⟨e,e1,e2,e3⟩:=v2r a0 (l1:=l1) hL hz z2 z3 z4 q oMm l2.length 0 oMm
  refine⟨e,cSuc ?_,cSuc ?_,fun k=>⟨fun j h hij=>by omega,fun j h=>(e3 k).1 j h (q2W _),(e3 k).2⟩⟩
  ·simp only[q1j.l0];exact cNO e1
  ·simp only[q0I.l0];exact cNO e2
 | succ d IH=>
  intro i q c hi hC hqc
  have h:i<l1.length:=by omega
  rw[List.drop_eq_getElem_cons h]at hC
  obtain⟨mi,c',yi,rfl,hci,hC'⟩:=hC.inv
  have hsm:=q6E mi _ mi yi (q0f _) hci oMm
  by_cases hu:q4Q l1[i].f0
  case neg=>
   refine⟨2,cSuc ?_,cSuc ?_,fun k=>absurd k dDd⟩
   ·simp only[q1j.l0,rd86 h];exact cPO (cPO (cPO (cBin (q5a hu).1 (cND (cCon _)))))
   ·simp only[q0I.l0,rd86 h];exact cPO (cPO (cBin (q5a hu).2 (cND (cCon _))))
  have ht:=q6n hu
  rcases v1p _ hsm hci oMm with ⟨e,he,b1,b2⟩|⟨hv,h2,b1,b2⟩
  ·refine⟨e,cSuc ?_,cSuc ?_,fun k=>absurd k he⟩
   ·simp only[q1j.l0,rd86 h];exact cPO (cPO (cPO (cBin hu (cPos rfl (cBin b1 (cNeg he (cCon _)))))))
   ·simp only[q0I.l0,rd86 h];exact cPO (cPO (cBin ht (cPos rfl (cBin b2 (cNeg he (cCon _))))))
  ·obtain⟨v,s1,s2⟩:=q6D _ hsm
   obtain rfl:=s1.same (q6S mi _ mi yi (q0f _) hci oMm)
   have hq2:q+mi+c'+m≤100000:=by omega
   obtain⟨e,e1,e2,e3⟩:=IH (i+1) (q+mi) c' oMm hC' hq2
   rw[← v0s (show q+mi≤200000 by omega)]at e1 e2
   refine⟨e,cSuc ?_,cSuc ?_,fun k=>?_⟩
   ·simp only[q1j.l0,rd86 h,q3j (show i≤1048576 by omega)]
    exact cPO (cPO (cPO (cBin hu (cPos rfl (cBin b1 (cPos rfl (cBin s1 e1)))))))
   ·simp only[q0I.l0,rd86 h,q3j (show i≤1048576 by omega)]
    exact cPO (cPO (cBin ht (cPos rfl (cBin b2 (cPos rfl (cBin s2 e2))))))
   ·obtain⟨k1,k2,k3,k4,k5⟩:=e3 k
    refine⟨fun j hj hij=>?_,k2,k3,k4,by omega⟩
    rcases q4c hij with rfl|hij'
    ·exact⟨hu,hv⟩
    ·exact k1 j hj hij'
include hF
/-- Both come to the same error; without one the metre is right. -/
theorem v0l:∃ e,q0O (fun k=>q1j.f k a0 l1 l2 l3 a4 a5 a6 l7) e∧q0O (fun k=>q0I.f k a0 l1 l2 l3 a4 a5 a6 l7) e∧(e=0→VM a0 l1 l2 l3 a4 a5 a6 l7∧n+m≤200∧l1.length≤20∧l2.length≤3∧l3.length≤3):=by
 obtain⟨r,n1,n2⟩:=q6o a0
 obtain⟨e,e1,e2,e3⟩:=v1Q a0 hL hz z1 z2 z3 z4 l1.length 0 0 n oMm (by rw[List.drop_zero];exact hF) oMm
 cases r with
 | false=>
  refine⟨2,?_,?_,fun k=>absurd k dDd⟩
  ·unfold q1j.f;exact cBin n1 (cND (cCon _))
  ·unfold q0I.f;exact cBin n2 (cND (cCon _))
 | true=>
  have jt:q0O (fun k=>q1j.j0 k true a0 l1 l2 l3 a4 a5 a6 l7) 3:=cSuc (by simp only[q1j.j0];exact cPos trivial (cCon _))
  have rt:q0O (fun k=>q0I.j0 k true a0 l1 l2 l3 a4 a5 a6 l7) 3:=cSuc (by simp only[q0I.j0];exact cPos trivial (cCon _))
  by_cases hb:l1.length > 20∨l2.length > 3∨l3.length > 3
  ·refine⟨3,?_,?_,fun k=>absurd k dDd⟩
   ·unfold q1j.f
    refine cBin n1 (cPos rfl (cIte (fun _=>jt) (fun k1=>cIte (fun _=>jt) (fun k2=>?_))))
    rw[decide_eq_true (show(l3.length:Int) > 3 by omega)];exact jt
   ·unfold q0I.f
    refine cBin n2 (cPos rfl (cIte (fun _=>rt) (fun k1=>cIte (fun _=>rt) (fun k2=>?_))))
    rw[decide_eq_true (show(l3.length:Int) > 3 by omega)];exact rt
  ·refine⟨e,?_,?_,fun k=>?_⟩
   ·unfold q1j.f
    refine cBin n1 (cPos rfl (cNO (cNO ?_)))
    rw[decide_eq_false (show ¬ (l3.length:Int) > 3 by omega)]
    apply cSuc
    simp only[q1j.j0]
    exact cND e1
   ·unfold q0I.f
    refine cBin n2 (cPos rfl (cNO (cNO ?_)))
    rw[decide_eq_false (show ¬ (l3.length:Int) > 3 by omega)]
    apply cSuc
    simp only[q0I.j0]
    exact cND e2
   ·obtain⟨k1,k2,k3,k4,k5⟩:=e3 k
    refine⟨⟨n1,fun x hx=>?_,fun x hx=>?_,fun x hx=>?_,k4⟩,by omega,by omega,by omega,by omega⟩
    ·obtain⟨j,hj,rfl⟩:=List.getElem_of_mem hx;exact k1 j hj (q2W _)
    ·obtain⟨j,hj,rfl⟩:=List.getElem_of_mem hx;exact k2 j hj
    ·obtain⟨j,hj,rfl⟩:=List.getElem_of_mem hx;exact k3 j hj
end
end
section
def q5I:q0b:=⟨#[102,111,111,116]⟩
def q5U:q0b:=⟨#[99,111,117,110,116]⟩
def q7a:q0b:=⟨#[115,111,109,101]⟩
def q4U:q0b:=⟨#[108,105,110,101]⟩
/-- The lines of items. -/
def itms:List (List q0b)→q0b
 | []=>em
 | ws::wss=>itm (jn ws)++itms wss
def wd:List (List q0b)→Nat
 | []=>0
 | ws::wss=>wid ws+5+wd wss
theorem wd_app (a b:List (List q0b)):wd (a++b)=wd a+wd b:=by
 induction a with
 | nil=>simp [wd]
 | cons u us ih=>simp only[List.cons_append,wd,ih];omega
theorem v1s (wss:List (List q0b)):(itms wss).size≤wd wss:=by
 induction wss with
 | nil=>exact q0f _
 | cons ws wss ih=>
  have:=q6k ws
  simp only[itms,wd,ByteArray.size_append,q5C]
  omega
theorem q6f {o:q0b} {ws:List q0b} {K:Nat→q0b→Option (q0b × Int)} {r} (hw:wid ws≤100000) (ho:o.size≤1000000) (h:q0O (fun k=>K k (o++itm (jn ws))) r):q0O (fun k=>put1 o ws (K k)) r:=by
 have:=q6k ws
 simp only[put1,join_f ws hw,Option.bind_some]
 exact cPO h
theorem q6s (o:q0b) (ws:List q0b) (wss:List (List q0b)) (z:q0b):(o++itm (jn ws))++(itms wss++z)=o++(itms (ws::wss)++z):=by
 simp only[itms,ByteArray.append_assoc]
def wEnd:q0b:=⟨#[125,10]⟩
def smw (l:List q0b):List q0b:=[q7a]++l
def ctw (c:S70):List q0b:=[q5U,c.f0,dig c.f1,dig c.f2]
/-- The words of feet. -/
inductive FW:List S68→Nat→List (List q0b)→List (List Tok)→Prop
 | nil:FW [] 0 [] []
 | cons (f:S68) (fs:List S68) (m n:Nat) (ws:List q0b) (ts:List Tok) (wss:List (List q0b)) (tss:List (List Tok)) (hu:q4Q f.f0) (h:Wr f.f1 m ws ts) (r:FW fs n wss tss) :
   FW (f::fs) (m+n) (([q5I,f.f0,⟨#[61]⟩]++ws)::wss) (((1,q5I)::(1,f.f0)::sg 61::ts)::tss)
theorem FW.wide {fs:List S68} {n:Nat} {wss:List (List q0b)} {tss:List (List Tok)} (h:FW fs n wss tss):wd wss≤27*n+40*fs.length:=by
 induction h with
 | nil=>exact q2W _
 | cons f fs m n ws ts wss tss hu h r ih=>
  have z1:=(q4S hu).2
  have z2:=h.z
  have e1:q5I.size=4:=rfl
  have e2:(⟨#[61]⟩:q0b).size=1:=rfl
  simp only[wd,q5k,wid,List.length_cons,e1,e2]
  omega
theorem fw_of:∀ {fs:List S68} {n:Nat},CntF fs n→n≤260→(∀ x,x ∈ fs→FtOk x)→∃ wss tss,FW fs n wss tss:=by
 intro fs n h
 induction h with
 | nil=>exact fun _ _=>⟨_,_,.nil⟩
 | cons f fs m n ys h r ih=>
  intro hn hk
  obtain⟨h1,h2⟩:=hk f (by simp)
  obtain⟨ws,ts,hw⟩:=v0x _ h2 m ys h oMm
  obtain⟨wss,tss,hs⟩:=ih oMm (fun x hx=>hk x (List.mem_cons_of_mem _ hx))
  exact⟨_,_,.cons _ _ _ _ _ _ _ _ h1 hw hs⟩
theorem q9T {l:List q0b} (h:SmOk l):wid (smw l)≤5+21*l.length:=by
 obtain⟨_,_,hu⟩:=h
 have e:q7a.size=4:=rfl
 have key:∀ l:List q0b,(∀ x,x ∈ l→q4Q x)→wid l≤21*l.length:=by
  intro l
  induction l with
  | nil=>intro _;exact q0f _
  | cons u us ih=>
   intro h
   have z1:=(q4S (h u (by simp))).2
   have:=ih (fun x hx=>h x (List.mem_cons_of_mem _ hx))
   simp only[wid,List.length_cons]
   omega
 have:=key l hu
 simp only[smw,q5k,wid,e]
 omega
theorem q9R {c:S70} (h:CtOk c):wid (ctw c)≤31:=by
 have z1:=(q4S h.1).2
 have e:q5U.size=5:=rfl
 simp only[ctw,wid,dz,e]
 omega
theorem v2z {α:Type} (f:α→List q0b) (q:Nat) (l:List α) (h:∀ x,x ∈ l→wid (f x)≤q):wd (l.map f)≤(q+5)*l.length:=by
 induction l with
 | nil=>exact q2W _
 | cons x l ih=>
  have h1:=h x (by simp)
  have h2:=ih (fun y hy=>h y (List.mem_cons_of_mem _ hy))
  simp only[List.map_cons,wd,List.length_cons,Nat.mul_succ]
  omega
section
variable {l1:List S68} {l2:List S70} {l3:List (List q0b)} {a4:Int} {a5:q0b} {a6:Int} {l7:List S28} (h3:∀ x,x ∈ l3→SmOk x) (z3:l3.length≤6)
include h3 z3
theorem fmt_l2:∀ (d i:Nat) (o:q0b),i+d=l3.length→o.size+wd ((l3.drop i).map smw)≤100000 →
  q0O (fun k=>q1Q.l2 k o ((i:Nat):Int) l1 l2 l3 a4 a5 a6 l7) (o++(itms ((l3.drop i).map smw)++wEnd),0):=by
 intro d
 induction d with
 | zero=>
  intro i o hi hs
  rw[List.drop_eq_nil_of_le oMm]
  have e:o++(itms (([]:List (List q0b)).map smw)++wEnd)=o++(⟨#[125,10]⟩:q0b):=by
   rw[List.map_nil,show itms []=em from rfl,em_app];rfl
  rw[e]
  apply cSuc
  simp only[q1Q.l2];exact cNO (cPO (cCon _))
 | succ d IH=>
  intro i o hi hs
  have h:i<l3.length:=by omega
  have hk:=h3 _ (List.getElem_mem h)
  have hl:=hk.2.1
  have hw:=q9T hk
  rw[List.drop_eq_getElem_cons h,List.map_cons]at hs ⊢
  simp only[wd]at hs
  have hj:=q6k (smw l3[i])
  have i1:=IH (i+1) (o++itm (jn (smw l3[i]))) oMm (by rw[ByteArray.size_append,q5C];omega)
  rw[q6s]at i1
  apply cSuc
  simp only[q1Q.l2,rdl7 h,q3j (show i≤1048576 by omega)]
  exact cPO (cPO (cPO (q6f (ws:=smw l3[i]) oMm oMm i1)))
variable (h2:∀ x,x ∈ l2→CtOk x) (z2:l2.length≤6) {m:Nat} {lws:List q0b} {lts:List Tok} (hL:Wr ⟨a4,a5,a6,l7⟩ m lws lts) (hm:m≤260)
include h2 z2 hL hm
theorem fmt_l1:∀ (d i:Nat) (o:q0b),i+d=l2.length→o.size+wd ((l2.drop i).map ctw++(([q4U,⟨#[61]⟩]++lws)::l3.map smw))≤100000 →
  q0O (fun k=>q1Q.l1 k o ((i:Nat):Int) l1 l2 l3 a4 a5 a6 l7) (o++(itms ((l2.drop i).map ctw++(([q4U,⟨#[61]⟩]++lws)::l3.map smw))++wEnd),0):=by
 intro d
 induction d with
 | zero=>
  intro i o hi hs
  rw[List.drop_eq_nil_of_le (show l2.length≤i by omega),List.map_nil,List.nil_append]at hs ⊢
  have hz:=hL.z
  have e1:q4U.size=4:=rfl
  have e2:(⟨#[61]⟩:q0b).size=1:=rfl
  have hw:wid ([q4U,⟨#[61]⟩]++lws)=7+wid lws:=by simp only[q5k,wid,e1,e2]
  have hn:=q5Y lws
  have hj:=q6k ([q4U,⟨#[61]⟩]++lws)
  simp only[wd]at hs
  have i1:=fmt_l2 (l1:=l1) (l2:=l2) (a4:=a4) (a5:=a5) (a6:=a6) (l7:=l7) h3 z3 l3.length 0 (o++itm (jn ([q4U,⟨#[61]⟩]++lws))) oMm (by rw[List.drop_zero,ByteArray.size_append,q5C];omega)
  rw[List.drop_zero,q6s]at i1
  apply cSuc
  simp only[q1Q.l1]
  exact cNO (cBin hL.w (cPO (q6f (ws:=[q4U,⟨#[61]⟩]++lws) oMm oMm i1)))
 | succ d IH=>
  intro i o hi hs
  have h:i<l2.length:=by omega
  have hk:=h2 _ (List.getElem_mem h)
  obtain⟨k1,k2,k3,k4⟩:=id hk
  have hw:=q9R hk
  rw[List.drop_eq_getElem_cons h,List.map_cons,List.cons_append]at hs ⊢
  simp only[wd]at hs
  have hj:=q6k (ctw l2[i])
  have i1:=IH (i+1) (o++itm (jn (ctw l2[i]))) oMm (by rw[ByteArray.size_append,q5C];omega)
  rw[q6s]at i1
  apply cSuc
  simp only[q1Q.l1,rd88 h,q3j (show i≤1048576 by omega)]
  exact cPO (cPO (cBin (q6T ⟨k2,by omega⟩) (cBin (q6T ⟨by omega,by omega⟩) (q6f (ws:=ctw l2[i]) oMm oMm i1))))
theorem fmt_l0:∀ (d i n:Nat) (fw:List (List q0b)) (ft:List (List Tok)) (o:q0b),i+d=l1.length→FW (l1.drop i) n fw ft→n≤260→l1.length≤25→o.size+wd (fw++(l2.map ctw++(([q4U,⟨#[61]⟩]++lws)::l3.map smw)))≤100000 →
  q0O (fun k=>q1Q.l0 k o ((i:Nat):Int) l1 l2 l3 a4 a5 a6 l7) (o++(itms (fw++(l2.map ctw++(([q4U,⟨#[61]⟩]++lws)::l3.map smw)))++wEnd),0):=by
 intro d
 induction d with
 | zero=>
  intro i n fw ft o hi hF hn z1 hs
  rw[List.drop_eq_nil_of_le oMm]at hF
  cases hF
  rw[List.nil_append]at hs ⊢
  have i1:=fmt_l1 (l1:=l1) h3 z3 h2 z2 hL hm l2.length 0 o oMm (by rw[List.drop_zero];exact hs)
  rw[List.drop_zero]at i1
  apply cSuc
  simp only[q1Q.l0];exact cNO i1
 | succ d IH=>
  intro i n fw ft o hi hF hn z1 hs
  have h:i<l1.length:=by omega
  rw[List.drop_eq_getElem_cons h]at hF
  cases hF with
  | cons _ _ m' n' ws ts wss tss hu hW r=>
  have hz:=hW.z
  have hn2:=q5Y ws
  have zz:=(q4S hu).2
  have e1:q5I.size=4:=rfl
  have e2:(⟨#[61]⟩:q0b).size=1:=rfl
  have hw:wid ([q5I,l1[i].f0,⟨#[61]⟩]++ws)=8+l1[i].f0.size+wid ws:=by simp only[q5k,wid,e1,e2];omega
  have hj:=q6k ([q5I,l1[i].f0,⟨#[61]⟩]++ws)
  rw[List.cons_append]at hs ⊢
  simp only[wd]at hs
  have i1:=IH (i+1) n' wss tss (o++itm (jn ([q5I,l1[i].f0,⟨#[61]⟩]++ws))) oMm r oMm z1 (by rw[ByteArray.size_append,q5C];omega)
  rw[q6s]at i1
  apply cSuc
  simp only[q1Q.l0,rd86 h,q3j (show i≤1048576 by omega)]
  exact cPO (cPO (cBin hW.w (cPO (q6f (ws:=[q5I,l1[i].f0,⟨#[61]⟩]++ws) oMm oMm i1))))
end
end
section
inductive Prss:List (List q0b)→List (List Tok)→Prop
 | nil:Prss [] []
 | cons (ws:List q0b) (ts:List Tok) (wss:List (List q0b)) (tss:List (List Tok)) (h:Prs ws ts) (r:Prss wss tss):Prss (ws::wss) (ts::tss)
theorem Prss.app {a:List (List q0b)} {s:List (List Tok)} {b:List (List q0b)} {t:List (List Tok)} (h:Prss a s) (h':Prss b t):Prss (a++b) (s++t):=by
 induction h with
 | nil=>exact h'
 | cons u t us ts h r ih=>exact .cons _ _ _ _ h ih
/-- The tokens of items. -/
def tks:List (List Tok)→List Tok
 | []=>[]
 | ts::tss=>ts++sg 59::tks tss
theorem v0K (a b:List (List Tok)):tks (a++b)=tks a++tks b:=by
 induction a with
 | nil=>rfl
 | cons u us ih=>simp only[List.cons_append,tks,ih,List.append_assoc]
theorem Rd.items {b:q0b} {wss:List (List q0b)} {tss:List (List Tok)} (h:Prss wss tss):∀ (c:Nat) (rest:List Tok),q5D b (itms wss) c→Rd b (c+(itms wss).size) rest→Rd b c (tks tss++rest):=by
 induction h with
 | nil=>intro c rest _ r;exact r
 | cons ws ts wss tss h r ih=>
  intro c rest hs hr
  have e2:(⟨#[32,32]⟩:q0b).size=2:=rfl
  have e3:(⟨#[32,59,10]⟩:q0b).size=3:=rfl
  have s:q5D b (((⟨#[32,32]⟩:q0b)++jn ws)++(⟨#[32,59,10]⟩:q0b)) c:=hs.left
  have sr:=hs.right
  have ez:(itms (ws::wss)).size=(jn ws).size+5+(itms wss).size:=by simp only[itms,ByteArray.size_append,q5C]
  have p1:=s.left.left
  have p2:=s.left.right
  have p3:=s.right
  rw[q5C]at sr
  rw[ez]at hr
  rw[e2]at p2
  rw[ByteArray.size_append,e2]at p3
  have z1:=p3.1
  rw[e3]at z1
  have b0:=p1.2 0 (by rw[e2];omega)
  have b1:=p1.2 1 (by rw[e2];omega)
  have b2:=p3.2 0 (by rw[e3];omega)
  have b3:=p3.2 1 (by rw[e3];omega)
  have b4:=p3.2 2 (by rw[e3];omega)
  rw[Nat.add_zero]at b0 b2
  rw[show c+(2+(jn ws).size)=c+2+(jn ws).size by omega]at b2 b3 b4
  rw[show c+((jn ws).size+5+(itms wss).size)=c+((jn ws).size+5)+(itms wss).size by omega]at hr
  have q:=ih _ rest sr hr
  rw[show c+((jn ws).size+5)=c+2+(jn ws).size+1+1+1 by omega]at q
  rw[show tks (ts::tss)++rest=ts++(sg 59::(tks tss++rest)) by simp only[tks,List.append_assoc,List.cons_append]]
  refine .white c _ oMm b0 (.white (c+1) _ oMm b1 (Rd.join h p2 (fun _=>.inl b2) ?_))
  exact .white _ _ oMm b2 (Rd.sgn (v:=59) oMm b3 (q8y dDd) (.nl _ _ oMm b4 q))
def q6Z:q0b:=⟨#[109,101,116,114,101]⟩
theorem kw_tab:∀ w ∈ [q6Z,q5I,q5U,q7a,q4U],q3b.f 12 w=some true:=by decide +kernel
theorem v0V {w:q0b} (h:w ∈ [q6Z,q5I,q5U,q7a,q4U]):Wk w (1,w):=(q7B (q0O.mono (fun k=>q3b.mono _ k) 12 (kw_tab w h))).1
/-- The text. -/
def txt (a0:q0b) (wss:List (List q0b)):q0b:=(((⟨#[109,101,116,114,101,32]⟩:q0b)++a0)++(⟨#[32,123,10]⟩:q0b))++(itms wss++wEnd)
def ttk (a0:q0b) (tss:List (List Tok)):List Tok:=(1,q6Z)::(1,a0)::sg 123::(tks tss++[sg 125])
theorem v0c {a0:q0b} {wss:List (List q0b)} {tss:List (List Tok)} (h:Prss wss tss) (h0:Wk a0 (1,a0)) (hz:a0.size+wd wss≤19000):∃ l:List S61,l.map (fun t=>(t.f0,t.f1))=ttk a0 tss∧q0O (fun k=>q0V.f k (txt a0 wss)) (l,0,0):=by
 have hi:=v1s wss
 have e6:(⟨#[109,101,116,114,101,32]⟩:q0b).size=6:=rfl
 have e3:(⟨#[32,123,10]⟩:q0b).size=3:=rfl
 have e2:wEnd.size=2:=rfl
 have e5:q6Z.size=5:=rfl
 have e1:(⟨#[32]⟩:q0b).size=1:=rfl
 have ez:(txt a0 wss).size=6+a0.size+3+((itms wss).size+2):=by simp only[txt,ByteArray.size_append,e6,e3,e2]
 have hS:q5D (txt a0 wss) ((((⟨#[109,101,116,114,101,32]⟩:q0b)++a0)++(⟨#[32,123,10]⟩:q0b))++(itms wss++wEnd)) 0:=⟨by rw[Nat.zero_add];exact q0f _,fun j hj=>by rw[Nat.zero_add];rfl⟩
 have p0:q5D (txt a0 wss) (q6Z++(⟨#[32]⟩:q0b)) 0:=hS.left.left.left
 have p1:=p0.left
 have p2:=p0.right
 have p3:=hS.left.left.right
 have p4:=hS.left.right
 have p5:=hS.right.left
 have p6:=hS.right.right
 rw[e5]at p2
 rw[e6]at p3
 rw[ByteArray.size_append,e6]at p4
 rw[ByteArray.size_append,ByteArray.size_append,e6,e3]at p5 p6
 have b0:=p2.2 0 (by rw[e1];omega)
 have b1:=p4.2 0 (by rw[e3];omega)
 have b2:=p4.2 1 (by rw[e3];omega)
 have b3:=p4.2 2 (by rw[e3];omega)
 have b4:=p6.2 0 (by rw[e2];omega)
 have b5:=p6.2 1 (by rw[e2];omega)
 rw[Nat.add_zero]at b0 b1 b4
 generalize txt a0 wss=B at *
 refine Rd.tokens oMm ?_
 have f:Rd B (0+(6+a0.size+3)+(itms wss).size) [sg 125]:=by
  refine Rd.sgn (v:=125) oMm b4 (q8y dDd) (.nl _ _ oMm b5 ?_)
  rw[show 0+(6+a0.size+3)+(itms wss).size+1+1=B.size by omega]
  exact .fin
 have g:=Rd.items h _ _ p5 f
 rw[show 0+(6+a0.size+3)=0+(6+a0.size)+1+1+1 by omega]at g
 refine Rd.word (u:=q6Z) (v0V (by simp)) p1 (fun _=>.inl b0) (.white _ _ (by rw[e5];omega) b0 ?_)
 refine Rd.word (u:=a0) h0 p3 (fun _=>.inl ?_) ?_
 ·rw[show 0+q6Z.size+1+a0.size=0+(6+a0.size) by omega];exact b1
 ·rw[show 0+q6Z.size+1+a0.size=0+(6+a0.size) by omega]
  exact .white _ _ oMm b1 (Rd.sgn (v:=123) oMm b2 (q8y dDd) (.nl _ _ oMm b3 g))
/-- The words of the items are their tokens. -/
theorem FW.prs {fs:List S68} {n:Nat} {wss:List (List q0b)} {tss:List (List Tok)} (h:FW fs n wss tss):Prss wss tss:=by
 induction h with
 | nil=>exact .nil
 | cons f fs m n ws ts wss tss hu h r ih=>exact .cons _ _ _ _ (.cons _ _ _ _ (v0V (by simp)) (.cons _ _ _ _ (q4S hu).1 (.cons _ _ _ _ (q4H dDd) h.p))) ih
def ctt (c:S70):List Tok:=[(1,q5U),(1,c.f0),(2,dig c.f1),(2,dig c.f2)]
def smt (l:List q0b):List Tok:=(1,q7a)::l.map (fun u=>((1:Int),u))
theorem ct_prs {l:List S70} (h:∀ x,x ∈ l→CtOk x):Prss (l.map ctw) (l.map ctt):=by
 induction l with
 | nil=>exact .nil
 | cons c l ih=>
  obtain⟨h1,h2,h3,h4⟩:=h c (by simp)
  exact .cons _ _ _ _ (.cons _ _ _ _ (v0V (by simp)) (.cons _ _ _ _ (q4S h1).1 (.cons _ _ _ _ (q9P ⟨h2,by omega⟩) (.cons _ _ _ _ (q9P ⟨by omega,by omega⟩) .nil)))) (ih (fun x hx=>h x (List.mem_cons_of_mem _ hx)))
theorem v0E {l:List q0b} (h:∀ x,x ∈ l→q4Q x):Prs l (l.map (fun u=>((1:Int),u))):=by
 induction l with
 | nil=>exact .nil
 | cons c l ih=>exact .cons _ _ _ _ (q4S (h c (by simp))).1 (ih (fun x hx=>h x (List.mem_cons_of_mem _ hx)))
theorem sm_prs {l:List (List q0b)} (h:∀ x,x ∈ l→SmOk x):Prss (l.map smw) (l.map smt):=by
 induction l with
 | nil=>exact .nil
 | cons c l ih=>exact .cons _ _ _ _ (.cons _ _ _ _ (v0V (by simp)) (v0E (h c (by simp)).2.2)) (ih (fun x hx=>h x (List.mem_cons_of_mem _ hx)))
end
section
abbrev KW:List q0b:=[(⟨#[102,111,111,116]⟩:q0b),(⟨#[99,111,117,110,116]⟩:q0b),(⟨#[115,111,109,101]⟩:q0b),(⟨#[108,105,110,101]⟩:q0b)]
theorem kw_has:∀ w ∈ [q5I,q5U,q7a,q4U],q1C.f 10 KW w=some true:=by decide +kernel
theorem v1F {w:q0b} (h:w ∈ [q5I,q5U,q7a,q4U]):q0O (fun k=>q1C.f k KW w) true:=q0O.mono (fun k=>q1C.mono _ _ k) 10 (kw_has w h)
theorem v0g:q5I.toList=[102,111,111,116]:=by rw[ByteArray.toList_eq];rfl
theorem q7T:q5U.toList=[99,111,117,110,116]:=by rw[ByteArray.toList_eq];rfl
theorem q9J:q7a.toList=[115,111,109,101]:=by rw[ByteArray.toList_eq];rfl
theorem q9B:q4U.toList=[108,105,110,101]:=by rw[ByteArray.toList_eq];rfl
theorem q9G {l:List S61} {i:Nat} (h:i<l.length) {q:Int} (hq:l[i].f0≠q) (s:q0b):q1B.f l (i:Int) false q s=some (false,(i:Int),false):=by
 simp [q1B.f,q3O l i h,hq]
theorem q7d {l:List S61} {i:Nat} {s:q0b} (h:Hit l i s):q1B.f l (i:Int) false 4 s=some (true,(i:Int),false):=by
 obtain⟨h1,h2,h3⟩:=h
 simp [q1B.f,q3O l i h1,h2,h3]
abbrev IR:Type:=q0b × (List S68) × (List S70) × (List (List q0b)) × Int × q0b × Int × (List S28) × Int × Bool
section
variable {l:List S61} (hl:l.length≤1000000) {nm:q0b} {x1:List S68} {x2:List S70} {x3:List (List q0b)} {y4:Int} {y5:q0b} {y6:Int} {y7:List S28} {r:IR}
omit hl in
theorem q9K {i:Nat} (h:i<l.length) (h1:l[i].f0=1) {w:q0b} (hw:l[i].f1=w) (hk:w ∈ [q5I,q5U,q7a,q4U]) (z:Bool) (hz:z=true→w.toList≠([108,105,110,101]:List UInt8))
  (hr:q0O (fun k=>q0h.j2 k z false l (i:Int) false nm x1 x2 x3 y4 y5 y6 y7 1 w l[i].f2) r):q0O (fun k=>q0h.l0 k z l (i:Int) false nm x1 x2 x3 y4 y5 y6 y7) r:=by
 have hc:=v1F hk
 have J:q0O (fun k=>q0h.j1 k z true l (i:Int) false nm x1 x2 x3 y4 y5 y6 y7) r:=by
  apply cSuc
  simp only[q0h.j1,q3O l i h,Option.bind_some,h1,hw]
  refine cPos trivial (cPos trivial ?_)
  refine cIte (fun e=>cIte (fun e2=>absurd e (hz e2)) (fun _=>cBin hc hr)) (fun _=>cBin hc hr)
 apply cSuc
 simp only[q0h.l0]
 refine cND (cIte (fun e=>?_) (fun e=>J))
 rw[q9G h (by rw[h1];decide)]
 exact J
include hl
theorem rd_foot {f:S68} {ts:List Tok} {i:Nat} {rest:List Tok} (hA:At l i ((1,q5I)::(1,f.f0)::sg 61::(ts++sg 59::rest))) (hu:q4Q f.f0) (hB:TkB f.f1 ts) (h1:x1.length≤1000000)
  (hr:q0O (fun k=>q0h.l0 k false l ((i+(ts.length+4):Nat):Int) false nm (x1++[f]) x2 x3 y4 y5 y6 y7) r):q0O (fun k=>q0h.l0 k false l (i:Int) false nm x1 x2 x3 y4 y5 y6 y7) r:=by
 obtain⟨h,ha,hb⟩:=hA.head
 obtain⟨h',ha',hb'⟩:=hA.tail.head
 have he:=hA.tail.tail.sign
 have hA3:=hA.tail.tail.tail
 have h59:=hA3.right.sign
 have hs:=q8I hl hB hA3.left (q5j hl h59 (.inr (.inr (.inr (.inr rfl)))))
 have hn:=q7D hl h' ha' (by rw[hb'];exact q5m hu)
 have hi59:=h59.1
 refine q9K h ha hb (by simp) false (fun k=>by cases k) (cSuc ?_)
 simp only[q0h.j2,q4y (show i≤1000000 by omega),hn,q4G (show i+1+1≤l.length by omega) oMm he,Option.bind_some]
 refine cND (cPos v0g (cBin hs (cPO ?_)))
 simp only[q4w,q4G (show i+1+1+1+ts.length≤l.length by omega) oMm h59,Option.bind_some,q5l,hb']
 rw[show i+1+1+1+ts.length+1=i+(ts.length+4) by omega]
 exact hr
theorem rd_ct {c:S70} {i:Nat} {rest:List Tok} (hA:At l i (ctt c++sg 59::rest)) (hc:CtOk c) (h1:x2.length≤1000000)
  (hr:q0O (fun k=>q0h.l0 k false l ((i+5:Nat):Int) false nm x1 (x2++[c]) x3 y4 y5 y6 y7) r):q0O (fun k=>q0h.l0 k false l (i:Int) false nm x1 x2 x3 y4 y5 y6 y7) r:=by
 obtain⟨hu,k1,k2,k3⟩:=hc
 obtain⟨h,ha,hb⟩:=hA.head
 obtain⟨h',ha',hb'⟩:=hA.tail.head
 obtain⟨g,ga,gb⟩:=hA.tail.tail.head
 obtain⟨g',ga',gb'⟩:=hA.tail.tail.tail.head
 have h59:=hA.tail.tail.tail.tail.sign
 have hi59:=h59.1
 have hn:=q7D hl h' ha' (by rw[hb'];exact q5m hu)
 refine q9K h ha hb (by simp) false (fun k=>by cases k) (cSuc ?_)
 have n1:Num (l[i+1+1].f1) c.f1:=by rw[gb];exact q8v ⟨k1,by omega⟩
 have n2:Num (l[i+1+1+1].f1) c.f2:=by rw[gb'];exact q8v ⟨by omega,by omega⟩
 simp only[q0h.j2,q2m.f,q4y (show i≤1000000 by omega),hn,q5w l _ 2 g ga oMm,Option.bind_some]
 refine cND (cNeg (by rw[q7T];decide) (cPos q7T (cBin (cBin n1 (cCon _)) ?_)))
 simp only[q5w l _ 2 g' ga' oMm,Option.bind_some]
 refine cBin (cBin n2 (cCon _)) (cPO ?_)
 simp only[q4G (show i+1+1+1+1≤l.length by omega) oMm h59,Option.bind_some,hb']
 exact hr
theorem v1I (z:Bool):∀ (us:List q0b) (i:Nat) (rest:List Tok) (w:List q0b),At l i (us.map (fun u=>((1:Int),u))++sg 59::rest)→(∀ u,u ∈ us→q4Q u)→w.length+us.length≤1000000→x3.length≤1000000 →
  q0O (fun k=>q0h.l0 k z l ((i+us.length+1:Nat):Int) false nm x1 x2 (x3++[w++us]) y4 y5 y6 y7) r→q0O (fun k=>q0h.l1 k z w l (i:Int) false nm x1 x2 x3 y4 y5 y6 y7) r:=by
 intro us
 induction us with
 | nil=>
  intro i rest w hA _ _ hx hr
  have h59:=At.sign (l:=l) (c:=59) (ts:=rest) hA
  have hi:=h59.1
  rw[List.append_nil]at hr
  apply cSuc
  simp only[q0h.l1,q7d h59,q4G (show i≤l.length by omega) oMm h59,Option.bind_some]
  exact cND (cPos trivial (cPO hr))
 | cons u us ih=>
  intro i rest w hA hu hw hx hr
  obtain⟨h,ha,hb⟩:=At.head (t:=((1:Int),u)) (ts:=us.map (fun u=>((1:Int),u))++sg 59::rest) hA
  have hT:=At.tail (t:=((1:Int),u)) (ts:=us.map (fun u=>((1:Int),u))++sg 59::rest) hA
  have hn:=q7D hl h ha (by rw[hb];exact q5m (hu u (by simp)))
  rw[List.length_cons]at hw
  rw[show w++u::us=(w++[u])++us by simp,show i+(u::us).length+1=i+1+us.length+1 by rw[List.length_cons];omega]at hr
  apply cSuc
  simp only[q0h.l1,q9G h (show l[i].f0≠4 by rw[ha];show(1:Int)≠4;decide),hn,hb,Option.bind_some]
  exact cND (cND (cPO (ih (i+1) rest (w++[u]) hT (fun x hx=>hu x (List.mem_cons_of_mem _ hx)) (by rw[List.length_append,List.length_singleton];omega) hx hr)))
theorem rd_some {us:List q0b} {i:Nat} {rest:List Tok} (z:Bool) (hA:At l i (smt us++sg 59::rest)) (hu:SmOk us) (h1:x3.length≤1000000)
  (hr:q0O (fun k=>q0h.l0 k z l ((i+(us.length+2):Nat):Int) false nm x1 x2 (x3++[us]) y4 y5 y6 y7) r):q0O (fun k=>q0h.l0 k z l (i:Int) false nm x1 x2 x3 y4 y5 y6 y7) r:=by
 obtain⟨hne,h6,hus⟩:=hu
 obtain⟨h,ha,hb⟩:=hA.head
 cases us with
 | nil=>exact absurd rfl hne
 | cons u us=>
 obtain⟨h',ha',hb'⟩:=hA.tail.head
 have hn:=q7D hl h' ha' (by rw[hb'];exact q5m (hus u (by simp)))
 rw[List.length_cons]at h6
 refine q9K h ha hb (by simp) z (fun _=>by rw[q9J];decide) (cSuc ?_)
 simp only[q0h.j2,q4y (show i≤1000000 by omega),hn,hb',Option.bind_some]
 refine cND (cNeg (by rw[q9J];decide) (cNeg (by rw[q9J];decide) (cPos q9J ?_)))
 refine v1I hl z us (i+1+1) rest [u] hA.tail.tail (fun x hx=>hus x (List.mem_cons_of_mem _ hx)) (by rw[List.length_singleton];omega) h1 ?_
 rw[show i+1+1+us.length+1=i+((u::us).length+2) by rw[List.length_cons];omega]
 exact hr
theorem rd_line {n:S28} {ts:List Tok} {i:Nat} {rest:List Tok} (hA:At l i ((1,q4U)::sg 61::(ts++sg 59::rest))) (hB:TkB n ts)
  (hr:q0O (fun k=>q0h.l0 k true l ((i+(ts.length+3):Nat):Int) false nm x1 x2 x3 n.f0 n.f1 n.f2 n.f3) r):q0O (fun k=>q0h.l0 k false l (i:Int) false nm x1 x2 x3 y4 y5 y6 y7) r:=by
 obtain⟨h,ha,hb⟩:=hA.head
 have he:=hA.tail.sign
 have hA3:=hA.tail.tail
 have h59:=hA3.right.sign
 have hi59:=h59.1
 have hs:=q8I hl hB hA3.left (q5j hl h59 (.inr (.inr (.inr (.inr rfl)))))
 refine q9K h ha hb (by simp) false (fun k=>by cases k) (cSuc ?_)
 simp only[q0h.j2,q4y (show i≤1000000 by omega),q4G (show i+1≤l.length by omega) oMm he,Option.bind_some]
 refine cND (cNeg (by rw[q9B];decide) (cNeg (by rw[q9B];decide) (cNeg (by rw[q9B];decide) (cPos q9B (cBin hs ?_)))))
 simp only[q4w,q4G (show i+1+1+ts.length≤l.length by omega) oMm h59,Option.bind_some]
 rw[show i+1+1+ts.length+1=i+(ts.length+3) by omega]
 exact hr
omit hl in
theorem rd_end {i:Nat} {rest:List Tok} (hA:At l i (sg 125::rest)):q0O (fun k=>q0h.l0 k true l (i:Int) false nm x1 x2 x3 y4 y5 y6 y7) (nm,x1,x2,x3,y4,y5,y6,y7,(i:Int),false):=by
 have h:=hA.sign
 apply cSuc
 simp only[q0h.l0,q7d h,Option.bind_some]
 refine cND (cPos trivial (cSuc ?_))
 simp only[q0h.j1]
 exact cND (cCon _)
end
end
section
section
variable {l:List S61} (hl:l.length≤1000000) {nm:q0b} {y4:Int} {y5:q0b} {y6:Int} {y7:List S28} {r:IR}
include hl
theorem rd_feet {x2:List S70} {x3:List (List q0b)} {fs:List S68} {n:Nat} {wss:List (List q0b)} {tss:List (List Tok)} (h:FW fs n wss tss):∀ (i:Nat) (rest:List Tok) (x1:List S68),At l i (tks tss++rest)→x1.length+fs.length≤1000000 →
  q0O (fun k=>q0h.l0 k false l ((i+(tks tss).length:Nat):Int) false nm (x1++fs) x2 x3 y4 y5 y6 y7) r→q0O (fun k=>q0h.l0 k false l (i:Int) false nm x1 x2 x3 y4 y5 y6 y7) r:=by
 induction h with
 | nil=>
  intro i rest x1 _ _ hr
  rw[List.append_nil]at hr
  exact hr
 | cons f fs m n ws ts wss tss hu h r ih=>
  intro i rest x1 hA hx hr
  rw[show tks (((1,q5I)::(1,f.f0)::sg 61::ts)::tss)++rest=(1,q5I)::(1,f.f0)::sg 61::(ts++sg 59::(tks tss++rest)) by simp only[tks,List.cons_append,List.append_assoc]]at hA
  have e:(tks (((1,q5I)::(1,f.f0)::sg 61::ts)::tss)).length=ts.length+4+(tks tss).length:=by
   simp only[tks,List.cons_append,List.length_cons,List.length_append];omega
  rw[List.length_cons]at hx
  rw[e,← Nat.add_assoc,show x1++f::fs=(x1++[f])++fs by simp]at hr
  refine rd_foot hl hA hu h.b oMm (ih _ rest _ ?_ (by rw[List.length_append,List.length_singleton];omega) hr)
  have:=hA.tail.tail.tail.right.tail
  rw[show i+1+1+1+ts.length+1=i+(ts.length+4) by omega]at this
  exact this
theorem rd_cts {x1:List S68} {x3:List (List q0b)} : ∀ (cs:List S70) (i:Nat) (rest:List Tok) (x2:List S70),At l i (tks (cs.map ctt)++rest)→(∀ c,c ∈ cs→CtOk c)→x2.length+cs.length≤1000000 →
  q0O (fun k=>q0h.l0 k false l ((i+(tks (cs.map ctt)).length:Nat):Int) false nm x1 (x2++cs) x3 y4 y5 y6 y7) r→q0O (fun k=>q0h.l0 k false l (i:Int) false nm x1 x2 x3 y4 y5 y6 y7) r:=by
 intro cs
 induction cs with
 | nil=>
  intro i rest x2 _ _ _ hr
  rw[List.append_nil]at hr
  exact hr
 | cons c cs ih=>
  intro i rest x2 hA hk hx hr
  rw[show tks ((c::cs).map ctt)++rest=ctt c++sg 59::(tks (cs.map ctt)++rest) by simp only[tks,List.map_cons,List.cons_append,List.append_assoc]]at hA
  have e:(tks ((c::cs).map ctt)).length=5+(tks (cs.map ctt)).length:=by
   simp only[tks,List.map_cons,List.length_cons,List.length_append,ctt,List.length_nil];omega
  rw[List.length_cons]at hx
  rw[e,← Nat.add_assoc,show x2++c::cs=(x2++[c])++cs by simp]at hr
  exact rd_ct hl hA (hk c (by simp)) oMm (ih _ rest _ hA.right.tail (fun x hx=>hk x (List.mem_cons_of_mem _ hx)) (by rw[List.length_append,List.length_singleton];omega) hr)
theorem v1O {x1:List S68} {x2:List S70} (z:Bool):∀ (ls:List (List q0b)) (i:Nat) (rest:List Tok) (x3:List (List q0b)),At l i (tks (ls.map smt)++rest)→(∀ c,c ∈ ls→SmOk c)→x3.length+ls.length≤1000000 →
  q0O (fun k=>q0h.l0 k z l ((i+(tks (ls.map smt)).length:Nat):Int) false nm x1 x2 (x3++ls) y4 y5 y6 y7) r→q0O (fun k=>q0h.l0 k z l (i:Int) false nm x1 x2 x3 y4 y5 y6 y7) r:=by
 intro ls
 induction ls with
 | nil=>
  intro i rest x3 _ _ _ hr
  rw[List.append_nil]at hr
  exact hr
 | cons c ls ih=>
  intro i rest x3 hA hk hx hr
  rw[show tks ((c::ls).map smt)++rest=smt c++sg 59::(tks (ls.map smt)++rest) by simp only[tks,List.map_cons,List.cons_append,List.append_assoc]]at hA
  have ec:(smt c).length=c.length+1:=by simp only[smt,List.length_cons,List.length_map]
  have e:(tks ((c::ls).map smt)).length=c.length+2+(tks (ls.map smt)).length:=by
   simp only[tks,List.map_cons,List.length_cons,List.length_append,ec];omega
  rw[List.length_cons]at hx
  rw[e,← Nat.add_assoc,show x3++c::ls=(x3++[c])++ls by simp]at hr
  have hT:=hA.right.tail
  rw[ec,show i+(c.length+1)+1=i+(c.length+2) by omega]at hT
  exact rd_some hl z hA (hk c (by simp)) oMm (ih _ rest _ hT (fun x hx=>hk x (List.mem_cons_of_mem _ hx)) (by rw[List.length_append,List.length_singleton];omega) hr)
/-- All items. -/
theorem v0d {l1:List S68} {l2:List S70} {l3:List (List q0b)} {n:S28} {q:Nat} {fw:List (List q0b)} {ft:List (List Tok)} {lts:List Tok} (hF:FW l1 q fw ft) (h2:∀ c,c ∈ l2→CtOk c) (h3:∀ c,c ∈ l3→SmOk c) (hB:TkB n lts) (z1:l1.length≤1000) (z2:l2.length≤1000) (z3:l3.length≤1000)
  {rest:List Tok} (hA:At l 3 (tks (ft++(l2.map ctt++(((1,q4U)::sg 61::lts)::l3.map smt)))++sg 125::rest)) :
  q0O (fun k=>q0h.f k l 3 false nm) (nm,l1,l2,l3,n.f0,n.f1,n.f2,n.f3,((3+(tks (ft++(l2.map ctt++(((1,q4U)::sg 61::lts)::l3.map smt)))).length:Nat):Int),false):=by
 rw[v0K,v0K]at hA ⊢
 rw[show tks (((1,q4U)::sg 61::lts)::l3.map smt)=(1,q4U)::sg 61::(lts++sg 59::tks (l3.map smt)) by simp only[tks,List.cons_append]]at hA ⊢
 simp only[List.append_assoc,List.cons_append]at hA
 have a1:=hA.right
 have a2:=a1.right
 have a3:=a2.tail.tail.right.tail
 have a4:=a3.right
 refine rd_feet hl hF 3 _ [] hA (by rw[List.length_nil];omega) ?_
 refine rd_cts hl l2 _ _ [] a1 h2 (by rw[List.length_nil];omega) ?_
 refine rd_line hl a2 hB ?_
 rw[show 3+(tks ft).length+(tks (l2.map ctt)).length+1+1+lts.length+1=3+(tks ft).length+(tks (l2.map ctt)).length+(lts.length+3) by omega]at a3 a4
 refine v1O hl true l3 _ _ [] a3 h3 (by rw[List.length_nil];omega) ?_
 have:=rd_end (nm:=nm) (x1:=[]++l1) (x2:=[]++l2) (x3:=[]++l3) (y4:=n.f0) (y5:=n.f1) (y6:=n.f2) (y7:=n.f3) a4
 rw[show 3+(tks ft++(tks (l2.map ctt)++(1,q4U)::sg 61::(lts++sg 59::tks (l3.map smt)))).length=3+(tks ft).length+(tks (l2.map ctt)).length+(lts.length+3)+(tks (l3.map smt)).length by simp only[List.length_append,List.length_cons];omega]
 exact this
end
theorem Prss.few {wss:List (List q0b)} {tss:List (List Tok)} (h:Prss wss tss):(tks tss).length≤wd wss:=by
 induction h with
 | nil=>exact q0f _
 | cons ws ts wss tss h r ih=>
  have e1:=h.len
  have e2:=q5Y ws
  simp only[tks,wd,List.length_append,List.length_cons]
  omega
/-- Parse leads back. -/
theorem q9n {a0:q0b} {l1:List S68} {l2:List S70} {l3:List (List q0b)} {a4:Int} {a5:q0b} {a6:Int} {l7:List S28} (hN:Wk a0 (1,a0)) {m q:Nat} {fw:List (List q0b)} {ft:List (List Tok)} {lws:List q0b} {lts:List Tok}
  (hF:FW l1 q fw ft) (h2:∀ c,c ∈ l2→CtOk c) (h3:∀ c,c ∈ l3→SmOk c) (hL:Wr ⟨a4,a5,a6,l7⟩ m lws lts) (z1:l1.length≤1000) (z2:l2.length≤1000) (z3:l3.length≤1000)
  (hz:a0.size+wd (fw++(l2.map ctw++(([q4U,⟨#[61]⟩]++lws)::l3.map smw)))≤19000) (hV:q0O (fun k=>q1j.f k a0 l1 l2 l3 a4 a5 a6 l7) 0) :
  q0O (fun k=>q1Y.f k (txt a0 (fw++(l2.map ctw++(([q4U,⟨#[61]⟩]++lws)::l3.map smw))))) (a0,l1,l2,l3,a4,a5,a6,l7,0,0):=by
 have hP:Prss (fw++(l2.map ctw++(([q4U,⟨#[61]⟩]++lws)::l3.map smw))) (ft++(l2.map ctt++(((1,q4U)::sg 61::lts)::l3.map smt))):=
  hF.prs.app ((ct_prs h2).app (.cons _ _ _ _ (.cons _ _ _ _ (v0V (by simp)) (.cons _ _ _ _ (q4H dDd) hL.p)) (sm_prs h3)))
 obtain⟨l,hm,ht⟩:=v0c hP hN hz
 generalize hts:ft++(l2.map ctt++(((1,q4U)::sg 61::lts)::l3.map smt))=tss at hm
 have hA:=at_of hm
 unfold ttk at hA hm
 have hlen:l.length=3+(tks tss).length+1:=by
  have:=congrArg List.length hm
  simp only[List.length_map,List.length_cons,List.length_append,List.length_nil]at this
  omega
 have hfew:=hP.few
 rw[hts]at hfew
 have hl:l.length≤1000000:=by omega
 obtain⟨g0,ga0,gb0⟩:=hA.head
 obtain⟨g1,ga1,gb1⟩:=hA.tail.head
 have g2:=hA.tail.tail.sign
 have aI:=hA.tail.tail.tail
 have hI:=v0d hl (nm:=a0) hF h2 h3 hL.b z1 z2 z3 (by rw[hts];exact aI)
 rw[hts]at hI
 have gE:=aI.right.sign
 have s1:q1B.f l 0 false 1 (⟨#[109,101,116,114,101]⟩:q0b)=some (true,0,false):=by
  have e:l[0].f1=(⟨#[109,101,116,114,101]⟩:q0b):=gb0
  have n0:=q3O l 0 g0
  simp only[Int.ofNat_zero]at n0
  simp [q1B.f,n0,ga0,e]
 have s2:q2d.f l 0 false 1=some (l[0].f1,1,false):=q5w l 0 1 g0 ga0 oMm
 have s3:q2d.f l 1 false 1=some (a0,2,false):=by
  have:=q5w l 1 1 g1 ga1 oMm
  rw[gb1]at this
  exact this
 have s4:q1c.f l 2 false (⟨#[123]⟩:q0b)=some (3,false):=q4G (i:=2) oMm oMm g2
 have s5:=q4G (show 3+(tks tss).length≤l.length by omega) oMm gE
 unfold q1Y.f q1Y.tail
 refine cBin ht (cPos rfl (cNeg (by show ¬ ((l.length:Int)=0);omega) ?_))
 simp only[s1,s2,s3,s4,Option.bind_some]
 refine cPos trivial (cBin hI ?_)
 simp only[s5,Option.bind_some]
 exact cND (cNeg (by show ¬ (((3+(tks tss).length+1:Nat):Int)<(l.length:Int));omega) (cBin hV (cPos rfl (cCon _))))
end
section
theorem v0z (x:List q0b) (hl:x.length≤1048576):q0O (fun k=>q2O.f k x x) true:=by
 have loop:∀ (m i:Nat),i+m=x.length→q0O (fun k=>q2O.l0 k x x (i:Int)) true:=by
  intro m
  induction m with
  | zero=>
   intro i hi
   apply cSuc
   simp only[q2O.l0]
   exact cNO (cCon _)
  | succ m IH=>
   intro i hi
   apply cSuc
   simp only[q2O.l0,q3j (show i≤1048576 by omega)]
   exact cPO (cPO (cPO (cPos trivial (IH (i+1) oMm))))
 unfold q2O.f
 exact cPos rfl (loop x.length 0 oMm)
section
variable {a0:q0b} {l1:List S68} {l2:List S70} {l3:List (List q0b)} {a4:Int} {a5:q0b} {a6:Int} {l7:List S28} (z1:l1.length≤1048576) (k1:∀ x,x ∈ l1→Small x.f1) (z2:l2.length≤1048576) (z3:l3.length≤1048576) (k3:∀ x,x ∈ l3→x.length≤1048576)
include z3 k3
theorem same_l2:∀ (d i:Nat),i+d=l3.length→q0O (fun k=>q0D.l2 k (i:Int) a0 l1 l2 l3 a4 a5 a6 l7 a0 l1 l2 l3 a4 a5 a6 l7) true:=by
 intro d
 induction d with
 | zero=>
  intro i hi
  apply cSuc
  simp only[q0D.l2]
  exact cNO (cCon _)
 | succ d IH=>
  intro i hi
  have h:i<l3.length:=by omega
  apply cSuc
  simp only[q0D.l2,rdl7 h,q3j (show i≤1048576 by omega)]
  exact cPO (cPO (cPO (cBin (v0z _ (k3 _ (List.getElem_mem h))) (cPos rfl (IH (i+1) oMm)))))
include z2
theorem same_l1:∀ (d i:Nat),i+d=l2.length→q0O (fun k=>q0D.l1 k (i:Int) a0 l1 l2 l3 a4 a5 a6 l7 a0 l1 l2 l3 a4 a5 a6 l7) true:=by
 intro d
 induction d with
 | zero=>
  intro i hi
  apply cSuc
  simp only[q0D.l1]
  exact cNO (same_l2 z3 k3 l3.length 0 oMm)
 | succ d IH=>
  intro i hi
  apply cSuc
  simp only[q0D.l1,q3j (show i≤1048576 by omega)]
  exact cPO (cPO (cPO (cNeg (by simp) (IH (i+1) oMm))))
include z1 k1
theorem same_l0:∀ (d i:Nat),i+d=l1.length→q0O (fun k=>q0D.l0 k (i:Int) a0 l1 l2 l3 a4 a5 a6 l7 a0 l1 l2 l3 a4 a5 a6 l7) true:=by
 intro d
 induction d with
 | zero=>
  intro i hi
  apply cSuc
  simp only[q0D.l0]
  exact cNO (same_l1 z2 z3 k3 l2.length 0 oMm)
 | succ d IH=>
  intro i hi
  have h:i<l1.length:=by omega
  apply cSuc
  simp only[q0D.l0,rd86 h,q3j (show i≤1048576 by omega)]
  exact cPO (cPO (cPO (cPos trivial (cBin (q6R _ (k1 _ (List.getElem_mem h))) (cPos rfl (IH (i+1) oMm))))))
theorem v0L (k4:Small ⟨a4,a5,a6,l7⟩):q0O (fun k=>q0D.f k a0 l1 l2 l3 a4 a5 a6 l7 a0 l1 l2 l3 a4 a5 a6 l7) true:=by
 unfold q0D.f
 refine cPos rfl (cPos rfl (cPos rfl (cPos rfl (cBin (q6R ⟨a4,a5,a6,l7⟩ k4) (cSuc ?_)))))
 simp only[q0D.j0]
 exact cND (same_l0 z1 k1 z2 z3 k3 l1.length 0 oMm)
end
end
end Go.Proofs.YtmffocankommaaaGreatDoor.P
