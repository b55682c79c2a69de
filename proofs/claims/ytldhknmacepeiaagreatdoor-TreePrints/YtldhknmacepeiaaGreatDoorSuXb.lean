/-
  An evaluator, proved sound. No condition.
-/
import Derived.Test.YtldhknmacepeiaaGreatDoorSuW
set_option linter.unusedVariables false
set_option linter.unusedSimpArgs false
section
namespace Su
open Go Fly
inductive TR where
 | val (sv:SV)
 | skip
 | new (c:List SV)
 | newL (k:Nat)
 | str (d:Nat) (c:List SV) (o:Option Nat)
def TR.sv:TR→SV
 | .val s=>s
 | .skip=>.un
 | _=>.bad
structure Wk (st st':St):Prop where
 look:∀(d:Nat) (sv:SV),st'.look d=some sv→sv≠.bad→st.look d=some sv
 H:st'.H=st.H
def ju(all:Array Oper)(o:Oper)(st:St)(yes:Bool):Prop :=
 match o.guard with
 | none=>yes=true
 | some (j,b)=>∃g,(all[j]?).bind (·.dst)=some g∧((∃c,st.look g=some (mkB c)∧(c == b)=yes)∨(st.look g=some .un∧yes=false))
inductive Steps (E:Env) (all:Array Oper):List Oper→St→List NE→List TR→St→List NE→Prop
 | nil {st:St} {nw:List NE}:Steps E all [] st nw [] st nw
 | val {o:Oper} {ops:List Oper} {st:St} {nw:List NE} {tr:List TR} {stf:St} {nwf:List NE} {sv:SV} (hg:ju all o st true) (hn:Jq o.op=false) (h:∀(O:Type) (k:SV→St→Option O),Zf E false st o k=k sv st) (hs:Steps E all ops (putD E st o.dst sv) nw tr stf nwf) :
  Steps E all (o::ops) st nw (.val sv::tr) stf nwf
 | skip {o:Oper} {ops:List Oper} {st:St} {nw:List NE} {tr:List TR} {stf:St} {nwf:List NE} (hg:ju all o st false) (hs:Steps E all ops (putD E st o.dst .un) nw tr stf nwf):Steps E all (o::ops) st nw (.skip::tr) stf nwf
 | new {o:Oper} {ops:List Oper} {st:St} {nw:List NE} {tr:List TR} {stf:St} {nwf:List NE} {c:List SV} (hg:ju all o st true) (hn:Jq o.op=true) (h:QR E st o.op=some c) (hl:QS o.dst ops=none) (hs:Steps E all ops (putD E st o.dst .bad) (nw++[.new o.dst c]) tr stf nwf) :
  Steps E all (o::ops) st nw (.new c::tr) stf nwf
 | newL {o:Oper} {ops:List Oper} {st:St} {nw:List NE} {tr:List TR} {stf:St} {nwf:List NE} {c:List SV} {t:Nat} {p:Bool×Nat} (hg:ju all o st true) (hn:Jq o.op=true) (h:QR E st o.op=some c) (hl:QS o.dst ops=some t) (ht:E.T.ty t=some p) (hk:c.length=p.2) (hs:Steps E all ops (putD E st o.dst .bad) nw tr stf nwf) :
  Steps E all (o::ops) st nw (.newL p.2::tr) stf nwf
 | strN {o:Oper} {ops:List Oper} {st:St} {nw:List NE} {tr:List TR} {stf:St} {nwf:List NE} {d t:Nat} {x:Operand} {sv:SV} {p:Bool×Nat} {c:List SV×St} (hg:ju all o st true) (hst:qU o.op=some (d,t,x)) (hx:opd E st x=some sv) (ht:E.T.ty t=some p) (hc:cellsOf false st p.1 p.2 sv=some c) (hd:j7 d all.toList=true) (hs:Steps E all ops st (nw++[.new (some d) c.1]) tr stf nwf) :
  Steps E all (o::ops) st nw (.str d c.1 none::tr) stf nwf
 | strO {o:Oper} {ops:List Oper} {st:St} {nw:List NE} {tr:List TR} {stf:St} {nwf:List NE} {d t n:Nat} {x:Operand} {sv:SV} {p:Bool×Nat} {c:List SV×St} (hg:ju all o st true) (hst:qU o.op=some (d,t,x)) (hx:opd E st x=some sv) (ht:E.T.ty t=some p) (hc:cellsOf false st p.1 p.2 sv=some c) (hd:j7 d all.toList=false) (hl:st.look d=some (.ref n 0)) (hs:Steps E all ops st (nw++[.old n c.1]) tr stf nwf) :
  Steps E all (o::ops) st nw (.str d c.1 (some n)::tr) stf nwf
 | wk {ops:List Oper} {st st':St} {nw:List NE} {tr:List TR} {stf:St} {nwf:List NE} (hw:Wk st st') (hs:Steps E all ops st' nw tr stf nwf):Steps E all ops st nw tr stf nwf
section
variable {P:Program} {E:Env} {n:Nat} {X:Cx} {V:qc} {I:List IE} {G:Own} {K:List KI} {all:Array Oper}
def Next(E:Env)(all:Array Oper)(ops:List Oper)(q:Bool)(m:Nat)(nw:List NE)(D:List Nat)(st:St){O:Type}(k:St→Option O)(r:O):Prop :=
 match m with
 | 0=>Q7 E all ops q 0 [] D (QC E st nw) k=some r
 | m+1=>Q7 E all ops q (m+1) nw D st k=some r
theorem qaz{O:Type}{r:O}{k:St→Option O}{q:Bool}{m:Nat}{nw:List NE}{D:List Nat}{st:St}{ops:List Oper}
 (h:qel E m st nw (fun st' nw'=>Q7 E all ops q m nw' D st' k)=some r):Next E all ops q m nw D st k r:=by
 cases m with
 | zero=>exact h
 | succ m=>exact h
theorem qwE{O:Type}{r:O}{k:St→Option O}{q:Bool}{m:Nat}{nw:List NE}{D:List Nat}{st:St}{o:Oper}{ops:List Oper}{yes:Bool}
 (he:doO E all.toList ops q (m+1) nw D st o yes (Q7 E all ops) k=some r) (hg:ju all o st yes) (hc:JL P n X K E.T r k q (yP (o::ops)) V I st G) (hq:q=true→nw=[]∧∀x∈o::ops,ZO E.T x.op=true) :
 ∃(t:TR) (st1:St) (nw1:List NE),Next E all ops q m nw1 D st1 k r∧(∀tr stf nwf,Steps E all (ops.take m) st1 nw1 tr stf nwf→Steps E all (o::ops.take m) st nw (t::tr) stf nwf) ∧
  JL P n X K E.T r k q (yP ops) V I st1 G∧(q=true→nw1=[])∧st1.H=st.H:=by
 have tail:∀(sv:SV),JL P n X K E.T r k q (yP ops) V I (putD E st o.dst sv) G:=fun sv=>
  hc.tail (Sub.refl _) (by rw[Qx];exact IPf.refl _ _) fun _=>⟨Qx ..,rfl,fun d hd hk=>⟨qcH _ _ _ _ _ hk,YY _ _ _ _ _ hd⟩⟩
 unfold doO at he;cases yes with
 | true=>
  simp only[zg,Vt,qwh]at he;cases hn:Jq o.op with
  | true=>
   have hnq:q=true→False:=fun e=>by
    have:=(hq e).2 o (zM ..)
    cases ho:o.op <;> rw[ho]at hn this <;> simp[Jq]at hn <;> simp[ZO]at this
   rw[hn]at he;simp only[zg]at he;unfold newO at he;replace he:=qf he;obtain⟨c,hcc,he⟩:=he
   cases hl:QS o.dst (ops.take m)with
   | none=>
    rw[hl]at he;exact⟨.new c,putD E st o.dst .bad,nw++[.new o.dst c],qaz he,fun tr stf nwf hs=>.new hg hn hcc hl hs,tail _,fun e=>(hnq e).elim,Qx ..⟩
   | some t=>
    rw[hl]at he;replace he:=qf he;obtain⟨p,hp,he⟩:=he
    cases hb:Nat.beq c.length p.2 with
    | false=>rw[hb]at he;simp at he
    | true=>
     rw[hb,zg]at he;exact⟨.newL p.2,putD E st o.dst .bad,nw,qaz he,fun tr stf nwf hs=>.newL hg hn hcc hl hp (zd hb) hs,tail _,fun e=>(hnq e).elim,Qx ..⟩
  | false=>
   rw[hn]at he;simp only[zo]at he;cases hst:qU o.op with
   | none=>
    rw[hst]at he;simp only[]at he;obtain⟨sv,h1,h2⟩:=(qjc (E:=E) (st:=st) o).par _ _ _ he
    exact⟨.val sv,putD E st o.dst sv,nw,qaz h1,fun tr stf nwf hs=>.val hg hn (fun O k=>h2 O k) hs,tail _,fun e=>(hq e).1,Qx ..⟩
   | some z=>
    obtain⟨d,t,x⟩:=z;rw[hst]at he;simp only[]at he;have hnq:q=true→False:=fun e=>by
     have:=(hq e).2 o (zM ..)
     cases ho:o.op <;> rw[ho]at hst this <;> simp[qU]at hst <;> simp[ZO]at this
    have tail':JL P n X K E.T r k q (yP ops) V I st G:=hc.tail (Sub.refl _) (IPf.refl _ _) fun e=>(hnq e).elim
    unfold strO at he;replace he:=qf he;obtain⟨sv,hsv,he⟩:=he
    replace he:=qf he;obtain⟨p,hp,he⟩:=he
    replace he:=qf he;obtain⟨c,hcc,he⟩:=he
    cases hd:j7 d all.toList with
    | true=>
     rw[hd,zg]at he;exact⟨.str d c.1 none,st,nw++[.new (some d) c.1],qaz he,fun tr stf nwf hs=>.strN hg hst hsv hp hcc hd hs,tail',fun e=>(hnq e).elim,rfl⟩
    | false=>
     rw[hd,zo]at he;split at he
     · rename_i n0 hl
       exact⟨.str d c.1 (some n0),st,nw++[.old n0 c.1],qaz he,fun tr stf nwf hs=>.strO hg hst hsv hp hcc hd hl hs,tail',fun e=>(hnq e).elim,rfl⟩
     · simp at he
 | false=>
  simp only[zo,Vt,qo5]at he;exact⟨.skip,putD E st o.dst .un,nw,qaz he,fun tr stf nwf hs=>.skip hg hs,tail _,fun e=>(hq e).1,Qx ..⟩
theorem qjd{O:Type}{r:O}{k:St→Option O}{q:Bool}{m:Nat}{nw:List NE}{D:List Nat}{st:St}{o:Oper}{ops:List Oper}
 (he:Q7 E all (o::ops) q (m+1) nw D st k=some r) (hc:JL P n X K E.T r k q (yP (o::ops)) V I st G) (hq:q=true→nw=[]∧∀x∈o::ops,ZO E.T x.op=true) :
 ∃(t:TR) (st1:St) (nw1:List NE) (O':Type) (r':O') (k':St→Option O') (q':Bool) (D':List Nat),Next E all ops q' m nw1 D' st1 k' r'∧(∀tr stf nwf,Steps E all (ops.take m) st1 nw1 tr stf nwf→Steps E all (o::ops.take m) st nw (t::tr) stf nwf) ∧
  JL P n X K E.T r' k' q' (yP ops) V I st1 G∧(q'=true→nw1=[]∧∀x∈ops,ZO E.T x.op=true)∧st1.H=st.H:=by
 have done:∀ {O:Type} {r:O} {k:St→Option O} {q:Bool} {D:List Nat} {yes:Bool} {s:St},Wk st s→doO E all.toList ops q (m+1) nw D s o yes (Q7 E all ops) k=some r→ju all o s yes→JL P n X K E.T r k q (yP (o::ops)) V I s G→(q=true→nw=[]∧∀x∈o::ops,ZO E.T x.op=true) →
  ∃(t:TR) (st1:St) (nw1:List NE) (O':Type) (r':O') (k':St→Option O') (q':Bool) (D':List Nat),Next E all ops q' m nw1 D' st1 k' r'∧(∀tr stf nwf,Steps E all (ops.take m) st1 nw1 tr stf nwf→Steps E all (o::ops.take m) st nw (t::tr) stf nwf) ∧
   JL P n X K E.T r' k' q' (yP ops) V I st1 G∧(q'=true→nw1=[]∧∀x∈ops,ZO E.T x.op=true)∧st1.H=st.H:=by
  intro O r k q D yes s hw h1 h2 h3 h4;obtain⟨t,st1,nw1,a1,a2,a3,a4,a5⟩:=qwE h1 h2 h3 h4;exact⟨t,st1,nw1,O,r,k,q,D,a1,fun tr stf nwf hs=>.wk hw (a2 tr stf nwf hs),a3,fun e=>⟨a4 e,fun x hx=>(h4 e).2 x (zE _ hx)⟩,a5.trans hw.H⟩
 have wrefl:Wk st st:=⟨fun _ _ h _=>h,rfl⟩
 unfold Q7 at he;split at he
 · rename_i hgd
   exact done wrefl he (by simp[ju,hgd]) hc hq
 · rename_i p hgd
   obtain⟨j,b⟩:=p;simp only[]at he;cases hj:(all[j]?).bind (·.dst)with
   | none=>rw[hj]at he;simp at he
   | some g=>
    rw[hj]at he;simp only[]at he;replace he:=qf he;obtain⟨sv,hsv,he⟩:=he
    unfold qkz at he;cases hu:qby sv with
    | true=>
     rw[hu]at he;simp only[zg]at he;have:sv = .un:=by unfold qby at hu;split at hu <;> first|rfl|simp at hu
     subst this;refine done wrefl he ?_ hc hq
     simp only[ju,hgd];exact⟨g,hj,.inr ⟨hsv,trivial⟩⟩
    | false=>
     rw[hu]at he;simp only[zo]at he;replace he:=qf he;obtain⟨c,hcv,he⟩:=he
     have:=qa4 hcv;subst this
     have guard:∀ {s:St} {yes:Bool},s.look g=some (mkB c)→(c == b)=yes→ju all o s yes:=fun h1 h2=>by
      simp only[ju,hgd];exact⟨g,hj,.inl ⟨c,h1,h2⟩⟩
     cases hD:Yo D j with
     | true=>
      rw[hD]at he;simp only[zg]at he;exact done wrefl he (guard hsv rfl) hc hq
     | false=>
      rw[hD]at he;simp only[zo]at he;have putg:∀(K0:List (Nat×SV)),(∀(d:Nat) (s:SV),(St.mk K0 st.Tm st.H).look d=some s→s≠.bad→st.look d=some s)→Wk st ((St.mk K0 st.Tm st.H).put E.keep g (mkB c))∧((St.mk K0 st.Tm st.H).put E.keep g (mkB c)).look g=some (mkB c):=by
       intro K0 h0;refine⟨⟨fun d s hd hb=>?_,by rw[qgl]⟩,by rw[Ju,Vk];rfl⟩
       rw[Ju]at hd;cases hb2:Nat.beq g d with
       | true=>have:=zd hb2;subst this;rw[hb2]at hd;simp at hd;subst hd;exact hsv
       | false=>rw[hb2]at hd;exact h0 d s hd hb
      have hc1:=qi7 (E:=E) hsv hc
      obtain⟨w1,w2⟩:=putg st.K fun d s h _=>h
      cases c with
      | true=>rw[zg]at he;exact done w1 he (guard w2 rfl) hc1 fun e=>hq e
      | false=>rw[zo]at he;exact done w1 he (guard w2 rfl) hc1 fun e=>hq e
theorem qtG:∀(mm:Nat) (ops:List Oper) {O:Type} (r:O) (k:St→Option O) (q:Bool) (nw:List NE) (D:List Nat) (st:St),
 Q7 E all ops q (mm+1) nw D st k=some r→mm+1≤ops.length→JL P n X K E.T r k q (yP ops) V I st G→(q=true→nw=[]∧∀x∈ops,ZO E.T x.op=true) →
 ∃(tr:List TR) (stf:St) (nwf:List NE) (O':Type) (r':O') (k':St→Option O') (q':Bool) (D':List Nat),
  tr.length=mm+1∧Steps E all (ops.take (mm+1)) st nw tr stf nwf∧Q7 E all (ops.drop (mm+1)) q' 0 [] D' (QC E stf nwf) k'=some r'∧JL P n X K E.T r' k' q' (yP (ops.drop (mm+1))) V I stf G∧(q'=true→nwf=[])∧stf.H=st.H:=by
 intro mm;induction mm with
 | zero=>
  intro ops O r k q nw D st he hle hc hq;cases ops with
  | nil=>simp at hle
  | cons o ops=>
   obtain⟨t,st1,nw1,O',r',k',q',D',a1,a2,a3,a4,a5⟩:=qjd he hc hq;exact⟨[t],st1,nw1,O',r',k',q',D',rfl,a2 [] st1 nw1 .nil,a1,a3,fun e=>(a4 e).1,a5⟩
 | succ mm ih=>
  intro ops O r k q nw D st he hle hc hq;cases ops with
  | nil=>simp at hle
  | cons o ops=>
   obtain⟨t,st1,nw1,O',r',k',q',D',a1,a2,a3,a4,a5⟩:=qjd he hc hq;obtain⟨tr,stf,nwf,O2,r2,k2,q2,D2,b1,b2,b3,b4,b5,b6⟩:=ih ops r' k' q' nw1 D' st1 a1 (by simpa using hle) a3 a4
   exact⟨t::tr,stf,nwf,O2,r2,k2,q2,D2,by simp[b1],a2 _ _ _ b2,b3,b4,b5,b6.trans a5⟩
end
end Su
end
section
namespace Su
open Go Fly
def yD:List Oper→List TR→List NE
 | o::os,.new c::ts=>.new o.dst c::yD os ts
 | _::os,.str d c none::ts=>.new (some d) c::yD os ts
 | _::os,.str _ c (some n)::ts=>.old n c::yD os ts
 | _::os,_::ts=>yD os ts
 | _,_=>[]
def YZ(E:Env)(all:Array Oper)(rest:List Oper)(o:Oper)(st:St):TR→Prop
 | .val sv=>ju all o st true∧Jq o.op=false∧∀(O:Type) (k:SV→St→Option O),Zf E false st o k=k sv st
 | .skip=>ju all o st false
 | .new c=>ju all o st true∧Jq o.op=true∧QR E st o.op=some c∧QS o.dst rest=none
 | .newL k=>ju all o st true∧Jq o.op=true∧∃c t p,QR E st o.op=some c∧QS o.dst rest=some t∧E.T.ty t=some p∧c.length=k∧p.2=k
 | .str d c on=>ju all o st true∧∃t x sv p c2,qU o.op=some (d,t,x)∧opd E st x=some sv∧E.T.ty t=some p∧cellsOf false st p.1 p.2 sv=some c2∧c2.1=c∧match on with
  | none=>j7 d all.toList=true
  | some n=>j7 d all.toList=false∧st.look d=some (.ref n 0)
def Kn(l:List Oper)(TRs:List TR)(st0:St)(i:Nat)(t:Nat)(sv:SV):Prop :=
 (∃j o r,j<i∧l[j]?=some o∧o.dst=some t∧TRs[j]?=some r∧r.sv=sv)∨((∀j o,j<i→l[j]?=some o→o.dst≠some t)∧st0.look t=some sv)
def yq(l:List Oper)(TRs:List TR)(st0:St)(i:Nat)(st:St):Prop:=∀(t:Nat) (sv:SV),st.look t=some sv→sv≠.bad→Kn l TRs st0 i t sv
theorem qkX{E:Env}{all:Array Oper}{l:List Oper}{m:Nat}{TRs:List TR}{st0:St}(hm:m≤l.length)(hsd:∀i o,i<m→l[i]?=some o→(qU o.op).isSome=true→o.dst=none){ops:List Oper}{st stf:St}{nw nwf:List NE}{tr:List TR}(h:Steps E all ops st nw tr stf nwf) :
 ∀i,ops=(l.take m).drop i→tr=TRs.drop i→i≤m→st.H=st0.H→yq l TRs st0 i st →
  (∀i' o r,i≤i'→i'<m→l[i']?=some o→TRs[i']?=some r→∃sti:St,sti.H=st0.H∧yq l TRs st0 i' sti∧YZ E all ((l.take m).drop (i'+1)) o sti r)∧yq l TRs st0 m stf∧nwf=nw++yD ops tr:=by
 have key:∀ {i:Nat} {o:Oper} {ops:List Oper} {r:TR} {tr:List TR},o::ops=(l.take m).drop i→r::tr=TRs.drop i→l[i]?=some o∧i<m∧ops=(l.take m).drop (i+1)∧TRs[i]?=some r∧tr=TRs.drop (i+1):=by
  intro i o ops r tr h1 h2;have hlt:i<(l.take m).length:=by
   rcases VH i (l.take m).length with h|h
   · exact h
   · rw[KW h]at h1;cases h1
  have h3:=Kj hlt;rw[h3]at h1;simp only[WW]at h1;have hlt2:i<TRs.length:=by
   rcases VH i TRs.length with h|h
   · exact h
   · rw[KW h]at h2;cases h2
  have h4:=Kj hlt2;rw[h4]at h2;simp only[WW]at h2;have him:i<m:=by rw[Ka]at hlt;omega
  refine⟨?_,him,h1.2,by rw[zA hlt2,h2.1],h2.2⟩
  have:(l.take m)[i]?=some o:=by rw[zA hlt,h1.1]
  rwa [zZ,z6 him]at this
 have next:∀ {i:Nat} {o:Oper} {r:TR} {st:St},l[i]?=some o→TRs[i]?=some r→yq l TRs st0 i st→yq l TRs st0 (i+1) (putD E st o.dst r.sv):=by
  intro i o r st h1 h2 h3 t sv ht hb;by_cases hd:o.dst=some t
  · rw[hd]at ht
    simp only[putD,Ju,Vk,zg,za]at ht;exact .inl ⟨i,o,r,by omega,h1,hd,h2,ht⟩
  · rw[YY E st o.dst r.sv t hd]at ht
    rcases h3 t sv ht hb with⟨j,o',r',hj,h⟩|⟨h,h'⟩
    · exact .inl ⟨j,o',r',by omega,h⟩
    · refine .inr ⟨fun j oj hj hoj=>?_,h'⟩
      by_cases hji:j=i
      · subst hji;rw[h1]at hoj;simp only[za]at hoj;subst hoj;exact hd
      · exact h j oj (by omega) hoj
 have same:∀ {i:Nat} {o:Oper} {st:St},l[i]?=some o→o.dst=none→yq l TRs st0 i st→yq l TRs st0 (i+1) st:=by
  intro i o st h1 h2 h3 t sv ht hb;rcases h3 t sv ht hb with⟨j,o',r',hj,h⟩|⟨h,h'⟩
  · exact .inl ⟨j,o',r',by omega,h⟩
  · refine .inr ⟨fun j oj hj hoj=>?_,h'⟩
    by_cases hji:j=i
    · subst hji;rw[h1]at hoj;simp only[za]at hoj;subst hoj;rw[h2];simp
    · exact h j oj (by omega) hoj
 -- one step
 have one:∀ {stf:St} {nwf:List NE} {i:Nat} {o:Oper} {ops:List Oper} {r:TR} {tr:List TR} {st st1:St} {nw nw1:List NE},o::ops=(l.take m).drop i→r::tr=TRs.drop i→st.H=st0.H→yq l TRs st0 i st→YZ E all ops o st r→st1.H=st.H→(l[i]?=some o→i<m→yq l TRs st0 (i+1) st1) →
  (∀i,ops=(l.take m).drop i→tr=TRs.drop i→i≤m→st1.H=st0.H→yq l TRs st0 i st1 →
    (∀i' o r,i≤i'→i'<m→l[i']?=some o→TRs[i']?=some r→∃sti:St,sti.H=st0.H∧yq l TRs st0 i' sti∧YZ E all ((l.take m).drop (i'+1)) o sti r)∧yq l TRs st0 m stf∧nwf=nw1++yD ops tr) →
  (∀i' o r,i≤i'→i'<m→l[i']?=some o→TRs[i']?=some r→∃sti:St,sti.H=st0.H∧yq l TRs st0 i' sti∧YZ E all ((l.take m).drop (i'+1)) o sti r)∧yq l TRs st0 m stf∧nwf=nw1++yD ops tr:=by
  intro stf nwf i o ops r tr st st1 nw nw1 h1 h2 h4 h5 hinfo hH hkn ih;obtain⟨k1,k2,k3,k4,k5⟩:=key h1 h2;obtain⟨a1,a2,a3⟩:=ih (i+1) k3 k5 k2 (hH.trans h4) (hkn k1 k2)
  refine⟨fun i' o' r' h6 h7 h8 h9=>?_,a2,a3⟩
  by_cases hii:i=i'
  · subst hii
    rw[k1]at h8;rw[k4]at h9;simp only[za]at h8 h9;subst h8 h9
    exact⟨st,h4,h5,by rw[← k3];exact hinfo⟩
  · exact a1 i' o' r' (by omega) h7 h8 h9
 induction h with
 | @nil st nw=>
  intro i h1 h2 h3 h4 h5;have him:i=m:=by
   have:(l.take m).length≤i:=by
    rcases VH i (l.take m).length with h|h
    · rw[Kj h]at h1;cases h1
    · exact h
   rw[Ka]at this;omega
  subst him;exact⟨fun i' o r h6 h7=>by omega,h5,by simp[yD]⟩
 | @val o ops st nw tr stf nwf sv hg hn hev hs ih=>
  intro i h1 h2 h3 h4 h5;have:=one (nw:=nw) h1 h2 h4 h5 ⟨hg,hn,hev⟩ (Qx ..) (fun a b=>next (r:=.val sv) a (key h1 h2).2.2.2.1 h5) ih
  simpa[yD]using this
 | @skip o ops st nw tr stf nwf hg hs ih=>
  intro i h1 h2 h3 h4 h5;have:=one (nw:=nw) h1 h2 h4 h5 hg (Qx ..) (fun a b=>next (r:=.skip) a (key h1 h2).2.2.2.1 h5) ih
  simpa[yD]using this
 | @new o ops st nw tr stf nwf c hg hn hev hl hs ih=>
  intro i h1 h2 h3 h4 h5;have:=one (nw:=nw) h1 h2 h4 h5 ⟨hg,hn,hev,hl⟩ (Qx ..) (fun a b=>next (r:=.new c) a (key h1 h2).2.2.2.1 h5) ih
  simpa[yD]using this
 | @newL o ops st nw tr stf nwf c t p hg hn hev hl ht hk hs ih=>
  intro i h1 h2 h3 h4 h5;have:=one (nw:=nw) h1 h2 h4 h5 ⟨hg,hn,c,t,p,hev,hl,ht,hk,rfl⟩ (Qx ..) (fun a b=>next (r:=.newL p.2) a (key h1 h2).2.2.2.1 h5) ih
  simpa[yD]using this
 | @strN o ops st nw tr stf nwf d t x sv p c hg hst hx ht hc hd hs ih=>
  intro i h1 h2 h3 h4 h5;have:=one (nw:=nw) h1 h2 h4 h5 ⟨hg,t,x,sv,p,c,hst,hx,ht,hc,rfl,hd⟩ rfl (fun a b=>same a (hsd _ _ b a (by rw[hst];rfl)) h5) ih
  simpa[yD]using this
 | @strO o ops st nw tr stf nwf d t n x sv p c hg hst hx ht hc hd hl hs ih=>
  intro i h1 h2 h3 h4 h5;have:=one (nw:=nw) h1 h2 h4 h5 ⟨hg,t,x,sv,p,c,hst,hx,ht,hc,rfl,hd,hl⟩ rfl (fun a b=>same a (hsd _ _ b a (by rw[hst];rfl)) h5) ih
  simpa[yD]using this
 | @wk ops st st' nw tr stf nwf hw hs ih=>
  intro i h1 h2 h3 h4 h5;exact ih i h1 h2 h3 (hw.H.trans h4) fun t sv ht hb=>h5 t sv (hw.look t sv ht hb) hb
end Su
end
section
namespace Su
open Go Fly
theorem qpY{l:List Oper}{ms:List Nat}{s m:Nat}(h:swW l ms s m=true):s<m∧(∀o,l[s]?=some o→o.guard=none∧o.dst=none) ∧
 ∀i o,i<m→i≠s→l[i]?=some o→o.guard=none∧Jq o.op=false∧qU o.op=none∧(tlO o.op=true∨yJ ms s i=true)∧(s<i→∀d os,o.dst=some d→l[s]?=some os→d ∉ os.looksAt l.toArray):=by
 unfold swW at h;rw[zp,Ko]at h;obtain⟨h1,h2⟩:=h;have hs:s<m:=by simpa[VY]using h1
 refine⟨hs,fun o ho=>?_,fun i o hi hne ho=>?_⟩
 · have:=h2 (o,s) (by rw[Kz];simp[hs,ho])
   simp only[Vk,zg,zp,Option.isNone_iff_eq_none]at this;exact this
 · have:=h2 (o,i) (by rw[Kz];simp[hi,ho])
   rw[show Nat.beq i s=false by cases hb:Nat.beq i s with|false=>rfl|true=>exact absurd (zd hb) hne]at this;simp only[zo,zp,Option.isNone_iff_eq_none,Wb,VR]at this;obtain⟨a1,a2,a3,a4,a5⟩:=this;refine⟨a1,a2,a3,a4,fun hlt d os hd hos=>?_⟩
   rw[show Nat.blt s i=true by simp[VY,hlt],hd,hos]at a5;simpa using a5
theorem qkY{op:Op}{d t:Nat}{x:Operand}(h:qU op=some (d,t,x)):op = .store t (.tmp d) x:=by
 unfold qU at h;split at h
 · simp only[za,Km]at h
   obtain⟨rfl,rfl,rfl⟩:=h;rfl
 · cases h
section
variable {P:Program} {E:Env} {n:Nat} {X:Cx} {L:Lo} {V:qc} {I:List IE} {G:Own} {K:List KI}
theorem qwF{O:Type}{st:St}{nn e w:Nat}{fx:Bool}{l l':List T}(hn:st.H[nn]?=some (.row fx e w l))(x i:SV)(t:Nat)(k:SV→Option O) :
 ixO E { st with H:=st.H.set nn (.row fx e w l') } x i t k=ixO E st x i t k:=by
 have hlt:nn<st.H.length:=(zu.1 hn).1
 unfold ixO
 congr 1;funext p
 congr 1;funext j
 cases x with
 | osl m off len=>
  simp only[];by_cases hm:nn=m
  · subst hm
    rw[hn,Vj hlt]
  · rw[Kh hm]
 | t y=>cases y <;> rfl
 | _=>rfl
theorem qje(st:St)(H:List OB)(x:Operand):opd E { st with H:=H } x=opd E st x:=by cases x <;> rfl
theorem qwG{st:St}{sv:SV}{o:Oper}(ht:tlO o.op=true){nn e w:Nat}{fx:Bool}{l l':List T}(hn:st.H[nn]?=some (.row fx e w l))(h:∀(O:Type) (k:SV→St→Option O),Zf E false st o k=k sv st) :
 ∀(O:Type) (k:SV→St→Option O),Zf E false { st with H:=st.H.set nn (.row fx e w l') } o k=k sv { st with H:=st.H.set nn (.row fx e w l') }:=by
 intro O k;obtain⟨ds,op,ty,pos,af,gd⟩:=o;have h0:=h O (fun v _=>k v { st with H:=st.H.set nn (.row fx e w l') })
 unfold Zf at h0 ⊢
 cases op <;> simp only[tlO,reduceCtorEq]at ht
 case move x=>
  cases x with
  | tmp t=>exact h0
  | const v=>
   cases v <;> simp only[reduceCtorEq]at ht
   exact h0
  | _=>simp only[reduceCtorEq]at ht
 case binOp b t x y u=>
  simp only[qo2]at h0 ⊢;rw[qje,qje];exact h0
 case indexAddr t x i=>
  simp only[qsZ]at h0 ⊢;rw[qje,qje];simp only[qwF hn];exact h0
structure SwI (E:Env) (l:List Oper) (s m:Nat) (st0 stf:St) (TRs:List TR):Prop where
 len:TRs.length=m
 info:∀i o,i<m→i≠s→l[i]?=some o→∃sti sv,TRs[i]?=some (.val sv)∧sti.H=st0.H∧yq l TRs st0 i sti∧∀(O:Type) (k:SV→St→Option O),Zf E false sti o k=k sv sti
 last:yq l TRs st0 m stf
 H:stf.H=st0.H
theorem qtH{l:List Oper}{TRs:List TR}{st0 st:St}{i:Nat}{o:Oper}{sv:SV}(h1:l[i]?=some o)(h2:TRs[i]?=some (.val sv))(h3:yq l TRs st0 i st):yq l TRs st0 (i+1) (putD E st o.dst sv):=by
 intro t sv' ht hb;by_cases hd:o.dst=some t
 · rw[hd]at ht
   simp only[putD,Ju,Vk,zg,za]at ht;exact .inl ⟨i,o,_,by omega,h1,hd,h2,ht⟩
 · rw[YY E st o.dst sv t hd]at ht
   rcases h3 t sv' ht hb with⟨j,o',r',hj,h⟩|⟨h,h'⟩
   · exact .inl ⟨j,o',r',by omega,h⟩
   · refine .inr ⟨fun j oj hj hoj=>?_,h'⟩
     by_cases hji:j=i
     · subst hji;rw[h1]at hoj;simp only[za]at hoj;subst hoj;exact hd
     · exact h j oj (by omega) hoj
theorem qtI{l:List Oper}{TRs:List TR}{st0 st:St}{i:Nat}{o:Oper}(h1:l[i]?=some o)(h2:o.dst=none)(h3:yq l TRs st0 i st):yq l TRs st0 (i+1) st:=by
 intro t sv ht hb;rcases h3 t sv ht hb with⟨j,o',r',hj,h⟩|⟨h,h'⟩
 · exact .inl ⟨j,o',r',by omega,h⟩
 · refine .inr ⟨fun j oj hj hoj=>?_,h'⟩
   by_cases hji:j=i
   · subst hji;rw[h1]at hoj;simp only[za]at hoj;subst hoj;rw[h2];simp
   · exact h j oj (by omega) hoj
theorem qpZ{l:List Oper}{A B:List TR}{st0 st:St}{i:Nat}(hA:i≤A.length)(h:yq l A st0 i st):yq l (A++B) st0 i st:=by
 intro t sv ht hb;rcases h t sv ht hb with⟨j,o,r,hj,a,b,c,d⟩|h
 · exact .inl ⟨j,o,r,hj,a,b,by rw[Ki (by omega)];exact c,d⟩
 · exact .inr h
theorem qtJ{O:Type}{r:O}{k:St→Option O}{l:List Oper}{m S0:Nat}{st0:St}(hm:m≤l.length)(hs0:∀o,l[S0]?=some o→o.dst=none) :
 ∀(ops:List Oper) (i s:Nat) (st:St) (A:List TR),ops=(l.take m).drop i→i≤m→A.length=i→(i≤S0→s=S0-i)→(S0<i→ops.length≤s)→swP E ops s st k=some r→st.H=st0.H→yq l A st0 i st →
  (∀j o,j<i→j≠S0→l[j]?=some o→∃sti sv,A[j]?=some (.val sv)∧sti.H=st0.H∧yq l A st0 j sti∧∀(O:Type) (k:SV→St→Option O),Zf E false sti o k=k sv sti) →
  ∃stf TRs,SwI E l S0 m st0 stf TRs∧k stf=some r:=by
 intro ops;induction ops with
 | nil=>
  intro i s st A hops hi hA _ _ he hH hk hinf;have him:i=m:=by
   have:(l.take m).length≤i:=by
    rcases VH i (l.take m).length with h|h
    · rw[Kj h]at hops;cases hops
    · exact h
   rw[Ka]at this;omega
  subst him;exact⟨st,A,⟨hA,hinf,hk,hH⟩,he⟩
 | cons o ops ih=>
  intro i s st A hops hi hA hs1 hs2 he hH hk hinf;have hlt:i<(l.take m).length:=by
   rcases VH i (l.take m).length with h|h
   · exact h
   · rw[KW h]at hops;cases hops
  have him:i<m:=by rw[Ka]at hlt;omega
  have h3:=Kj hlt;rw[h3]at hops;simp only[WW]at hops;have hlo:l[i]?=some o:=by
   have:(l.take m)[i]?=some o:=by rw[zA hlt,hops.1]
   rwa [zZ,z6 him]at this
  have up:∀(x:TR),(∀j o,j<i→j≠S0→l[j]?=some o→∃sti sv,(A++[x])[j]?=some (.val sv)∧sti.H=st0.H∧yq l (A++[x]) st0 j sti∧∀(O:Type) (k:SV→St→Option O),Zf E false sti o k=k sv sti):=by
   intro x j o' hj hne ho';obtain⟨sti,sv,a1,a2,a3,a4⟩:=hinf j o' hj hne ho';exact⟨sti,sv,by rw[Ki (by omega)];exact a1,a2,qpZ (by omega) a3,a4⟩
  have hk':∀x:TR,yq l (A++[x]) st0 i st:=fun x=>qpZ (by omega) hk
  have at_:∀x:TR,(A++[x])[i]?=some x:=fun x=>by rw[Kl (by omega),hA,Ww];rfl
  cases s with
  | zero=>
   have hiS:i=S0:=by
    rcases WQ i S0 with h|h|h
    · have:=hs1 (by omega);omega
    · exact h
    · have:=hs2 h;simp at this
   subst hiS;refine ih (i+1) ops.length st (A++[.skip]) hops.2 (by omega) (by simp[hA]) (fun h=>by omega) (fun _=>zI _) he hH (qtI hlo (hs0 o hlo) (hk' _)) ?_
   intro j o' hj hne ho';exact up _ j o' (by omega) hne ho'
  | succ s=>
   have hne:i≠S0:=fun e=>by
    have:=hs1 (by omega);omega
   have he:Zf E false st o (fun sv _=>swP E ops s (putD E st o.dst sv) k)=some r:=he
   obtain⟨sv,h1,h2⟩:=(qjc (E:=E) (st:=st) o).par _ _ _ he
   refine ih (i+1) s (putD E st o.dst sv) (A++[.val sv]) hops.2 (by omega) (by simp[hA]) (fun h=>by have:=hs1 (by omega);omega) (fun h=>by
    have:=hs2 (by omega);simp at this;omega) h1 ((Qx ..).trans hH) (qtH hlo (at_ _) (hk' _)) ?_
   intro j o' hj hne' ho';by_cases hji:j=i
   · subst hji
     rw[hlo]at ho';simp only[za]at ho';subst ho';exact⟨st,sv,at_ _,hH,hk' _,h2⟩
   · exact up _ j o' (by omega) hne' ho'
theorem qtK(S:Sound P E.T){st:St}{o:Oper}{t d:Nat}{x:Operand}{p:Bool×Nat}{nn i off e w:Nat}{fx:Bool}{l:List T}{c z y:T}(hop:o.op = .store t (.tmp d) x)(hp:E.T.ty t=some p)(hn:st.H[nn]?=some (.row fx e w l))(hz:l[i]?=some z)
 (hck:((bif p.1 then c.isAgg else !c.isAgg)&&Nat.beq c.cells.length p.2)=true) (hy:qoX w z off c=some y) (hG:GR V I st.H G)
 {va vx:Value} (hva:ev L (.tmp d)=some va) (hra:RepS V I (.ep nn i off) va) (hvx:ev L x=some vx) (hrx:RepS V I (.t c) vx) :
 Opr P n X L V G o fun v V' G'=>V'=V∧GR V I (st.H.set nn (.row fx e w (l.set i y))) G':=by
 obtain⟨ds,op,ty,pos,af,gd⟩:=o;have hop:op = .store t (.tmp d) x:=hop
 subst hop;have hT:=S.ty t (p.1,p.2) hp
 have hS:SR V I ⟨[],[],st.H⟩ [] G:=⟨hG,fun d sv hd=>by simp[St.look,lkG]at hd⟩
 cases hrx with|t r1=>
 obtain⟨us,u1,u2,u3⟩:=r1.cells;obtain⟨ie,g,G2,k1,k2,k3,k4⟩:=hS.turn (n:=nn) hn
 cases k2 with
 | vrow=>simp at hz
 | @row _ _ _ b ct _ cur a1 a2 a3 a4 a5 a6=>
  cases hra with|@ep _ _ _ b' k' ct' hI=>
  rw[k1]at hI;simp only[za,IE.row.injEq]at hI;obtain⟨hbb,hkk,hcc⟩:=hI;subst hbb hkk hcc
  have hput:=qeE hy (a6 z (zO hz)) u3
  have hfp:=qeF hput hz a6;obtain⟨rs,p1,p2⟩:=qeA a4 u2 hfp;have p3:=qcF (b:=cur.toList.drop (l.length*w)) p1
  rw[Kw]at p3;simp only[zp]at hck;have hul:us.length=p.2:=by rw[← u2.length];exact zd hck.2
  have hrsl:rs.length=l.length*w:=by
   rw[← p2.length,ZX hfp,QT a6]
  have hle:l.length*w≤cur.size:=by rw[a1];exact zG _ a3
  refine QW k3 (jZ (qeD S.tb hva hvx u1 (Jt u2 u3) hT hul (by rw[← Vq (xs:=cur)];exact .here) p3 fun hf=>?_))
  have hs:=k4 (.row fx e w (l.set i y)) [(b,.cells (rs++cur.toList.drop (l.length*w)).toArray e (0,0))] (.row
   (by simp only[Ky,zb,KA,Ks,hrsl];omega) a2 (by simpa using a3)
   (by simp only[List.length_set];rw[← hrsl,K4];exact p2)
   (fun q hq=>(qdB hfp q hq).elim (a5 q) (u3 q))
   (fun q hq=>by
     rcases Wt hq with hq|rfl
     · exact a6 q hq
     · rw[ZX hput];exact a6 z (zO hz)))
  exact⟨rfl,hs.mem⟩
def qwH(m s:Nat)(TRs:List TR)(I:List IE)(H0 H1:List OB):qnS:=fun b vals Ow V=>
 (b s=false→GR V I H0 Ow)∧(b s=true→GR V I H1 Ow)∧∀i sv,i<m→i≠s→TRs[i]?=some (.val sv)→b i=true→RepS V I sv (vals i)
theorem GR.up{V V':qc}{H:List OB}(h:GR V I H G)(hs:Sub V V'):GR V' I H G:=by
 obtain⟨G0,h1,h2⟩:=h;exact⟨G0,h1.mono hs (Ile.refl _),h2⟩
theorem qyw(S:Sound P E.T)(hC:qbO P E S){l:List Oper}{id s m:Nat}{O:Type}{r:O}{k:St→Option O}{st:St}(hc:qhJ n l (Qb l []) m=true)(hsw:swW l (Qb l []) s m=true)(hok:qi6 n l)
 (he:swC E l.toArray s m st k=some r) (hS:SR V I st L G) (hg:GOK E.T V) (hk:∀(st1:St) (G1:Own),IPf st.H I st1.H I→JL P n X K E.T r k false (yP l) V I st1 G1):WC P n X L V G (.region id l.toArray true) K:=by
 have hc':=hc;simp only[qhJ,zp]at hc';obtain⟨⟨⟨⟨⟨⟨hGd,hdst⟩,hE⟩,hP⟩,hT⟩,hml⟩,hSel⟩:=hc';have hml:=zx hml;obtain⟨hsm,hs1,hs2⟩:=qpY hsw;unfold swC at he;have hl0:l.toArray.toList=l:=by simp
 rw[hl0]at he;obtain⟨stf,TRs,hI,he⟩:=qtJ (l:=l) (m:=m) (S0:=s) (st0:=st) hml (fun o ho=>(hs1 o ho).2) (l.take m) 0 s st [] rfl (Wv _) rfl (fun _=>rfl) (fun h=>by omega) he rfl
  (fun t sv ht hb=>.inr ⟨fun j o hj=>by omega,ht⟩) (fun j o hj=>by omega)
 have hsl:s<l.length:=by omega
 have hso:l[s]?=some l[s]:=zA hsl
 rw[hso]at he;simp only[]at he;obtain⟨gso,dso⟩:=hs1 _ hso
 -- the store
 unfold swS at he;cases hst:qU l[s].op with
 | none=>rw[hst]at he;simp at he
 | some q=>
 obtain⟨d,t,x⟩:=q;rw[hst]at he;simp only[]at he;replace he:=qf he;obtain⟨sa,hsa,he⟩:=he
 replace he:=qf he;obtain⟨sx,hsx,he⟩:=he
 unfold elS at he;replace he:=qf he;obtain⟨p,hp,he⟩:=he
 split at he
 · rename_i nn i off
   split at he
   · rename_i c
     split at he
     · rename_i fx e w lr hn
       replace he:=qf he;obtain⟨z,hz,he⟩:=he
       replace he:=qlE he
       cases hck:((bif p.1 then c.isAgg else !c.isAgg)&&Nat.beq c.cells.length p.2)with
       | false=>rw[hck]at he;simp at he
       | true=>
       rw[hck]at he;simp only[zg]at he;replace he:=qf he;obtain⟨y,hy,he⟩:=he
       have hop:=qkY hst;have hn0:st.H[nn]?=some (.row fx e w lr):=by rw[← hI.H];exact hn
       generalize hH1:st.H.set nn (.row fx e w (lr.set i y))=H1 at *
       have he:Q7 E l.toArray (l.drop m) false 0 [] [] { stf with H:=H1 } k=some r:=by rw[← hH1,← hI.H];exact he
       have inLook:∀ {o:Oper} (x:Operand),x∈o.op.operands.toList→∀t,x = .tmp t→t∈o.looksAt l.toArray:=by
        intro o x hx t e;unfold Oper.looksAt;exact KX _ (WA.2 ⟨x,hx,by rw[e]⟩)
       -- what is known of a slot that an operation looks at
       have known:∀ {b:Nat→Bool} {vals:Nat→Value} {V':qc} {i':Nat} {o:Oper} {k':Nat} {sti:St},Sub V V'→i'<m→l[i']?=some o→b i'=false→(∀j,yJ (Qb l []) i' j=true→b j=true)→(∀p,p<m→yJ (Qb l []) p i'=true→b p=false) →
        (∀i sv,i<m→i≠s→TRs[i]?=some (.val sv)→b i=true→RepS V' I sv (vals i))→k'≤m→(k'=i'∨(i'=s∧k'=m))→yq l TRs st k' sti→∀(t:Nat) (sv:SV),sti.look t=some sv→sv≠.bad→t∈o.looksAt l.toArray→∃v,lk (QM b l vals L m) t=some v∧RepS V' I sv v:=by
        intro b vals V' i' o k' sti hsub hi ho hbi hanc hdesc hF hk' hkk hkn t sv ht hb hlook;rcases hkn t sv ht hb with⟨j,oj,r,hj,k1,k2,k3,k4⟩|⟨k1,k2⟩
        · have hjs:j≠s:=fun e=>by subst e;rw[hso]at k1;simp only[za]at k1;subst k1;rw[dso]at k2;cases k2
          have hji:j≠i':=fun e=>by
           subst e;rcases hkk with h|⟨h,_⟩
           · omega
           · exact hjs h
          have hjlt:j<i':=by
           rcases hkk with h|⟨h,_⟩
           · omega
           · rcases WQ j i' with hlt|he|hgt
             · exact hlt
             · exact absurd he hji
             · subst h
               rw[ho]at hso;simp only[za]at hso;exact absurd hlook ((hs2 j oj (by omega) hjs k1).2.2.2.2 hgt t o k2 ho)
          have h1:=(Qk hP (show j<m by omega) k1 k2 hi ho (by omega)).2 hlook
          rw[zQ (by omega)]at h1;have hbj:=hanc j h1;refine⟨vals j,Jv hP (by omega) hbj k1 k2 m (by omega) (zI _),?_⟩
          obtain⟨_,sv',a1,_⟩:=hI.info j oj (by omega) hjs k1
          rw[k3]at a1;simp only[za]at a1;subst a1;have e4:sv'=sv:=k4
          subst e4;exact hF j sv' (by omega) hjs k3 hbj
        · obtain⟨v,hv,hr⟩:=hS.slot t sv k2 hb
          refine⟨v,Z0 hv m fun j oj hj hbj hoj hd=>?_,hr.mono hsub (Ile.refl _)⟩
          rcases WQ j i' with h|h|h
          · rcases hkk with hk0|⟨_,hk0⟩
            · exact k1 j oj (by omega) hoj hd
            · exact k1 j oj (by omega) hoj hd
          · subst h;rw[hbi]at hbj;cases hbj
          · have h1:=(Qk hP hj hoj hd hi ho (by omega)).2 hlook
            rw[z6 h]at h1;rw[hdesc j hj h1]at hbj;cases hbj
       have hopd:∀ {b:Nat→Bool} {vals:Nat→Value} {V':qc} {i':Nat} {o:Oper} {k':Nat} {sti:St},Sub V V'→i'<m→l[i']?=some o→b i'=false→(∀j,yJ (Qb l []) i' j=true→b j=true)→(∀p,p<m→yJ (Qb l []) p i'=true→b p=false) →
        (∀i sv,i<m→i≠s→TRs[i]?=some (.val sv)→b i=true→RepS V' I sv (vals i))→k'≤m→(k'=i'∨(i'=s∧k'=m))→yq l TRs st k' sti→∀x∈o.op.operands.toList,jm E sti V' I (QM b l vals L m) x:=by
        intro b vals V' i' o k' sti h1 h2 h3 h4 h5 h6 h7 h8 h9 h10 x hx;cases x with
        | tmp t=>
         intro sv hsv;simp only[opd]at hsv;obtain⟨q1,q2⟩:=qdG hsv;simp only[ev];exact known h1 h2 h3 h4 h5 h6 h7 h8 h9 h10 t sv q1 q2 (inLook _ hx t rfl)
        | _=>exact fun sv hsv=>qlS (E:=E) (st:=⟨[],[],[]⟩) (I:=I) (L:=QM b l vals L m) (hg.mono h1) (by intro d sv h;simp[St.look,lkG]at h) _ sv hsv
       refine qcI m (qwH m s TRs I st.H H1) S.mo rfl hc (fun _=>undef) (by unfold qwH;exact⟨fun _=>hS.mem,fun h=>by simp at h,fun i sv _ _ _ h=>by simp at h⟩) (fun i' o hi ho=>?_) fun vals Ow V' hs hY=>?_
       · -- one operation
         intro b vals Ow V' hs hbi hanc hdesc hF;obtain⟨hF0,hF1,hF2⟩:=hF;have keep:∀ {v:Value} {V'':qc},Sub V' V''→∀j sv,j<m→j≠s→TRs[j]?=some (.val sv)→j≠i'→y7 b i' j=true→RepS V'' I sv (QN vals i' v j):=by
          intro v V'' h1 j sv hj hjs ht hne hb;have e1:y7 b i' j=b j:=by simp[y7,hne]
          have e2:QN vals i' v j=vals j:=by simp[QN,hne]
          rw[e1]at hb;rw[e2];exact(hF2 j sv hj hjs ht hb).mono h1 (Ile.refl _)
         by_cases hes:i'=s
         · -- the store
           subst hes;rw[hso]at ho;simp only[za]at ho;subst ho;rw[gso];have hG:=hF0 hbi;have hx1:=hopd hs hi hso hbi hanc hdesc hF2 (zI _) (.inr ⟨rfl,rfl⟩) hI.last
           obtain⟨vx,hvx,hrx⟩:=hx1 x (by rw[hop];simp[Op.operands]) _ hsx
           have hda:opd E stf (.tmp d)=some (.ep nn i off):=by simp only[opd,hsa,zm];rfl
           obtain⟨va,hva,hra⟩:=hx1 (.tmp d) (by rw[hop];simp[Op.operands]) _ hda
           refine Js (qtK S (st:=st) hop hp hn0 hz hck hy hG hva hra hvx hrx) fun v V'' G'' hq=>?_
           obtain⟨rfl,hq⟩:=hq;refine⟨Sub.refl _,fun h=>by simp[y7]at h,fun _=>by rw[← hH1];exact hq,fun j sv hj hjs ht hb=>keep (Sub.refl _) j sv hj hjs ht hjs hb⟩
         · obtain⟨g1,g2,g3,g4,_⟩:=hs2 i' o hi hes ho
           rw[g1];obtain⟨sti,sv,a1,a2,a3,a4⟩:=hI.info i' o hi hes ho;have hx1:=hopd hs hi ho hbi hanc hdesc hF2 (Wg hi) (.inl rfl) a3
           have ebs:∀v:Value,y7 b i' s=b s:=fun _=>by simp[y7,Ne.symm hes]
           have done:∀ {v:Value} {V'':qc} {Hx:List OB},Sub V' V''→RepS V'' I sv v→qwH m s TRs I st.H H1 (y7 b i') (QN vals i' v) Ow V'':=by
            intro v V'' Hx h1 h3;refine⟨fun h=>(hF0 (by rwa [ebs v]at h)).up h1,fun h=>(hF1 (by rwa [ebs v]at h)).up h1,fun j sv' hj hjs ht hb=>?_⟩
            by_cases hji:j=i'
            · subst hji
              rw[a1]at ht;simp only[za,TR.val.injEq]at ht;subst ht;simpa[QN]using h3
            · exact keep h1 j sv' hj hjs ht hji hb
           cases hbs:b s with
           | false=>
            refine qbI fun hf=>Js (qdE (fr:=false) (r:=sv) (k:=fun s _=>some s) S hC (st:=sti) ⟨by rw[a2];exact(hF0 hbs).mr,hg.mono hs,hf,hx1,fun e=>by simp at e⟩ (a4 _ _)) fun v V'' G'' hq=>?_
            obtain⟨h1,rfl,sv',h2,h3⟩:=hq;simp only[za]at h2;subst h2;exact⟨h1,done (Hx:=[]) h1 h3⟩
           | true=>
            have htl:tlO o.op=true:=by
             rcases g4 with h|h
             · exact h
             · have:=hdesc s hsm h
               rw[this]at hbs;cases hbs
            have a5:=qwG (l':=lr.set i y) htl (by rw[a2];exact hn0) a4
            rw[a2,hH1]at a5;have hx2:∀x∈o.op.operands.toList,jm E { sti with H:=H1 } V' I (QM b l vals L m) x:=fun x hx sv' hsv=>hx1 x hx sv' (by rw[qje]at hsv;exact hsv)
            refine qbI fun hf=>Js (qdE (fr:=false) (r:=sv) (k:=fun s _=>some s) S hC (st:={ sti with H:=H1 }) ⟨(hF1 hbs).mr,hg.mono hs,hf,hx2,fun e=>by simp at e⟩ (a5 _ _)) fun v V'' G'' hq=>?_
            obtain⟨h1,rfl,sv',h2,h3⟩:=hq;simp only[za]at h2;subst h2;exact⟨h1,done (Hx:=[]) h1 h3⟩
       · -- behind the first part
         obtain⟨_,hF1,hF2⟩:=hY;have hall:∀j o t,j<m→l[j]?=some o→o.dst=some t→lk (QM (fun i=>decide (i<m)) l vals L m) t=some (vals j):=fun j o t hj h1 h2=>Jv hP hj (by simp[hj]) h1 h2 _ hj (zI _)
         have hS1:SR V' I { stf with H:=H1 } (QM (fun i=>decide (i<m)) l vals L m) Ow:=by
          refine⟨hF1 (by simp[hsm]),fun d sv hd hb=>?_⟩
          have hd:stf.look d=some sv:=hd
          rcases hI.last d sv hd hb with⟨j,o,t,hj,q1,q2,q3,q4⟩|⟨q1,q2⟩
          · have hjs:j≠s:=fun e=>by subst e;rw[hso]at q1;simp only[za]at q1;subst q1;rw[dso]at q2;cases q2
            refine⟨vals j,hall j o d hj q1 q2,?_⟩
            obtain⟨_,sv',a1,_⟩:=hI.info j o hj hjs q1;rw[q3]at a1;simp only[za]at a1;subst a1;have e4:sv'=sv:=q4
            subst e4;exact hF2 j sv' hj hjs q3 (by simp[hj])
          · obtain⟨v,hv,hr⟩:=hS.slot d sv q2 hb
            exact⟨v,Z0 hv _ fun j o hj _ ho=>q1 j o hj ho,hr.mono hs (Ile.refl _)⟩
         have hip:IPf st.H I H1 I:=by rw[← hH1];exact IPf.setrow hn0
         exact qhG S hC _ r k false [] [] _ _ V' Ow I he (fun x hx=>hok x (KY hx)) hS1 (hg.mono hs) fun st' L' V2 G2 I2 h1 h2 h3 h4 h5 h6=>hk { stf with H:=H1 } G hip st' L' V2 G2 I2 h1 h2 h3 (hs.trans h4) h5 fun e=>by simp at e
     · simp at he
   · simp at he
 · simp at he
end
end Su
end
