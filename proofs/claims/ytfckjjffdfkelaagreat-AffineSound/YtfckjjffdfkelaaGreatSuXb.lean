/-
  An evaluator of the program's functions over trees of values, proved sound. No condition.
-/
import Derived.Test.YtfckjjffdfkelaaGreatSuW
section
namespace Su
open Go Fly
inductive TR where
 | val (sv:SV)
 | skip
 | new (c:List SV)
 | newL (k:Nat)
 | str (d:Nat) (c:List SV) (o:Option Nat)
def TR.sv:TR→SV
 | .val s=>s
 | .skip=>.un
 | _=>.bad
structure Wk (st st':St):Prop where
 look:∀ (d:Nat) (sv:SV),st'.look d=some sv→sv≠.bad→st.look d=some sv
 H:st'.H=st.H
def GuardIs (all:Array Oper) (o:Oper) (st:St) (yes:Bool):Prop :=
 match o.guard with
 | none=>yes=true
 | some (j,b)=>∃ g,(all[j]?).bind (·.dst)=some g∧((∃ c,st.look g=some (mkB c)∧(c == b)=yes)∨(st.look g=some .un∧yes=false))
inductive Steps (E:Env) (all:Array Oper):List Oper→St→List NE→List TR→St→List NE→Prop
 | nil {st:St} {nw:List NE}:Steps E all [] st nw [] st nw
 | val {o:Oper} {ops:List Oper} {st:St} {nw:List NE} {tr:List TR} {stf:St} {nwf:List NE} {sv:SV} (hg:GuardIs all o st true) (hn:isNew o.op=false) (h:∀ (O:Type) (k:SV→St→Option O),evOp E false st o k=k sv st) (hs:Steps E all ops (putD E st o.dst sv) nw tr stf nwf) :
  Steps E all (o::ops) st nw (.val sv::tr) stf nwf
 | skip {o:Oper} {ops:List Oper} {st:St} {nw:List NE} {tr:List TR} {stf:St} {nwf:List NE} (hg:GuardIs all o st false) (hs:Steps E all ops (putD E st o.dst .un) nw tr stf nwf):Steps E all (o::ops) st nw (.skip::tr) stf nwf
 | new {o:Oper} {ops:List Oper} {st:St} {nw:List NE} {tr:List TR} {stf:St} {nwf:List NE} {c:List SV} (hg:GuardIs all o st true) (hn:isNew o.op=true) (h:newCells E st o.op=some c) (hl:lateT o.dst ops=none) (hs:Steps E all ops (putD E st o.dst .bad) (nw++[.new o.dst c]) tr stf nwf) :
  Steps E all (o::ops) st nw (.new c::tr) stf nwf
 | newL {o:Oper} {ops:List Oper} {st:St} {nw:List NE} {tr:List TR} {stf:St} {nwf:List NE} {c:List SV} {t:Nat} {p:Bool×Nat} (hg:GuardIs all o st true) (hn:isNew o.op=true) (h:newCells E st o.op=some c) (hl:lateT o.dst ops=some t) (ht:E.T.ty t=some p) (hk:c.length=p.2) (hs:Steps E all ops (putD E st o.dst .bad) nw tr stf nwf) :
  Steps E all (o::ops) st nw (.newL p.2::tr) stf nwf
 | strN {o:Oper} {ops:List Oper} {st:St} {nw:List NE} {tr:List TR} {stf:St} {nwf:List NE} {d t:Nat} {x:Operand} {sv:SV} {p:Bool×Nat} {c:List SV×St} (hg:GuardIs all o st true) (hst:storeT o.op=some (d,t,x)) (hx:opd E st x=some sv) (ht:E.T.ty t=some p) (hc:cellsOf false st p.1 p.2 sv=some c) (hd:hasDst d all.toList=true) (hs:Steps E all ops st (nw++[.new (some d) c.1]) tr stf nwf) :
  Steps E all (o::ops) st nw (.str d c.1 none::tr) stf nwf
 | strO {o:Oper} {ops:List Oper} {st:St} {nw:List NE} {tr:List TR} {stf:St} {nwf:List NE} {d t n:Nat} {x:Operand} {sv:SV} {p:Bool×Nat} {c:List SV×St} (hg:GuardIs all o st true) (hst:storeT o.op=some (d,t,x)) (hx:opd E st x=some sv) (ht:E.T.ty t=some p) (hc:cellsOf false st p.1 p.2 sv=some c) (hd:hasDst d all.toList=false) (hl:st.look d=some (.ref n 0)) (hs:Steps E all ops st (nw++[.old n c.1]) tr stf nwf) :
  Steps E all (o::ops) st nw (.str d c.1 (some n)::tr) stf nwf
 | wk {ops:List Oper} {st st':St} {nw:List NE} {tr:List TR} {stf:St} {nwf:List NE} (hw:Wk st st') (hs:Steps E all ops st' nw tr stf nwf):Steps E all ops st nw tr stf nwf
section
variable {P:Program} {E:Env} {n:Nat} {X:Cx} {V:View} {I:List IE} {G:Own} {K:List KI} {all:Array Oper}
def Next (E:Env) (all:Array Oper) (ops:List Oper) (q:Bool) (m:Nat) (nw:List NE) (D:List Nat) (st:St) {O:Type} (k:St→Option O) (r:O):Prop :=
 match m with
 | 0=>evOps E all ops q 0 [] D (addNews E st nw) k=some r
 | m+1=>evOps E all ops q (m+1) nw D st k=some r
theorem next_of {O:Type} {r:O} {k:St→Option O} {q:Bool} {m:Nat} {nw:List NE} {D:List Nat} {st:St} {ops:List Oper}
 (h:nextO E m st nw (fun st' nw'=>evOps E all ops q m nw' D st' k)=some r):Next E all ops q m nw D st k r:=by
 cases m with
 | zero=>exact h
 | succ m=>exact h
theorem do_pre {O:Type} {r:O} {k:St→Option O} {q:Bool} {m:Nat} {nw:List NE} {D:List Nat} {st:St} {o:Oper} {ops:List Oper} {yes:Bool}
 (he:doO E all.toList ops q (m+1) nw D st o yes (evOps E all ops) k=some r) (hg:GuardIs all o st yes) (hc:Cont P n X K E.T r k q (dstsT (o::ops)) V I st G) (hq:q=true→nw=[]∧∀ x∈o::ops,quietO E.T x.op=true) :
 ∃ (t:TR) (st1:St) (nw1:List NE),Next E all ops q m nw1 D st1 k r∧(∀ tr stf nwf,Steps E all (ops.take m) st1 nw1 tr stf nwf→Steps E all (o::ops.take m) st nw (t::tr) stf nwf) ∧
  Cont P n X K E.T r k q (dstsT ops) V I st1 G∧(q=true→nw1=[])∧st1.H=st.H:=by
 have tail:∀ (sv:SV),Cont P n X K E.T r k q (dstsT ops) V I (putD E st o.dst sv) G:=fun sv =>
  hc.tail (Sub.refl _) (by rw [putD_H];exact IPf.refl _ _) fun _=>⟨putD_H ..,rfl,fun d hd hk=>⟨hasK_putD _ _ _ _ _ hk,putD_look _ _ _ _ _ hd⟩⟩
 unfold doO at he
 cases yes with
 | true =>
  simp only [cond_true,Nat.add_sub_cancel,oneO] at he
  cases hn:isNew o.op with
  | true =>
   have hnq:q=true→False:=fun e=>by
    have:=(hq e).2 o (List.mem_cons_self ..)
    cases ho:o.op <;> rw [ho] at hn this <;> simp [isNew] at hn <;> simp [quietO] at this
   rw [hn] at he
   simp only [cond_true] at he
   unfold newO at he
   replace he:=bsome he;obtain ⟨c,hcc,he⟩:=he
   cases hl:lateT o.dst (ops.take m) with
   | none =>
    rw [hl] at he
    exact ⟨.new c,putD E st o.dst .bad,nw++[.new o.dst c],next_of he,fun tr stf nwf hs=>.new hg hn hcc hl hs,tail _,fun e=>(hnq e).elim,putD_H ..⟩
   | some t =>
    rw [hl] at he
    replace he:=bsome he;obtain ⟨p,hp,he⟩:=he
    cases hb:Nat.beq c.length p.2 with
    | false=>rw [hb] at he;simp at he
    | true =>
     rw [hb,cond_true] at he
     exact ⟨.newL p.2,putD E st o.dst .bad,nw,next_of he,fun tr stf nwf hs=>.newL hg hn hcc hl hp (Nat.eq_of_beq_eq_true hb) hs,tail _,fun e=>(hnq e).elim,putD_H ..⟩
  | false =>
   rw [hn] at he
   simp only [cond_false] at he
   cases hst:storeT o.op with
   | none =>
    rw [hst] at he
    simp only [] at he
    obtain ⟨sv,h1,h2⟩:=(evOp_par (E:=E) (st:=st) o).par _ _ _ he
    exact ⟨.val sv,putD E st o.dst sv,nw,next_of h1,fun tr stf nwf hs=>.val hg hn (fun O k=>h2 O k) hs,tail _,fun e=>(hq e).1,putD_H ..⟩
   | some z =>
    obtain ⟨d,t,x⟩:=z
    rw [hst] at he
    simp only [] at he
    have hnq:q=true→False:=fun e=>by
     have:=(hq e).2 o (List.mem_cons_self ..)
     cases ho:o.op <;> rw [ho] at hst this <;> simp [storeT] at hst <;> simp [quietO] at this
    have tail':Cont P n X K E.T r k q (dstsT ops) V I st G:=hc.tail (Sub.refl _) (IPf.refl _ _) fun e=>(hnq e).elim
    unfold strO at he
    replace he:=bsome he;obtain ⟨sv,hsv,he⟩:=he
    replace he:=bsome he;obtain ⟨p,hp,he⟩:=he
    replace he:=bsome he;obtain ⟨c,hcc,he⟩:=he
    cases hd:hasDst d all.toList with
    | true =>
     rw [hd,cond_true] at he
     exact ⟨.str d c.1 none,st,nw++[.new (some d) c.1],next_of he,fun tr stf nwf hs=>.strN hg hst hsv hp hcc hd hs,tail',fun e=>(hnq e).elim,rfl⟩
    | false =>
     rw [hd,cond_false] at he
     split at he
     · rename_i n0 hl
       exact ⟨.str d c.1 (some n0),st,nw++[.old n0 c.1],next_of he,fun tr stf nwf hs=>.strO hg hst hsv hp hcc hd hl hs,tail',fun e=>(hnq e).elim,rfl⟩
     · simp at he
 | false =>
  simp only [cond_false,Nat.add_sub_cancel,noneO] at he
  exact ⟨.skip,putD E st o.dst .un,nw,next_of he,fun tr stf nwf hs=>.skip hg hs,tail _,fun e=>(hq e).1,putD_H ..⟩
theorem pre_step {O:Type} {r:O} {k:St→Option O} {q:Bool} {m:Nat} {nw:List NE} {D:List Nat} {st:St} {o:Oper} {ops:List Oper}
 (he:evOps E all (o::ops) q (m+1) nw D st k=some r) (hc:Cont P n X K E.T r k q (dstsT (o::ops)) V I st G) (hq:q=true→nw=[]∧∀ x∈o::ops,quietO E.T x.op=true) :
 ∃ (t:TR) (st1:St) (nw1:List NE) (O':Type) (r':O') (k':St→Option O') (q':Bool) (D':List Nat),Next E all ops q' m nw1 D' st1 k' r'∧(∀ tr stf nwf,Steps E all (ops.take m) st1 nw1 tr stf nwf→Steps E all (o::ops.take m) st nw (t::tr) stf nwf) ∧
  Cont P n X K E.T r' k' q' (dstsT ops) V I st1 G∧(q'=true→nw1=[]∧∀ x∈ops,quietO E.T x.op=true)∧st1.H=st.H:=by
 have done:∀ {O:Type} {r:O} {k:St→Option O} {q:Bool} {D:List Nat} {yes:Bool} {s:St},Wk st s→doO E all.toList ops q (m+1) nw D s o yes (evOps E all ops) k=some r→GuardIs all o s yes→Cont P n X K E.T r k q (dstsT (o::ops)) V I s G→(q=true→nw=[]∧∀ x∈o::ops,quietO E.T x.op=true) →
  ∃ (t:TR) (st1:St) (nw1:List NE) (O':Type) (r':O') (k':St→Option O') (q':Bool) (D':List Nat),Next E all ops q' m nw1 D' st1 k' r'∧(∀ tr stf nwf,Steps E all (ops.take m) st1 nw1 tr stf nwf→Steps E all (o::ops.take m) st nw (t::tr) stf nwf) ∧
   Cont P n X K E.T r' k' q' (dstsT ops) V I st1 G∧(q'=true→nw1=[]∧∀ x∈ops,quietO E.T x.op=true)∧st1.H=st.H:=by
  intro O r k q D yes s hw h1 h2 h3 h4
  obtain ⟨t,st1,nw1,a1,a2,a3,a4,a5⟩:=do_pre h1 h2 h3 h4
  exact ⟨t,st1,nw1,O,r,k,q,D,a1,fun tr stf nwf hs=>.wk hw (a2 tr stf nwf hs),a3,fun e=>⟨a4 e,fun x hx=>(h4 e).2 x (List.mem_cons_of_mem _ hx)⟩,a5.trans hw.H⟩
 have wrefl:Wk st st:=⟨fun _ _ h _=>h,rfl⟩
 unfold evOps at he
 split at he
 · rename_i hgd
   exact done wrefl he (by simp [GuardIs,hgd]) hc hq
 · rename_i p hgd
   obtain ⟨j,b⟩:=p
   simp only [] at he
   cases hj:(all[j]?).bind (·.dst) with
   | none=>rw [hj] at he;simp at he
   | some g =>
    rw [hj] at he
    simp only [] at he
    replace he:=bsome he;obtain ⟨sv,hsv,he⟩:=he
    unfold guardO at he
    cases hu:isUndef sv with
    | true =>
     rw [hu] at he
     simp only [cond_true] at he
     have:sv = .un:=by unfold isUndef at hu;split at hu <;> first | rfl | simp at hu
     subst this
     refine done wrefl he ?_ hc hq
     simp only [GuardIs,hgd]
     exact ⟨g,hj,.inr ⟨hsv,trivial⟩⟩
    | false =>
     rw [hu] at he
     simp only [cond_false] at he
     replace he:=bsome he;obtain ⟨c,hcv,he⟩:=he
     have:=asB_eq hcv;subst this
     have guard:∀ {s:St} {yes:Bool},s.look g=some (mkB c)→(c == b)=yes→GuardIs all o s yes:=fun h1 h2=>by
      simp only [GuardIs,hgd]
      exact ⟨g,hj,.inl ⟨c,h1,h2⟩⟩
     cases hD:hasN D j with
     | true =>
      rw [hD] at he
      simp only [cond_true] at he
      exact done wrefl he (guard hsv rfl) hc hq
     | false =>
      rw [hD] at he
      simp only [cond_false] at he
      have putg:∀ (K0:List (Nat×SV)),(∀ (d:Nat) (s:SV),(St.mk K0 st.Tm st.H).look d=some s→s≠.bad→st.look d=some s)→Wk st ((St.mk K0 st.Tm st.H).put E.keep g (mkB c))∧((St.mk K0 st.Tm st.H).put E.keep g (mkB c)).look g=some (mkB c):=by
       intro K0 h0
       refine ⟨⟨fun d s hd hb=>?_,by rw [put_H]⟩,by rw [look_put,Nat.beq_refl];rfl⟩
       rw [look_put] at hd
       cases hb2:Nat.beq g d with
       | true=>have:=Nat.eq_of_beq_eq_true hb2;subst this;rw [hb2] at hd;simp at hd;subst hd;exact hsv
       | false=>rw [hb2] at hd;exact h0 d s hd hb
      have hc1:=cont_put (E:=E) hsv hc
      obtain ⟨w1,w2⟩:=putg st.K fun d s h _=>h
      cases c with
      | true=>rw [cond_true] at he;exact done w1 he (guard w2 rfl) hc1 fun e=>hq e
      | false=>rw [cond_false] at he;exact done w1 he (guard w2 rfl) hc1 fun e=>hq e
theorem pre_run:∀ (mm:Nat) (ops:List Oper) {O:Type} (r:O) (k:St→Option O) (q:Bool) (nw:List NE) (D:List Nat) (st:St),
 evOps E all ops q (mm+1) nw D st k=some r→mm+1≤ops.length→Cont P n X K E.T r k q (dstsT ops) V I st G→(q=true→nw=[]∧∀ x∈ops,quietO E.T x.op=true) →
 ∃ (tr:List TR) (stf:St) (nwf:List NE) (O':Type) (r':O') (k':St→Option O') (q':Bool) (D':List Nat),
  tr.length=mm+1∧Steps E all (ops.take (mm+1)) st nw tr stf nwf∧evOps E all (ops.drop (mm+1)) q' 0 [] D' (addNews E stf nwf) k'=some r'∧Cont P n X K E.T r' k' q' (dstsT (ops.drop (mm+1))) V I stf G∧(q'=true→nwf=[])∧stf.H=st.H:=by
 intro mm
 induction mm with
 | zero =>
  intro ops O r k q nw D st he hle hc hq
  cases ops with
  | nil=>simp at hle
  | cons o ops =>
   obtain ⟨t,st1,nw1,O',r',k',q',D',a1,a2,a3,a4,a5⟩:=pre_step he hc hq
   exact ⟨[t],st1,nw1,O',r',k',q',D',rfl,a2 [] st1 nw1 .nil,a1,a3,fun e=>(a4 e).1,a5⟩
 | succ mm ih =>
  intro ops O r k q nw D st he hle hc hq
  cases ops with
  | nil=>simp at hle
  | cons o ops =>
   obtain ⟨t,st1,nw1,O',r',k',q',D',a1,a2,a3,a4,a5⟩:=pre_step he hc hq
   obtain ⟨tr,stf,nwf,O2,r2,k2,q2,D2,b1,b2,b3,b4,b5,b6⟩:=ih ops r' k' q' nw1 D' st1 a1 (by simpa using hle) a3 a4
   exact ⟨t::tr,stf,nwf,O2,r2,k2,q2,D2,by simp [b1],a2 _ _ _ b2,b3,b4,b5,b6.trans a5⟩
end
end Su
end
section
namespace Su
open Go Fly
def newsL:List Oper→List TR→List NE
 | o::os,.new c::ts=>.new o.dst c::newsL os ts
 | _::os,.str d c none::ts=>.new (some d) c::newsL os ts
 | _::os,.str _ c (some n)::ts=>.old n c::newsL os ts
 | _::os,_::ts=>newsL os ts
 | _,_=>[]
def StepInfo (E:Env) (all:Array Oper) (rest:List Oper) (o:Oper) (st:St):TR→Prop
 | .val sv=>GuardIs all o st true∧isNew o.op=false∧∀ (O:Type) (k:SV→St→Option O),evOp E false st o k=k sv st
 | .skip=>GuardIs all o st false
 | .new c=>GuardIs all o st true∧isNew o.op=true∧newCells E st o.op=some c∧lateT o.dst rest=none
 | .newL k=>GuardIs all o st true∧isNew o.op=true∧∃ c t p,newCells E st o.op=some c∧lateT o.dst rest=some t∧E.T.ty t=some p∧c.length=k∧p.2=k
 | .str d c on=>GuardIs all o st true∧∃ t x sv p c2,storeT o.op=some (d,t,x)∧opd E st x=some sv∧E.T.ty t=some p∧cellsOf false st p.1 p.2 sv=some c2∧c2.1=c∧match on with
  | none=>hasDst d all.toList=true
  | some n=>hasDst d all.toList=false∧st.look d=some (.ref n 0)
def Kn (l:List Oper) (TRs:List TR) (st0:St) (i:Nat) (t:Nat) (sv:SV):Prop :=
 (∃ j o r,j<i∧l[j]?=some o∧o.dst=some t∧TRs[j]?=some r∧r.sv=sv)∨((∀ j o,j<i→l[j]?=some o→o.dst≠some t)∧st0.look t=some sv)
def KnAll (l:List Oper) (TRs:List TR) (st0:St) (i:Nat) (st:St):Prop:=∀ (t:Nat) (sv:SV),st.look t=some sv→sv≠.bad→Kn l TRs st0 i t sv
theorem steps_info {E:Env} {all:Array Oper} {l:List Oper} {m:Nat} {TRs:List TR} {st0:St} (hm:m≤l.length) (hsd:∀ i o,i<m→l[i]?=some o→(storeT o.op).isSome=true→o.dst=none) {ops:List Oper} {st stf:St} {nw nwf:List NE} {tr:List TR} (h:Steps E all ops st nw tr stf nwf) :
 ∀ i,ops=(l.take m).drop i→tr=TRs.drop i→i≤m→st.H=st0.H→KnAll l TRs st0 i st →
  (∀ i' o r,i≤i'→i'<m→l[i']?=some o→TRs[i']?=some r→∃ sti:St,sti.H=st0.H∧KnAll l TRs st0 i' sti∧StepInfo E all ((l.take m).drop (i'+1)) o sti r)∧KnAll l TRs st0 m stf∧nwf=nw++newsL ops tr:=by
 have key:∀ {i:Nat} {o:Oper} {ops:List Oper} {r:TR} {tr:List TR},o::ops=(l.take m).drop i→r::tr=TRs.drop i→l[i]?=some o∧i<m∧ops=(l.take m).drop (i+1)∧TRs[i]?=some r∧tr=TRs.drop (i+1):=by
  intro i o ops r tr h1 h2
  have hlt:i<(l.take m).length:=by
   rcases Nat.lt_or_ge i (l.take m).length with h | h
   · exact h
   · rw [List.drop_of_length_le h] at h1;cases h1
  have h3:=List.drop_eq_getElem_cons hlt
  rw [h3] at h1
  simp only [List.cons.injEq] at h1
  have hlt2:i<TRs.length:=by
   rcases Nat.lt_or_ge i TRs.length with h | h
   · exact h
   · rw [List.drop_of_length_le h] at h2;cases h2
  have h4:=List.drop_eq_getElem_cons hlt2
  rw [h4] at h2
  simp only [List.cons.injEq] at h2
  have him:i<m:=by rw [List.length_take] at hlt;omega
  refine ⟨?_,him,h1.2,by rw [List.getElem?_eq_getElem hlt2,h2.1],h2.2⟩
  have:(l.take m)[i]?=some o:=by rw [List.getElem?_eq_getElem hlt,h1.1]
  rwa [List.getElem?_take,if_pos him] at this
 have next:∀ {i:Nat} {o:Oper} {r:TR} {st:St},l[i]?=some o→TRs[i]?=some r→KnAll l TRs st0 i st→KnAll l TRs st0 (i+1) (putD E st o.dst r.sv):=by
  intro i o r st h1 h2 h3 t sv ht hb
  by_cases hd:o.dst=some t
  · rw [hd] at ht
    simp only [putD,look_put,Nat.beq_refl,cond_true,Option.some.injEq] at ht
    exact .inl ⟨i,o,r,by omega,h1,hd,h2,ht⟩
  · rw [putD_look E st o.dst r.sv t hd] at ht
    rcases h3 t sv ht hb with ⟨j,o',r',hj,h⟩ | ⟨h,h'⟩
    · exact .inl ⟨j,o',r',by omega,h⟩
    · refine .inr ⟨fun j oj hj hoj=>?_,h'⟩
      by_cases hji:j=i
      · subst hji;rw [h1] at hoj;simp only [Option.some.injEq] at hoj;subst hoj;exact hd
      · exact h j oj (by omega) hoj
 have same:∀ {i:Nat} {o:Oper} {st:St},l[i]?=some o→o.dst=none→KnAll l TRs st0 i st→KnAll l TRs st0 (i+1) st:=by
  intro i o st h1 h2 h3 t sv ht hb
  rcases h3 t sv ht hb with ⟨j,o',r',hj,h⟩ | ⟨h,h'⟩
  · exact .inl ⟨j,o',r',by omega,h⟩
  · refine .inr ⟨fun j oj hj hoj=>?_,h'⟩
    by_cases hji:j=i
    · subst hji;rw [h1] at hoj;simp only [Option.some.injEq] at hoj;subst hoj;rw [h2];simp
    · exact h j oj (by omega) hoj
 -- one step
 have one:∀ {stf:St} {nwf:List NE} {i:Nat} {o:Oper} {ops:List Oper} {r:TR} {tr:List TR} {st st1:St} {nw nw1:List NE},o::ops=(l.take m).drop i→r::tr=TRs.drop i→st.H=st0.H→KnAll l TRs st0 i st→StepInfo E all ops o st r→st1.H=st.H→(l[i]?=some o→i<m→KnAll l TRs st0 (i+1) st1) →
  (∀ i,ops=(l.take m).drop i→tr=TRs.drop i→i≤m→st1.H=st0.H→KnAll l TRs st0 i st1 →
    (∀ i' o r,i≤i'→i'<m→l[i']?=some o→TRs[i']?=some r→∃ sti:St,sti.H=st0.H∧KnAll l TRs st0 i' sti∧StepInfo E all ((l.take m).drop (i'+1)) o sti r)∧KnAll l TRs st0 m stf∧nwf=nw1++newsL ops tr) →
  (∀ i' o r,i≤i'→i'<m→l[i']?=some o→TRs[i']?=some r→∃ sti:St,sti.H=st0.H∧KnAll l TRs st0 i' sti∧StepInfo E all ((l.take m).drop (i'+1)) o sti r)∧KnAll l TRs st0 m stf∧nwf=nw1++newsL ops tr:=by
  intro stf nwf i o ops r tr st st1 nw nw1 h1 h2 h4 h5 hinfo hH hkn ih
  obtain ⟨k1,k2,k3,k4,k5⟩:=key h1 h2
  obtain ⟨a1,a2,a3⟩:=ih (i+1) k3 k5 k2 (hH.trans h4) (hkn k1 k2)
  refine ⟨fun i' o' r' h6 h7 h8 h9=>?_,a2,a3⟩
  by_cases hii:i=i'
  · subst hii
    rw [k1] at h8;rw [k4] at h9
    simp only [Option.some.injEq] at h8 h9
    subst h8 h9
    exact ⟨st,h4,h5,by rw [← k3];exact hinfo⟩
  · exact a1 i' o' r' (by omega) h7 h8 h9
 induction h with
 | @nil st nw =>
  intro i h1 h2 h3 h4 h5
  have him:i=m:=by
   have:(l.take m).length≤i:=by
    rcases Nat.lt_or_ge i (l.take m).length with h | h
    · rw [List.drop_eq_getElem_cons h] at h1;cases h1
    · exact h
   rw [List.length_take] at this;omega
  subst him
  exact ⟨fun i' o r h6 h7=>by omega,h5,by simp [newsL]⟩
 | @val o ops st nw tr stf nwf sv hg hn hev hs ih =>
  intro i h1 h2 h3 h4 h5
  have:=one (nw:=nw) h1 h2 h4 h5 ⟨hg,hn,hev⟩ (putD_H ..) (fun a b=>next (r:=.val sv) a (key h1 h2).2.2.2.1 h5) ih
  simpa [newsL] using this
 | @skip o ops st nw tr stf nwf hg hs ih =>
  intro i h1 h2 h3 h4 h5
  have:=one (nw:=nw) h1 h2 h4 h5 hg (putD_H ..) (fun a b=>next (r:=.skip) a (key h1 h2).2.2.2.1 h5) ih
  simpa [newsL] using this
 | @new o ops st nw tr stf nwf c hg hn hev hl hs ih =>
  intro i h1 h2 h3 h4 h5
  have:=one (nw:=nw) h1 h2 h4 h5 ⟨hg,hn,hev,hl⟩ (putD_H ..) (fun a b=>next (r:=.new c) a (key h1 h2).2.2.2.1 h5) ih
  simpa [newsL] using this
 | @newL o ops st nw tr stf nwf c t p hg hn hev hl ht hk hs ih =>
  intro i h1 h2 h3 h4 h5
  have:=one (nw:=nw) h1 h2 h4 h5 ⟨hg,hn,c,t,p,hev,hl,ht,hk,rfl⟩ (putD_H ..) (fun a b=>next (r:=.newL p.2) a (key h1 h2).2.2.2.1 h5) ih
  simpa [newsL] using this
 | @strN o ops st nw tr stf nwf d t x sv p c hg hst hx ht hc hd hs ih =>
  intro i h1 h2 h3 h4 h5
  have:=one (nw:=nw) h1 h2 h4 h5 ⟨hg,t,x,sv,p,c,hst,hx,ht,hc,rfl,hd⟩ rfl (fun a b=>same a (hsd _ _ b a (by rw [hst];rfl)) h5) ih
  simpa [newsL] using this
 | @strO o ops st nw tr stf nwf d t n x sv p c hg hst hx ht hc hd hl hs ih =>
  intro i h1 h2 h3 h4 h5
  have:=one (nw:=nw) h1 h2 h4 h5 ⟨hg,t,x,sv,p,c,hst,hx,ht,hc,rfl,hd,hl⟩ rfl (fun a b=>same a (hsd _ _ b a (by rw [hst];rfl)) h5) ih
  simpa [newsL] using this
 | @wk ops st st' nw tr stf nwf hw hs ih =>
  intro i h1 h2 h3 h4 h5
  exact ih i h1 h2 h3 (hw.H.trans h4) fun t sv ht hb=>h5 t sv (hw.look t sv ht hb) hb
end Su
end
