/-
  An evaluator, proved sound. No condition.
-/
import Derived.Test.YtldhknmacepeiaaGreatDoorSuQ
set_option linter.unusedVariables false
set_option linter.unusedSimpArgs false
section
namespace Su
open Go Fly
theorem qpO:∀ {K:List (Nat×SV)} {d d':Nat} {v:SV},lkG (qko K d v) d'=bif Nat.beq d d' then some v else lkG K d'
 | [],d,d',v=>by simp[setK_nil,yM]
 | (k,u)::K,d,d',v=>by
  rw[qfR];cases hb:Nat.beq k d with
  | true=>
   have:=zd hb;subst this
   simp only[zg,yM];cases Nat.beq k d' <;> rfl
  | false=>
   simp only[zo,yM,qpO];cases hc:Nat.beq k d' with
   | false=>rfl
   | true=>
    have:=zd hc;subst this
    have:Nat.beq d k=false:=by
     cases hd:Nat.beq d k with
     | false=>rfl
     | true=>have:=zd hd;subst this;simp at hb
    rw[this];rfl
theorem qeM:∀ {K:List (Nat×SV)} {d:Nat},JZ K d=false→lkG K d=none
 | [],d,_=>rfl
 | (k,u)::K,d,h=>by
  have h':(bif Nat.beq k d then true else JZ K d)=false:=by
   have:JZ ((k,u)::K) d=bif Nat.beq k d then true else JZ K d:=by cases hb:Nat.beq k d <;> simp[JZ,hb]
   rw[← this];exact h
  rw[yM];cases hb:Nat.beq k d with
  | true=>rw[hb]at h';simp at h'
  | false=>rw[hb]at h';exact qeM h'
theorem Ju(st:St)(keep:List Nat)(d d':Nat)(v:SV):(st.put keep d v).look d'=bif Nat.beq d d' then some v else st.look d':=by
 unfold St.put;cases hk:JZ st.K d||Yo keep d with
 | true=>
  simp only[zg,St.look,qpO];cases Nat.beq d d' <;> rfl
 | false=>
  simp only[Bool.or_eq_false_iff]at hk;simp only[zo,St.look,yM];cases hb:Nat.beq d d' with
  | false=>rfl
  | true=>
   have:=zd hb;subst this
   rw[qeM hk.1]
theorem qgl(st:St)(keep:List Nat)(d:Nat)(v:SV):(st.put keep d v).H=st.H:=by
 unfold St.put;cases JZ st.K d||Yo keep d <;> rfl
theorem SR.put{V:qc}{I:List IE}{st:St}{L:Lo}{G:Own}(h:SR V I st L G)(keep:List Nat)(d:Nat){sv:SV}{v:Value}(hr:sv≠.bad→RepS V I sv v):SR V I (st.put keep d sv) ((d,v)::L) G:=by
 refine⟨by rw[qgl];exact h.mem,fun d' s hd hb=>?_⟩
 rw[Ju]at hd;simp only[lk];cases hq:Nat.beq d d' with
 | true=>rw[hq]at hd;simp at hd;subst hd;exact⟨v,by simp,hr hb⟩
 | false=>rw[hq]at hd;simpa using h.slot d' s hd hb
theorem SR.putD{V:qc}{I:List IE}{st:St}{L:Lo}{G:Own}(h:SR V I st L G)(E:Env)(d:Option Nat){sv:SV}{v:Value}(hr:sv≠.bad→RepS V I sv v):SR V I (putD E st d sv) (qdT d v L) G:=by
 cases d with
 | none=>exact h
 | some d=>exact h.put _ d hr
theorem SR.reput{V:qc}{I:List IE}{st:St}{L:Lo}{G:Own}(h:SR V I st L G)(keep:List Nat)(d:Nat){sv:SV}{v:Value}(hv:lk L d=some v)(hr:RepS V I sv v):SR V I (st.put keep d sv) L G:=by
 refine⟨by rw[qgl];exact h.mem,fun d' s hd hb=>?_⟩
 rw[Ju]at hd;cases hq:Nat.beq d d' with
 | true=>have:=zd hq;subst this;rw[hq]at hd;simp at hd;subst hd;exact⟨v,hv,hr⟩
 | false=>rw[hq]at hd;exact h.slot d' s hd hb
def yP:List Oper→List Nat
 | []=>[]
 | o::l=>match o.dst with
  | some d=>d::yP l
  | none=>yP l
theorem YY(E:Env)(st:St)(d:Option Nat)(v:SV)(d':Nat)(h:d≠some d'):(putD E st d v).look d'=st.look d':=by
 cases d with
 | none=>rfl
 | some d=>
  simp only[putD,Ju];have:Nat.beq d d'=false:=by
   cases hb:Nat.beq d d' with
   | false=>rfl
   | true=>exact absurd (by rw[zd hb]) h
  rw[this];rfl
theorem Qx(E:Env)(st:St)(d:Option Nat)(v:SV):(putD E st d v).H=st.H:=by
 cases d with
 | none=>rfl
 | some d=>exact qgl ..
theorem qcG(k:Nat)(u:SV)(K:List (Nat×SV))(d:Nat):JZ ((k,u)::K) d=bif Nat.beq k d then true else JZ K d:=by
 cases hb:Nat.beq k d <;> simp[JZ,hb]
theorem qi4:∀ {K:List (Nat×SV)} {d d':Nat} {v:SV},JZ K d'=true→JZ (qko K d v) d'=true
 | [],d,d',v,h=>by simp[JZ]at h
 | (k,u)::K,d,d',v,h=>by
  rw[qfR];rw[qcG]at h;cases hb:Nat.beq k d with
  | true=>simp only[zg,qcG];exact h
  | false=>
   simp only[zo,qcG];cases hc:Nat.beq k d' with
   | true=>rfl
   | false=>rw[hc]at h;exact qi4 h
theorem qi5(st:St)(keep:List Nat)(d d':Nat)(v:SV)(h:JZ st.K d'=true):JZ (st.put keep d v).K d'=true:=by
 unfold St.put;cases JZ st.K d||Yo keep d with
 | true=>exact qi4 h
 | false=>exact h
theorem qcH(E:Env)(st:St)(d:Option Nat)(d':Nat)(v:SV)(h:JZ st.K d'=true):JZ (putD E st d v).K d'=true:=by
 cases d with
 | none=>exact h
 | some d=>exact qi5 _ _ _ _ _ h
section
variable {P:Program} {n:Nat} {X:Cx} {L:Lo} {V V':qc} {G G':Own} {K:List KI} {all:Array Oper} {ops:List Oper}
theorem qyn(hg:Gh V G V' G')(h:WR P n X L V' G' all ops K):WR P n X L V G all ops K:=fun a w ha hw=>h a w ha (hg.holds X w hw)
theorem qtu(h:jQ V G→WR P n X L V G all ops K):WR P n X L V G all ops K:=fun a w ha hw=>h (jQ.cons hw) a w ha hw
theorem qyo{o:Oper}{j:Nat}{b:Bool}{d:Nat}(hg:o.guard=some (j,b))(hj:(all[j]?).bind (·.dst)=some d)(hb:lk L d=some undef)(hd:okd n o.dst=true)
 (h:WR P n X (qdT o.dst undef L) V G all ops K):WR P n X L V G all (o::ops) K:=by
 intro a w ha hw;have hw':Region.wanted o (yielded all a.tmps)=false:=by
  simp[Region.wanted,hg,yielded,hj,ha.get d _ hb,undef]
 refine wpList_step fun K' hK'=>?_
 rw[zQ (by simp[hw'])];exact hK' _ _ (h _ _ (ha.put hd undef) hw)
end
def JL(P:Program)(n:Nat)(X:Cx)(K:List KI)(T:Tbl){O:Type}(r:O)(k:St→Option O)(q:Bool)(ds:List Nat)(V0:qc)(I0:List IE)(st0:St)(G0:Own):Prop :=
 ∀st' L' V' G' I',k st'=some r→SR V' I' st' L' G'→GOK T V'→Sub V0 V'→IPf st0.H I0 st'.H I'→(q=true→st'.H=st0.H∧I'=I0∧∀d,d ∉ ds→JZ st0.K d=true→st'.look d=st0.look d)→WE P n X L' V' G' .normal K
def qi6(n:Nat)(ops:List Oper):Prop:=∀o∈ops,okd n o.dst=true
theorem JL.tail{P:Program}{n:Nat}{X:Cx}{K:List KI}{T:Tbl}{O:Type}{r:O}{k:St→Option O}{q:Bool}{o:Oper}{ops:List Oper}{V0 V1:qc}{I0 I1:List IE}{st0 st1:St}{G0 G1:Own}
 (h:JL P n X K T r k q (yP (o::ops)) V0 I0 st0 G0) (hs:Sub V0 V1) (hip:IPf st0.H I0 st1.H I1) (hq:q=true→st1.H=st0.H∧I1=I0∧∀d,o.dst≠some d→JZ st0.K d=true→JZ st1.K d=true∧st1.look d=st0.look d):JL P n X K T r k q (yP ops) V1 I1 st1 G1:=by
 intro st' L' V' G' I' h1 h2 h3 h4 h5 h6;refine h st' L' V' G' I' h1 h2 h3 (hs.trans h4) (hip.trans h5) fun e=>?_
 obtain⟨a1,a2,a3⟩:=hq e;obtain⟨b1,b2,b3⟩:=h6 e;refine⟨b1.trans a1,b2.trans a2,fun d hd hk=>?_⟩
 have hne:o.dst≠some d:=fun e=>hd (by simp[yP,e])
 have hnm:d ∉ yP ops:=fun hm=>hd (by simp only[yP];split <;> simp[hm])
 rw[b3 d hnm (a3 d hne hk).1,(a3 d hne hk).2]
theorem Jd(K:List (Nat×SV))(H:List OB)(d:Nat):(St.mk K [] H).look d=lkG K d:=by
 unfold St.look;simp only[lkG_nil];cases lkG K d <;> rfl
theorem qnQ(k:Nat)(ks:List Nat)(v:SV)(vs:List SV):qcy (k::ks) (v::vs)=(k,v)::qcy ks vs:=rfl
section
variable {P:Program} {E:Env} {n:Nat} {X:Cx} {L:Lo} {V:qc} {I:List IE} {G:Own} {K:List KI} {all:Array Oper}
end
end Su
end
section
namespace Su
open Go Fly
section
variable {P:Program} {E:Env} {n:Nat} {X:Cx} {L:Lo} {V:qc} {I:List IE} {G:Own} {K:List KI} {all:Array Oper}
theorem qwu{o:Oper}{ops:List Oper}(h:qi6 n (o::ops)):okd n o.dst=true:=h o (zM ..)
theorem qhE(S:Sound P E.T)(hC:qbO P E S){O:Type}{r:O}{k:St→Option O}{q:Bool}{nw:List NE}{D:List Nat}{st:St}{o:Oper}{ops:List Oper}{rest:qo6}{al rr:List Oper}
 (hS:SR V I st L G) (hg:GOK E.T V) (hF:jQ V G) (hcont:JL P n X K E.T r k q (yP (o::ops)) V I st G)
 (ih:∀(st':St) (L':Lo) (V':qc) (G':Own) (I':List IE),rest q 0 nw D st' k=some r→SR V' I' st' L' G'→GOK E.T V'→JL P n X K E.T r k q (yP ops) V' I' st' G'→WR P n X L' V' G' all ops K)
 (he:doO E al rr q 0 nw D st o true rest k=some r):Opr P n X L V G o fun v V' G'=>WR P n X (qdT o.dst v L) V' G' all ops K:=by
 simp only[doO,zg,qwh]at he;have hpre:=hS.pre (E:=E) hg hF (!q) o.op.operands.toList
 refine Js (qdE S hC hpre he) fun v V' G' hp=>?_
 cases q with
 | true=>
  obtain⟨h1,rfl,sv,h2,h3⟩:=hp;have hS':=(hS.mono h1).putD E o.dst (sv:=sv) (v:=v) fun _=>h3
  refine ih _ _ _ _ _ h2 hS' (hg.mono h1) (hcont.tail h1 ?_ fun _=>⟨Qx ..,rfl,fun d hd hk=>⟨qcH _ _ _ _ _ hk,YY _ _ _ _ _ hd⟩⟩)
  rw[Qx];exact IPf.refl _ _
 | false=>
  obtain⟨V1,G1,g1,h1,I',sv,st',h2,h3,h4,h5⟩:=hp;refine qyn g1 ?_
  have hS':=h3.putD E o.dst (sv:=sv) (v:=v) fun _=>h4
  refine ih _ _ _ _ _ h2 hS' (hg.mono h1) (hcont.tail h1 ?_ fun e=>by simp at e)
  rw[Qx];exact h5
theorem ql2{O:Type}{r:O}{k:St→Option O}{q:Bool}{nw:List NE}{D:List Nat}{st:St}{o:Oper}{ops:List Oper}{rest:qo6}{al rr:List Oper}
 (hS:SR V I st L G) (hg:GOK E.T V) (hcont:JL P n X K E.T r k q (yP (o::ops)) V I st G)
 (ih:∀(st':St) (L':Lo) (V':qc) (G':Own) (I':List IE),rest q 0 nw D st' k=some r→SR V' I' st' L' G'→GOK E.T V'→JL P n X K E.T r k q (yP ops) V' I' st' G'→WR P n X L' V' G' all ops K)
 (he:doO E al rr q 0 nw D st o false rest k=some r):WR P n X (qdT o.dst undef L) V G all ops K:=by
 simp only[doO,zo,qo5]at he;have hS':=hS.putD E o.dst (sv:=.un) (v:=undef) fun _=>.un
 refine ih _ _ _ _ _ he hS' hg (hcont.tail (Sub.refl _) ?_ fun _=>⟨Qx ..,rfl,fun d hd hk=>⟨qcH _ _ _ _ _ hk,YY _ _ _ _ _ hd⟩⟩)
 rw[Qx];exact IPf.refl _ _
theorem qhF{o:Oper}{ops:List Oper}{c b:Bool}{j g:Nat}(hgd:o.guard=some (j,b))(hj:(all[j]?).bind (·.dst)=some g)(hv:lk L g=some (.bool c))(hd:okd n o.dst=true)
 (hy:(c == b)=true→Opr P n X L V G o fun v V' G'=>WR P n X (qdT o.dst v L) V' G' all ops K) (hn:(c == b)=false→WR P n X (qdT o.dst undef L) V G all ops K):WR P n X L V G all (o::ops) K:=by
 cases hcb:c == b with
 | true=>
  have:c=b:=by simpa using hcb
  subst this;exact qoE hgd hj hv hd (hy hcb)
 | false=>
  have:c = !b:=by cases c <;> cases b <;> simp at hcb <;> rfl
  subst this;exact qu9 hgd hj hv hd (hn hcb)
theorem qi7{O:Type}{r:O}{k:St→Option O}{q:Bool}{st:St}{g:Nat}{c:Bool}{l:List Nat}(hsv:st.look g=some (mkB c))
 (hc:JL P n X K E.T r k q l V I st G):JL P n X K E.T r k q l V I (st.put E.keep g (mkB c)) G:=by
 have same:∀d,(st.put E.keep g (mkB c)).look d=st.look d:=fun d=>by
  rw[Ju];cases hb:Nat.beq g d with
  | true=>have:=zd hb;subst this;rw[hsv];rfl
  | false=>rfl
 intro st' L' V' G' I' h1 h2 h3 h4 h5 h6;rw[qgl]at h5;refine hc st' L' V' G' I' h1 h2 h3 h4 h5 fun e=>?_
 obtain⟨a1,a2,a3⟩:=h6 e;rw[qgl]at a1;exact⟨a1,a2,fun d hd hk=>(a3 d hd (qi5 _ _ _ _ _ hk)).trans (same d)⟩
theorem qhG(S:Sound P E.T)(hC:qbO P E S):∀(ops:List Oper) {O:Type} (r:O) (k:St→Option O) (q:Bool) (nw:List NE) (D:List Nat) (st:St) (L:Lo) (V:qc) (G:Own) (I:List IE),
 Q7 E all ops q 0 nw D st k=some r→qi6 n ops→SR V I st L G→GOK E.T V→JL P n X K E.T r k q (yP ops) V I st G→WR P n X L V G all ops K:=by
 intro ops;induction ops with
 | nil=>
  intro O r k q nw D st L V G I he _ hS hg hc;exact qo (hc st L V G I he hS hg (Sub.refl _) (IPf.refl _ _) fun _=>⟨rfl,rfl,fun _ _ _=>rfl⟩)
 | cons o ops ih=>
  intro O r k q nw D st L V G I he hok hS hg hc;have hd:=qwu hok;have hok':qi6 n ops:=fun x hx=>hok x (zE _ hx)
  have IH:∀ {O:Type} {r:O} {k:St→Option O} {q:Bool} {D:List Nat} (st':St) (L':Lo) (V':qc) (G':Own) (I':List IE),Q7 E all ops q 0 nw D st' k=some r→SR V' I' st' L' G'→GOK E.T V'→JL P n X K E.T r k q (yP ops) V' I' st' G'→WR P n X L' V' G' all ops K :=
   fun st' L' V' G' I' h1 h2 h3 h4=>ih _ _ _ _ _ _ _ _ _ _ h1 hok' h2 h3 h4
  refine qtu fun hF=>?_
  unfold Q7 at he;split at he
  · rename_i hgd
    exact qg6 hgd hd (qhE S hC hS hg hF hc IH he)
  · rename_i p hgd
    obtain⟨j,b⟩:=p;simp only[]at he;cases hj:(all[j]?).bind (·.dst)with
    | none=>rw[hj]at he;simp at he
    | some g=>
     rw[hj]at he;simp only[]at he;replace he:=qf he;obtain⟨sv,hsv,he⟩:=he
     unfold qkz at he;cases hu:qby sv with
     | true=>
      rw[hu]at he;simp only[zg]at he;have:sv = .un:=by unfold qby at hu;split at hu <;> first|rfl|simp at hu
      subst this;obtain⟨v,hv,hr⟩:=hS.slot g _ hsv (by simp)
      cases hr with|un=>exact qyo hgd hj hv hd (ql2 hS hg hc IH he)
     | false=>
      rw[hu]at he;simp only[zo]at he;replace he:=qf he;obtain⟨c,hcv,he⟩:=he
      have:=qa4 hcv;subst this
      obtain⟨v,hv,hr⟩:=hS.slot g _ hsv (by simp)
      have:=jY hr;subst this
      cases hD:Yo D j with
      | true=>
       rw[hD]at he;simp only[zg]at he;refine qhF hgd hj hv hd (fun e=>?_) (fun e=>?_)
       · rw[e]at he;exact qhE S hC hS hg hF hc IH he
       · rw[e]at he;exact ql2 hS hg hc IH he
      | false=>
       rw[hD]at he;simp only[zo]at he;have hS1:=hS.reput E.keep g (sv:=mkB c) hv (qbH c)
       have hc1:=qi7 (E:=E) hsv hc
       cases c with
       | true=>
        rw[zg]at he;refine qhF hgd hj hv hd (fun e=>?_) (fun e=>?_)
        · rw[e]at he;exact qhE S hC hS1 hg hF hc1 IH he
        · rw[e]at he;exact ql2 hS1 hg hc1 IH he
       | false=>
        rw[zo]at he;refine qhF hgd hj hv hd (fun e=>?_) (fun e=>?_)
        · rw[e]at he;exact qhE S hC hS1 hg hF hc1 IH he
        · rw[e]at he;exact ql2 hS1 hg hc1 IH he
end
end Su
end
section
namespace Su
open Go Fly
inductive Dd:List OB→List OB→Prop
 | nil:Dd [] []
 | same {b:OB} {H H':List OB} (h:Dd H H'):Dd (b::H) (b::H')
 | dead {b:OB} {H H':List OB} (h:Dd H H'):Dd (b::H) (.dead::H')
theorem Dd.len{H H':List OB}(h:Dd H H'):H'.length=H.length:=by
 induction h with
 | nil=>rfl
 | same _ ih=>simp[ih]
 | dead _ ih=>simp[ih]
theorem GRel.dd{V:qc}{I:List IE}:∀ {Is:List IE} {H H':List OB} {G:Own},GRel V I Is H G→Dd H H'→∃G1,GRel V I Is H' G1∧G1.Sublist G
 | _,_,_,_,.nil,.nil=>⟨[],.nil,zJ _⟩
 | _,_,_,_,.cons (g:=g) h h',.same hd=>by
  obtain⟨G1,k1,k2⟩:=h'.dd hd;exact⟨g++G1,.cons h k1,List.Sublist.append (zJ _) k2⟩
 | _,_,_,_,.cons (g:=g) h h',.dead hd=>by
  obtain⟨G1,k1,k2⟩:=h'.dd hd;exact⟨[]++G1,.cons (g:=[]) .dead k1,List.Sublist.append (Vy _) k2⟩
theorem qdF(live:List Nat)(base:Nat):∀(H:List OB) (i:Nat),Dd H (Qz live base i H)
 | [],_=>.nil
 | b::H,i=>by
  simp only[Qz];cases Nat.blt i base||Yo live i with
  | true=>exact .same (qdF live base H (i+1))
  | false=>exact .dead (qdF live base H (i+1))
theorem qi8(live:List Nat)(base:Nat):∀(H:List OB) (i m:Nat),i+m<base→(Qz live base i H)[m]?=H[m]?
 | [],_,_,_=>rfl
 | b::H,i,0,h=>by
  simp only[Qz];rw[show Nat.blt i base=true by rw[VY];omega];rfl
 | b::H,i,m+1,h=>by
  simp only[Qz,K8];exact qi8 live base H (i+1) m (by omega)
theorem qeN:∀(l:List OB),∃k,l=qfY l++List.replicate k .dead
 | []=>⟨0,rfl⟩
 | b::l=>by
  obtain⟨k,hk⟩:=qeN l;simp only[qfY];split
  · rename_i h
    rw[h]at hk;simp only[zy]at hk;exact⟨k+1,by rw[zy,We,← hk]⟩
  · exact⟨k,by rw[zD,← hk]⟩
theorem GRel.cut{V:qc}{I:List IE}:∀ {H2:List OB} {Is:List IE} {k:Nat} {G:Own},GRel V I Is (H2++List.replicate k .dead) G→GRel V I (Is.take H2.length) H2 G
 | [],Is,0,G,h=>by
  have h':GRel V I Is [] G:=by simpa using h
  cases h' with|nil=>exact .nil
 | [],_,k+1,_,h=>by
  rw[zy,We]at h;cases h with|cons h h'=>
  cases h with|dead=>
  have:=GRel.cut (H2:=[]) (k:=k) (by simpa using h')
  simpa using this
 | b::H2,_,k,_,.cons h h'=>by
  simp only[zf,List.take_succ_cons];exact .cons h h'.cut
theorem SR.noTm{V:qc}{I:List IE}{st:St}{L:Lo}{G:Own}(h:SR V I st L G):SR V I ⟨st.K,[],st.H⟩ L G:=by
 refine⟨h.mem,fun d s hd hb=>?_⟩
 rw[Jd]at hd;exact h.slot d s (by unfold St.look;rw[hd]) hb
theorem ZZ{V:qc}{I0 I:List IE}{H0:List OB}{st:St}{L:Lo}{G:Own}{base:Nat}(h:SR V I st L G)(hb:I0.length=base)(hb0:H0.length=base)(hip:IPf H0 I0 st.H I) :
 ∃I' G',SR V I' (Qd base st) L G'∧(∀X w,Holds X V G w→Holds X V G' w)∧IPf H0 I0 (Qd base st).H I':=by
 unfold Qd;split
 · rename_i hH
   refine⟨I,G,?_,fun _ _ h=>h,by rw[← hH];exact hip⟩
   have:=h.noTm
   rw[hH]at this;exact this
 · rename_i b0 Ht hH
   simp only[];generalize hlive:qeh 99 (b0::Ht) (List.range base++qky st.K) []=live
   have hlen:=h.len;have hbl:base≤(b0::Ht).length:=by rw[← hH,← hlen,← hb];exact hip.len
   obtain⟨G0,k1,k2⟩:=h.mem;rw[hH]at k1;obtain⟨G1,j1,j2⟩:=k1.dd (qdF live base (b0::Ht) 0)
   have hml:(Qz live base 0 (b0::Ht)).length=(b0::Ht).length:=(qdF live base (b0::Ht) 0).len
   obtain⟨kk,hk⟩:=qeN ((Qz live base 0 (b0::Ht)).drop base)
   generalize hH1:Qz live base 0 (b0::Ht)=H1 at *
   have hsplit:H1=(H1.take base++qfY (H1.drop base))++List.replicate kk .dead:=by
    rw[zw,← hk,Kw]
   generalize hH2:H1.take base++qfY (H1.drop base)=H2 at *
   have hbase2:base≤H2.length:=by
    rw[← hH2,zb,Ka];omega
   have hle:H2.length≤(b0::Ht).length:=by
    rw[← hml,hsplit,zb];omega
   rw[hsplit]at j1;have j3:=j1.cut;have hholds:∀X w,Holds X V G w→Holds X V G1 w:=fun X w hw=>(hw.perm k2).sublist j2
   have hipn:IPf H0 I0 H2 (I.take H2.length):=by
    refine⟨fun n b hn=>?_,fun m e k l hm=>?_,by rw[Ka,hb];have:=hip.len;omega⟩
    · have hnl:n<base:=by rw[← hb];exact(zu.1 hn).1
      rw[zZ,z6 (by omega)];exact hip.blk n b hn
    · have hml':m<base:=by rw[← hb0];exact(zu.1 hm).1
      obtain⟨a1,l',a2⟩:=hip.fx m e k l hm;refine⟨by rw[zZ,z6 (by omega)];exact a1,l',?_⟩
      rw[← hH2,Ki (by rw[Ka];omega),zZ,z6 hml',← hH1,qi8 live base _ 0 m (by omega),← hH];exact a2
   have hleaf:qV V V I (I.take H2.length) (qs2 H2.length):=qeK (Sub.refl _) fun n m ie hn hi=>by
    cases hb:Nat.blt n H2.length with
    | true=>rw[hb]at hn;simp at hn;subst hn;rw[zZ,z6 (by simpa using hb)];exact hi
    | false=>rw[hb]at hn;simp at hn
   cases hq:Nat.beq H2.length (b0::Ht).length with
   | true=>
    simp only[zg];have he:=zd hq;have htk:I.take H2.length=I:=zP (by rw[hlen,hH];omega)
    rw[htk]at j3 hipn;refine⟨I,G1,⟨⟨G1,j3,zr _⟩,?_⟩,hholds,hipn⟩
    exact h.noTm.slot
   | false=>
    simp only[zo];refine⟨I.take H2.length,G1,⟨⟨G1,j3.map (Sub.refl _) hleaf (qeL _),zr _⟩,?_⟩,hholds,?_⟩
    · have:=J3 (H:=H2.map (OB.mp (qs2 H2.length))) hleaf rfl h.noTm.slot
      exact this
    · refine⟨hipn.blk,fun m e k l hm=>?_,hipn.len⟩
      obtain⟨a1,l',a2⟩:=hipn.fx m e k l hm;exact⟨a1,l',by rw[Ku,a2];rfl⟩
end Su
end
