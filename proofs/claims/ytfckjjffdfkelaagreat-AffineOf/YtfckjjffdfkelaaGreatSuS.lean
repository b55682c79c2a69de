/-
  An evaluator of the program's functions over trees of values, proved sound. No condition.
-/
import Derived.Test.YtfckjjffdfkelaaGreatSuQ
set_option linter.unusedVariables false
set_option linter.unusedSimpArgs false
section
namespace Su
open Go Fly
theorem qtI:∀ {K:List (Nat×SV)} {d d':Nat} {v:SV},lkG (qnu K d v) d'=bif Nat.beq d d' then some v else lkG K d'
 | [],d,d',v=>by simp[setK_nil,yc]
 | (k,u)::K,d,d',v=>by
  rw[qhg];cases hb:Nat.beq k d with
  | true=>
   have:=zj hb;subst this
   simp only[zd,yc];cases Nat.beq k d' <;> rfl
  | false=>
   simp only[zh,yc,qtI];cases hc:Nat.beq k d' with
   | false=>rfl
   | true=>
    have:=zj hc;subst this
    have:Nat.beq d k=false:=by
     cases hd:Nat.beq d k with
     | false=>rfl
     | true=>have:=zj hd;subst this;simp at hb
    rw[this];rfl
theorem qf0:∀ {K:List (Nat×SV)} {d:Nat},Yh K d=false→lkG K d=none
 | [],d,_=>rfl
 | (k,u)::K,d,h=>by
  have h':(bif Nat.beq k d then true else Yh K d)=false:=by
   have:Yh ((k,u)::K) d=bif Nat.beq k d then true else Yh K d:=by cases hb:Nat.beq k d <;> simp[Yh,hb]
   rw[← this];exact h
  rw[yc];cases hb:Nat.beq k d with
  | true=>rw[hb]at h';simp at h'
  | false=>rw[hb]at h';exact qf0 h'
theorem Jr(st:St)(keep:List Nat)(d d':Nat)(v:SV):(st.put keep d v).look d'=bif Nat.beq d d' then some v else st.look d':=by
 unfold St.put;cases hk:Yh st.K d||YE keep d with
 | true=>
  simp only[zd,St.look,qtI];cases Nat.beq d d' <;> rfl
 | false=>
  simp only[VQ]at hk;simp only[zh,St.look,yc];cases hb:Nat.beq d d' with
  | false=>rfl
  | true=>
   have:=zj hb;subst this
   rw[qf0 hk.1]
theorem qhE(st:St)(keep:List Nat)(d:Nat)(v:SV):(st.put keep d v).H=st.H:=by
 unfold St.put;cases Yh st.K d||YE keep d <;> rfl
theorem SR.put{V:qc}{I:List IE}{st:St}{L:Lo}{G:Own}(h:SR V I st L G)(keep:List Nat)(d:Nat){sv:SV}{v:Value}(hr:sv≠.bad→RepS V I sv v):SR V I (st.put keep d sv) ((d,v)::L) G:=by
 refine⟨by rw[qhE];exact h.mem,fun d' s hd hb=>?_⟩
 rw[Jr]at hd;simp only[lk];cases hq:Nat.beq d d' with
 | true=>rw[hq]at hd;simp at hd;subst hd;exact⟨v,by simp,hr hb⟩
 | false=>rw[hq]at hd;simpa using h.slot d' s hd hb
theorem SR.putD{V:qc}{I:List IE}{st:St}{L:Lo}{G:Own}(h:SR V I st L G)(E:Env)(d:Option Nat){sv:SV}{v:Value}(hr:sv≠.bad→RepS V I sv v):SR V I (putD E st d sv) (qfp d v L) G:=by
 cases d with
 | none=>exact h
 | some d=>exact h.put _ d hr
theorem SR.reput{V:qc}{I:List IE}{st:St}{L:Lo}{G:Own}(h:SR V I st L G)(keep:List Nat)(d:Nat){sv:SV}{v:Value}(hv:lk L d=some v)(hr:RepS V I sv v):SR V I (st.put keep d sv) L G:=by
 refine⟨by rw[qhE];exact h.mem,fun d' s hd hb=>?_⟩
 rw[Jr]at hd;cases hq:Nat.beq d d' with
 | true=>have:=zj hq;subst this;rw[hq]at hd;simp at hd;subst hd;exact⟨v,hv,hr⟩
 | false=>rw[hq]at hd;exact h.slot d' s hd hb
def yj:List Oper→List Nat
 | []=>[]
 | o::l=>match o.dst with
  | some d=>d::yj l
  | none=>yj l
theorem Zp(E:Env)(st:St)(d:Option Nat)(v:SV)(d':Nat)(h:d≠some d'):(putD E st d v).look d'=st.look d':=by
 cases d with
 | none=>rfl
 | some d=>
  simp only[putD,Jr];have:Nat.beq d d'=false:=by
   cases hb:Nat.beq d d' with
   | false=>rfl
   | true=>exact absurd (by rw[zj hb]) h
  rw[this];rfl
theorem yU(E:Env)(st:St)(d:Option Nat)(v:SV):(putD E st d v).H=st.H:=by
 cases d with
 | none=>rfl
 | some d=>exact qhE ..
theorem qdp(k:Nat)(u:SV)(K:List (Nat×SV))(d:Nat):Yh ((k,u)::K) d=bif Nat.beq k d then true else Yh K d:=by
 cases hb:Nat.beq k d <;> simp[Yh,hb]
theorem qly:∀ {K:List (Nat×SV)} {d d':Nat} {v:SV},Yh K d'=true→Yh (qnu K d v) d'=true
 | [],d,d',v,h=>by simp[Yh]at h
 | (k,u)::K,d,d',v,h=>by
  rw[qhg];rw[qdp]at h;cases hb:Nat.beq k d with
  | true=>simp only[zd,qdp];exact h
  | false=>
   simp only[zh,qdp];cases hc:Nat.beq k d' with
   | true=>rfl
   | false=>rw[hc]at h;exact qly h
theorem qlz(st:St)(keep:List Nat)(d d':Nat)(v:SV)(h:Yh st.K d'=true):Yh (st.put keep d v).K d'=true:=by
 unfold St.put;cases Yh st.K d||YE keep d with
 | true=>exact qly h
 | false=>exact h
theorem qdq(E:Env)(st:St)(d:Option Nat)(d':Nat)(v:SV)(h:Yh st.K d'=true):Yh (putD E st d v).K d'=true:=by
 cases d with
 | none=>exact h
 | some d=>exact qlz _ _ _ _ _ h
section
variable {P:Program} {n:Nat} {X:Cx} {L:Lo} {V V':qc} {G G':Own} {K:List KI} {all:Array Oper} {ops:List Oper}
theorem qGH(hg:Gh V G V' G')(h:WR P n X L V' G' all ops K):WR P n X L V G all ops K:=fun a w ha hw=>h a w ha (hg.holds X w hw)
theorem qyH(h:qX V G→WR P n X L V G all ops K):WR P n X L V G all ops K:=fun a w ha hw=>h (qX.cons hw) a w ha hw
theorem qGI{o:Oper}{j:Nat}{b:Bool}{d:Nat}(hg:o.guard=some (j,b))(hj:(all[j]?).bind (·.dst)=some d)(hb:lk L d=some undef)(hd:okd n o.dst=true)
 (h:WR P n X (qfp o.dst undef L) V G all ops K):WR P n X L V G all (o::ops) K:=by
 intro a w ha hw;have hw':Region.wanted o (yielded all a.tmps)=false:=by
  simp[Region.wanted,hg,yielded,hj,ha.get d _ hb,undef]
 refine wpList_step fun K' hK'=>?_
 rw[zZ (by simp[hw'])];exact hK' _ _ (h _ _ (ha.put hd undef) hw)
end
def JO(P:Program)(n:Nat)(X:Cx)(K:List KI)(T:Tbl){O:Type}(r:O)(k:St→Option O)(q:Bool)(ds:List Nat)(V0:qc)(I0:List IE)(st0:St)(G0:Own):Prop :=
 ∀st' L' V' G' I',k st'=some r→SR V' I' st' L' G'→GOK T V'→Sub V0 V'→IPf st0.H I0 st'.H I'→(q=true→st'.H=st0.H∧I'=I0∧∀d,d ∉ ds→Yh st0.K d=true→st'.look d=st0.look d)→WE P n X L' V' G' .normal K
def qlA(n:Nat)(ops:List Oper):Prop:=∀o∈ops,okd n o.dst=true
theorem JO.tail{P:Program}{n:Nat}{X:Cx}{K:List KI}{T:Tbl}{O:Type}{r:O}{k:St→Option O}{q:Bool}{o:Oper}{ops:List Oper}{V0 V1:qc}{I0 I1:List IE}{st0 st1:St}{G0 G1:Own}
 (h:JO P n X K T r k q (yj (o::ops)) V0 I0 st0 G0) (hs:Sub V0 V1) (hip:IPf st0.H I0 st1.H I1) (hq:q=true→st1.H=st0.H∧I1=I0∧∀d,o.dst≠some d→Yh st0.K d=true→Yh st1.K d=true∧st1.look d=st0.look d):JO P n X K T r k q (yj ops) V1 I1 st1 G1:=by
 intro st' L' V' G' I' h1 h2 h3 h4 h5 h6;refine h st' L' V' G' I' h1 h2 h3 (hs.trans h4) (hip.trans h5) fun e=>?_
 obtain⟨a1,a2,a3⟩:=hq e;obtain⟨b1,b2,b3⟩:=h6 e;refine⟨b1.trans a1,b2.trans a2,fun d hd hk=>?_⟩
 have hne:o.dst≠some d:=fun e=>hd (by simp[yj,e])
 have hnm:d ∉ yj ops:=fun hm=>hd (by simp only[yj];split <;> simp[hm])
 rw[b3 d hnm (a3 d hne hk).1,(a3 d hne hk).2]
theorem Q5(K:List (Nat×SV))(H:List OB)(d:Nat):(St.mk K [] H).look d=lkG K d:=by
 unfold St.look;simp only[lkG_nil];cases lkG K d <;> rfl
theorem qrA(k:Nat)(ks:List Nat)(v:SV)(vs:List SV):qdm (k::ks) (v::vs)=(k,v)::qdm ks vs:=rfl
section
variable {P:Program} {E:Env} {n:Nat} {X:Cx} {L:Lo} {V:qc} {I:List IE} {G:Own} {K:List KI} {all:Array Oper}
end
end Su
end
section
namespace Su
open Go Fly
section
variable {P:Program} {E:Env} {n:Nat} {X:Cx} {L:Lo} {V:qc} {I:List IE} {G:Own} {K:List KI} {all:Array Oper}
theorem qDt{o:Oper}{ops:List Oper}(h:qlA n (o::ops)):okd n o.dst=true:=h o (zu ..)
theorem qjj(S:Sound P E.T)(hC:qcr P E S){O:Type}{r:O}{k:St→Option O}{q:Bool}{nw:List NE}{D:List Nat}{st:St}{o:Oper}{ops:List Oper}{rest:qs1}{al rr:List Oper}
 (hS:SR V I st L G) (hg:GOK E.T V) (hF:qX V G) (hcont:JO P n X K E.T r k q (yj (o::ops)) V I st G)
 (ih:∀(st':St) (L':Lo) (V':qc) (G':Own) (I':List IE),rest q 0 nw D st' k=some r→SR V' I' st' L' G'→GOK E.T V'→JO P n X K E.T r k q (yj ops) V' I' st' G'→WR P n X L' V' G' all ops K)
 (he:doO E al rr q 0 nw D st o true rest k=some r):Opr P n X L V G o fun v V' G'=>WR P n X (qfp o.dst v L) V' G' all ops K:=by
 simp only[doO,zd,qDj]at he;have hpre:=hS.pre (E:=E) hg hF (!q) o.op.operands.toList
 refine Jq (qeT S hC hpre he) fun v V' G' hp=>?_
 cases q with
 | true=>
  obtain⟨h1,rfl,sv,h2,h3⟩:=hp;have hS':=(hS.mono h1).putD E o.dst (sv:=sv) (v:=v) fun _=>h3
  refine ih _ _ _ _ _ h2 hS' (hg.mono h1) (hcont.tail h1 ?_ fun _=>⟨yU ..,rfl,fun d hd hk=>⟨qdq _ _ _ _ _ hk,Zp _ _ _ _ _ hd⟩⟩)
  rw[yU];exact IPf.refl _ _
 | false=>
  obtain⟨V1,G1,g1,h1,I',sv,st',h2,h3,h4,h5⟩:=hp;refine qGH g1 ?_
  have hS':=h3.putD E o.dst (sv:=sv) (v:=v) fun _=>h4
  refine ih _ _ _ _ _ h2 hS' (hg.mono h1) (hcont.tail h1 ?_ fun e=>by simp at e)
  rw[yU];exact h5
theorem qpq{O:Type}{r:O}{k:St→Option O}{q:Bool}{nw:List NE}{D:List Nat}{st:St}{o:Oper}{ops:List Oper}{rest:qs1}{al rr:List Oper}
 (hS:SR V I st L G) (hg:GOK E.T V) (hcont:JO P n X K E.T r k q (yj (o::ops)) V I st G)
 (ih:∀(st':St) (L':Lo) (V':qc) (G':Own) (I':List IE),rest q 0 nw D st' k=some r→SR V' I' st' L' G'→GOK E.T V'→JO P n X K E.T r k q (yj ops) V' I' st' G'→WR P n X L' V' G' all ops K)
 (he:doO E al rr q 0 nw D st o false rest k=some r):WR P n X (qfp o.dst undef L) V G all ops K:=by
 simp only[doO,zh,qs0]at he;have hS':=hS.putD E o.dst (sv:=.un) (v:=undef) fun _=>.un
 refine ih _ _ _ _ _ he hS' hg (hcont.tail (Sub.refl _) ?_ fun _=>⟨yU ..,rfl,fun d hd hk=>⟨qdq _ _ _ _ _ hk,Zp _ _ _ _ _ hd⟩⟩)
 rw[yU];exact IPf.refl _ _
theorem qjk{o:Oper}{ops:List Oper}{c b:Bool}{j g:Nat}(hgd:o.guard=some (j,b))(hj:(all[j]?).bind (·.dst)=some g)(hv:lk L g=some (.bool c))(hd:okd n o.dst=true)
 (hy:(c == b)=true→Opr P n X L V G o fun v V' G'=>WR P n X (qfp o.dst v L) V' G' all ops K) (hn:(c == b)=false→WR P n X (qfp o.dst undef L) V G all ops K):WR P n X L V G all (o::ops) K:=by
 cases hcb:c == b with
 | true=>
  have:c=b:=by simpa using hcb
  subst this;exact qsC hgd hj hv hd (hy hcb)
 | false=>
  have:c = !b:=by cases c <;> cases b <;> simp at hcb <;> rfl
  subst this;exact qCc hgd hj hv hd (hn hcb)
theorem qlB{O:Type}{r:O}{k:St→Option O}{q:Bool}{st:St}{g:Nat}{c:Bool}{l:List Nat}(hsv:st.look g=some (mkB c))
 (hc:JO P n X K E.T r k q l V I st G):JO P n X K E.T r k q l V I (st.put E.keep g (mkB c)) G:=by
 have same:∀d,(st.put E.keep g (mkB c)).look d=st.look d:=fun d=>by
  rw[Jr];cases hb:Nat.beq g d with
  | true=>have:=zj hb;subst this;rw[hsv];rfl
  | false=>rfl
 intro st' L' V' G' I' h1 h2 h3 h4 h5 h6;rw[qhE]at h5;refine hc st' L' V' G' I' h1 h2 h3 h4 h5 fun e=>?_
 obtain⟨a1,a2,a3⟩:=h6 e;rw[qhE]at a1;exact⟨a1,a2,fun d hd hk=>(a3 d hd (qlz _ _ _ _ _ hk)).trans (same d)⟩
theorem qjl(S:Sound P E.T)(hC:qcr P E S):∀(ops:List Oper) {O:Type} (r:O) (k:St→Option O) (q:Bool) (nw:List NE) (D:List Nat) (st:St) (L:Lo) (V:qc) (G:Own) (I:List IE),
 QW E all ops q 0 nw D st k=some r→qlA n ops→SR V I st L G→GOK E.T V→JO P n X K E.T r k q (yj ops) V I st G→WR P n X L V G all ops K:=by
 intro ops;induction ops with
 | nil=>
  intro O r k q nw D st L V G I he _ hS hg hc;exact J4 (hc st L V G I he hS hg (Sub.refl _) (IPf.refl _ _) fun _=>⟨rfl,rfl,fun _ _ _=>rfl⟩)
 | cons o ops ih=>
  intro O r k q nw D st L V G I he hok hS hg hc;have hd:=qDt hok;have hok':qlA n ops:=fun x hx=>hok x (zp _ hx)
  have IH:∀ {O:Type} {r:O} {k:St→Option O} {q:Bool} {D:List Nat} (st':St) (L':Lo) (V':qc) (G':Own) (I':List IE),QW E all ops q 0 nw D st' k=some r→SR V' I' st' L' G'→GOK E.T V'→JO P n X K E.T r k q (yj ops) V' I' st' G'→WR P n X L' V' G' all ops K :=
   fun st' L' V' G' I' h1 h2 h3 h4=>ih _ _ _ _ _ _ _ _ _ _ h1 hok' h2 h3 h4
  refine qyH fun hF=>?_
  unfold QW at he;split at he
  · rename_i hgd
    exact qiT hgd hd (qjj S hC hS hg hF hc IH he)
  · rename_i p hgd
    obtain⟨j,b⟩:=p;simp only[]at he;cases hj:(all[j]?).bind (·.dst)with
    | none=>rw[hj]at he;simp at he
    | some g=>
     rw[hj]at he;simp only[]at he;replace he:=qb he;obtain⟨sv,hsv,he⟩:=he
     unfold qnF at he;cases hu:qcf sv with
     | true=>
      rw[hu]at he;simp only[zd]at he;have:sv = .un:=by unfold qcf at hu;split at hu <;> first | rfl | simp at hu
      subst this;obtain⟨v,hv,hr⟩:=hS.slot g _ hsv (by simp)
      cases hr with | un=>exact qGI hgd hj hv hd (qpq hS hg hc IH he)
     | false=>
      rw[hu]at he;simp only[zh]at he;replace he:=qb he;obtain⟨c,hcv,he⟩:=he
      have:=qbP hcv;subst this
      obtain⟨v,hv,hr⟩:=hS.slot g _ hsv (by simp)
      have:=jz hr;subst this
      cases hD:YE D j with
      | true=>
       rw[hD]at he;simp only[zd]at he;refine qjk hgd hj hv hd (fun e=>?_) (fun e=>?_)
       · rw[e]at he;exact qjj S hC hS hg hF hc IH he
       · rw[e]at he;exact qpq hS hg hc IH he
      | false=>
       rw[hD]at he;simp only[zh]at he;have hS1:=hS.reput E.keep g (sv:=mkB c) hv (qcj c)
       have hc1:=qlB (E:=E) hsv hc
       cases c with
       | true=>
        rw[zd]at he;refine qjk hgd hj hv hd (fun e=>?_) (fun e=>?_)
        · rw[e]at he;exact qjj S hC hS1 hg hF hc1 IH he
        · rw[e]at he;exact qpq hS1 hg hc1 IH he
       | false=>
        rw[zh]at he;refine qjk hgd hj hv hd (fun e=>?_) (fun e=>?_)
        · rw[e]at he;exact qjj S hC hS1 hg hF hc1 IH he
        · rw[e]at he;exact qpq hS1 hg hc1 IH he
end
end Su
end
section
namespace Su
open Go Fly
inductive Dd:List OB→List OB→Prop
 | nil:Dd [] []
 | same {b:OB} {H H':List OB} (h:Dd H H'):Dd (b::H) (b::H')
 | dead {b:OB} {H H':List OB} (h:Dd H H'):Dd (b::H) (.dead::H')
theorem Dd.len{H H':List OB}(h:Dd H H'):H'.length=H.length:=by
 induction h with
 | nil=>rfl
 | same _ ih=>simp[ih]
 | dead _ ih=>simp[ih]
theorem GRel.dd{V:qc}{I:List IE}:∀ {Is:List IE} {H H':List OB} {G:Own},GRel V I Is H G→Dd H H'→∃G1,GRel V I Is H' G1∧G1.Sublist G
 | _,_,_,_,.nil,.nil=>⟨[],.nil,VX _⟩
 | _,_,_,_,.cons (g:=g) h h',.same hd=>by
  obtain⟨G1,k1,k2⟩:=h'.dd hd;exact⟨g++G1,.cons h k1,List.Sublist.append (VX _) k2⟩
 | _,_,_,_,.cons (g:=g) h h',.dead hd=>by
  obtain⟨G1,k1,k2⟩:=h'.dd hd;exact⟨[]++G1,.cons (g:=[]) .dead k1,List.Sublist.append (List.nil_sublist _) k2⟩
theorem qeU(live:List Nat)(base:Nat):∀(H:List OB) (i:Nat),Dd H (y5 live base i H)
 | [],_=>.nil
 | b::H,i=>by
  simp only[y5];cases Nat.blt i base||YE live i with
  | true=>exact .same (qeU live base H (i+1))
  | false=>exact .dead (qeU live base H (i+1))
theorem qlC(live:List Nat)(base:Nat):∀(H:List OB) (i m:Nat),i+m<base→(y5 live base i H)[m]?=H[m]?
 | [],_,_,_=>rfl
 | b::H,i,0,h=>by
  simp only[y5];rw[show Nat.blt i base=true by rw[Wf];omega];rfl
 | b::H,i,m+1,h=>by
  simp only[y5,VD];exact qlC live base H (i+1) m (by omega)
theorem qf1:∀(l:List OB),∃k,l=qhn l++List.replicate k .dead
 | []=>⟨0,rfl⟩
 | b::l=>by
  obtain⟨k,hk⟩:=qf1 l;simp only[qhn];split
  · rename_i h
    rw[h]at hk;simp only[zX]at hk;exact⟨k+1,by rw[zX,Wj,← hk]⟩
  · exact⟨k,by rw[Vv,← hk]⟩
theorem GRel.cut{V:qc}{I:List IE}:∀ {H2:List OB} {Is:List IE} {k:Nat} {G:Own},GRel V I Is (H2++List.replicate k .dead) G→GRel V I (Is.take H2.length) H2 G
 | [],Is,0,G,h=>by
  have h':GRel V I Is [] G:=by simpa using h
  cases h' with | nil=>exact .nil
 | [],_,k+1,_,h=>by
  rw[zX,Wj]at h;cases h with | cons h h'=>
  cases h with | dead=>
  have:=GRel.cut (H2:=[]) (k:=k) (by simpa using h')
  simpa using this
 | b::H2,_,k,_,.cons h h'=>by
  simp only[zq,List.take_succ_cons];exact .cons h h'.cut
theorem SR.noTm{V:qc}{I:List IE}{st:St}{L:Lo}{G:Own}(h:SR V I st L G):SR V I ⟨st.K,[],st.H⟩ L G:=by
 refine⟨h.mem,fun d s hd hb=>?_⟩
 rw[Q5]at hd;exact h.slot d s (by unfold St.look;rw[hd]) hb
theorem qaD{V:qc}{I0 I:List IE}{H0:List OB}{st:St}{L:Lo}{G:Own}{base:Nat}(h:SR V I st L G)(hb:I0.length=base)(hb0:H0.length=base)(hip:IPf H0 I0 st.H I) :
 ∃I' G',SR V I' (yB base st) L G'∧(∀X w,Holds X V G w→Holds X V G' w)∧IPf H0 I0 (yB base st).H I':=by
 unfold yB;split
 · rename_i hH
   refine⟨I,G,?_,fun _ _ h=>h,by rw[← hH];exact hip⟩
   have:=h.noTm
   rw[hH]at this;exact this
 · rename_i b0 Ht hH
   simp only[];generalize hlive:qfD 99 (b0::Ht) (List.range base++qnE st.K) []=live
   have hlen:=h.len;have hbl:base≤(b0::Ht).length:=by rw[← hH,← hlen,← hb];exact hip.len
   obtain⟨G0,k1,k2⟩:=h.mem;rw[hH]at k1;obtain⟨G1,j1,j2⟩:=k1.dd (qeU live base (b0::Ht) 0)
   have hml:(y5 live base 0 (b0::Ht)).length=(b0::Ht).length:=(qeU live base (b0::Ht) 0).len
   obtain⟨kk,hk⟩:=qf1 ((y5 live base 0 (b0::Ht)).drop base)
   generalize hH1:y5 live base 0 (b0::Ht)=H1 at *
   have hsplit:H1=(H1.take base++qhn (H1.drop base))++List.replicate kk .dead:=by
    rw[Ke,← hk,Ky]
   generalize hH2:H1.take base++qhn (H1.drop base)=H2 at *
   have hbase2:base≤H2.length:=by
    rw[← hH2,zw,Kj];omega
   have hle:H2.length≤(b0::Ht).length:=by
    rw[← hml,hsplit,zw];omega
   rw[hsplit]at j1;have j3:=j1.cut;have hholds:∀X w,Holds X V G w→Holds X V G1 w:=fun X w hw=>(hw.perm k2).sublist j2
   have hipn:IPf H0 I0 H2 (I.take H2.length):=by
    refine⟨fun n b hn=>?_,fun m e k l hm=>?_,by rw[Kj,hb];have:=hip.len;omega⟩
    · have hnl:n<base:=by rw[← hb];exact(zA.1 hn).1
      rw[Ko,Kp (by omega)];exact hip.blk n b hn
    · have hml':m<base:=by rw[← hb0];exact(zA.1 hm).1
      obtain⟨a1,l',a2⟩:=hip.fx m e k l hm;refine⟨by rw[Ko,Kp (by omega)];exact a1,l',?_⟩
      rw[← hH2,Ks (by rw[Kj];omega),Ko,Kp hml',← hH1,qlC live base _ 0 m (by omega),← hH];exact a2
   have hleaf:qal V V I (I.take H2.length) (qyi H2.length):=qfY (Sub.refl _) fun n m ie hn hi=>by
    cases hb:Nat.blt n H2.length with
    | true=>rw[hb]at hn;simp at hn;subst hn;rw[Ko,Kp (by simpa using hb)];exact hi
    | false=>rw[hb]at hn;simp at hn
   cases hq:Nat.beq H2.length (b0::Ht).length with
   | true=>
    simp only[zd];have he:=zj hq;have htk:I.take H2.length=I:=zS (by rw[hlen,hH];omega)
    rw[htk]at j3 hipn;refine⟨I,G1,⟨⟨G1,j3,Kz _⟩,?_⟩,hholds,hipn⟩
    exact h.noTm.slot
   | false=>
    simp only[zh];refine⟨I.take H2.length,G1,⟨⟨G1,j3.map (Sub.refl _) hleaf (qfZ _),Kz _⟩,?_⟩,hholds,?_⟩
    · have:=Ym (H:=H2.map (OB.mp (qyi H2.length))) hleaf rfl h.noTm.slot
      exact this
    · refine⟨hipn.blk,fun m e k l hm=>?_,hipn.len⟩
      obtain⟨a1,l',a2⟩:=hipn.fx m e k l hm;exact⟨a1,l',by rw[KQ,a2];rfl⟩
end Su
end
