/-
  An evaluator of the program's functions over trees of values, proved sound. No condition.
-/
import Derived.Test.YtldhknmacepeiaaGreatDoorSuQ
set_option linter.unusedVariables false
set_option linter.unusedSimpArgs false
section
namespace Su
open Go Fly
theorem lk_set:∀ {K:List (Nat×SV)} {d d':Nat} {v:SV},lkG (setK K d v) d'=bif Nat.beq d d' then some v else lkG K d'
 | [],d,d',v=>by simp[setK_nil,lkG_cons]
 | (k,u)::K,d,d',v=>by
  rw[setK_cons];cases hb:Nat.beq k d with
  | true=>
   have:=qd hb;subst this
   simp only[qe,lkG_cons];cases Nat.beq k d' <;> rfl
  | false=>
   simp only[qh,lkG_cons,lk_set];cases hc:Nat.beq k d' with
   | false=>rfl
   | true=>
    have:=qd hc;subst this
    have:Nat.beq d k=false:=by
     cases hd:Nat.beq d k with
     | false=>rfl
     | true=>have:=qd hd;subst this;simp at hb
    rw[this];rfl
theorem hasK_false:∀ {K:List (Nat×SV)} {d:Nat},hasK K d=false→lkG K d=none
 | [],d,_=>rfl
 | (k,u)::K,d,h=>by
  have h':(bif Nat.beq k d then true else hasK K d)=false:=by
   have:hasK ((k,u)::K) d=bif Nat.beq k d then true else hasK K d:=by cases hb:Nat.beq k d <;> simp[hasK,hb]
   rw[← this];exact h
  rw[lkG_cons];cases hb:Nat.beq k d with
  | true=>rw[hb]at h';simp at h'
  | false=>rw[hb]at h';exact hasK_false h'
theorem look_put(st:St)(keep:List Nat)(d d':Nat)(v:SV):(st.put keep d v).look d'=bif Nat.beq d d' then some v else st.look d':=by
 unfold St.put;cases hk:hasK st.K d||hasN keep d with
 | true=>
  simp only[qe,St.look,lk_set];cases Nat.beq d d' <;> rfl
 | false=>
  simp only[Bool.or_eq_false_iff]at hk;simp only[qh,St.look,lkG_cons];cases hb:Nat.beq d d' with
  | false=>rfl
  | true=>
   have:=qd hb;subst this
   rw[hasK_false hk.1]
theorem put_H(st:St)(keep:List Nat)(d:Nat)(v:SV):(st.put keep d v).H=st.H:=by
 unfold St.put;cases hasK st.K d||hasN keep d <;> rfl
theorem SR.put{V:View}{I:List IE}{st:St}{L:Lo}{G:Own}(h:SR V I st L G)(keep:List Nat)(d:Nat){sv:SV}{v:Value}(hr:sv≠.bad→RepS V I sv v):SR V I (st.put keep d sv) ((d,v)::L) G:=by
 refine⟨by rw[put_H];exact h.mem,fun d' s hd hb=>?_⟩
 rw[look_put]at hd;simp only[lk];cases hq:Nat.beq d d' with
 | true=>rw[hq]at hd;simp at hd;subst hd;exact⟨v,by simp,hr hb⟩
 | false=>rw[hq]at hd;simpa using h.slot d' s hd hb
theorem SR.putD{V:View}{I:List IE}{st:St}{L:Lo}{G:Own}(h:SR V I st L G)(E:Env)(d:Option Nat){sv:SV}{v:Value}(hr:sv≠.bad→RepS V I sv v):SR V I (putD E st d sv) (putL d v L) G:=by
 cases d with
 | none=>exact h
 | some d=>exact h.put _ d hr
theorem SR.reput{V:View}{I:List IE}{st:St}{L:Lo}{G:Own}(h:SR V I st L G)(keep:List Nat)(d:Nat){sv:SV}{v:Value}(hv:lk L d=some v)(hr:RepS V I sv v):SR V I (st.put keep d sv) L G:=by
 refine⟨by rw[put_H];exact h.mem,fun d' s hd hb=>?_⟩
 rw[look_put]at hd;cases hq:Nat.beq d d' with
 | true=>have:=qd hq;subst this;rw[hq]at hd;simp at hd;subst hd;exact⟨v,hv,hr⟩
 | false=>rw[hq]at hd;exact h.slot d' s hd hb
def dstsT:List Oper→List Nat
 | []=>[]
 | o::l=>match o.dst with
  | some d=>d::dstsT l
  | none=>dstsT l
theorem putD_look(E:Env)(st:St)(d:Option Nat)(v:SV)(d':Nat)(h:d≠some d'):(putD E st d v).look d'=st.look d':=by
 cases d with
 | none=>rfl
 | some d=>
  simp only[putD,look_put];have:Nat.beq d d'=false:=by
   cases hb:Nat.beq d d' with
   | false=>rfl
   | true=>exact absurd (by rw[qd hb]) h
  rw[this];rfl
theorem putD_H(E:Env)(st:St)(d:Option Nat)(v:SV):(putD E st d v).H=st.H:=by
 cases d with
 | none=>rfl
 | some d=>exact put_H ..
theorem hasK_cons(k:Nat)(u:SV)(K:List (Nat×SV))(d:Nat):hasK ((k,u)::K) d=bif Nat.beq k d then true else hasK K d:=by
 cases hb:Nat.beq k d <;> simp[hasK,hb]
theorem hasK_set:∀ {K:List (Nat×SV)} {d d':Nat} {v:SV},hasK K d'=true→hasK (setK K d v) d'=true
 | [],d,d',v,h=>by simp[hasK]at h
 | (k,u)::K,d,d',v,h=>by
  rw[setK_cons];rw[hasK_cons]at h;cases hb:Nat.beq k d with
  | true=>simp only[qe,hasK_cons];exact h
  | false=>
   simp only[qh,hasK_cons];cases hc:Nat.beq k d' with
   | true=>rfl
   | false=>rw[hc]at h;exact hasK_set h
theorem hasK_put(st:St)(keep:List Nat)(d d':Nat)(v:SV)(h:hasK st.K d'=true):hasK (st.put keep d v).K d'=true:=by
 unfold St.put;cases hasK st.K d||hasN keep d with
 | true=>exact hasK_set h
 | false=>exact h
theorem hasK_putD(E:Env)(st:St)(d:Option Nat)(d':Nat)(v:SV)(h:hasK st.K d'=true):hasK (putD E st d v).K d'=true:=by
 cases d with
 | none=>exact h
 | some d=>exact hasK_put _ _ _ _ _ h
section
variable {P:Program} {n:Nat} {X:Cx} {L:Lo} {V V':View} {G G':Own} {K:List KI} {all:Array Oper} {ops:List Oper}
theorem wr_gh(hg:Gh V G V' G')(h:WR P n X L V' G' all ops K):WR P n X L V G all ops K:=fun a w ha hw=>h a w ha (hg.holds X w hw)
theorem wr_free(h:Free V G→WR P n X L V G all ops K):WR P n X L V G all ops K:=fun a w ha hw=>h (Free.cons hw) a w ha hw
theorem wr_un{o:Oper}{j:Nat}{b:Bool}{d:Nat}(hg:o.guard=some (j,b))(hj:(all[j]?).bind (·.dst)=some d)(hb:lk L d=some undef)(hd:okd n o.dst=true)
 (h:WR P n X (putL o.dst undef L) V G all ops K):WR P n X L V G all (o::ops) K:=by
 intro a w ha hw;have hw':Region.wanted o (yielded all a.tmps)=false:=by
  simp[Region.wanted,hg,yielded,hj,ha.get d _ hb,undef]
 refine wpList_step fun K' hK'=>?_
 rw[qM (by simp[hw'])];exact hK' _ _ (h _ _ (ha.put hd undef) hw)
end
def Cont(P:Program)(n:Nat)(X:Cx)(K:List KI)(T:Tbl){O:Type}(r:O)(k:St→Option O)(q:Bool)(ds:List Nat)(V0:View)(I0:List IE)(st0:St)(G0:Own):Prop :=
 ∀st' L' V' G' I',k st'=some r→SR V' I' st' L' G'→GOK T V'→Sub V0 V'→IPf st0.H I0 st'.H I'→(q=true→st'.H=st0.H∧I'=I0∧∀d,d ∉ ds→hasK st0.K d=true→st'.look d=st0.look d)→WE P n X L' V' G' .normal K
def okOps(n:Nat)(ops:List Oper):Prop:=∀o∈ops,okd n o.dst=true
theorem Cont.tail{P:Program}{n:Nat}{X:Cx}{K:List KI}{T:Tbl}{O:Type}{r:O}{k:St→Option O}{q:Bool}{o:Oper}{ops:List Oper}{V0 V1:View}{I0 I1:List IE}{st0 st1:St}{G0 G1:Own}
 (h:Cont P n X K T r k q (dstsT (o::ops)) V0 I0 st0 G0) (hs:Sub V0 V1) (hip:IPf st0.H I0 st1.H I1) (hq:q=true→st1.H=st0.H∧I1=I0∧∀d,o.dst≠some d→hasK st0.K d=true→hasK st1.K d=true∧st1.look d=st0.look d):Cont P n X K T r k q (dstsT ops) V1 I1 st1 G1:=by
 intro st' L' V' G' I' h1 h2 h3 h4 h5 h6;refine h st' L' V' G' I' h1 h2 h3 (hs.trans h4) (hip.trans h5) fun e=>?_
 obtain⟨a1,a2,a3⟩:=hq e;obtain⟨b1,b2,b3⟩:=h6 e;refine⟨b1.trans a1,b2.trans a2,fun d hd hk=>?_⟩
 have hne:o.dst≠some d:=fun e=>hd (by simp[dstsT,e])
 have hnm:d ∉ dstsT ops:=fun hm=>hd (by simp only[dstsT];split <;> simp[hm])
 rw[b3 d hnm (a3 d hne hk).1,(a3 d hne hk).2]
theorem look_noTm(K:List (Nat×SV))(H:List OB)(d:Nat):(St.mk K [] H).look d=lkG K d:=by
 unfold St.look;simp only[lkG_nil];cases lkG K d <;> rfl
theorem zipK_cons(k:Nat)(ks:List Nat)(v:SV)(vs:List SV):zipK (k::ks) (v::vs)=(k,v)::zipK ks vs:=rfl
section
variable {P:Program} {E:Env} {n:Nat} {X:Cx} {L:Lo} {V:View} {I:List IE} {G:Own} {K:List KI} {all:Array Oper}
end
end Su
end
section
namespace Su
open Go Fly
section
variable {P:Program} {E:Env} {n:Nat} {X:Cx} {L:Lo} {V:View} {I:List IE} {G:Own} {K:List KI} {all:Array Oper}
theorem okd_of{o:Oper}{ops:List Oper}(h:okOps n (o::ops)):okd n o.dst=true:=h o (qz ..)
theorem do_yes(S:Sound P E.T)(hC:CallE P E S){O:Type}{r:O}{k:St→Option O}{q:Bool}{nw:List NE}{D:List Nat}{st:St}{o:Oper}{ops:List Oper}{rest:Rest}{al rr:List Oper}
 (hS:SR V I st L G) (hg:GOK E.T V) (hF:Free V G) (hcont:Cont P n X K E.T r k q (dstsT (o::ops)) V I st G)
 (ih:∀(st':St) (L':Lo) (V':View) (G':Own) (I':List IE),rest q 0 nw D st' k=some r→SR V' I' st' L' G'→GOK E.T V'→Cont P n X K E.T r k q (dstsT ops) V' I' st' G'→WR P n X L' V' G' all ops K)
 (he:doO E al rr q 0 nw D st o true rest k=some r):Opr P n X L V G o fun v V' G'=>WR P n X (putL o.dst v L) V' G' all ops K:=by
 simp only[doO,qe,oneO]at he;have hpre:=hS.pre (E:=E) hg hF (!q) o.op.operands.toList
 refine opr_mono (evOp_ok S hC hpre he) fun v V' G' hp=>?_
 cases q with
 | true=>
  obtain⟨h1,rfl,sv,h2,h3⟩:=hp;have hS':=(hS.mono h1).putD E o.dst (sv:=sv) (v:=v) fun _=>h3
  refine ih _ _ _ _ _ h2 hS' (hg.mono h1) (hcont.tail h1 ?_ fun _=>⟨putD_H ..,rfl,fun d hd hk=>⟨hasK_putD _ _ _ _ _ hk,putD_look _ _ _ _ _ hd⟩⟩)
  rw[putD_H];exact IPf.refl _ _
 | false=>
  obtain⟨V1,G1,g1,h1,I',sv,st',h2,h3,h4,h5⟩:=hp;refine wr_gh g1 ?_
  have hS':=h3.putD E o.dst (sv:=sv) (v:=v) fun _=>h4
  refine ih _ _ _ _ _ h2 hS' (hg.mono h1) (hcont.tail h1 ?_ fun e=>by simp at e)
  rw[putD_H];exact h5
theorem do_no{O:Type}{r:O}{k:St→Option O}{q:Bool}{nw:List NE}{D:List Nat}{st:St}{o:Oper}{ops:List Oper}{rest:Rest}{al rr:List Oper}
 (hS:SR V I st L G) (hg:GOK E.T V) (hcont:Cont P n X K E.T r k q (dstsT (o::ops)) V I st G)
 (ih:∀(st':St) (L':Lo) (V':View) (G':Own) (I':List IE),rest q 0 nw D st' k=some r→SR V' I' st' L' G'→GOK E.T V'→Cont P n X K E.T r k q (dstsT ops) V' I' st' G'→WR P n X L' V' G' all ops K)
 (he:doO E al rr q 0 nw D st o false rest k=some r):WR P n X (putL o.dst undef L) V G all ops K:=by
 simp only[doO,qh,noneO]at he;have hS':=hS.putD E o.dst (sv:=.un) (v:=undef) fun _=>.un
 refine ih _ _ _ _ _ he hS' hg (hcont.tail (Sub.refl _) ?_ fun _=>⟨putD_H ..,rfl,fun d hd hk=>⟨hasK_putD _ _ _ _ _ hk,putD_look _ _ _ _ _ hd⟩⟩)
 rw[putD_H];exact IPf.refl _ _
theorem wr_step{o:Oper}{ops:List Oper}{c b:Bool}{j g:Nat}(hgd:o.guard=some (j,b))(hj:(all[j]?).bind (·.dst)=some g)(hv:lk L g=some (.bool c))(hd:okd n o.dst=true)
 (hy:(c == b)=true→Opr P n X L V G o fun v V' G'=>WR P n X (putL o.dst v L) V' G' all ops K) (hn:(c == b)=false→WR P n X (putL o.dst undef L) V G all ops K):WR P n X L V G all (o::ops) K:=by
 cases hcb:c == b with
 | true=>
  have:c=b:=by simpa using hcb
  subst this;exact wr_yes hgd hj hv hd (hy hcb)
 | false=>
  have:c = !b:=by cases c <;> cases b <;> simp at hcb <;> rfl
  subst this;exact wr_no hgd hj hv hd (hn hcb)
theorem cont_put{O:Type}{r:O}{k:St→Option O}{q:Bool}{st:St}{g:Nat}{c:Bool}{l:List Nat}(hsv:st.look g=some (mkB c))
 (hc:Cont P n X K E.T r k q l V I st G):Cont P n X K E.T r k q l V I (st.put E.keep g (mkB c)) G:=by
 have same:∀d,(st.put E.keep g (mkB c)).look d=st.look d:=fun d=>by
  rw[look_put];cases hb:Nat.beq g d with
  | true=>have:=qd hb;subst this;rw[hsv];rfl
  | false=>rfl
 intro st' L' V' G' I' h1 h2 h3 h4 h5 h6;rw[put_H]at h5;refine hc st' L' V' G' I' h1 h2 h3 h4 h5 fun e=>?_
 obtain⟨a1,a2,a3⟩:=h6 e;rw[put_H]at a1;exact⟨a1,a2,fun d hd hk=>(a3 d hd (hasK_put _ _ _ _ _ hk)).trans (same d)⟩
theorem evOps0(S:Sound P E.T)(hC:CallE P E S):∀(ops:List Oper) {O:Type} (r:O) (k:St→Option O) (q:Bool) (nw:List NE) (D:List Nat) (st:St) (L:Lo) (V:View) (G:Own) (I:List IE),
 evOps E all ops q 0 nw D st k=some r→okOps n ops→SR V I st L G→GOK E.T V→Cont P n X K E.T r k q (dstsT ops) V I st G→WR P n X L V G all ops K:=by
 intro ops;induction ops with
 | nil=>
  intro O r k q nw D st L V G I he _ hS hg hc;exact wr_nil (hc st L V G I he hS hg (Sub.refl _) (IPf.refl _ _) fun _=>⟨rfl,rfl,fun _ _ _=>rfl⟩)
 | cons o ops ih=>
  intro O r k q nw D st L V G I he hok hS hg hc;have hd:=okd_of hok;have hok':okOps n ops:=fun x hx=>hok x (qt _ hx)
  have IH:∀ {O:Type} {r:O} {k:St→Option O} {q:Bool} {D:List Nat} (st':St) (L':Lo) (V':View) (G':Own) (I':List IE),evOps E all ops q 0 nw D st' k=some r→SR V' I' st' L' G'→GOK E.T V'→Cont P n X K E.T r k q (dstsT ops) V' I' st' G'→WR P n X L' V' G' all ops K :=
   fun st' L' V' G' I' h1 h2 h3 h4=>ih _ _ _ _ _ _ _ _ _ _ h1 hok' h2 h3 h4
  refine wr_free fun hF=>?_
  unfold evOps at he;split at he
  · rename_i hgd
    exact wr_cons hgd hd (do_yes S hC hS hg hF hc IH he)
  · rename_i p hgd
    obtain⟨j,b⟩:=p;simp only[]at he;cases hj:(all[j]?).bind (·.dst)with
    | none=>rw[hj]at he;simp at he
    | some g=>
     rw[hj]at he;simp only[]at he;replace he:=bsome he;obtain⟨sv,hsv,he⟩:=he
     unfold guardO at he;cases hu:isUndef sv with
     | true=>
      rw[hu]at he;simp only[qe]at he;have:sv = .un:=by unfold isUndef at hu;split at hu <;> first | rfl | simp at hu
      subst this;obtain⟨v,hv,hr⟩:=hS.slot g _ hsv (by simp)
      cases hr with | un=>exact wr_un hgd hj hv hd (do_no hS hg hc IH he)
     | false=>
      rw[hu]at he;simp only[qh]at he;replace he:=bsome he;obtain⟨c,hcv,he⟩:=he
      have:=asB_eq hcv;subst this
      obtain⟨v,hv,hr⟩:=hS.slot g _ hsv (by simp)
      have:=rep_s hr;subst this
      cases hD:hasN D j with
      | true=>
       rw[hD]at he;simp only[qe]at he;refine wr_step hgd hj hv hd (fun e=>?_) (fun e=>?_)
       · rw[e]at he;exact do_yes S hC hS hg hF hc IH he
       · rw[e]at he;exact do_no hS hg hc IH he
      | false=>
       rw[hD]at he;simp only[qh]at he;have hS1:=hS.reput E.keep g (sv:=mkB c) hv (repB c)
       have hc1:=cont_put (E:=E) hsv hc
       cases c with
       | true=>
        rw[qe]at he;refine wr_step hgd hj hv hd (fun e=>?_) (fun e=>?_)
        · rw[e]at he;exact do_yes S hC hS1 hg hF hc1 IH he
        · rw[e]at he;exact do_no hS1 hg hc1 IH he
       | false=>
        rw[qh]at he;refine wr_step hgd hj hv hd (fun e=>?_) (fun e=>?_)
        · rw[e]at he;exact do_yes S hC hS1 hg hF hc1 IH he
        · rw[e]at he;exact do_no hS1 hg hc1 IH he
end
end Su
end
section
namespace Su
open Go Fly
inductive Dd:List OB→List OB→Prop
 | nil:Dd [] []
 | same {b:OB} {H H':List OB} (h:Dd H H'):Dd (b::H) (b::H')
 | dead {b:OB} {H H':List OB} (h:Dd H H'):Dd (b::H) (.dead::H')
theorem Dd.len{H H':List OB}(h:Dd H H'):H'.length=H.length:=by
 induction h with
 | nil=>rfl
 | same _ ih=>simp[ih]
 | dead _ ih=>simp[ih]
theorem GRel.dd{V:View}{I:List IE}:∀ {Is:List IE} {H H':List OB} {G:Own},GRel V I Is H G→Dd H H'→∃G1,GRel V I Is H' G1∧G1.Sublist G
 | _,_,_,_,.nil,.nil=>⟨[],.nil,zr _⟩
 | _,_,_,_,.cons (g:=g) h h',.same hd=>by
  obtain⟨G1,k1,k2⟩:=h'.dd hd;exact⟨g++G1,.cons h k1,List.Sublist.append (zr _) k2⟩
 | _,_,_,_,.cons (g:=g) h h',.dead hd=>by
  obtain⟨G1,k1,k2⟩:=h'.dd hd;exact⟨[]++G1,.cons (g:=[]) .dead k1,List.Sublist.append (List.nil_sublist _) k2⟩
theorem dd_mark(live:List Nat)(base:Nat):∀(H:List OB) (i:Nat),Dd H (markDead live base i H)
 | [],_=>.nil
 | b::H,i=>by
  simp only[markDead];cases Nat.blt i base||hasN live i with
  | true=>exact .same (dd_mark live base H (i+1))
  | false=>exact .dead (dd_mark live base H (i+1))
theorem mark_low(live:List Nat)(base:Nat):∀(H:List OB) (i m:Nat),i+m<base→(markDead live base i H)[m]?=H[m]?
 | [],_,_,_=>rfl
 | b::H,i,0,h=>by
  simp only[markDead];rw[show Nat.blt i base=true by rw[yA];omega];rfl
 | b::H,i,m+1,h=>by
  simp only[markDead,yo];exact mark_low live base H (i+1) m (by omega)
theorem trim_split:∀(l:List OB),∃k,l=trimD l++List.replicate k .dead
 | []=>⟨0,rfl⟩
 | b::l=>by
  obtain⟨k,hk⟩:=trim_split l;simp only[trimD];split
  · rename_i h
    rw[h]at hk;simp only[jp]at hk;exact⟨k+1,by rw[jp,yQ,← hk]⟩
  · exact⟨k,by rw[jX,← hk]⟩
theorem GRel.cut{V:View}{I:List IE}:∀ {H2:List OB} {Is:List IE} {k:Nat} {G:Own},GRel V I Is (H2++List.replicate k .dead) G→GRel V I (Is.take H2.length) H2 G
 | [],Is,0,G,h=>by
  have h':GRel V I Is [] G:=by simpa using h
  cases h' with | nil=>exact .nil
 | [],_,k+1,_,h=>by
  rw[jp,yQ]at h;cases h with | cons h h'=>
  cases h with | dead=>
  have:=GRel.cut (H2:=[]) (k:=k) (by simpa using h')
  simpa using this
 | b::H2,_,k,_,.cons h h'=>by
  simp only[qy,List.take_succ_cons];exact .cons h h'.cut
theorem SR.noTm{V:View}{I:List IE}{st:St}{L:Lo}{G:Own}(h:SR V I st L G):SR V I ⟨st.K,[],st.H⟩ L G:=by
 refine⟨h.mem,fun d s hd hb=>?_⟩
 rw[look_noTm]at hd;exact h.slot d s (by unfold St.look;rw[hd]) hb
theorem prune_ok{V:View}{I0 I:List IE}{H0:List OB}{st:St}{L:Lo}{G:Own}{base:Nat}(h:SR V I st L G)(hb:I0.length=base)(hb0:H0.length=base)(hip:IPf H0 I0 st.H I) :
 ∃I' G',SR V I' (pruneSt base st) L G'∧(∀X w,Holds X V G w→Holds X V G' w)∧IPf H0 I0 (pruneSt base st).H I':=by
 unfold pruneSt;split
 · rename_i hH
   refine⟨I,G,?_,fun _ _ h=>h,by rw[← hH];exact hip⟩
   have:=h.noTm
   rw[hH]at this;exact this
 · rename_i b0 Ht hH
   simp only[];generalize hlive:reach 99 (b0::Ht) (List.range base++namesK st.K) []=live
   have hlen:=h.len;have hbl:base≤(b0::Ht).length:=by rw[← hH,← hlen,← hb];exact hip.len
   obtain⟨G0,k1,k2⟩:=h.mem;rw[hH]at k1;obtain⟨G1,j1,j2⟩:=k1.dd (dd_mark live base (b0::Ht) 0)
   have hml:(markDead live base 0 (b0::Ht)).length=(b0::Ht).length:=(dd_mark live base (b0::Ht) 0).len
   obtain⟨kk,hk⟩:=trim_split ((markDead live base 0 (b0::Ht)).drop base)
   generalize hH1:markDead live base 0 (b0::Ht)=H1 at *
   have hsplit:H1=(H1.take base++trimD (H1.drop base))++List.replicate kk .dead:=by
    rw[qO,← hk,jR]
   generalize hH2:H1.take base++trimD (H1.drop base)=H2 at *
   have hbase2:base≤H2.length:=by
    rw[← hH2,qq,qK];omega
   have hle:H2.length≤(b0::Ht).length:=by
    rw[← hml,hsplit,qq];omega
   rw[hsplit]at j1;have j3:=j1.cut;have hholds:∀X w,Holds X V G w→Holds X V G1 w:=fun X w hw=>(hw.perm k2).sublist j2
   have hipn:IPf H0 I0 H2 (I.take H2.length):=by
    refine⟨fun n b hn=>?_,fun m e k l hm=>?_,by rw[qK,hb];have:=hip.len;omega⟩
    · have hnl:n<base:=by rw[← hb];exact(qp.1 hn).1
      rw[qV,qU (by omega)];exact hip.blk n b hn
    · have hml':m<base:=by rw[← hb0];exact(qp.1 hm).1
      obtain⟨a1,l',a2⟩:=hip.fx m e k l hm;refine⟨by rw[qV,qU (by omega)];exact a1,l',?_⟩
      rw[← hH2,q9 (by rw[qK];omega),qV,qU hml',← hH1,mark_low live base _ 0 m (by omega),← hH];exact a2
   have hleaf:Leaf V V I (I.take H2.length) (lowG H2.length):=ren_leaf (Sub.refl _) fun n m ie hn hi=>by
    cases hb:Nat.blt n H2.length with
    | true=>rw[hb]at hn;simp at hn;subst hn;rw[qV,qU (by simpa using hb)];exact hi
    | false=>rw[hb]at hn;simp at hn
   cases hq:Nat.beq H2.length (b0::Ht).length with
   | true=>
    simp only[qe];have he:=qd hq;have htk:I.take H2.length=I:=qC (by rw[hlen,hH];omega)
    rw[htk]at j3 hipn;refine⟨I,G1,⟨⟨G1,j3,ji _⟩,?_⟩,hholds,hipn⟩
    exact h.noTm.slot
   | false=>
    simp only[qh];refine⟨I.take H2.length,G1,⟨⟨G1,j3.map (Sub.refl _) hleaf (ren_cell _),ji _⟩,?_⟩,hholds,?_⟩
    · have:=slot_map (H:=H2.map (OB.mp (lowG H2.length))) hleaf rfl h.noTm.slot
      exact this
    · refine⟨hipn.blk,fun m e k l hm=>?_,hipn.len⟩
      obtain⟨a1,l',a2⟩:=hipn.fx m e k l hm;exact⟨a1,l',by rw[jh,a2];rfl⟩
end Su
end
