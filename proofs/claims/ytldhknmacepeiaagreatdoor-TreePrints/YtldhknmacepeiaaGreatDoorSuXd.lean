/-
  An evaluator, proved sound. No condition.
-/
import Derived.Test.YtldhknmacepeiaaGreatDoorSuXb
set_option linter.unusedVariables false
set_option linter.unusedSimpArgs false
set_option maxRecDepth 10000
namespace Su
open Go Fly
abbrev ptr(b:Nat):Value:=.pointer (some ⟨b,0,none⟩)
def qgn(V:qc)(I:List IE)(c:List SV)(v:Value)(E:Own):Prop:=∃(b:Nat) (vs:List Value) (e:Nat),v=ptr b∧E=[(b,.cells vs.toArray e (0,0))]∧RepSs V I c vs∧∀s∈c,jG s=true
theorem qgn.mono{V V':qc}{I:List IE}(hs:Sub V V'){c:List SV}{v:Value}{E:Own}(h:qgn V I c v E):qgn V' I c v E:=by
 obtain⟨b,vs,e,h1,h2,h3,h4⟩:=h;exact⟨b,vs,e,h1,h2,h3.mono hs (Ile.refl _),h4⟩
section
variable {P:Program} {E:Env} {n:Nat} {X:Cx} {L:Lo} {V:qc} {I:List IE} {G:Own} {K:List KI}
theorem GR.mr_more{V V':qc}{H:List OB}(h:GR V I H G)(hs:Sub V V'){G':Own}(hsub:∀p∈G,p∈G'):MR V' I H G':=by
 obtain⟨G0,h1,h2⟩:=h;exact⟨G0,h1.mono hs (Ile.refl _),fun p hp=>hsub p (h2.mem_iff.2 hp)⟩
theorem qp0(S:Sound P E.T){st:St}{o:Oper}{c:List SV}(hx:∀x∈o.op.operands.toList,jm E st V I L x)(he:QR E st o.op=some c) :
 Opr P n X L V G o fun v V' G'=>V'=V∧∃D,G'=D++G∧qgn V I c v D:=by
 obtain⟨ds,op,ty,pos,af,gd⟩:=o;cases op with
 | alloc e=>
  simp only[QR]at he;replace he:=qf he;obtain⟨z,hz,he⟩:=he
  simp only[za]at he;subst he;obtain⟨h1,h2⟩:=qas (V:=V) (hs:=E.T.zs e) (S.zc _ _ hz)
  exact yA S.tb (S.ze _ _ hz) fun b=>⟨rfl,[_],rfl,b,z,e,rfl,rfl,RepSs.ofT h1,ZW h2⟩
 | box e x=>
  simp only[QR]at he;replace he:=qf he;obtain⟨sv,hsv,he⟩:=he
  obtain⟨v,hv,hr⟩:=hx x (by simp[Op.operands]) sv hsv
  have one:c=[sv]→YR sv=true→Opr P n X L V G ⟨ds,.box e x,ty,pos,af,gd⟩ fun v V' G'=>V'=V∧∃D,G'=D++G∧qgn V I c v D:=by
   rintro rfl h1
   obtain⟨h2,h3,h4⟩:=ZV hr h1;exact qlv hv h3 fun b=>⟨rfl,[_],rfl,b,[v],e,rfl,rfl,.cons hr .nil,by simpa using h4⟩
  cases sv with
  | t x'=>
   cases x' with
   | agg l=>
    simp[Zd]at he;subst he;cases hr with|t hr=>cases hr with|agg h1 h2=>
    exact qJ hv fun b=>⟨rfl,[_],rfl,b,_,e,rfl,rfl,RepSs.ofT h1,ZW h2⟩
   | _=>simp[Zd]at he;exact one he.symm rfl
  | tup l=>simp[Zd]at he
  | st l=>
   simp only[Zd]at he;cases ho:JF l with
   | false=>rw[ho]at he;simp at he
   | true=>
    rw[ho]at he;simp only[zg,za]at he;subst he;cases hr with|st h1=>
    exact qJ hv fun b=>⟨rfl,[_],rfl,b,_,e,rfl,rfl,h1,(qbK h1 ho).1⟩
  | un=>simp[Zd]at he
  | bad=>simp[Zd]at he
  | _=>simp[Zd]at he;exact one he.symm rfl
 | _=>simp[QR]at he
theorem qc9{d:Nat}:∀ {l:List Oper},j7 d l=true→∃(i:Nat) (o:Oper),l[i]?=some o∧o.dst=some d
 | [],h=>by simp[j7]at h
 | o::l,h=>by
  simp only[j7,VR]at h;rcases h with h|h
  · split at h
    · rename_i d' hd'
      have:=zd h;subst this
      exact⟨0,o,rfl,hd'⟩
    · cases h
  · obtain⟨i,o',h1,h2⟩:=qc9 h
    exact⟨i+1,o',by simpa using h1,h2⟩
theorem qcJ{d:Nat}:∀ {l:List Oper} {i:Nat} {o:Oper},l[i]?=some o→o.dst=some d→j7 d l=true
 | [],_,_,h,_=>by simp at h
 | o::l,0,o',h,hd=>by
  simp at h;subst h;simp[j7,hd]
 | o::l,i+1,o',h,hd=>by
  simp only[j7,VR];exact .inr (qcJ (by simpa using h) hd)
theorem J8{l:List Oper}{ms:List Nat}{m:Nat}(h:stW l ms m=true){s:Nat}{o:Oper}(hs:s<m)(ho:l[s]?=some o){d t:Nat}{x:Operand}(hst:qU o.op=some (d,t,x)) :
 o.dst=none∧o.guard=none∧(∀q oq,q<m→l[q]?=some oq→q≠s→d ∉ oq.looksAt l.toArray∧(oq.dst=some d→Jq oq.op=true∧yJ ms s q=true∧oq.guard=none∧q<s))∧(j7 d l=true→∃p op,p<m∧l[p]?=some op∧op.dst=some d):=by
 simp only[stW,Ko]at h;have h1:=h (o,s) (by rw[Kz];simp[hs,ho])
 simp only[hst,zp,Ko]at h1;obtain⟨⟨⟨h2,h3⟩,h4⟩,h5⟩:=h1;refine⟨by simpa using h2,by simpa using h3,fun q oq hq hoq hne=>?_,fun hd=>?_⟩
 · have h6:=h4 (oq,q) (by rw[Kz];simp[hq,hoq])
   simp only[VR,beq_iff_eq,zp,Wb,List.contains_eq_mem,decide_eq_false_iff_not]at h6;rcases h6 with h6|⟨h6,h7⟩
   · exact absurd h6.symm hne
   · refine⟨h6,fun e=>?_⟩
     rw[e]at h7;simp only[beq_self_eq_true,zg,zp]at h7;obtain⟨⟨⟨a1,a2⟩,a3⟩,a4⟩:=h7;exact⟨a1,a2,by simpa using a3,by simpa[VY]using a4⟩
 · rw[hd]at h5
   simp only[Bool.not_true,WV]at h5;obtain⟨p,op,h6,h7⟩:=qc9 h5;rw[zZ]at h6;split at h6
   · rename_i hp;exact⟨p,op,hp,h6,h7⟩
   · cases h6
theorem qbb{d t:Nat}:∀ {l:List Oper},QS (some d) l=some t→∃(i:Nat) (o:Oper) (x:Operand),l[i]?=some o∧qU o.op=some (d,t,x)
 | [],h=>by simp[QS]at h
 | o::l,h=>by
  simp only[QS]at h;have rec_:QS (some d) l=some t→∃(i:Nat) (o':Oper) (x:Operand),(o::l)[i]?=some o'∧qU o'.op=some (d,t,x):=fun h=>by
   obtain⟨i,o',x,h1,h2⟩:=qbb h;exact⟨i+1,o',x,by simpa using h1,h2⟩
  cases hs:qU o.op with
  | none=>rw[hs]at h;exact rec_ h
  | some z=>
   obtain⟨d',t',x⟩:=z;rw[hs]at h;simp only[]at h;cases hb:Nat.beq d' d with
   | false=>rw[hb]at h;exact rec_ h
   | true=>
    rw[hb]at h;have:=zd hb;subst this
    simp only[zg,za]at h;subst h;exact⟨0,o,x,rfl,hs⟩
theorem qeU{d:Nat}:∀ {l:List Oper} {i:Nat} {o:Oper} {t:Nat} {x:Operand},l[i]?=some o→qU o.op=some (d,t,x)→QS (some d) l≠none
 | [],_,_,_,_,h,_=>by simp at h
 | o::l,0,o',t,x,h,hs=>by
  simp at h;subst h;simp[QS,hs]
 | o::l,i+1,o',t,x,h,hs=>by
  have ih:=qeU (l:=l) (i:=i) (by simpa using h) hs
  simp only[QS];cases hs':qU o.op with
  | none=>exact ih
  | some z=>
   obtain⟨d',t',x'⟩:=z;simp only[];cases hb:Nat.beq d' d with
   | false=>exact ih
   | true=>simp
def QG(Es:Nat→Own)(i:Nat)(E:Own):Nat→Own:=fun j=>if j=i then E else Es j
theorem qda{f g:Nat→Own}:∀m,(∀i,i<m→f i=g i)→jN f m=jN g m
 | 0,_=>rfl
 | m+1,h=>by simp only[jN,qda m fun i hi=>h i (by omega),h m (by omega)]
theorem Z1(Es:Nat→Own)(i:Nat):∀m,i<m→∃R,(jN Es m).Perm (Es i++R)∧∀E,(jN (QG Es i E) m).Perm (E++R)
 | 0,h=>by omega
 | m+1,h=>by
  by_cases hi:i=m
  · subst hi
    refine⟨jN Es i,zF,fun E=>?_⟩
    have:jN (QG Es i E) i=jN Es i:=qda i fun j hj=>by simp[QG,show j≠i by omega]
    simp only[jN,this];rw[show QG Es i E i=E by simp[QG]];exact zF
  · obtain⟨R,h1,h2⟩:=Z1 Es i m (by omega)
    refine⟨R++Es m,?_,fun E=>?_⟩
    · simp only[jN];rw[← zw];exact h1.append_right _
    · simp only[jN];rw[← zw,show QG Es i E m=Es m by simp[QG,Ne.symm hi]];exact(h2 E).append_right _
def qgo(D:Own)(Es:Nat→Own):Nat→Own
 | 0=>D
 | j+1=>Es j
theorem qbc(D:Own)(Es:Nat→Own):∀m,jN (qgo D Es) (m+1)=D++jN Es m
 | 0=>by simp[jN,qgo]
 | m+1=>by
  have:=qbc D Es m
  rw[show jN (qgo D Es) (m+1+1)=jN (qgo D Es) (m+1)++Es m from rfl,this,zw];rfl
def Je(l:List Oper)(m:Nat)(b:Nat→Bool)(i:Nat):Prop:=∃s os d t x oi,s<m∧b s=true∧l[s]?=some os∧qU os.op=some (d,t,x)∧l[i]?=some oi∧oi.dst=some d
def Yi(l:List Oper)(m:Nat)(I:List IE)(b:Nat→Bool)(vals:Nat→Value)(V:qc)(i:Nat)(E:Own):TR→Prop
 | .val sv=>E=[]∧(b i=true→RepS V I sv (vals i))
 | .skip=>E=[]∧(b i=true→vals i=undef)
 | .new c=>(b i=false→E=[])∧(b i=true→qgn V I c (vals i) E)
 | .newL k=>(b i=false→E=[])∧(b i=true→∃blk,vals i=ptr blk∧(¬Je l m b i→∃(vs:List Value) (e:Nat),vs.length=k∧E=[(blk,.cells vs.toArray e (0,0))])∧(Je l m b i→E=[]))
 | .str d c none=>(b i=false→E=[])∧(b i=true→∃(blk:Nat) (vs:List Value) (e:Nat),(∀p o,p<m→l[p]?=some o→o.dst=some d→vals p=ptr blk)∧E=[(blk,.cells vs.toArray e (0,0))]∧RepSs V I c vs∧∀s∈c,jG s=true)
 | .str _ c (some nn)=>∃(blk:Nat) (vs:List Value) (e:Nat),I[nn]?=some (.blk blk)∧E=[(blk,.cells vs.toArray e (0,0))]∧vs.length=c.length∧(b i=true→RepSs V I c vs∧∀s∈c,jG s=true)
def qp1(l:List Oper)(m:Nat)(TRs:List TR)(I:List IE)(G0:Own):qnS:=fun b vals Ow V=>
 ∃Es:Nat→Own,Ow.Perm (jN Es m++G0)∧∀i t,i<m→TRs[i]?=some t→Yi l m I b vals V i (Es i) t
theorem qtL{l:List Oper}{m:Nat}{b:Nat→Bool}{vals:Nat→Value}{V V':qc}(hs:Sub V V'){i j:Nat}{v:Value}{E:Own}{t:TR}(hne:j≠i)(hst:Je l m (y7 b i) j↔Je l m b j)
 (hp:∀d c,t = .str d c none→b j=true→∀o,l[i]?=some o→o.dst≠some d) (h:Yi l m I b vals V j E t):Yi l m I (y7 b i) (QN vals i v) V' j E t:=by
 have e1:y7 b i j=b j:=by simp[y7,hne]
 have e2:QN vals i v j=vals j:=by simp[QN,hne]
 cases t with
 | val sv=>exact⟨h.1,fun hb=>by rw[e2];exact(h.2 (by rwa [e1]at hb)).mono hs (Ile.refl _)⟩
 | skip=>exact⟨h.1,fun hb=>by rw[e2];exact h.2 (by rwa [e1]at hb)⟩
 | new c=>exact⟨fun hb=>h.1 (by rwa [e1]at hb),fun hb=>by rw[e2];exact(h.2 (by rwa [e1]at hb)).mono hs⟩
 | newL k=>
  refine⟨fun hb=>h.1 (by rwa [e1]at hb),fun hb=>?_⟩
  obtain⟨blk,h1,h2,h3⟩:=h.2 (by rwa [e1]at hb)
  exact⟨blk,by rw[e2];exact h1,fun hn=>h2 fun hy=>hn (hst.2 hy),fun hy=>h3 (hst.1 hy)⟩
 | str d c o=>
  cases o with
  | none=>
   refine⟨fun hb=>h.1 (by rwa [e1]at hb),fun hb=>?_⟩
   rw[e1]at hb;obtain⟨blk,vs,e,h1,h2,h3,h4⟩:=h.2 hb;refine⟨blk,vs,e,fun p o hpm ho hd=>?_,h2,h3.mono hs (Ile.refl _),h4⟩
   have hpi:p≠i:=fun e=>by subst e;exact hp d c rfl hb o ho hd
   simpa[QN,hpi]using h1 p o hpm ho hd
  | some nn=>
   obtain⟨blk,vs,e,h1,h2,h3,h4⟩:=h;exact⟨blk,vs,e,h1,h2,h3,fun hb=>by
    obtain⟨a1,a2⟩:=h4 (by rwa [e1]at hb)
    exact⟨a1.mono hs (Ile.refl _),a2⟩⟩
theorem qjf:∀ {l vs:List Value},l.length=vs.length→yx l vs=some vs
 | [],[],_=>rfl
 | _::l,v::vs,h=>by simp[yx,qjf (l:=l) (vs:=vs) (by simpa using h)]
 | [],_::_,h=>by simp at h
 | _::_,[],h=>by simp at h
theorem ql9{l vs:List Value}(h:l.length=vs.length):Qh l 0 vs=some vs:=by
 cases l <;> exact qjf h
theorem qcK{op:Op}{d t:Nat}{x:Operand}(h:qU op=some (d,t,x)):op = .store t (.tmp d) x:=by
 unfold qU at h;split at h
 · simp only[za,Km]at h
   obtain⟨rfl,rfl,rfl⟩:=h;rfl
 · cases h
theorem qdb{o:Oper}{all:Array Oper}{d t:Nat}{x:Operand}(h:qU o.op=some (d,t,x)):d∈o.looksAt all:=by
 unfold Oper.looksAt;refine KX _ (WA.2 ⟨.tmp d,?_,rfl⟩)
 rw[qcK h];simp[Op.operands]
theorem Jw{o:Oper}(h:Jq o.op=true):qU o.op=none:=by
 cases ho:o.op <;> rw[ho]at h <;> simp[Jq]at h <;> rfl
theorem qwI(st:St)(keep:List Nat)(d:Nat)(v:SV)(H:List OB):{ st.put keep d v with H:=H }=St.put ⟨st.K,st.Tm,H⟩ keep d v:=by
 unfold St.put;cases JZ st.K d||Yo keep d <;> rfl
theorem GR.perm{H:List OB}{G':Own}(h:GR V I H G)(hp:G'.Perm G):GR V I H G':=by
 obtain⟨G0,h1,h2⟩:=h;exact⟨G0,h1,hp.trans h2⟩
theorem SR.perm{st:St}{G':Own}(h:SR V I st L G)(hp:G'.Perm G):SR V I st L G':=⟨h.mem.perm hp,h.slot⟩
theorem qp2(S:Sound P E.T)(hC:qbO P E S){l:List Oper}{ms:List Nat}{m:Nat}{TRs:List TR}{st0:St}{G0:Own}(hP:qi9 l ms m=true)(hGd:qhI l ms m=true)(hsw:stW l ms m=true)(hml:m≤l.length)
 (hS:SR V I st0 L G0) (hg:GOK E.T V) (htl:TRs.length=m)
 (hinfo:∀i' o r,i'<m→l[i']?=some o→TRs[i']?=some r→∃sti:St,sti.H=st0.H∧yq l TRs st0 i' sti∧YZ E l.toArray ((l.take m).drop (i'+1)) o sti r)
 (i:Nat) (o:Oper) (hi:i<m) (ho:l[i]?=some o):qpT P n X L V l ms m (qp1 l m TRs I G0) i o:=by
 have hti:TRs[i]?=some TRs[i]:=by simp
 obtain⟨sti,e1,e2,e3⟩:=hinfo i o _ hi ho hti;intro b vals Ow V' hs hbi hanc hdesc hF;obtain⟨Es,hperm,hY⟩:=hF;have known:∀(t:Nat) (sv:SV),sti.look t=some sv→sv≠.bad→t∈o.looksAt l.toArray→∃v,lk (QM b l vals L m) t=some v∧RepS V' I sv v:=by
  intro t sv ht hb hlook;rcases e2 t sv ht hb with⟨j,oj,r,hj,k1,k2,k3,k4⟩|⟨k1,k2⟩
  · have h1:=(Qk hP (show j<m by omega) k1 k2 hi ho (by omega)).2 hlook
    rw[zQ (by omega)]at h1;have hbj:=hanc j h1;refine⟨vals j,Jv hP (by omega) hbj k1 k2 m (by omega) (zI _),?_⟩
    have hy:=hY j r (by omega) k3
    subst k4;cases r with
    | val s=>exact hy.2 hbj
    | skip=>rw[hy.2 hbj];exact .un
    | _=>exact absurd rfl hb
  · obtain⟨v,hv,hr⟩:=hS.slot t sv k2 hb
    refine⟨v,Z0 hv m fun j oj hj hbj hoj hd=>?_,hr.mono hs (Ile.refl _)⟩
    rcases WQ j i with h|h|h
    · exact k1 j oj h hoj hd
    · subst h;rw[hbi]at hbj;cases hbj
    · have h1:=(Qk hP hj hoj hd hi ho (by omega)).2 hlook
      rw[z6 h]at h1;rw[hdesc j hj h1]at hbj;cases hbj
 have inLook:∀x∈o.op.operands.toList,∀t,x = .tmp t→t∈o.looksAt l.toArray:=by
  intro x hx t e;unfold Oper.looksAt;exact KX _ (WA.2 ⟨x,hx,by rw[e]⟩)
 have hopd:∀x∈o.op.operands.toList,jm E sti V' I (QM b l vals L m) x:=by
  intro x hx;cases x with
  | tmp t=>
   intro sv hsv;simp only[opd]at hsv;obtain⟨h1,h2⟩:=qdG hsv;simp only[ev];exact known t sv h1 h2 (inLook _ hx t rfl)
  | _=>exact fun sv hsv=>qlS (E:=E) (st:=⟨[],[],[]⟩) (I:=I) (L:=QM b l vals L m) (hg.mono hs) (by intro d sv h;simp[St.look,lkG]at h) _ sv hsv
 have hpre:jQ V' Ow→Pre false E V' I sti (QM b l vals L m) Ow o.op.operands.toList:=fun hf=>
  ⟨by rw[e1];exact hS.mem.mr_more hs fun p hp=>hperm.mem_iff.2 (VC _ hp),hg.mono hs,hf,hopd,fun e=>by simp at e⟩
 -- the others
 have strOf:∀ {j:Nat} {d:Nat} {c:List SV} {on:Option Nat},j<m→TRs[j]?=some (.str d c on)→∃oj t x,l[j]?=some oj∧qU oj.op=some (d,t,x):=by
  intro j d c on hj ht;have hjl:j<l.length:=by omega
  obtain⟨_,_,_,_,t,x,sv,p,c2,q1,_⟩:=hinfo j l[j] _ hj (by simp[hjl]) ht
  exact⟨l[j],t,x,by simp[hjl],q1⟩
 have keep:∀ {v:Value} {V'':qc},Sub V' V''→∀j t,j<m→j≠i→TRs[j]?=some t→(Je l m (y7 b i) j↔Je l m b j)→∀ {Ej:Own},Yi l m I b vals V' j Ej t→Yi l m I (y7 b i) (QN vals i v) V'' j Ej t:=by
  intro v V'' hs' j t hj hne ht hst Ej hy;refine qtL hs' hne hst (fun d c e hbj oi hoi hd=>?_) hy
  subst e;obtain⟨oj,t',x,q1,q2⟩:=strOf hj ht;rw[ho]at hoi;simp only[za]at hoi;subst hoi;have:=((J8 hsw hj q1 q2).2.2.1 i o hi ho (Ne.symm hne)).2 hd
  rw[hdesc j hj this.2.1]at hbj;cases hbj
 have plain:qU o.op=none→∀j,Je l m (y7 b i) j↔Je l m b j:=by
  intro hno j;constructor
  · rintro⟨s,os,d,t,x,oi,h1,h2,h3,h4,h5⟩
    by_cases hsi:s=i
    · subst hsi;rw[ho]at h3;simp only[za]at h3;subst h3;rw[hno]at h4;cases h4
    · exact⟨s,os,d,t,x,oi,h1,by simpa[y7,hsi]using h2,h3,h4,h5⟩
  · rintro⟨s,os,d,t,x,oi,h1,h2,h⟩
    exact⟨s,os,d,t,x,oi,h1,by simp[y7,h2],h⟩
 have notStored:∀d,o.dst=some d→¬Je l m b i:=by
  rintro d hd ⟨s,os,d',t,x,oi,h1,h2,h3,h4,h5,h6⟩
  rw[ho]at h5;simp only[za]at h5;subst h5;have hsi:i≠s:=fun e=>by
   subst e;rw[hbi]at h2;cases h2
  have:=((J8 hsw h1 h3 h4).2.2.1 i o hi ho hsi).2 h6
  rw[hdesc s h1 this.2.1]at h2;cases h2
 have eEmpty:∀ {t:TR},TRs[i]?=some t→(match t with|.str _ _ (some _)=>False|_=>True)→Es i=[]:=by
  intro t ht hns;have hy:=hY i t hi ht;cases t with
  | val sv=>exact hy.1
  | skip=>exact hy.1
  | new c=>exact hy.1 hbi
  | newL k=>exact hy.1 hbi
  | str d c on=>cases on with
   | none=>exact hy.1 hbi
   | some nn=>exact hns.elim
 -- an operation that brings its own
 have fin:qU o.op=none→∀ {v:Value} {V'':qc} {Ow':Own} {D:Own},Sub V' V''→(match TRs[i]with|.str _ _ (some _)=>False|_=>True)→Ow'.Perm (D++Ow)→Yi l m I (y7 b i) (QN vals i v) V'' i D TRs[i]→qp1 l m TRs I G0 (y7 b i) (QN vals i v) Ow' V'':=by
  intro hno v V'' Ow' D hs' hns hp hy;obtain⟨R,r1,r2⟩:=Z1 Es i m hi;rw[eEmpty hti hns,zy]at r1;refine⟨QG Es i D,?_,fun j t hj ht=>?_⟩
  · refine hp.trans (((hperm.append_left D).trans ?_).trans ((r2 D).append_right G0).symm)
    rw[← zw];exact(r1.append_left D).append_right G0
  · by_cases hji:j=i
    · subst hji
      rw[hti]at ht;simp only[za]at ht;subst ht;rw[show QG Es j D j=D by simp[QG]];exact hy
    · rw[show QG Es i D j=Es j by simp[QG,hji]]
      exact keep hs' j t hj hji ht (plain hno j) (hY j t hj ht)
 have dstOf:Jq o.op=true→True:=fun _=>trivial
 have hdone:(∀hgd:ju l.toArray o sti true,Opr P n X (QM b l vals L m) V' Ow o fun v V'' G''=>Sub V' V''∧qp1 l m TRs I G0 (y7 b i) (QN vals i v) G'' V'')∨(ju l.toArray o sti false∧TRs[i] = .skip):=by
  cases hr:TRs[i]with
  | val sv=>
   rw[hr]at e3 hti;have hno:qU o.op=none:=by
    cases hst:qU o.op with
    | none=>rfl
    | some z=>
     have h1:=e3.2.2 Unit (fun _ _=>some ())
     cases hop:o.op <;> rw[hop]at hst <;> simp[qU]at hst
     rename_i t a x;unfold Zf at h1;rw[hop]at h1;simp[qbx]at h1
   refine .inl fun _=>qbI fun hf=>Js (qdE (fr:=false) (r:=sv) (k:=fun s _=>some s) S hC (hpre hf) (e3.2.2 _ _)) fun v V'' G'' hp=>?_
   obtain⟨h1,rfl,sv',h2,h3⟩:=hp;simp only[za]at h2;subst h2;refine⟨h1,fin hno h1 (by rw[hr];trivial) (D:=[]) (zr _) ?_⟩
   rw[hr];exact⟨rfl,fun _=>by simpa[QN]using h3⟩
  | skip=>rw[hr]at e3;exact .inr ⟨e3,rfl⟩
  | new c=>
   rw[hr]at e3 hti;refine .inl fun _=>Js (qp0 S hopd e3.2.2.1) fun v V'' G'' hp=>?_
   obtain⟨rfl,D,rfl,h3⟩:=hp;refine⟨Sub.refl _,fin (Jw e3.2.1) (Sub.refl _) (by rw[hr];trivial) (zr _) ?_⟩
   rw[hr];refine⟨fun e=>by simp[y7]at e,fun _=>by simpa[QN]using h3⟩
  | newL k=>
   rw[hr]at e3 hti;obtain⟨_,hn,c,t,p,q1,q2,q3,q4,q5⟩:=e3;refine .inl fun _=>Js (qp0 S hopd q1) fun v V'' G'' hp=>?_
   obtain⟨rfl,D,rfl,blk,vs,e,h3,h4,h5,h6⟩:=hp;have hno:=Jw hn;refine⟨Sub.refl _,fin hno (Sub.refl _) (by rw[hr];trivial) (zr _) ?_⟩
   rw[hr];have hd:∃d,o.dst=some d:=by
    cases hod:o.dst with
    | some d=>exact⟨d,rfl⟩
    | none=>
     rw[hod]at q2;have:∀l:List Oper,QS none l=none:=by
      intro l;induction l with
      | nil=>rfl
      | cons x l ih=>simpa[QS]using ih
     rw[this]at q2;cases q2
   obtain⟨d,hd⟩:=hd;have hnst : ¬Je l m (y7 b i) i:=fun h=>notStored d hd ((plain hno i).1 h)
   refine⟨fun e=>by simp[y7]at e,fun _=>⟨blk,by simpa[QN]using h3,fun _=>⟨vs,e,?_,h4⟩,fun h=>absurd h hnst⟩⟩
   rw[← h5.length,q4]
  | str d c on=>
   rw[hr]at e3 hti;obtain⟨_,t,x,sv,p,c2,q1,q2,q3,q4,q5,q6⟩:=e3;subst q5;refine .inl fun _=>?_
   obtain⟨w1,w2,w3,w4⟩:=J8 hsw hi ho q1;obtain⟨ods,oop,oty,opos,oaf,ogd⟩:=o;simp only[]at w1 w2;subst w1 w2
   have q1':=qcK q1;simp only[]at q1';subst q1';obtain⟨vx,hvx,hrx⟩:=hopd x (by simp[Op.operands]) sv q2
   have hlookd:d∈Oper.looksAt l.toArray ⟨none,.store t (.tmp d) x,oty,opos,oaf,none⟩:=inLook (.tmp d) (by simp[Op.operands]) d rfl
   have hT:=S.ty t (p.1,p.2) q3
   refine qbI fun hf=>?_
   obtain⟨V1,G1,us,g1,u1,u2,u3,u4,u5⟩:=qeC (hpre hf) hrx (c:=c2.1) (st':=c2.2) (by rw[q4])
   obtain⟨hV1,_,_⟩:=g1.no rfl;rw[hV1]at u1;have hlc:c2.1.length=us.length:=by
    have:∀ {a:List SV} {b:List Value},RepSs V' I a b→a.length=b.length:=by
     intro a;induction a with
     | nil=>intro b h;cases h;rfl
     | cons y a ih=>intro b h;cases h with|cons _ h'=>simp[ih h']
    exact this u1
   cases on with
   | some nn=>
    obtain⟨q7,q8⟩:=q6;obtain⟨va,hva,hra⟩:=known d _ q8 (by simp) hlookd
    cases hra with|@ref _ _ blk hI=>
    obtain⟨blk',vs,e,y1,y2,y3,y4⟩:=hY i _ hi hti;rw[hI]at y1;simp only[za,IE.blk.injEq]at y1;subst y1;obtain⟨R,r1,r2⟩:=Z1 Es i m hi;rw[y2]at r1;have hpo:Ow.Perm ((blk,Obj.cells vs.toArray e (0,0))::(R++G0)):=hperm.trans (r1.append_right G0)
    refine QW hpo (qeD S.tb (by simpa[ev]using hva) hvx u3 u4 hT u5 .here (ql9 (by omega)) ?_)
    refine⟨Sub.refl _,QG Es i [(blk,.cells us.toArray e (0,0))],?_,fun j tj hj htj=>?_⟩
    · exact((r2 [(blk,Obj.cells us.toArray e (0,0))]).append_right G0).symm
    · by_cases hji:j=i
      · subst hji
        rw[hti]at htj;simp only[za]at htj;subst htj;rw[show QG Es j [(blk,Obj.cells us.toArray e (0,0))] j=[(blk,.cells us.toArray e (0,0))] by simp[QG]];exact⟨blk,us,e,hI,rfl,by omega,fun _=>⟨u1,u2⟩⟩
      · rw[show QG Es i [(blk,Obj.cells us.toArray e (0,0))] j=Es j by simp[QG,hji]]
        refine keep (Sub.refl _) j tj hj hji htj ?_ (hY j tj hj htj)
        constructor
        · rintro⟨s,os,d',t',x',oi,h1,h2,h3,h4,h5,h6⟩
          by_cases hsi:s=i
          · subst hsi
            rw[ho]at h3;simp only[za]at h3;subst h3;simp only[qU,za,Km]at h4;obtain⟨rfl,_⟩:=h4;have:=qcJ (l:=l) h5 h6
            rw[show l.toArray.toList=l by simp]at q7;rw[this]at q7;cases q7
          · exact⟨s,os,d',t',x',oi,h1,by simpa[y7,hsi]using h2,h3,h4,h5,h6⟩
        · rintro⟨s,os,d',t',x',oi,h1,h2,h⟩
          exact⟨s,os,d',t',x',oi,h1,by simp[y7,h2],h⟩
   | none=>
    rw[show l.toArray.toList=l by simp]at q6;obtain⟨pp,op,hpm,hop,hpd⟩:=w4 q6;have hpi:pp≠i:=fun e=>by subst e;rw[ho]at hop;simp only[za]at hop;subst hop;cases hpd
    obtain⟨_,w5⟩:=w3 pp op hpm hop hpi;obtain⟨z1,z2,z3,z4⟩:=w5 hpd;have hbp:=hanc pp z2;have htp:TRs[pp]?=some TRs[pp]:=by simp
    obtain⟨stp,f1,f2,f3⟩:=hinfo pp op _ hpm hop htp;have hrest:((l.take m).drop (pp+1))[i-(pp+1)]?=some ⟨none,.store t (.tmp d) x,oty,opos,oaf,none⟩:=by
     rw[KZ,show pp+1+(i-(pp+1))=i by omega,zZ,z6 hi];exact ho
    have hkk:TRs[pp] = .newL p.2:=by
     cases hq:TRs[pp]with
     | newL k=>
      rw[hq]at f3;obtain⟨_,_,c',t',p',_,a2,a3,_,a5⟩:=f3;rw[hpd]at a2;obtain⟨i',o',x',b1,b2⟩:=qbb a2;rw[KZ,zZ]at b1;split at b1
      · rename_i hlt
        have hsame:pp+1+i'=i:=by
         by_cases h:pp+1+i'=i
         · exact h
         · exfalso
           have:=(w3 (pp+1+i') o' hlt b1 h).1
           exact this (qdb b2)
        rw[hsame,ho]at b1;simp only[za]at b1;subst b1;simp only[qU,za,Km]at b2;obtain⟨_,rfl,_⟩:=b2;rw[q3]at a3;simp only[za]at a3;subst a3;rw[a5]
      · cases b1
     | val s=>
      rw[hq]at f3;exact absurd (show Jq op.op=false from f3.2.1) (by rw[z1];simp)
     | skip=>
      rw[hq]at f3;have f3:ju l.toArray op stp false:=f3
      unfold ju at f3;rw[z3]at f3;cases f3
     | new c'=>
      rw[hq]at f3;have:=f3.2.2.2
      rw[hpd]at this;exact absurd this (qeU hrest rfl)
     | str d' c' on'=>
      rw[hq]at f3;obtain⟨_,_,_,_,_,_,a1,_⟩:=f3;rw[Jw z1]at a1;cases a1
    have hyp:=hY pp _ hpm htp;rw[hkk]at hyp;obtain⟨blk,y1,y2,_⟩:=hyp.2 hbp;have hnst : ¬Je l m b pp:=by
     rintro⟨s,os,d',t',x',oi,h1,h2,h3,h4,h5,h6⟩
     rw[hop]at h5;simp only[za]at h5;subst h5;rw[hpd]at h6;simp only[za]at h6;subst h6;by_cases hsi:s=i
     · subst hsi;rw[hbi]at h2;cases h2
     · exact(w3 s os h1 h3 hsi).1 (qdb h4)
    obtain⟨vs,e,y3,y4⟩:=y2 hnst;have hva:lk (QM b l vals L m) d=some (ptr blk):=by
     rw[Jv hP hpm hbp hop hpd m hpm (zI _),y1]
    have hEi:Es i=[]:=eEmpty hti trivial
    obtain⟨R,r1,r2⟩:=Z1 Es pp m hpm;rw[y4]at r1;obtain⟨R2,r3,r4⟩:=Z1 (QG Es pp []) i m hi
    rw[show QG Es pp [] i=Es i by simp[QG,Ne.symm hpi],hEi,zy]at r3;have hpo:Ow.Perm ((blk,Obj.cells vs.toArray e (0,0))::(R++G0)):=hperm.trans (r1.append_right G0)
    refine QW hpo (qeD S.tb (by simpa[ev]using hva) hvx u3 u4 hT u5 .here (ql9 (by omega)) ?_)
    refine⟨Sub.refl _,QG (QG Es pp []) i [(blk,.cells us.toArray e (0,0))],?_,fun j tj hj htj=>?_⟩
    · have h1:=(r2 []).symm.trans r3
      rw[zy]at h1;refine List.Perm.trans ?_ ((r4 [(blk,Obj.cells us.toArray e (0,0))]).append_right G0).symm
      exact(h1.cons _).append_right G0
    · by_cases hji:j=i
      · subst hji
        rw[hti]at htj;simp only[za]at htj;subst htj;rw[show QG (QG Es pp []) j [(blk,Obj.cells us.toArray e (0,0))] j=[(blk,.cells us.toArray e (0,0))] by simp[QG]];refine⟨fun e=>by simp[y7]at e,fun _=>⟨blk,us,e,fun p' o' hp' ho' hd'=>?_,rfl,u1,u2⟩⟩
        have:p'=pp:=by
         by_cases h:p'=pp
         · exact h
         · exact absurd hd' (Qk hP hpm hop hpd hp' ho' h).1
        subst this;simpa[QN,hpi]using y1
      · by_cases hjp:j=pp
        · subst hjp
          rw[htp]at htj;simp only[za]at htj;subst htj;rw[show QG (QG Es j []) i [(blk,Obj.cells us.toArray e (0,0))] j=[] by simp[QG,hji]];rw[hkk];have hst:Je l m (y7 b i) j:=⟨i,_,d,t,x,op,hi,by simp[y7],ho,rfl,hop,hpd⟩
          exact⟨fun _=>rfl,fun _=>⟨blk,by simpa[QN,hji]using y1,fun h=>absurd hst h,fun _=>rfl⟩⟩
        · rw[show QG (QG Es pp []) i [(blk,Obj.cells us.toArray e (0,0))] j=Es j by simp[QG,hji,hjp]]
          refine keep (Sub.refl _) j tj hj hji htj ?_ (hY j tj hj htj)
          constructor
          · rintro⟨s,os,d',t',x',oi,h1,h2,h3,h4,h5,h6⟩
            by_cases hsi:s=i
            · subst hsi
              rw[ho]at h3;simp only[za]at h3;subst h3;simp only[qU,za,Km]at h4;obtain⟨rfl,_⟩:=h4;exact absurd h6 (Qk hP hpm hop hpd hj h5 hjp).1
            · exact⟨s,os,d',t',x',oi,h1,by simpa[y7,hsi]using h2,h3,h4,h5,h6⟩
          · rintro⟨s,os,d',t',x',oi,h1,h2,h⟩
            exact⟨s,os,d',t',x',oi,h1,by simp[y7,h2],h⟩
 have hguard:∃yes,ju l.toArray o sti yes∧(yes=true→TRs[i]≠.skip)∧(yes=false→TRs[i] = .skip):=by
  cases hr:TRs[i]with
  | skip=>rw[hr]at e3;exact⟨false,e3,by simp,by simp⟩
  | _=>rw[hr]at e3;exact⟨true,e3.1,by simp,by simp⟩
 obtain⟨yes,g1,g2,g3⟩:=hguard;split
 · rename_i hgd
   unfold ju at g1;rw[hgd]at g1;simp only[]at g1;subst g1;rcases hdone with h|⟨_,h⟩
   · exact h (by unfold ju;rw[hgd])
   · exact absurd h (g2 rfl)
 · rename_i g c hgd
   have g1':=g1;unfold ju at g1;rw[hgd]at g1;obtain⟨gd,k1,hk⟩:=g1;obtain⟨hgi,hga,og,dg,hog,hodg⟩:=qc7 hGd hi ho hgd;have hdg:og.dst=some gd:=by
    have:l.toArray[g]?=some og:=by simpa using hog
    rw[this]at k1;simpa using k1
   have hlook:gd∈o.looksAt l.toArray:=by
    unfold Oper.looksAt;rw[hgd];have:l.toArray[g]?=some og:=by simpa using hog
    simp[this,hdg]
   have skipped:yes=false→qp1 l m TRs I G0 (y7 b i) (QN vals i undef) Ow V':=by
    rintro rfl
    have hno:qU o.op=none:=by
     cases hst:qU o.op with
     | none=>rfl
     | some z=>
      obtain⟨d,t,x⟩:=z;have:=(J8 hsw hi ho hst).2.1
      rw[hgd]at this;cases this
    refine fin hno (Sub.refl _) (by rw[g3 rfl];trivial) (D:=[]) (zr _) ?_
    rw[g3 rfl];exact⟨rfl,fun _=>by simp[QN]⟩
   rcases hk with⟨cc,k2,k3⟩|⟨k2,k3⟩
   · obtain⟨v,hv,hr⟩:=known gd _ k2 (by simp[mkB]) hlook
     have hvv:=jY hr;have hvg:vals g = .bool cc:=by
      have:=Jv hP (show g<m by omega) (hanc g hga) hog hdg (L:=L) (vals:=vals) m (by omega) (zI _)
      rw[this]at hv;simp only[za]at hv;rw[hv,hvv]
     refine .inl ⟨cc,hvg,fun e=>?_,fun e=>?_⟩
     · subst e
       have:yes=true:=by rw[← k3];simp
       subst this;rcases hdone with h|⟨_,h⟩
       · exact h g1'
       · exact absurd h (g2 rfl)
     · subst e
       exact skipped (by rw[← k3];cases c <;> rfl)
   · obtain⟨v,hv,hr⟩:=known gd _ k2 (by simp) hlook
     have hvv:v=undef:=by cases hr with|un=>rfl
     have hvg:vals g=undef:=by
      have:=Jv hP (show g<m by omega) (hanc g hga) hog hdg (L:=L) (vals:=vals) m (by omega) (zI _)
      rw[this]at hv;simp only[za]at hv;rw[hv,hvv]
     exact .inr ⟨hvg,skipped k3⟩
theorem IPf.setd{H:List OB}{I:List IE}{n:Nat}{ob ob':OB}(hn:H[n]?=some ob)(hnr:∀e k l,ob≠.row true e k l):IPf H I (H.set n ob') I :=
 ⟨fun _ _ h=>h,fun m e k x hm=>⟨rfl,x,by
   rw[Kh]
   · exact hm
   · rintro rfl;rw[hn]at hm;simp only[za]at hm;exact hnr _ _ _ hm⟩,zI _⟩
structure Hid (E:Env) (V:qc) (I:List IE) (L:Lo) (all ops:List Oper) (st st0:St) (G G0:Own) (Ds:Nat→Own):Prop where
 sr:SR V I st0 L G0
 look:∀d,st0.look d=st.look d
 ipf:IPf st.H I st0.H I
 perm:G.Perm (jN Ds ops.length++G0)
 dead:∀n:Nat,st.H[n]?=some OB.dead→st0.H[n]?=some OB.dead
 here:∀(j:Nat) (o:Oper),ops[j]?=some o→∀d t x,qU o.op=some (d,t,x)→j7 d all=false→∃(nn blk:Nat) (vs:List Value) (e:Nat) (p:Bool×Nat),st.look d=some (.ref nn 0)∧I[nn]?=some (.blk blk)∧E.T.ty t=some p∧vs.length=p.2∧Ds j=[(blk,Obj.cells vs.toArray e (0,0))]∧st0.H[nn]?=some OB.dead∧∃c,st.H[nn]?=some (.cells c)
 none:∀(j:Nat) (o:Oper),ops[j]?=some o→(∀d t x,qU o.op=some (d,t,x)→j7 d all=true)→Ds j=[]
 dist:∀(j j':Nat) (o o':Oper) d t x d' t' x' nn nn',j<j'→ops[j]?=some o→ops[j']?=some o'→qU o.op=some (d,t,x)→j7 d all=false→qU o'.op=some (d',t',x')→j7 d' all=false→st.look d=some (.ref nn 0)→st.look d'=some (.ref nn' 0)→nn≠nn'
theorem qhM{O:Type}{r:O}{k:St→Option O}{all:List Oper}:∀(ops:List Oper) {st:St} {G:Own},qaN E all ops st k=some r→SR V I st L G→∃(st0:St) (G0:Own) (Ds:Nat→Own),k st0=some r∧Hid E V I L all ops st st0 G G0 Ds
 | [],st,G,he,hS=>⟨st,G,fun _=>[],he,hS,fun _=>rfl,IPf.refl _ _,by simp[jN],fun _ h=>h,fun j o h=>by simp at h,fun j o h=>by simp at h,fun j j' o o' d t x d' t' x' nn nn' _ h=>by simp at h⟩
 | o::ops,st,G,he,hS=>by
  unfold qaN at he;have skip:qaN E all ops st k=some r→(∀d t x,qU o.op=some (d,t,x)→j7 d all=true)→∃(st0:St) (G0:Own) (Ds:Nat→Own),k st0=some r∧Hid E V I L all (o::ops) st st0 G G0 Ds:=fun he hno=>by
   obtain⟨st0,G0,Ds,a1,a2⟩:=qhM ops he hS;refine⟨st0,G0,qgo [] Ds,a1,a2.sr,a2.look,a2.ipf,by rw[zf,qbc];simpa using a2.perm,a2.dead,fun j oj hj=>?_,fun j oj hj=>?_,fun j j' oj oj' d t x d' t' x' nn nn' hjj hj hj' h1 h2 h3 h4 h5 h6=>?_⟩
   · cases j with
     | zero=>
      simp at hj;subst hj;exact fun d t x h1 h2=>by rw[hno d t x h1]at h2;cases h2
     | succ j=>exact a2.here j oj (by simpa using hj)
   · cases j with
     | zero=>exact fun _=>rfl
     | succ j=>exact a2.none j oj (by simpa using hj)
   · cases j' with
     | zero=>omega
     | succ j'=>
      cases j with
      | zero=>
       simp at hj;subst hj;rw[hno d t x h1]at h2;cases h2
      | succ j=>exact a2.dist j j' oj oj' d t x d' t' x' nn nn' (by omega) (by simpa using hj) (by simpa using hj') h1 h2 h3 h4 h5 h6
  cases hst:qU o.op with
  | none=>rw[hst]at he;exact skip he fun d t x h=>by rw[hst]at h;cases h
  | some z=>
   obtain⟨d0,t0,x0⟩:=z;rw[hst]at he;simp only[]at he;cases hd:j7 d0 all with
   | true=>
    rw[hd]at he;exact skip he fun d t x h=>by
     rw[hst]at h;simp only[za,Km]at h;obtain⟨rfl,_⟩:=h;exact hd
   | false=>
    rw[hd,zo]at he;split at he
    · rename_i n0 hl
      replace he:=qf he;obtain⟨p,hp,he⟩:=he
      split at he
      · rename_i c hn
        cases hb:Nat.beq c.length p.2 with
        | false=>rw[hb]at he;simp at he
        | true=>
         rw[hb,zg]at he;obtain⟨ie,g,G2,k1,k2,k3,k4⟩:=hS.turn hn;cases k2 with|@cells _ vs blk e h1 h2=>
         have hS':=k4 .dead [] .dead
         rw[zy]at hS';obtain⟨st0,G0,Ds,a1,a2⟩:=qhM ops he hS';have hdead:(st.H.set n0 OB.dead)[n0]?=some .dead:=by rw[Vj (zu.1 hn).1]
         have hlen:vs.length=p.2:=by
          have:∀ {a:List SV} {b:List Value},RepSs V I a b→a.length=b.length:=by
           intro a;induction a with
           | nil=>intro b h;cases h;rfl
           | cons y a ih=>intro b h;cases h with|cons _ h'=>simp[ih h']
          rw[← this h1];exact zd hb
         refine⟨st0,G0,qgo [(blk,.cells vs.toArray e (0,0))] Ds,a1,a2.sr,a2.look,(IPf.setd hn (by simp)).trans a2.ipf,?_,?_,?_,?_,?_⟩
         · rw[zf,qbc,zw]
           exact k3.trans (a2.perm.append_left _)
         · intro m hm
           refine a2.dead m ?_
           by_cases hmn:n0=m
           · subst hmn;exact hdead
           · show(st.H.set n0 OB.dead)[m]?=_
             rw[Kh hmn];exact hm
         · intro j oj hj d t x h3 h4
           cases j with
           | zero=>
            simp at hj;subst hj;rw[hst]at h3;simp only[za,Km]at h3;obtain⟨rfl,rfl,rfl⟩:=h3;exact⟨n0,blk,vs,e,p,hl,k1,hp,hlen,rfl,a2.dead n0 hdead,c,hn⟩
           | succ j=>
            obtain⟨nn,blk',vs',e',p',c1,c2,c3,c4,c5,c6,c',c7⟩:=a2.here j oj (by simpa using hj) d t x h3 h4
            have hne:n0≠nn:=fun e=>by
             subst e;have c7:(st.H.set n0 OB.dead)[n0]?=some (.cells c'):=c7
             rw[hdead]at c7;cases c7
            have c7:(st.H.set n0 OB.dead)[nn]?=some (.cells c'):=c7
            rw[Kh hne]at c7;exact⟨nn,blk',vs',e',p',c1,c2,c3,c4,c5,c6,c',c7⟩
         · intro j oj hj h3
           cases j with
           | zero=>
            simp at hj;subst hj;rw[h3 d0 t0 x0 hst]at hd;cases hd
           | succ j=>exact a2.none j oj (by simpa using hj) h3
         · intro j j' oj oj' d t x d' t' x' nn nn' hjj hj hj' h3 h4 h5 h6 h7 h8
           cases j' with
           | zero=>omega
           | succ j'=>
            cases j with
            | zero=>
             simp at hj;subst hj;rw[hst]at h3;simp only[za,Km]at h3;obtain⟨rfl,rfl,rfl⟩:=h3;rw[hl]at h7;simp only[za,SV.ref.injEq]at h7;obtain⟨rfl,_⟩:=h7;obtain⟨nn2,_,_,_,_,c1,_,_,_,_,_,c',c7⟩:=a2.here j' oj' (by simpa using hj') d' t' x' h5 h6
             have c1:st.look d'=some (.ref nn2 0):=c1
             rw[h8]at c1;simp only[za,SV.ref.injEq]at c1;obtain⟨rfl,_⟩:=c1
             rintro rfl
             have c7:(st.H.set n0 OB.dead)[n0]?=some (.cells c'):=c7
             rw[hdead]at c7;cases c7
            | succ j=>exact a2.dist j j' oj oj' d t x d' t' x' nn nn' (by omega) (by simpa using hj) (by simpa using hj') h3 h4 h5 h6 h7 h8
      · simp at he
    · simp at he
theorem qtM{I0:List IE}{st:St}{A:Own}{dd:Option Nat}{b e:Nat}{vs:List Value}{c:List SV}(hI:Ile I0 I)(hS:SR V I st L (A++G))(hr:RepSs V I0 c vs)(hc:∀s∈c,jG s=true)(hv:∀d,dd=some d→lk L d=some (ptr b)) :
 SR V (I++[.blk b]) { putD E st dd (.ref st.H.length 0)with H:=st.H++[.cells c] } L ((A++[(b,.cells vs.toArray e (0,0))])++G):=by
 have a1:=hS.new (Is:=[.blk b]) (Hs:=[.cells c]) (g:=[(b,.cells vs.toArray e (0,0))]) (.cons (g:=[(b,.cells vs.toArray e (0,0))]) (G:=[]) (.cells (hr.mono (Sub.refl _) fun n ie h=>Ile.app _ _ n ie (hI n ie h)) hc) .nil)
 have hp:((A++[(b,Obj.cells vs.toArray e (0,0))])++G).Perm ([(b,Obj.cells vs.toArray e (0,0))]++(A++G)):=by
  rw[zw];exact(zF (l₁:=A) (l₂:=[(b,Obj.cells vs.toArray e (0,0))]++G)).trans (by
   simp only[WM,zD];exact(zF).cons _)
 cases dd with
 | none=>exact a1.perm hp
 | some d=>
  have a2:=(a1.reput E.keep d (sv:=.ref st.H.length 0) (hv d rfl) (.ref (by rw[← hS.len];simp))).perm hp
  rw[← qwI]at a2;exact a2
theorem qbT{l:List Oper}{ms:List Nat}{m:Nat}{TRs:List TR}{vals:Nat→Value}{Es:Nat→Own}{I0:List IE}(hml:m≤l.length)(htl:TRs.length=m)(hL:∀j o t,j<m→l[j]?=some o→o.dst=some t→lk L t=some (vals j))
 (hY:∀i t,i<m→TRs[i]?=some t→Yi l m I0 (fun i=>decide (i<m)) vals V i (Es i) t)
 (hnl:∀i k,i<m→TRs[i]?=some (.newL k)→Je l m (fun i=>decide (i<m)) i)
 (hst:∀i d c,i<m→TRs[i]?=some (.str d c none)→∃p o,p<m∧l[p]?=some o∧o.dst=some d)
 (hdist:∀j j' d c nn d' c' nn',j<j'→j'<m→TRs[j]?=some (.str d c (some nn))→TRs[j']?=some (.str d' c' (some nn'))→nn≠nn'):∀(r i:Nat) (st:St) (I:List IE),i+r=m→Ile I0 I→SR V I st L (jN Es i++G) →
 (∀j d c nn,i≤j→j<m→TRs[j]?=some (.str d c (some nn))→st.H[nn]?=some OB.dead) →
 ∃I',SR V I' (QC E st (yD ((l.take m).drop i) (TRs.drop i))) L (jN Es m++G)∧IPf st.H I (QC E st (yD ((l.take m).drop i) (TRs.drop i))).H I'∧(yD ((l.take m).drop i) (TRs.drop i)=[]→I'=I)
 | 0,i,st,I,hi,_,hS,_=>by
  have:i=m:=by omega
  subst this;rw[KW (show TRs.length≤i by omega)];have:yD ((l.take i).drop i) []=[]:=by cases(l.take i).drop i <;> rfl
  rw[this];exact⟨I,hS,IPf.refl _ _,fun _=>rfl⟩
 | r+1,i,st,I,hi,hI,hS,hdead=>by
  have him:i<m:=by omega
  have hil:i<(l.take m).length:=by rw[Ka];omega
  have hit:i<TRs.length:=by omega
  rw[Kj hil,Kj hit];have hlo:l[i]?=some (l.take m)[i]:=by
   rw[List.getElem_take];simp[show i<l.length by omega]
  have hti:TRs[i]?=some TRs[i]:=by simp
  have hy:=hY i _ him hti;have hb:(fun i=>decide (i<m)) i=true:=by simp[him]
  have pass:Es i=[]→∃I',SR V I' (QC E st (yD ((l.take m).drop (i+1)) (TRs.drop (i+1)))) L (jN Es m++G)∧IPf st.H I (QC E st (yD ((l.take m).drop (i+1)) (TRs.drop (i+1)))).H I'∧(yD ((l.take m).drop (i+1)) (TRs.drop (i+1))=[]→I'=I):=fun he=>
   qbT (ms:=ms) hml htl hL hY hnl hst hdist r (i+1) st I (by omega) hI (by simpa[jN,he]using hS) fun j d c nn hj=>hdead j d c nn (by omega)
  have push:∀ {dd:Option Nat} {b e:Nat} {vs:List Value} {c:List SV},Es i=[(b,.cells vs.toArray e (0,0))]→RepSs V I0 c vs→(∀s∈c,jG s=true)→(∀d,dd=some d→lk L d=some (ptr b)) →
   ∃I',SR V I' (QC E st (.new dd c::yD ((l.take m).drop (i+1)) (TRs.drop (i+1)))) L (jN Es m++G)∧IPf st.H I (QC E st (.new dd c::yD ((l.take m).drop (i+1)) (TRs.drop (i+1)))).H I':=by
   intro dd b e vs c he h1 h2 h3;have a2:=qtM (E:=E) (e:=e) hI hS h1 h2 h3
   obtain⟨I',b1,b2,_⟩:=qbT (ms:=ms) hml htl hL hY hnl hst hdist r (i+1) _ (I++[.blk b]) (by omega) (fun n ie h=>Ile.app _ _ n ie (hI n ie h)) (by simpa[jN,he]using a2) fun j d c nn hj hjm ht=>by
    have hd:=hdead j d c nn (by omega) hjm ht
    have hlt:=(zu.1 hd).1
    show(st.H++[.cells _])[nn]?=_
    rw[Ki hlt];exact hd
   exact⟨I',b1,(IPf.app hS.len).trans b2⟩
  generalize ho:(l.take m)[i]=o at hlo
  cases hr:TRs[i]with
  | val sv=>rw[hr]at hy;simp only[yD];exact pass hy.1
  | skip=>rw[hr]at hy;simp only[yD];exact pass hy.1
  | newL k=>
   rw[hr]at hy hti;obtain⟨blk,_,_,h3⟩:=hy.2 hb;simp only[yD];exact pass (h3 (hnl i k him hti))
  | new c=>
   rw[hr]at hy;obtain⟨b,vs,e,h1,h2,h3,h4⟩:=hy.2 hb;simp only[yD];obtain⟨I',b1,b2⟩:=push (dd:=o.dst) h2 h3 h4 fun d hd=>by rw[hL i o d him hlo hd,h1]
   exact⟨I',b1,b2,fun h=>by simp at h⟩
  | str d c on=>
   rw[hr]at hy hti;cases on with
   | none=>
    obtain⟨b,vs,e,h1,h2,h3,h4⟩:=hy.2 hb;obtain⟨p,op,hp,hop,hod⟩:=hst i d c him hti;simp only[yD];obtain⟨I',b1,b2⟩:=push (dd:=some d) h2 h3 h4 fun d' hd=>by
     simp only[za]at hd;subst hd;rw[hL p op d hp hop hod,h1 p op hp hop hod]
    exact⟨I',b1,b2,fun h=>by simp at h⟩
   | some nn=>
    obtain⟨b,vs,e,h1,h2,_,h5⟩:=hy;obtain⟨h3,h4⟩:=h5 hb;have hd:=hdead i d c nn (zI _) him hti
    obtain⟨ie,g,G1,k1,k2,k3,k4⟩:=hS.turn hd;have hie:=hI nn _ h1;rw[k1]at hie;simp only[za]at hie;subst hie;cases k2;rw[zy]at k3;have a1:=k4 (.cells c) [(b,.cells vs.toArray e (0,0))] (.cells (h3.mono (Sub.refl _) hI) h4)
    have a2:=a1.perm (G':=jN Es (i+1)++G) (by
     simp only[jN,h2];rw[zw];refine(zF (l₁:=jN Es i) (l₂:=[(b,Obj.cells vs.toArray e (0,0))]++G)).trans ?_
     rw[zw];exact((zF).trans k3).append_left _)
    simp only[yD,QC];obtain⟨I',b1,b2,_⟩:=qbT (ms:=ms) hml htl hL hY hnl hst hdist r (i+1) ⟨st.K,st.Tm,st.H.set nn (.cells c)⟩ I (by omega) hI a2 fun j d' c' nn' hj hjm ht=>by
     have hd':=hdead j d' c' nn' (by omega) hjm ht
     have hne:=hdist i j d c nn d' c' nn' (by omega) hjm hti ht
     show(st.H.set nn (.cells c))[nn']?=_
     rw[Kh hne];exact hd'
    exact⟨I',b1,(IPf.setd hd (by simp)).trans b2,fun h=>by simp at h⟩
theorem qp3(S:Sound P E.T)(hC:qbO P E S){l:List Oper}{id m:Nat}{O:Type}{r:O}{k:St→Option O}{st:St}(hc:qhJ n l (Qb l []) m=true)(hsw:stW l (Qb l []) m=true)(hok:qi6 n l)
 (he:qaN E l (l.take m) st (fun st0=>Q7 E l.toArray l false m [] [] st0 k)=some r) (hS:SR V I st L G) (hg:GOK E.T V) (hk:∀(st1:St) (G1:Own),IPf st.H I st1.H I→JL P n X K E.T r k false (yP l) V I st1 G1):WC P n X L V G (.region id l.toArray true) K:=by
 have hc':=hc;simp only[qhJ,zp]at hc';obtain⟨⟨⟨⟨⟨⟨hGd,hdst⟩,hE⟩,hP⟩,hT⟩,hml⟩,hSel⟩:=hc';have hml:=zx hml;cases m with
 | zero=>
  simp only[List.take_zero,qaN]at he;refine qcI 0 (fun _ _ Ow _=>Ow.Perm G) S.mo rfl hc (fun _=>undef) (zr _) (fun i o hi=>by omega) fun vals Ow V' hs hp=>?_
  simp only[QM,Vm];exact qhG S hC l r k false [] [] st L V' Ow I he hok ((hS.mono hs).perm hp) (hg.mono hs) fun st' L' V2 G2 I2 h1 h2 h3 h4 h5 h6=>hk st G (IPf.refl _ _) st' L' V2 G2 I2 h1 h2 h3 (hs.trans h4) h5 fun e=>by simp at e
 | succ mm=>
  obtain⟨st0,G0,Ds,he0,hH⟩:=qhM _ he hS;obtain⟨tr,stf,nwf,O',r',k',q',D',p1,p2,p3,p4,p5,p6⟩:=qtG (all:=l.toArray) mm l r k false [] [] _ he0 hml (hk st0 G0 hH.ipf) fun e=>by simp at e
  have hst0:yq l tr st0 0 st0:=fun t sv ht hb=>.inr ⟨fun j o hj=>by omega,ht⟩
  have hsd:∀i o,i<mm+1→l[i]?=some o→(qU o.op).isSome=true→o.dst=none:=by
   intro i o hi ho hs;cases hst:qU o.op with
   | none=>rw[hst]at hs;cases hs
   | some z=>obtain⟨d,t,x⟩:=z;exact(J8 hsw hi ho hst).1
  obtain⟨i1,i2,i3⟩:=qkX hml hsd p2 0 rfl rfl (Wv _) rfl hst0
  have info:∀i' o r,i'<mm+1→l[i']?=some o→tr[i']?=some r→∃sti:St,sti.H=st0.H∧yq l tr st0 i' sti∧YZ E l.toArray ((l.take (mm+1)).drop (i'+1)) o sti r:=fun i' o' r' a b c=>i1 i' o' r' (Wv _) a b c
  have lat:∀ {j:Nat},j<mm+1→∃o,l[j]?=some o∧(l.take (mm+1))[j]?=some o:=fun {j} hj=>⟨l[j]'(by omega),by simp[show j<l.length by omega],by rw[zZ,z6 hj];simp[show j<l.length by omega]⟩
  have old:∀j d c nn,j<mm+1→tr[j]?=some (.str d c (some nn))→∃o t x p c2,l[j]?=some o∧(l.take (mm+1))[j]?=some o∧qU o.op=some (d,t,x)∧j7 d l=false∧st.look d=some (.ref nn 0)∧E.T.ty t=some p∧c2.1=c∧∃sti sv,cellsOf false sti p.1 p.2 sv=some c2:=by
   intro j d c nn hj ht;obtain⟨o,ho,ho'⟩:=lat hj;obtain⟨sti,e1,e2,_,t,x,sv,p,c2,q1,q2,q3,q4,q5,q6,q7⟩:=info j o _ hj ho ht;rw[show l.toArray.toList=l by simp]at q6;rcases e2 d _ q7 (by simp)with⟨j',oj,_,_,k1,k2,_⟩|⟨_,k2⟩
   · rw[qcJ k1 k2]at q6;cases q6
   · exact⟨o,t,x,p,c2,ho,ho',q1,q6,by rw[← hH.look];exact k2,q3,q5,sti,sv,q4⟩
  have hlen:∀ {V:qc} {I:List IE} {a:List SV} {b:List Value},RepSs V I a b→a.length=b.length:=by
   intro V I a;induction a with
   | nil=>intro b h;cases h;rfl
   | cons y a ih=>intro b h;cases h with|cons _ h'=>simp[ih h']
  refine qcI (mm+1) (qp1 l (mm+1) tr I G0) S.mo rfl hc (fun _=>undef) ?_ (fun i o hi ho=>qp2 S hC hP hGd hsw hml hH.sr hg p1 info i o hi ho) fun vals Ow V' hs hY=>?_
  · -- before anything is carried out
    have hlt:(l.take (mm+1)).length=mm+1:=by rw[Ka];omega
    have hp:=hH.perm;rw[hlt]at hp;refine⟨Ds,hp,fun i t hi ht=>?_⟩
    obtain⟨o,ho,ho'⟩:=lat hi;obtain⟨sti,e1,e2,e3⟩:=info i o t hi ho ht;have non:(∀d t x,qU o.op=some (d,t,x)→j7 d l=true)→Ds i=[]:=hH.none i o ho'
    have nonS:qU o.op=none→Ds i=[]:=fun h=>non fun d t x h'=>by rw[h]at h';cases h'
    cases t with
    | val sv=>
     refine⟨nonS ?_,fun e=>by cases e⟩
     cases hst:qU o.op with
     | none=>rfl
     | some z=>
      obtain⟨d,t,x⟩:=z;have h1:=e3.2.2 Unit (fun _ _=>some ())
      rw[show Zf E false sti o (fun _ _=>some ())=none by unfold Zf;rw[qcK hst];simp[qbx]]at h1;cases h1
    | skip=>
     refine⟨nonS ?_,fun e=>by cases e⟩
     cases hst:qU o.op with
     | none=>rfl
     | some z=>
      obtain⟨d,t,x⟩:=z;have hgn:=(J8 hsw hi ho hst).2.1
      have e3:ju l.toArray o sti false:=e3
      unfold ju at e3;rw[hgn]at e3;cases e3
    | new c=>exact⟨fun _=>nonS (Jw e3.2.1),fun e=>by cases e⟩
    | newL k=>exact⟨fun _=>nonS (Jw e3.2.1),fun e=>by cases e⟩
    | str d c on=>
     cases on with
     | none=>
      obtain⟨_,t,x,sv,p,c2,q1,q2,q3,q4,q5,q6⟩:=e3;rw[show l.toArray.toList=l by simp]at q6;exact⟨fun _=>non fun d' t' x' h=>by rw[q1]at h;simp only[za,Km]at h;obtain⟨rfl,_⟩:=h;exact q6,fun e=>by cases e⟩
     | some nn=>
      obtain⟨o2,t,x,p,c2,h1,h2,h3,h4,h5,h6,h7,sti',sv',h8⟩:=old i d c nn hi ht;obtain⟨nn',blk,vs,e,p',c1,c2',c3,c4,c5,c6,_⟩:=hH.here i o2 h2 d t x h3 h4;rw[h5]at c1;simp only[za,SV.ref.injEq]at c1;obtain⟨rfl,_⟩:=c1;rw[h6]at c3;simp only[za]at c3;subst c3;refine⟨blk,vs,e,c2',c5,?_,fun e=>by cases e⟩
      rw[c4,← h7];unfold cellsOf at h8;cases hp1:p.1 with
      | true=>
       rw[hp1]at h8;simp only[zg]at h8;split at h8
       · rename_i l'
         cases hb:(Nat.beq l'.length p.2&&JF l')with
         | false=>rw[hb]at h8;simp at h8
         | true=>
          rw[hb]at h8;simp only[zg,za]at h8;simp only[zp]at hb;rw[← h8];exact(zd hb.1).symm
       replace h8:=qf h8;obtain⟨q,_,h8⟩:=h8
       split at h8
       · rename_i l' _
         cases hb:Nat.beq l'.length p.2 with
         | false=>rw[hb]at h8;simp at h8
         | true=>
          rw[hb]at h8;simp only[zg,za]at h8;rw[← h8];have:∀l:List T,(mpT l).length=l.length:=by
           intro l;induction l with
           | nil=>rfl
           | cons a l ih=>simp[mpT,ih]
          rw[this];exact(zd hb).symm
       · simp at h8
      | false=>
       rw[hp1]at h8;simp only[zo]at h8;cases hb:(YR sv'&&Nat.beq p.2 1)with
       | false=>rw[hb]at h8;simp at h8
       | true=>
        rw[hb]at h8;simp only[zg,za]at h8;simp only[zp]at hb;rw[← h8];exact zd hb.2
  · obtain⟨Es,hperm,hYi⟩:=hY
    have hall:∀j o t,j<mm+1→l[j]?=some o→o.dst=some t→lk (QM (fun i=>decide (i<mm+1)) l vals L (mm+1)) t=some (vals j):=fun j o t hj h1 h2=>Jv hP hj (by simp[hj]) h1 h2 _ hj (zI _)
    have hS1:SR V' I stf (QM (fun i=>decide (i<mm+1)) l vals L (mm+1)) (jN Es 0++G0):=by
     refine⟨by rw[p6];exact(hH.sr.mono hs).mem,fun d sv hd hb=>?_⟩
     rcases i2 d sv hd hb with⟨j,o,t,hj,q1,q2,q3,q4⟩|⟨q1,q2⟩
     · have hy:=hYi j t hj q3
       refine⟨vals j,hall j o d hj q1 q2,?_⟩
       subst q4;cases t with
       | val s=>exact hy.2 (by simp[hj])
       | skip=>rw[hy.2 (by simp[hj])];exact .un
       | _=>exact absurd rfl hb
     · obtain⟨v,hv,hr⟩:=hH.sr.slot d sv q2 hb
       exact⟨v,Z0 hv _ fun j o hj _ ho=>q1 j o hj ho,hr.mono hs (Ile.refl _)⟩
    obtain⟨I',b1,b2,b3⟩:=qbT (E:=E) (ms:=Qb l []) hml p1 hall hYi (fun i k hi ht=>by
     obtain⟨o,ho,_⟩:=lat hi;obtain⟨_,_,_,_,_,c,t,p,_,a2,_⟩:=info i o _ hi ho ht;cases hod:o.dst with
     | none=>
      rw[hod]at a2;have:∀l:List Oper,QS none l=none:=by
       intro l;induction l with
       | nil=>rfl
       | cons x l ih=>simpa[QS]using ih
      rw[this]at a2;cases a2
     | some d=>
      rw[hod]at a2;obtain⟨i',o',x',c1,c2⟩:=qbb a2;rw[KZ,zZ]at c1;split at c1
      · rename_i hlt
        exact⟨_,o',d,t,x',o,hlt,by simp[hlt],c1,c2,ho,hod⟩
      · cases c1) (fun i d c hi ht=>by
     obtain⟨o,ho,_⟩:=lat hi;obtain⟨_,_,_,_,t,x,sv,p,c2,q1,q2,q3,q4,q5,q6⟩:=info i o _ hi ho ht;rw[show l.toArray.toList=l by simp]at q6;exact(J8 hsw hi ho q1).2.2.2 q6) (fun j j' d c nn d' c' nn' hjj hj' h1 h2=>by
     obtain⟨o,t,x,_,_,_,a2,a3,a4,a5,_⟩:=old j d c nn (by omega) h1
     obtain⟨o',t',x',_,_,_,a2',a3',a4',a5',_⟩:=old j' d' c' nn' hj' h2;exact hH.dist j j' o o' d t x d' t' x' nn nn' hjj a2 a2' a3 a4 a3' a4' a5 a5') (mm+1) 0 stf I (by omega) (Ile.refl _) hS1 fun j d c nn _ hj ht=>by
     obtain⟨o,t,x,_,_,_,a2,a3,a4,a5,_⟩:=old j d c nn hj ht;obtain⟨nn',_,_,_,_,c1,_,_,_,_,c6,_⟩:=hH.here j o a2 d t x a3 a4;rw[a5]at c1;simp only[za,SV.ref.injEq]at c1;obtain⟨rfl,_⟩:=c1;rw[p6];exact c6
    simp only[Vm]at b1 b2 b3;rw[zy]at i3;rw[← i3]at b1 b2 b3;refine qhG S hC _ r' k' q' [] D' _ _ V' _ I' p3 (fun x hx=>hok x (KY hx)) (b1.perm hperm) (hg.mono hs) ?_
    intro st' L' V2 G2 I2 h1 h2 h3 h4 h5 h6;refine p4 st' L' V2 G2 I2 h1 h2 h3 (hs.trans h4) (b2.trans h5) fun e=>?_
    have hn:=p5 e;obtain⟨c1,c2,c3⟩:=h6 e;rw[hn]at c1 c3;exact⟨c1,c2.trans (b3 hn),c3⟩
end
theorem qp4{P:Program}{T:Tbl}(S:Sound P T){pr:jl}{call:Zy}(hC:J5 P T S call)(hpr:JC P T S pr):ql5 P T pr call:=by
 intro E rfl hcall hprim n X H0 I0 hl0 hl1 id ops draw O r kn st L V G I K hok he hS hg hip hN;subst hcall;subst hprim;have hC:qbO P E S:=⟨hC,hpr⟩
 simp only[okC,zp,Ko]at hok;unfold qpb at he;simp only[qen]at he;have hcont:∀(st1:St) (G1:Own),IPf st.H I st1.H I→JL P n X K E.T r (fun st'=>kn (Qd E.base st')) false (yP ops.toList) V I st1 G1:=by
  intro st1 G1 h0 st' L' V' G' I' h1 h2 h3 h4 h5 _;obtain⟨I1,G1,a1,a2,a3⟩:=ZZ h2 hl0 hl1 (hip.trans (h0.trans h5))
  exact J7 (a2 X) (hN _ _ _ _ _ h1 a1 h3 a3)
 cases draw with
 | false=>
  simp only[zo,Bool.false_and,List.take_zero,qaN]at he;have:=qhG S hC ops.toList r _ false [] [] st L V G I he (fun x hx=>hok.1 x hx) hS hg (hcont st G (IPf.refl _ _)) (K:=K) (X:=X) (n:=n)
  have h2:=qa (id:=id) (l:=ops.toList) (by simpa using this)
  simpa using h2
 | true=>
  simp only[zg,Vi]at he hok;cases hbl:Nat.blt 5000 (E.T.dm E.f id)with
  | true=>
   rw[hbl]at he hok;simp only[zg]at he hok;cases hb9:Nat.beq (E.T.dm E.f id) 9999 with
   | true=>rw[hb9]at he;simp at he
   | false=>
    rw[hb9]at he hok;simp only[zo]at he hok;have:=qyw (id:=id) S hC (l:=ops.toList) (Bool.and_eq_true_iff.1 hok.2).1 (Bool.and_eq_true_iff.1 hok.2).2 (fun x hx=>hok.1 x hx) (by simpa using he) hS hg hcont (K:=K) (X:=X)
    simpa using this
  | false=>
  rw[hbl]at he hok;simp only[zo]at he hok;have:=qp3 (id:=id) S hC (l:=ops.toList) (Bool.and_eq_true_iff.1 hok.2).1 (Bool.and_eq_true_iff.1 hok.2).2 (fun x hx=>hok.1 x hx) (by simpa using he) hS hg hcont (K:=K) (X:=X)
  simpa using this
end Su
