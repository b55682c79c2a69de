/-
  An evaluator of the program's functions over trees of values, proved sound. No condition.
-/
import Derived.Test.YtldhknmacepeiaaGreatDoorSuXb
set_option linter.unusedVariables false
set_option linter.unusedSimpArgs false
set_option maxRecDepth 10000
namespace Su
open Go Fly
abbrev ptr(b:Nat):Value:=.pointer (some ⟨b,0,none⟩)
def qf7(V:qa)(I:List IE)(c:List SV)(v:Value)(E:Own):Prop:=∃(b:Nat) (vs:List Value) (e:Nat),v=ptr b∧E=[(b,.cells vs.toArray e (0,0))]∧RepSs V I c vs∧∀s∈c,jA s=true
theorem qf7.mono{V V':qa}{I:List IE}(hs:Sub V V'){c:List SV}{v:Value}{E:Own}(h:qf7 V I c v E):qf7 V' I c v E:=by
 obtain⟨b,vs,e,h1,h2,h3,h4⟩:=h;exact⟨b,vs,e,h1,h2,h3.mono hs (Ile.refl _),h4⟩
section
variable {P:Program} {E:Env} {n:Nat} {X:Cx} {L:Lo} {V:qa} {I:List IE} {G:Own} {K:List KI}
theorem GR.mr_more{V V':qa}{H:List OB}(h:GR V I H G)(hs:Sub V V'){G':Own}(hsub:∀p∈G,p∈G'):MR V' I H G':=by
 obtain⟨G0,h1,h2⟩:=h;exact⟨G0,h1.mono hs (Ile.refl _),fun p hp=>hsub p (h2.mem_iff.2 hp)⟩
theorem qpn(S:Sound P E.T){st:St}{o:Oper}{c:List SV}(hx:∀x∈o.op.operands.toList,ji E st V I L x)(he:QG E st o.op=some c) :
 Opr P n X L V G o fun v V' G'=>V'=V∧∃D,G'=D++G∧qf7 V I c v D:=by
 obtain⟨ds,op,ty,pos,af,gd⟩:=o;cases op with
 | alloc e=>
  simp only[QG]at he;replace he:=qb he;obtain⟨z,hz,he⟩:=he
  simp only[za]at he;subst he;obtain⟨h1,h2⟩:=qal (V:=V) (hs:=E.T.zs e) (S.zc _ _ hz)
  exact jX S.tb (S.ze _ _ hz) fun b=>⟨rfl,[_],rfl,b,z,e,rfl,rfl,RepSs.ofT h1,ZS h2⟩
 | box e x=>
  simp only[QG]at he;replace he:=qb he;obtain⟨sv,hsv,he⟩:=he
  obtain⟨v,hv,hr⟩:=hx x (by simp[Op.operands]) sv hsv
  have one:c=[sv]→YH sv=true→Opr P n X L V G ⟨ds,.box e x,ty,pos,af,gd⟩ fun v V' G'=>V'=V∧∃D,G'=D++G∧qf7 V I c v D:=by
   rintro rfl h1
   obtain⟨h2,h3,h4⟩:=ZR hr h1;exact Y4 hv h3 fun b=>⟨rfl,[_],rfl,b,[v],e,rfl,rfl,.cons hr .nil,by simpa using h4⟩
  cases sv with
  | t x'=>
   cases x' with
   | agg l=>
    simp[Y7]at he;subst he;cases hr with | t hr=>cases hr with | agg h1 h2=>
    exact qO hv fun b=>⟨rfl,[_],rfl,b,_,e,rfl,rfl,RepSs.ofT h1,ZS h2⟩
   | _=>simp[Y7]at he;exact one he.symm rfl
  | tup l=>simp[Y7]at he
  | st l=>
   simp only[Y7]at he;cases ho:Jy l with
   | false=>rw[ho]at he;simp at he
   | true=>
    rw[ho]at he;simp only[zd,za]at he;subst he;cases hr with | st h1=>
    exact qO hv fun b=>⟨rfl,[_],rfl,b,_,e,rfl,rfl,h1,(qby h1 ho).1⟩
  | un=>simp[Y7]at he
  | bad=>simp[Y7]at he
  | _=>simp[Y7]at he;exact one he.symm rfl
 | _=>simp[QG]at he
theorem qc5{d:Nat}:∀ {l:List Oper},jV d l=true→∃(i:Nat) (o:Oper),l[i]?=some o∧o.dst=some d
 | [],h=>by simp[jV]at h
 | o::l,h=>by
  simp only[jV,VJ]at h;rcases h with h | h
  · split at h
    · rename_i d' hd'
      have:=zb h;subst this
      exact⟨0,o,rfl,hd'⟩
    · cases h
  · obtain⟨i,o',h1,h2⟩:=qc5 h
    exact⟨i+1,o',by simpa using h1,h2⟩
theorem qcC{d:Nat}:∀ {l:List Oper} {i:Nat} {o:Oper},l[i]?=some o→o.dst=some d→jV d l=true
 | [],_,_,h,_=>by simp at h
 | o::l,0,o',h,hd=>by
  simp at h;subst h;simp[jV,hd]
 | o::l,i+1,o',h,hd=>by
  simp only[jV,VJ];exact .inr (qcC (by simpa using h) hd)
theorem J0{l:List Oper}{ms:List Nat}{m:Nat}(h:stW l ms m=true){s:Nat}{o:Oper}(hs:s<m)(ho:l[s]?=some o){d t:Nat}{x:Operand}(hst:qU o.op=some (d,t,x)) :
 o.dst=none∧o.guard=none∧(∀q oq,q<m→l[q]?=some oq→q≠s→d ∉ oq.looksAt l.toArray∧(oq.dst=some d→Jg oq.op=true∧yz ms s q=true∧oq.guard=none∧q<s))∧(jV d l=true→∃p op,p<m∧l[p]?=some op∧op.dst=some d):=by
 simp only[stW,Ko]at h;have h1:=h (o,s) (by rw[Kx];simp[hs,ho])
 simp only[hst,zh,Ko]at h1;obtain⟨⟨⟨h2,h3⟩,h4⟩,h5⟩:=h1;refine⟨by simpa using h2,by simpa using h3,fun q oq hq hoq hne=>?_,fun hd=>?_⟩
 · have h6:=h4 (oq,q) (by rw[Kx];simp[hq,hoq])
   simp only[VJ,VU,zh,VS,List.contains_eq_mem,decide_eq_false_iff_not]at h6;rcases h6 with h6 | ⟨h6,h7⟩
   · exact absurd h6.symm hne
   · refine⟨h6,fun e=>?_⟩
     rw[e]at h7;simp only[beq_self_eq_true,zd,zh]at h7;obtain⟨⟨⟨a1,a2⟩,a3⟩,a4⟩:=h7;exact⟨a1,a2,by simpa using a3,by simpa[VO]using a4⟩
 · rw[hd]at h5
   simp only[Bool.not_true,WO]at h5;obtain⟨p,op,h6,h7⟩:=qc5 h5;rw[zY]at h6;split at h6
   · rename_i hp;exact⟨p,op,hp,h6,h7⟩
   · cases h6
theorem qa4{d t:Nat}:∀ {l:List Oper},QH (some d) l=some t→∃(i:Nat) (o:Oper) (x:Operand),l[i]?=some o∧qU o.op=some (d,t,x)
 | [],h=>by simp[QH]at h
 | o::l,h=>by
  simp only[QH]at h;have rec_:QH (some d) l=some t→∃(i:Nat) (o':Oper) (x:Operand),(o::l)[i]?=some o'∧qU o'.op=some (d,t,x):=fun h=>by
   obtain⟨i,o',x,h1,h2⟩:=qa4 h;exact⟨i+1,o',x,by simpa using h1,h2⟩
  cases hs:qU o.op with
  | none=>rw[hs]at h;exact rec_ h
  | some z=>
   obtain⟨d',t',x⟩:=z;rw[hs]at h;simp only[]at h;cases hb:Nat.beq d' d with
   | false=>rw[hb]at h;exact rec_ h
   | true=>
    rw[hb]at h;have:=zb hb;subst this
    simp only[zd,za]at h;subst h;exact⟨0,o,x,rfl,hs⟩
theorem qeG{d:Nat}:∀ {l:List Oper} {i:Nat} {o:Oper} {t:Nat} {x:Operand},l[i]?=some o→qU o.op=some (d,t,x)→QH (some d) l≠none
 | [],_,_,_,_,h,_=>by simp at h
 | o::l,0,o',t,x,h,hs=>by
  simp at h;subst h;simp[QH,hs]
 | o::l,i+1,o',t,x,h,hs=>by
  have ih:=qeG (l:=l) (i:=i) (by simpa using h) hs
  simp only[QH];cases hs':qU o.op with
  | none=>exact ih
  | some z=>
   obtain⟨d',t',x'⟩:=z;simp only[];cases hb:Nat.beq d' d with
   | false=>exact ih
   | true=>simp
def Qv(Es:Nat→Own)(i:Nat)(E:Own):Nat→Own:=fun j=>if j=i then E else Es j
theorem qc6{f g:Nat→Own}:∀m,(∀i,i<m→f i=g i)→jH f m=jH g m
 | 0,_=>rfl
 | m+1,h=>by simp only[jH,qc6 m fun i hi=>h i (by omega),h m (by omega)]
theorem ZX(Es:Nat→Own)(i:Nat):∀m,i<m→∃R,(jH Es m).Perm (Es i++R)∧∀E,(jH (Qv Es i E) m).Perm (E++R)
 | 0,h=>by omega
 | m+1,h=>by
  by_cases hi:i=m
  · subst hi
    refine⟨jH Es i,zE,fun E=>?_⟩
    have:jH (Qv Es i E) i=jH Es i:=qc6 i fun j hj=>by simp[Qv,show j≠i by omega]
    simp only[jH,this];rw[show Qv Es i E i=E by simp[Qv]];exact zE
  · obtain⟨R,h1,h2⟩:=ZX Es i m (by omega)
    refine⟨R++Es m,?_,fun E=>?_⟩
    · simp only[jH];rw[← zG];exact h1.append_right _
    · simp only[jH];rw[← zG,show Qv Es i E m=Es m by simp[Qv,Ne.symm hi]];exact(h2 E).append_right _
def qf8(D:Own)(Es:Nat→Own):Nat→Own
 | 0=>D
 | j+1=>Es j
theorem qa5(D:Own)(Es:Nat→Own):∀m,jH (qf8 D Es) (m+1)=D++jH Es m
 | 0=>by simp[jH,qf8]
 | m+1=>by
  have:=qa5 D Es m
  rw[show jH (qf8 D Es) (m+1+1)=jH (qf8 D Es) (m+1)++Es m from rfl,this,zG];rfl
def Q6(l:List Oper)(m:Nat)(b:Nat→Bool)(i:Nat):Prop:=∃s os d t x oi,s<m∧b s=true∧l[s]?=some os∧qU os.op=some (d,t,x)∧l[i]?=some oi∧oi.dst=some d
def Yi(l:List Oper)(m:Nat)(I:List IE)(b:Nat→Bool)(vals:Nat→Value)(V:qa)(i:Nat)(E:Own):TR→Prop
 | .val sv=>E=[]∧(b i=true→RepS V I sv (vals i))
 | .skip=>E=[]∧(b i=true→vals i=undef)
 | .new c=>(b i=false→E=[])∧(b i=true→qf7 V I c (vals i) E)
 | .newL k=>(b i=false→E=[])∧(b i=true→∃blk,vals i=ptr blk∧(¬Q6 l m b i→∃(vs:List Value) (e:Nat),vs.length=k∧E=[(blk,.cells vs.toArray e (0,0))])∧(Q6 l m b i→E=[]))
 | .str d c none=>(b i=false→E=[])∧(b i=true→∃(blk:Nat) (vs:List Value) (e:Nat),(∀p o,p<m→l[p]?=some o→o.dst=some d→vals p=ptr blk)∧E=[(blk,.cells vs.toArray e (0,0))]∧RepSs V I c vs∧∀s∈c,jA s=true)
 | .str _ c (some nn)=>∃(blk:Nat) (vs:List Value) (e:Nat),I[nn]?=some (.blk blk)∧E=[(blk,.cells vs.toArray e (0,0))]∧vs.length=c.length∧(b i=true→RepSs V I c vs∧∀s∈c,jA s=true)
def qpo(l:List Oper)(m:Nat)(TRs:List TR)(I:List IE)(G0:Own):qni:=fun b vals Ow V=>
 ∃Es:Nat→Own,Ow.Perm (jH Es m++G0)∧∀i t,i<m→TRs[i]?=some t→Yi l m I b vals V i (Es i) t
theorem qs0{l:List Oper}{m:Nat}{b:Nat→Bool}{vals:Nat→Value}{V V':qa}(hs:Sub V V'){i j:Nat}{v:Value}{E:Own}{t:TR}(hne:j≠i)(hst:Q6 l m (yP b i) j↔Q6 l m b j)
 (hp:∀d c,t = .str d c none→b j=true→∀o,l[i]?=some o→o.dst≠some d) (h:Yi l m I b vals V j E t):Yi l m I (yP b i) (QC vals i v) V' j E t:=by
 have e1:yP b i j=b j:=by simp[yP,hne]
 have e2:QC vals i v j=vals j:=by simp[QC,hne]
 cases t with
 | val sv=>exact⟨h.1,fun hb=>by rw[e2];exact(h.2 (by rwa [e1]at hb)).mono hs (Ile.refl _)⟩
 | skip=>exact⟨h.1,fun hb=>by rw[e2];exact h.2 (by rwa [e1]at hb)⟩
 | new c=>exact⟨fun hb=>h.1 (by rwa [e1]at hb),fun hb=>by rw[e2];exact(h.2 (by rwa [e1]at hb)).mono hs⟩
 | newL k=>
  refine⟨fun hb=>h.1 (by rwa [e1]at hb),fun hb=>?_⟩
  obtain⟨blk,h1,h2,h3⟩:=h.2 (by rwa [e1]at hb)
  exact⟨blk,by rw[e2];exact h1,fun hn=>h2 fun hy=>hn (hst.2 hy),fun hy=>h3 (hst.1 hy)⟩
 | str d c o=>
  cases o with
  | none=>
   refine⟨fun hb=>h.1 (by rwa [e1]at hb),fun hb=>?_⟩
   rw[e1]at hb;obtain⟨blk,vs,e,h1,h2,h3,h4⟩:=h.2 hb;refine⟨blk,vs,e,fun p o hpm ho hd=>?_,h2,h3.mono hs (Ile.refl _),h4⟩
   have hpi:p≠i:=fun e=>by subst e;exact hp d c rfl hb o ho hd
   simpa[QC,hpi]using h1 p o hpm ho hd
  | some nn=>
   obtain⟨blk,vs,e,h1,h2,h3,h4⟩:=h;exact⟨blk,vs,e,h1,h2,h3,fun hb=>by
    obtain⟨a1,a2⟩:=h4 (by rwa [e1]at hb)
    exact⟨a1.mono hs (Ile.refl _),a2⟩⟩
theorem qiN:∀ {l vs:List Value},l.length=vs.length→yi l vs=some vs
 | [],[],_=>rfl
 | _::l,v::vs,h=>by simp[yi,qiN (l:=l) (vs:=vs) (by simpa using h)]
 | [],_::_,h=>by simp at h
 | _::_,[],h=>by simp at h
theorem qlC{l vs:List Value}(h:l.length=vs.length):yV l 0 vs=some vs:=by
 cases l <;> exact qiN h
theorem qcD{op:Op}{d t:Nat}{x:Operand}(h:qU op=some (d,t,x)):op = .store t (.tmp d) x:=by
 unfold qU at h;split at h
 · simp only[za,Kk]at h
   obtain⟨rfl,rfl,rfl⟩:=h;rfl
 · cases h
theorem qc7{o:Oper}{all:Array Oper}{d t:Nat}{x:Operand}(h:qU o.op=some (d,t,x)):d∈o.looksAt all:=by
 unfold Oper.looksAt;refine KX _ (Wt.2 ⟨.tmp d,?_,rfl⟩)
 rw[qcD h];simp[Op.operands]
theorem Jp{o:Oper}(h:Jg o.op=true):qU o.op=none:=by
 cases ho:o.op <;> rw[ho]at h <;> simp[Jg]at h <;> rfl
theorem qvG(st:St)(keep:List Nat)(d:Nat)(v:SV)(H:List OB):{ st.put keep d v with H:=H }=St.put ⟨st.K,st.Tm,H⟩ keep d v:=by
 unfold St.put;cases JR st.K d||Yc keep d <;> rfl
theorem GR.perm{H:List OB}{G':Own}(h:GR V I H G)(hp:G'.Perm G):GR V I H G':=by
 obtain⟨G0,h1,h2⟩:=h;exact⟨G0,h1,hp.trans h2⟩
theorem SR.perm{st:St}{G':Own}(h:SR V I st L G)(hp:G'.Perm G):SR V I st L G':=⟨h.mem.perm hp,h.slot⟩
theorem qpp(S:Sound P E.T)(hC:qbC P E S){l:List Oper}{ms:List Nat}{m:Nat}{TRs:List TR}{st0:St}{G0:Own}(hP:qiH l ms m=true)(hGd:qhj l ms m=true)(hsw:stW l ms m=true)(hml:m≤l.length)
 (hS:SR V I st0 L G0) (hg:GOK E.T V) (htl:TRs.length=m)
 (hinfo:∀i' o r,i'<m→l[i']?=some o→TRs[i']?=some r→∃sti:St,sti.H=st0.H∧ye l TRs st0 i' sti∧YP E l.toArray ((l.take m).drop (i'+1)) o sti r)
 (i:Nat) (o:Oper) (hi:i<m) (ho:l[i]?=some o):qpg P n X L V l ms m (qpo l m TRs I G0) i o:=by
 have hti:TRs[i]?=some TRs[i]:=by simp
 obtain⟨sti,e1,e2,e3⟩:=hinfo i o _ hi ho hti;intro b vals Ow V' hs hbi hanc hdesc hF;obtain⟨Es,hperm,hY⟩:=hF;have known:∀(t:Nat) (sv:SV),sti.look t=some sv→sv≠.bad→t∈o.looksAt l.toArray→∃v,lk (QB b l vals L m) t=some v∧RepS V' I sv v:=by
  intro t sv ht hb hlook;rcases e2 t sv ht hb with⟨j,oj,r,hj,k1,k2,k3,k4⟩ | ⟨k1,k2⟩
  · have h1:=(yY hP (show j<m by omega) k1 k2 hi ho (by omega)).2 hlook
    rw[zP (by omega)]at h1;have hbj:=hanc j h1;refine⟨vals j,Jo hP (by omega) hbj k1 k2 m (by omega) (zJ _),?_⟩
    have hy:=hY j r (by omega) k3
    subst k4;cases r with
    | val s=>exact hy.2 hbj
    | skip=>rw[hy.2 hbj];exact .un
    | _=>exact absurd rfl hb
  · obtain⟨v,hv,hr⟩:=hS.slot t sv k2 hb
    refine⟨v,ZW hv m fun j oj hj hbj hoj hd=>?_,hr.mono hs (Ile.refl _)⟩
    rcases WJ j i with h | h | h
    · exact k1 j oj h hoj hd
    · subst h;rw[hbi]at hbj;cases hbj
    · have h1:=(yY hP hj hoj hd hi ho (by omega)).2 hlook
      rw[zZ h]at h1;rw[hdesc j hj h1]at hbj;cases hbj
 have inLook:∀x∈o.op.operands.toList,∀t,x = .tmp t→t∈o.looksAt l.toArray:=by
  intro x hx t e;unfold Oper.looksAt;exact KX _ (Wt.2 ⟨x,hx,by rw[e]⟩)
 have hopd:∀x∈o.op.operands.toList,ji E sti V' I (QB b l vals L m) x:=by
  intro x hx;cases x with
  | tmp t=>
   intro sv hsv;simp only[opd]at hsv;obtain⟨h1,h2⟩:=qdD hsv;simp only[ev];exact known t sv h1 h2 (inLook _ hx t rfl)
  | _=>exact fun sv hsv=>qll (E:=E) (st:=⟨[],[],[]⟩) (I:=I) (L:=QB b l vals L m) (hg.mono hs) (by intro d sv h;simp[St.look,lkG]at h) _ sv hsv
 have hpre:jK V' Ow→Pre false E V' I sti (QB b l vals L m) Ow o.op.operands.toList:=fun hf=>
  ⟨by rw[e1];exact hS.mem.mr_more hs fun p hp=>hperm.mem_iff.2 (VL _ hp),hg.mono hs,hf,hopd,fun e=>by simp at e⟩
 -- the others
 have strOf:∀ {j:Nat} {d:Nat} {c:List SV} {on:Option Nat},j<m→TRs[j]?=some (.str d c on)→∃oj t x,l[j]?=some oj∧qU oj.op=some (d,t,x):=by
  intro j d c on hj ht;have hjl:j<l.length:=by omega
  obtain⟨_,_,_,_,t,x,sv,p,c2,q1,_⟩:=hinfo j l[j] _ hj (by simp[hjl]) ht
  exact⟨l[j],t,x,by simp[hjl],q1⟩
 have keep:∀ {v:Value} {V'':qa},Sub V' V''→∀j t,j<m→j≠i→TRs[j]?=some t→(Q6 l m (yP b i) j↔Q6 l m b j)→∀ {Ej:Own},Yi l m I b vals V' j Ej t→Yi l m I (yP b i) (QC vals i v) V'' j Ej t:=by
  intro v V'' hs' j t hj hne ht hst Ej hy;refine qs0 hs' hne hst (fun d c e hbj oi hoi hd=>?_) hy
  subst e;obtain⟨oj,t',x,q1,q2⟩:=strOf hj ht;rw[ho]at hoi;simp only[za]at hoi;subst hoi;have:=((J0 hsw hj q1 q2).2.2.1 i o hi ho (Ne.symm hne)).2 hd
  rw[hdesc j hj this.2.1]at hbj;cases hbj
 have plain:qU o.op=none→∀j,Q6 l m (yP b i) j↔Q6 l m b j:=by
  intro hno j;constructor
  · rintro⟨s,os,d,t,x,oi,h1,h2,h3,h4,h5⟩
    by_cases hsi:s=i
    · subst hsi;rw[ho]at h3;simp only[za]at h3;subst h3;rw[hno]at h4;cases h4
    · exact⟨s,os,d,t,x,oi,h1,by simpa[yP,hsi]using h2,h3,h4,h5⟩
  · rintro⟨s,os,d,t,x,oi,h1,h2,h⟩
    exact⟨s,os,d,t,x,oi,h1,by simp[yP,h2],h⟩
 have notStored:∀d,o.dst=some d→¬Q6 l m b i:=by
  rintro d hd ⟨s,os,d',t,x,oi,h1,h2,h3,h4,h5,h6⟩
  rw[ho]at h5;simp only[za]at h5;subst h5;have hsi:i≠s:=fun e=>by
   subst e;rw[hbi]at h2;cases h2
  have:=((J0 hsw h1 h3 h4).2.2.1 i o hi ho hsi).2 h6
  rw[hdesc s h1 this.2.1]at h2;cases h2
 have eEmpty:∀ {t:TR},TRs[i]?=some t→(match t with | .str _ _ (some _)=>False | _=>True)→Es i=[]:=by
  intro t ht hns;have hy:=hY i t hi ht;cases t with
  | val sv=>exact hy.1
  | skip=>exact hy.1
  | new c=>exact hy.1 hbi
  | newL k=>exact hy.1 hbi
  | str d c on=>cases on with
   | none=>exact hy.1 hbi
   | some nn=>exact hns.elim
 -- an operation that brings its own
 have fin:qU o.op=none→∀ {v:Value} {V'':qa} {Ow':Own} {D:Own},Sub V' V''→(match TRs[i]with | .str _ _ (some _)=>False | _=>True)→Ow'.Perm (D++Ow)→Yi l m I (yP b i) (QC vals i v) V'' i D TRs[i]→qpo l m TRs I G0 (yP b i) (QC vals i v) Ow' V'':=by
  intro hno v V'' Ow' D hs' hns hp hy;obtain⟨R,r1,r2⟩:=ZX Es i m hi;rw[eEmpty hti hns,zx]at r1;refine⟨Qv Es i D,?_,fun j t hj ht=>?_⟩
  · refine hp.trans (((hperm.append_left D).trans ?_).trans ((r2 D).append_right G0).symm)
    rw[← zG];exact(r1.append_left D).append_right G0
  · by_cases hji:j=i
    · subst hji
      rw[hti]at ht;simp only[za]at ht;subst ht;rw[show Qv Es j D j=D by simp[Qv]];exact hy
    · rw[show Qv Es i D j=Es j by simp[Qv,hji]]
      exact keep hs' j t hj hji ht (plain hno j) (hY j t hj ht)
 have dstOf:Jg o.op=true→True:=fun _=>trivial
 have hdone:(∀hgd:jo l.toArray o sti true,Opr P n X (QB b l vals L m) V' Ow o fun v V'' G''=>Sub V' V''∧qpo l m TRs I G0 (yP b i) (QC vals i v) G'' V'')∨(jo l.toArray o sti false∧TRs[i] = .skip):=by
  cases hr:TRs[i]with
  | val sv=>
   rw[hr]at e3 hti;have hno:qU o.op=none:=by
    cases hst:qU o.op with
    | none=>rfl
    | some z=>
     have h1:=e3.2.2 Unit (fun _ _=>some ())
     cases hop:o.op <;> rw[hop]at hst <;> simp[qU]at hst
     rename_i t a x;unfold Y8 at h1;rw[hop]at h1;simp[qbn]at h1
   refine .inl fun _=>qbw fun hf=>Jl (qdB (fr:=false) (r:=sv) (k:=fun s _=>some s) S hC (hpre hf) (e3.2.2 _ _)) fun v V'' G'' hp=>?_
   obtain⟨h1,rfl,sv',h2,h3⟩:=hp;simp only[za]at h2;subst h2;refine⟨h1,fin hno h1 (by rw[hr];trivial) (D:=[]) (zq _) ?_⟩
   rw[hr];exact⟨rfl,fun _=>by simpa[QC]using h3⟩
  | skip=>rw[hr]at e3;exact .inr ⟨e3,rfl⟩
  | new c=>
   rw[hr]at e3 hti;refine .inl fun _=>Jl (qpn S hopd e3.2.2.1) fun v V'' G'' hp=>?_
   obtain⟨rfl,D,rfl,h3⟩:=hp;refine⟨Sub.refl _,fin (Jp e3.2.1) (Sub.refl _) (by rw[hr];trivial) (zq _) ?_⟩
   rw[hr];refine⟨fun e=>by simp[yP]at e,fun _=>by simpa[QC]using h3⟩
  | newL k=>
   rw[hr]at e3 hti;obtain⟨_,hn,c,t,p,q1,q2,q3,q4,q5⟩:=e3;refine .inl fun _=>Jl (qpn S hopd q1) fun v V'' G'' hp=>?_
   obtain⟨rfl,D,rfl,blk,vs,e,h3,h4,h5,h6⟩:=hp;have hno:=Jp hn;refine⟨Sub.refl _,fin hno (Sub.refl _) (by rw[hr];trivial) (zq _) ?_⟩
   rw[hr];have hd:∃d,o.dst=some d:=by
    cases hod:o.dst with
    | some d=>exact⟨d,rfl⟩
    | none=>
     rw[hod]at q2;have:∀l:List Oper,QH none l=none:=by
      intro l;induction l with
      | nil=>rfl
      | cons x l ih=>simpa[QH]using ih
     rw[this]at q2;cases q2
   obtain⟨d,hd⟩:=hd;have hnst : ¬Q6 l m (yP b i) i:=fun h=>notStored d hd ((plain hno i).1 h)
   refine⟨fun e=>by simp[yP]at e,fun _=>⟨blk,by simpa[QC]using h3,fun _=>⟨vs,e,?_,h4⟩,fun h=>absurd h hnst⟩⟩
   rw[← h5.length,q4]
  | str d c on=>
   rw[hr]at e3 hti;obtain⟨_,t,x,sv,p,c2,q1,q2,q3,q4,q5,q6⟩:=e3;subst q5;refine .inl fun _=>?_
   obtain⟨w1,w2,w3,w4⟩:=J0 hsw hi ho q1;obtain⟨ods,oop,oty,opos,oaf,ogd⟩:=o;simp only[]at w1 w2;subst w1 w2
   have q1':=qcD q1;simp only[]at q1';subst q1';obtain⟨vx,hvx,hrx⟩:=hopd x (by simp[Op.operands]) sv q2
   have hlookd:d∈Oper.looksAt l.toArray ⟨none,.store t (.tmp d) x,oty,opos,oaf,none⟩:=inLook (.tmp d) (by simp[Op.operands]) d rfl
   have hT:=S.ty t (p.1,p.2) q3
   refine qbw fun hf=>?_
   obtain⟨V1,G1,us,g1,u1,u2,u3,u4,u5⟩:=qeo (hpre hf) hrx (c:=c2.1) (st':=c2.2) (by rw[q4])
   obtain⟨hV1,_,_⟩:=g1.no rfl;rw[hV1]at u1;have hlc:c2.1.length=us.length:=by
    have:∀ {a:List SV} {b:List Value},RepSs V' I a b→a.length=b.length:=by
     intro a;induction a with
     | nil=>intro b h;cases h;rfl
     | cons y a ih=>intro b h;cases h with | cons _ h'=>simp[ih h']
    exact this u1
   cases on with
   | some nn=>
    obtain⟨q7,q8⟩:=q6;obtain⟨va,hva,hra⟩:=known d _ q8 (by simp) hlookd
    cases hra with | @ref _ _ blk hI=>
    obtain⟨blk',vs,e,y1,y2,y3,y4⟩:=hY i _ hi hti;rw[hI]at y1;simp only[za,IE.blk.injEq]at y1;subst y1;obtain⟨R,r1,r2⟩:=ZX Es i m hi;rw[y2]at r1;have hpo:Ow.Perm ((blk,Obj.cells vs.toArray e (0,0))::(R++G0)):=hperm.trans (r1.append_right G0)
    refine QM hpo (qep S.tb (by simpa[ev]using hva) hvx u3 u4 hT u5 .here (qlC (by omega)) ?_)
    refine⟨Sub.refl _,Qv Es i [(blk,.cells us.toArray e (0,0))],?_,fun j tj hj htj=>?_⟩
    · exact((r2 [(blk,Obj.cells us.toArray e (0,0))]).append_right G0).symm
    · by_cases hji:j=i
      · subst hji
        rw[hti]at htj;simp only[za]at htj;subst htj;rw[show Qv Es j [(blk,Obj.cells us.toArray e (0,0))] j=[(blk,.cells us.toArray e (0,0))] by simp[Qv]];exact⟨blk,us,e,hI,rfl,by omega,fun _=>⟨u1,u2⟩⟩
      · rw[show Qv Es i [(blk,Obj.cells us.toArray e (0,0))] j=Es j by simp[Qv,hji]]
        refine keep (Sub.refl _) j tj hj hji htj ?_ (hY j tj hj htj)
        constructor
        · rintro⟨s,os,d',t',x',oi,h1,h2,h3,h4,h5,h6⟩
          by_cases hsi:s=i
          · subst hsi
            rw[ho]at h3;simp only[za]at h3;subst h3;simp only[qU,za,Kk]at h4;obtain⟨rfl,_⟩:=h4;have:=qcC (l:=l) h5 h6
            rw[show l.toArray.toList=l by simp]at q7;rw[this]at q7;cases q7
          · exact⟨s,os,d',t',x',oi,h1,by simpa[yP,hsi]using h2,h3,h4,h5,h6⟩
        · rintro⟨s,os,d',t',x',oi,h1,h2,h⟩
          exact⟨s,os,d',t',x',oi,h1,by simp[yP,h2],h⟩
   | none=>
    rw[show l.toArray.toList=l by simp]at q6;obtain⟨pp,op,hpm,hop,hpd⟩:=w4 q6;have hpi:pp≠i:=fun e=>by subst e;rw[ho]at hop;simp only[za]at hop;subst hop;cases hpd
    obtain⟨_,w5⟩:=w3 pp op hpm hop hpi;obtain⟨z1,z2,z3,z4⟩:=w5 hpd;have hbp:=hanc pp z2;have htp:TRs[pp]?=some TRs[pp]:=by simp
    obtain⟨stp,f1,f2,f3⟩:=hinfo pp op _ hpm hop htp;have hrest:((l.take m).drop (pp+1))[i-(pp+1)]?=some ⟨none,.store t (.tmp d) x,oty,opos,oaf,none⟩:=by
     rw[K4,show pp+1+(i-(pp+1))=i by omega,zY,zZ hi];exact ho
    have hkk:TRs[pp] = .newL p.2:=by
     cases hq:TRs[pp]with
     | newL k=>
      rw[hq]at f3;obtain⟨_,_,c',t',p',_,a2,a3,_,a5⟩:=f3;rw[hpd]at a2;obtain⟨i',o',x',b1,b2⟩:=qa4 a2;rw[K4,zY]at b1;split at b1
      · rename_i hlt
        have hsame:pp+1+i'=i:=by
         by_cases h:pp+1+i'=i
         · exact h
         · exfalso
           have:=(w3 (pp+1+i') o' hlt b1 h).1
           exact this (qc7 b2)
        rw[hsame,ho]at b1;simp only[za]at b1;subst b1;simp only[qU,za,Kk]at b2;obtain⟨_,rfl,_⟩:=b2;rw[q3]at a3;simp only[za]at a3;subst a3;rw[a5]
      · cases b1
     | val s=>
      rw[hq]at f3;exact absurd (show Jg op.op=false from f3.2.1) (by rw[z1];simp)
     | skip=>
      rw[hq]at f3;have f3:jo l.toArray op stp false:=f3
      unfold jo at f3;rw[z3]at f3;cases f3
     | new c'=>
      rw[hq]at f3;have:=f3.2.2.2
      rw[hpd]at this;exact absurd this (qeG hrest rfl)
     | str d' c' on'=>
      rw[hq]at f3;obtain⟨_,_,_,_,_,_,a1,_⟩:=f3;rw[Jp z1]at a1;cases a1
    have hyp:=hY pp _ hpm htp;rw[hkk]at hyp;obtain⟨blk,y1,y2,_⟩:=hyp.2 hbp;have hnst : ¬Q6 l m b pp:=by
     rintro⟨s,os,d',t',x',oi,h1,h2,h3,h4,h5,h6⟩
     rw[hop]at h5;simp only[za]at h5;subst h5;rw[hpd]at h6;simp only[za]at h6;subst h6;by_cases hsi:s=i
     · subst hsi;rw[hbi]at h2;cases h2
     · exact(w3 s os h1 h3 hsi).1 (qc7 h4)
    obtain⟨vs,e,y3,y4⟩:=y2 hnst;have hva:lk (QB b l vals L m) d=some (ptr blk):=by
     rw[Jo hP hpm hbp hop hpd m hpm (zJ _),y1]
    have hEi:Es i=[]:=eEmpty hti trivial
    obtain⟨R,r1,r2⟩:=ZX Es pp m hpm;rw[y4]at r1;obtain⟨R2,r3,r4⟩:=ZX (Qv Es pp []) i m hi
    rw[show Qv Es pp [] i=Es i by simp[Qv,Ne.symm hpi],hEi,zx]at r3;have hpo:Ow.Perm ((blk,Obj.cells vs.toArray e (0,0))::(R++G0)):=hperm.trans (r1.append_right G0)
    refine QM hpo (qep S.tb (by simpa[ev]using hva) hvx u3 u4 hT u5 .here (qlC (by omega)) ?_)
    refine⟨Sub.refl _,Qv (Qv Es pp []) i [(blk,.cells us.toArray e (0,0))],?_,fun j tj hj htj=>?_⟩
    · have h1:=(r2 []).symm.trans r3
      rw[zx]at h1;refine List.Perm.trans ?_ ((r4 [(blk,Obj.cells us.toArray e (0,0))]).append_right G0).symm
      exact(h1.cons _).append_right G0
    · by_cases hji:j=i
      · subst hji
        rw[hti]at htj;simp only[za]at htj;subst htj;rw[show Qv (Qv Es pp []) j [(blk,Obj.cells us.toArray e (0,0))] j=[(blk,.cells us.toArray e (0,0))] by simp[Qv]];refine⟨fun e=>by simp[yP]at e,fun _=>⟨blk,us,e,fun p' o' hp' ho' hd'=>?_,rfl,u1,u2⟩⟩
        have:p'=pp:=by
         by_cases h:p'=pp
         · exact h
         · exact absurd hd' (yY hP hpm hop hpd hp' ho' h).1
        subst this;simpa[QC,hpi]using y1
      · by_cases hjp:j=pp
        · subst hjp
          rw[htp]at htj;simp only[za]at htj;subst htj;rw[show Qv (Qv Es j []) i [(blk,Obj.cells us.toArray e (0,0))] j=[] by simp[Qv,hji]];rw[hkk];have hst:Q6 l m (yP b i) j:=⟨i,_,d,t,x,op,hi,by simp[yP],ho,rfl,hop,hpd⟩
          exact⟨fun _=>rfl,fun _=>⟨blk,by simpa[QC,hji]using y1,fun h=>absurd hst h,fun _=>rfl⟩⟩
        · rw[show Qv (Qv Es pp []) i [(blk,Obj.cells us.toArray e (0,0))] j=Es j by simp[Qv,hji,hjp]]
          refine keep (Sub.refl _) j tj hj hji htj ?_ (hY j tj hj htj)
          constructor
          · rintro⟨s,os,d',t',x',oi,h1,h2,h3,h4,h5,h6⟩
            by_cases hsi:s=i
            · subst hsi
              rw[ho]at h3;simp only[za]at h3;subst h3;simp only[qU,za,Kk]at h4;obtain⟨rfl,_⟩:=h4;exact absurd h6 (yY hP hpm hop hpd hj h5 hjp).1
            · exact⟨s,os,d',t',x',oi,h1,by simpa[yP,hsi]using h2,h3,h4,h5,h6⟩
          · rintro⟨s,os,d',t',x',oi,h1,h2,h⟩
            exact⟨s,os,d',t',x',oi,h1,by simp[yP,h2],h⟩
 have hguard:∃yes,jo l.toArray o sti yes∧(yes=true→TRs[i]≠.skip)∧(yes=false→TRs[i] = .skip):=by
  cases hr:TRs[i]with
  | skip=>rw[hr]at e3;exact⟨false,e3,by simp,by simp⟩
  | _=>rw[hr]at e3;exact⟨true,e3.1,by simp,by simp⟩
 obtain⟨yes,g1,g2,g3⟩:=hguard;split
 · rename_i hgd
   unfold jo at g1;rw[hgd]at g1;simp only[]at g1;subst g1;rcases hdone with h | ⟨_,h⟩
   · exact h (by unfold jo;rw[hgd])
   · exact absurd h (g2 rfl)
 · rename_i g c hgd
   have g1':=g1;unfold jo at g1;rw[hgd]at g1;obtain⟨gd,k1,hk⟩:=g1;obtain⟨hgi,hga,og,dg,hog,hodg⟩:=qc3 hGd hi ho hgd;have hdg:og.dst=some gd:=by
    have:l.toArray[g]?=some og:=by simpa using hog
    rw[this]at k1;simpa using k1
   have hlook:gd∈o.looksAt l.toArray:=by
    unfold Oper.looksAt;rw[hgd];have:l.toArray[g]?=some og:=by simpa using hog
    simp[this,hdg]
   have skipped:yes=false→qpo l m TRs I G0 (yP b i) (QC vals i undef) Ow V':=by
    rintro rfl
    have hno:qU o.op=none:=by
     cases hst:qU o.op with
     | none=>rfl
     | some z=>
      obtain⟨d,t,x⟩:=z;have:=(J0 hsw hi ho hst).2.1
      rw[hgd]at this;cases this
    refine fin hno (Sub.refl _) (by rw[g3 rfl];trivial) (D:=[]) (zq _) ?_
    rw[g3 rfl];exact⟨rfl,fun _=>by simp[QC]⟩
   rcases hk with⟨cc,k2,k3⟩ | ⟨k2,k3⟩
   · obtain⟨v,hv,hr⟩:=known gd _ k2 (by simp[mkB]) hlook
     have hvv:=jQ hr;have hvg:vals g = .bool cc:=by
      have:=Jo hP (show g<m by omega) (hanc g hga) hog hdg (L:=L) (vals:=vals) m (by omega) (zJ _)
      rw[this]at hv;simp only[za]at hv;rw[hv,hvv]
     refine .inl ⟨cc,hvg,fun e=>?_,fun e=>?_⟩
     · subst e
       have:yes=true:=by rw[← k3];simp
       subst this;rcases hdone with h | ⟨_,h⟩
       · exact h g1'
       · exact absurd h (g2 rfl)
     · subst e
       exact skipped (by rw[← k3];cases c <;> rfl)
   · obtain⟨v,hv,hr⟩:=known gd _ k2 (by simp) hlook
     have hvv:v=undef:=by cases hr with | un=>rfl
     have hvg:vals g=undef:=by
      have:=Jo hP (show g<m by omega) (hanc g hga) hog hdg (L:=L) (vals:=vals) m (by omega) (zJ _)
      rw[this]at hv;simp only[za]at hv;rw[hv,hvv]
     exact .inr ⟨hvg,skipped k3⟩
theorem IPf.setd{H:List OB}{I:List IE}{n:Nat}{ob ob':OB}(hn:H[n]?=some ob)(hnr:∀e k l,ob≠.row true e k l):IPf H I (H.set n ob') I :=
 ⟨fun _ _ h=>h,fun m e k x hm=>⟨rfl,x,by
   rw[Ke]
   · exact hm
   · rintro rfl;rw[hn]at hm;simp only[za]at hm;exact hnr _ _ _ hm⟩,zJ _⟩
structure Hid (E:Env) (V:qa) (I:List IE) (L:Lo) (all ops:List Oper) (st st0:St) (G G0:Own) (Ds:Nat→Own):Prop where
 sr:SR V I st0 L G0
 look:∀d,st0.look d=st.look d
 ipf:IPf st.H I st0.H I
 perm:G.Perm (jH Ds ops.length++G0)
 dead:∀n:Nat,st.H[n]?=some OB.dead→st0.H[n]?=some OB.dead
 here:∀(j:Nat) (o:Oper),ops[j]?=some o→∀d t x,qU o.op=some (d,t,x)→jV d all=false→∃(nn blk:Nat) (vs:List Value) (e:Nat) (p:Bool×Nat),st.look d=some (.ref nn 0)∧I[nn]?=some (.blk blk)∧E.T.ty t=some p∧vs.length=p.2∧Ds j=[(blk,Obj.cells vs.toArray e (0,0))]∧st0.H[nn]?=some OB.dead∧∃c,st.H[nn]?=some (.cells c)
 none:∀(j:Nat) (o:Oper),ops[j]?=some o→(∀d t x,qU o.op=some (d,t,x)→jV d all=true)→Ds j=[]
 dist:∀(j j':Nat) (o o':Oper) d t x d' t' x' nn nn',j<j'→ops[j]?=some o→ops[j']?=some o'→qU o.op=some (d,t,x)→jV d all=false→qU o'.op=some (d',t',x')→jV d' all=false→st.look d=some (.ref nn 0)→st.look d'=some (.ref nn' 0)→nn≠nn'
theorem qhn{O:Type}{r:O}{k:St→Option O}{all:List Oper}:∀(ops:List Oper) {st:St} {G:Own},qaH E all ops st k=some r→SR V I st L G→∃(st0:St) (G0:Own) (Ds:Nat→Own),k st0=some r∧Hid E V I L all ops st st0 G G0 Ds
 | [],st,G,he,hS=>⟨st,G,fun _=>[],he,hS,fun _=>rfl,IPf.refl _ _,by simp[jH],fun _ h=>h,fun j o h=>by simp at h,fun j o h=>by simp at h,fun j j' o o' d t x d' t' x' nn nn' _ h=>by simp at h⟩
 | o::ops,st,G,he,hS=>by
  unfold qaH at he;have skip:qaH E all ops st k=some r→(∀d t x,qU o.op=some (d,t,x)→jV d all=true)→∃(st0:St) (G0:Own) (Ds:Nat→Own),k st0=some r∧Hid E V I L all (o::ops) st st0 G G0 Ds:=fun he hno=>by
   obtain⟨st0,G0,Ds,a1,a2⟩:=qhn ops he hS;refine⟨st0,G0,qf8 [] Ds,a1,a2.sr,a2.look,a2.ipf,by rw[zm,qa5];simpa using a2.perm,a2.dead,fun j oj hj=>?_,fun j oj hj=>?_,fun j j' oj oj' d t x d' t' x' nn nn' hjj hj hj' h1 h2 h3 h4 h5 h6=>?_⟩
   · cases j with
     | zero=>
      simp at hj;subst hj;exact fun d t x h1 h2=>by rw[hno d t x h1]at h2;cases h2
     | succ j=>exact a2.here j oj (by simpa using hj)
   · cases j with
     | zero=>exact fun _=>rfl
     | succ j=>exact a2.none j oj (by simpa using hj)
   · cases j' with
     | zero=>omega
     | succ j'=>
      cases j with
      | zero=>
       simp at hj;subst hj;rw[hno d t x h1]at h2;cases h2
      | succ j=>exact a2.dist j j' oj oj' d t x d' t' x' nn nn' (by omega) (by simpa using hj) (by simpa using hj') h1 h2 h3 h4 h5 h6
  cases hst:qU o.op with
  | none=>rw[hst]at he;exact skip he fun d t x h=>by rw[hst]at h;cases h
  | some z=>
   obtain⟨d0,t0,x0⟩:=z;rw[hst]at he;simp only[]at he;cases hd:jV d0 all with
   | true=>
    rw[hd]at he;exact skip he fun d t x h=>by
     rw[hst]at h;simp only[za,Kk]at h;obtain⟨rfl,_⟩:=h;exact hd
   | false=>
    rw[hd,zo]at he;split at he
    · rename_i n0 hl
      replace he:=qb he;obtain⟨p,hp,he⟩:=he
      split at he
      · rename_i c hn
        cases hb:Nat.beq c.length p.2 with
        | false=>rw[hb]at he;simp at he
        | true=>
         rw[hb,zd]at he;obtain⟨ie,g,G2,k1,k2,k3,k4⟩:=hS.turn hn;cases k2 with | @cells _ vs blk e h1 h2=>
         have hS':=k4 .dead [] .dead
         rw[zx]at hS';obtain⟨st0,G0,Ds,a1,a2⟩:=qhn ops he hS';have hdead:(st.H.set n0 OB.dead)[n0]?=some .dead:=by rw[Vh (zu.1 hn).1]
         have hlen:vs.length=p.2:=by
          have:∀ {a:List SV} {b:List Value},RepSs V I a b→a.length=b.length:=by
           intro a;induction a with
           | nil=>intro b h;cases h;rfl
           | cons y a ih=>intro b h;cases h with | cons _ h'=>simp[ih h']
          rw[← this h1];exact zb hb
         refine⟨st0,G0,qf8 [(blk,.cells vs.toArray e (0,0))] Ds,a1,a2.sr,a2.look,(IPf.setd hn (by simp)).trans a2.ipf,?_,?_,?_,?_,?_⟩
         · rw[zm,qa5,zG]
           exact k3.trans (a2.perm.append_left _)
         · intro m hm
           refine a2.dead m ?_
           by_cases hmn:n0=m
           · subst hmn;exact hdead
           · show(st.H.set n0 OB.dead)[m]?=_
             rw[Ke hmn];exact hm
         · intro j oj hj d t x h3 h4
           cases j with
           | zero=>
            simp at hj;subst hj;rw[hst]at h3;simp only[za,Kk]at h3;obtain⟨rfl,rfl,rfl⟩:=h3;exact⟨n0,blk,vs,e,p,hl,k1,hp,hlen,rfl,a2.dead n0 hdead,c,hn⟩
           | succ j=>
            obtain⟨nn,blk',vs',e',p',c1,c2,c3,c4,c5,c6,c',c7⟩:=a2.here j oj (by simpa using hj) d t x h3 h4
            have hne:n0≠nn:=fun e=>by
             subst e;have c7:(st.H.set n0 OB.dead)[n0]?=some (.cells c'):=c7
             rw[hdead]at c7;cases c7
            have c7:(st.H.set n0 OB.dead)[nn]?=some (.cells c'):=c7
            rw[Ke hne]at c7;exact⟨nn,blk',vs',e',p',c1,c2,c3,c4,c5,c6,c',c7⟩
         · intro j oj hj h3
           cases j with
           | zero=>
            simp at hj;subst hj;rw[h3 d0 t0 x0 hst]at hd;cases hd
           | succ j=>exact a2.none j oj (by simpa using hj) h3
         · intro j j' oj oj' d t x d' t' x' nn nn' hjj hj hj' h3 h4 h5 h6 h7 h8
           cases j' with
           | zero=>omega
           | succ j'=>
            cases j with
            | zero=>
             simp at hj;subst hj;rw[hst]at h3;simp only[za,Kk]at h3;obtain⟨rfl,rfl,rfl⟩:=h3;rw[hl]at h7;simp only[za,SV.ref.injEq]at h7;obtain⟨rfl,_⟩:=h7;obtain⟨nn2,_,_,_,_,c1,_,_,_,_,_,c',c7⟩:=a2.here j' oj' (by simpa using hj') d' t' x' h5 h6
             have c1:st.look d'=some (.ref nn2 0):=c1
             rw[h8]at c1;simp only[za,SV.ref.injEq]at c1;obtain⟨rfl,_⟩:=c1
             rintro rfl
             have c7:(st.H.set n0 OB.dead)[n0]?=some (.cells c'):=c7
             rw[hdead]at c7;cases c7
            | succ j=>exact a2.dist j j' oj oj' d t x d' t' x' nn nn' (by omega) (by simpa using hj) (by simpa using hj') h3 h4 h5 h6 h7 h8
      · simp at he
    · simp at he
theorem qs1{I0:List IE}{st:St}{A:Own}{dd:Option Nat}{b e:Nat}{vs:List Value}{c:List SV}(hI:Ile I0 I)(hS:SR V I st L (A++G))(hr:RepSs V I0 c vs)(hc:∀s∈c,jA s=true)(hv:∀d,dd=some d→lk L d=some (ptr b)) :
 SR V (I++[.blk b]) { putD E st dd (.ref st.H.length 0)with H:=st.H++[.cells c] } L ((A++[(b,.cells vs.toArray e (0,0))])++G):=by
 have a1:=hS.new (Is:=[.blk b]) (Hs:=[.cells c]) (g:=[(b,.cells vs.toArray e (0,0))]) (.cons (g:=[(b,.cells vs.toArray e (0,0))]) (G:=[]) (.cells (hr.mono (Sub.refl _) fun n ie h=>Ile.app _ _ n ie (hI n ie h)) hc) .nil)
 have hp:((A++[(b,Obj.cells vs.toArray e (0,0))])++G).Perm ([(b,Obj.cells vs.toArray e (0,0))]++(A++G)):=by
  rw[zG];exact(zE (l₁:=A) (l₂:=[(b,Obj.cells vs.toArray e (0,0))]++G)).trans (by
   simp only[List.singleton_append,zA];exact(zE).cons _)
 cases dd with
 | none=>exact a1.perm hp
 | some d=>
  have a2:=(a1.reput E.keep d (sv:=.ref st.H.length 0) (hv d rfl) (.ref (by rw[← hS.len];simp))).perm hp
  rw[← qvG]at a2;exact a2
theorem qbH{l:List Oper}{ms:List Nat}{m:Nat}{TRs:List TR}{vals:Nat→Value}{Es:Nat→Own}{I0:List IE}(hml:m≤l.length)(htl:TRs.length=m)(hL:∀j o t,j<m→l[j]?=some o→o.dst=some t→lk L t=some (vals j))
 (hY:∀i t,i<m→TRs[i]?=some t→Yi l m I0 (fun i=>decide (i<m)) vals V i (Es i) t)
 (hnl:∀i k,i<m→TRs[i]?=some (.newL k)→Q6 l m (fun i=>decide (i<m)) i)
 (hst:∀i d c,i<m→TRs[i]?=some (.str d c none)→∃p o,p<m∧l[p]?=some o∧o.dst=some d)
 (hdist:∀j j' d c nn d' c' nn',j<j'→j'<m→TRs[j]?=some (.str d c (some nn))→TRs[j']?=some (.str d' c' (some nn'))→nn≠nn'):∀(r i:Nat) (st:St) (I:List IE),i+r=m→Ile I0 I→SR V I st L (jH Es i++G) →
 (∀j d c nn,i≤j→j<m→TRs[j]?=some (.str d c (some nn))→st.H[nn]?=some OB.dead) →
 ∃I',SR V I' (Qn E st (yq ((l.take m).drop i) (TRs.drop i))) L (jH Es m++G)∧IPf st.H I (Qn E st (yq ((l.take m).drop i) (TRs.drop i))).H I'∧(yq ((l.take m).drop i) (TRs.drop i)=[]→I'=I)
 | 0,i,st,I,hi,_,hS,_=>by
  have:i=m:=by omega
  subst this;rw[KU (show TRs.length≤i by omega)];have:yq ((l.take i).drop i) []=[]:=by cases(l.take i).drop i <;> rfl
  rw[this];exact⟨I,hS,IPf.refl _ _,fun _=>rfl⟩
 | r+1,i,st,I,hi,hI,hS,hdead=>by
  have him:i<m:=by omega
  have hil:i<(l.take m).length:=by rw[z8];omega
  have hit:i<TRs.length:=by omega
  rw[Kg hil,Kg hit];have hlo:l[i]?=some (l.take m)[i]:=by
   rw[List.getElem_take];simp[show i<l.length by omega]
  have hti:TRs[i]?=some TRs[i]:=by simp
  have hy:=hY i _ him hti;have hb:(fun i=>decide (i<m)) i=true:=by simp[him]
  have pass:Es i=[]→∃I',SR V I' (Qn E st (yq ((l.take m).drop (i+1)) (TRs.drop (i+1)))) L (jH Es m++G)∧IPf st.H I (Qn E st (yq ((l.take m).drop (i+1)) (TRs.drop (i+1)))).H I'∧(yq ((l.take m).drop (i+1)) (TRs.drop (i+1))=[]→I'=I):=fun he=>
   qbH (ms:=ms) hml htl hL hY hnl hst hdist r (i+1) st I (by omega) hI (by simpa[jH,he]using hS) fun j d c nn hj=>hdead j d c nn (by omega)
  have push:∀ {dd:Option Nat} {b e:Nat} {vs:List Value} {c:List SV},Es i=[(b,.cells vs.toArray e (0,0))]→RepSs V I0 c vs→(∀s∈c,jA s=true)→(∀d,dd=some d→lk L d=some (ptr b)) →
   ∃I',SR V I' (Qn E st (.new dd c::yq ((l.take m).drop (i+1)) (TRs.drop (i+1)))) L (jH Es m++G)∧IPf st.H I (Qn E st (.new dd c::yq ((l.take m).drop (i+1)) (TRs.drop (i+1)))).H I':=by
   intro dd b e vs c he h1 h2 h3;have a2:=qs1 (E:=E) (e:=e) hI hS h1 h2 h3
   obtain⟨I',b1,b2,_⟩:=qbH (ms:=ms) hml htl hL hY hnl hst hdist r (i+1) _ (I++[.blk b]) (by omega) (fun n ie h=>Ile.app _ _ n ie (hI n ie h)) (by simpa[jH,he]using a2) fun j d c nn hj hjm ht=>by
    have hd:=hdead j d c nn (by omega) hjm ht
    have hlt:=(zu.1 hd).1
    show(st.H++[.cells _])[nn]?=_
    rw[Kf hlt];exact hd
   exact⟨I',b1,(IPf.app hS.len).trans b2⟩
  generalize ho:(l.take m)[i]=o at hlo
  cases hr:TRs[i]with
  | val sv=>rw[hr]at hy;simp only[yq];exact pass hy.1
  | skip=>rw[hr]at hy;simp only[yq];exact pass hy.1
  | newL k=>
   rw[hr]at hy hti;obtain⟨blk,_,_,h3⟩:=hy.2 hb;simp only[yq];exact pass (h3 (hnl i k him hti))
  | new c=>
   rw[hr]at hy;obtain⟨b,vs,e,h1,h2,h3,h4⟩:=hy.2 hb;simp only[yq];obtain⟨I',b1,b2⟩:=push (dd:=o.dst) h2 h3 h4 fun d hd=>by rw[hL i o d him hlo hd,h1]
   exact⟨I',b1,b2,fun h=>by simp at h⟩
  | str d c on=>
   rw[hr]at hy hti;cases on with
   | none=>
    obtain⟨b,vs,e,h1,h2,h3,h4⟩:=hy.2 hb;obtain⟨p,op,hp,hop,hod⟩:=hst i d c him hti;simp only[yq];obtain⟨I',b1,b2⟩:=push (dd:=some d) h2 h3 h4 fun d' hd=>by
     simp only[za]at hd;subst hd;rw[hL p op d hp hop hod,h1 p op hp hop hod]
    exact⟨I',b1,b2,fun h=>by simp at h⟩
   | some nn=>
    obtain⟨b,vs,e,h1,h2,_,h5⟩:=hy;obtain⟨h3,h4⟩:=h5 hb;have hd:=hdead i d c nn (zJ _) him hti
    obtain⟨ie,g,G1,k1,k2,k3,k4⟩:=hS.turn hd;have hie:=hI nn _ h1;rw[k1]at hie;simp only[za]at hie;subst hie;cases k2;rw[zx]at k3;have a1:=k4 (.cells c) [(b,.cells vs.toArray e (0,0))] (.cells (h3.mono (Sub.refl _) hI) h4)
    have a2:=a1.perm (G':=jH Es (i+1)++G) (by
     simp only[jH,h2];rw[zG];refine(zE (l₁:=jH Es i) (l₂:=[(b,Obj.cells vs.toArray e (0,0))]++G)).trans ?_
     rw[zG];exact((zE).trans k3).append_left _)
    simp only[yq,Qn];obtain⟨I',b1,b2,_⟩:=qbH (ms:=ms) hml htl hL hY hnl hst hdist r (i+1) ⟨st.K,st.Tm,st.H.set nn (.cells c)⟩ I (by omega) hI a2 fun j d' c' nn' hj hjm ht=>by
     have hd':=hdead j d' c' nn' (by omega) hjm ht
     have hne:=hdist i j d c nn d' c' nn' (by omega) hjm hti ht
     show(st.H.set nn (.cells c))[nn']?=_
     rw[Ke hne];exact hd'
    exact⟨I',b1,(IPf.setd hd (by simp)).trans b2,fun h=>by simp at h⟩
theorem qpq(S:Sound P E.T)(hC:qbC P E S){l:List Oper}{id m:Nat}{O:Type}{r:O}{k:St→Option O}{st:St}(hc:qhk n l (yT l []) m=true)(hsw:stW l (yT l []) m=true)(hok:qiE n l)
 (he:qaH E l (l.take m) st (fun st0=>QV E l.toArray l false m [] [] st0 k)=some r) (hS:SR V I st L G) (hg:GOK E.T V) (hk:∀(st1:St) (G1:Own),IPf st.H I st1.H I→JE P n X K E.T r k false (yG l) V I st1 G1):WC P n X L V G (.region id l.toArray true) K:=by
 have hc':=hc;simp only[qhk,zh]at hc';obtain⟨⟨⟨⟨⟨⟨hGd,hdst⟩,hE⟩,hP⟩,hT⟩,hml⟩,hSel⟩:=hc';have hml:=zw hml;cases m with
 | zero=>
  simp only[List.take_zero,qaH]at he;refine qcB 0 (fun _ _ Ow _=>Ow.Perm G) S.mo rfl hc (fun _=>undef) (zq _) (fun i o hi=>by omega) fun vals Ow V' hs hp=>?_
  simp only[QB,Vk];exact qhh S hC l r k false [] [] st L V' Ow I he hok ((hS.mono hs).perm hp) (hg.mono hs) fun st' L' V2 G2 I2 h1 h2 h3 h4 h5 h6=>hk st G (IPf.refl _ _) st' L' V2 G2 I2 h1 h2 h3 (hs.trans h4) h5 fun e=>by simp at e
 | succ mm=>
  obtain⟨st0,G0,Ds,he0,hH⟩:=qhn _ he hS;obtain⟨tr,stf,nwf,O',r',k',q',D',p1,p2,p3,p4,p5,p6⟩:=qsV (all:=l.toArray) mm l r k false [] [] _ he0 hml (hk st0 G0 hH.ipf) fun e=>by simp at e
  have hst0:ye l tr st0 0 st0:=fun t sv ht hb=>.inr ⟨fun j o hj=>by omega,ht⟩
  have hsd:∀i o,i<mm+1→l[i]?=some o→(qU o.op).isSome=true→o.dst=none:=by
   intro i o hi ho hs;cases hst:qU o.op with
   | none=>rw[hst]at hs;cases hs
   | some z=>obtain⟨d,t,x⟩:=z;exact(J0 hsw hi ho hst).1
  obtain⟨i1,i2,i3⟩:=qkp hml hsd p2 0 rfl rfl (Ws _) rfl hst0
  have info:∀i' o r,i'<mm+1→l[i']?=some o→tr[i']?=some r→∃sti:St,sti.H=st0.H∧ye l tr st0 i' sti∧YP E l.toArray ((l.take (mm+1)).drop (i'+1)) o sti r:=fun i' o' r' a b c=>i1 i' o' r' (Ws _) a b c
  have lat:∀ {j:Nat},j<mm+1→∃o,l[j]?=some o∧(l.take (mm+1))[j]?=some o:=fun {j} hj=>⟨l[j]'(by omega),by simp[show j<l.length by omega],by rw[zY,zZ hj];simp[show j<l.length by omega]⟩
  have old:∀j d c nn,j<mm+1→tr[j]?=some (.str d c (some nn))→∃o t x p c2,l[j]?=some o∧(l.take (mm+1))[j]?=some o∧qU o.op=some (d,t,x)∧jV d l=false∧st.look d=some (.ref nn 0)∧E.T.ty t=some p∧c2.1=c∧∃sti sv,cellsOf false sti p.1 p.2 sv=some c2:=by
   intro j d c nn hj ht;obtain⟨o,ho,ho'⟩:=lat hj;obtain⟨sti,e1,e2,_,t,x,sv,p,c2,q1,q2,q3,q4,q5,q6,q7⟩:=info j o _ hj ho ht;rw[show l.toArray.toList=l by simp]at q6;rcases e2 d _ q7 (by simp)with⟨j',oj,_,_,k1,k2,_⟩ | ⟨_,k2⟩
   · rw[qcC k1 k2]at q6;cases q6
   · exact⟨o,t,x,p,c2,ho,ho',q1,q6,by rw[← hH.look];exact k2,q3,q5,sti,sv,q4⟩
  have hlen:∀ {V:qa} {I:List IE} {a:List SV} {b:List Value},RepSs V I a b→a.length=b.length:=by
   intro V I a;induction a with
   | nil=>intro b h;cases h;rfl
   | cons y a ih=>intro b h;cases h with | cons _ h'=>simp[ih h']
  refine qcB (mm+1) (qpo l (mm+1) tr I G0) S.mo rfl hc (fun _=>undef) ?_ (fun i o hi ho=>qpp S hC hP hGd hsw hml hH.sr hg p1 info i o hi ho) fun vals Ow V' hs hY=>?_
  · -- before anything is carried out
    have hlt:(l.take (mm+1)).length=mm+1:=by rw[z8];omega
    have hp:=hH.perm;rw[hlt]at hp;refine⟨Ds,hp,fun i t hi ht=>?_⟩
    obtain⟨o,ho,ho'⟩:=lat hi;obtain⟨sti,e1,e2,e3⟩:=info i o t hi ho ht;have non:(∀d t x,qU o.op=some (d,t,x)→jV d l=true)→Ds i=[]:=hH.none i o ho'
    have nonS:qU o.op=none→Ds i=[]:=fun h=>non fun d t x h'=>by rw[h]at h';cases h'
    cases t with
    | val sv=>
     refine⟨nonS ?_,fun e=>by cases e⟩
     cases hst:qU o.op with
     | none=>rfl
     | some z=>
      obtain⟨d,t,x⟩:=z;have h1:=e3.2.2 Unit (fun _ _=>some ())
      rw[show Y8 E false sti o (fun _ _=>some ())=none by unfold Y8;rw[qcD hst];simp[qbn]]at h1;cases h1
    | skip=>
     refine⟨nonS ?_,fun e=>by cases e⟩
     cases hst:qU o.op with
     | none=>rfl
     | some z=>
      obtain⟨d,t,x⟩:=z;have hgn:=(J0 hsw hi ho hst).2.1
      have e3:jo l.toArray o sti false:=e3
      unfold jo at e3;rw[hgn]at e3;cases e3
    | new c=>exact⟨fun _=>nonS (Jp e3.2.1),fun e=>by cases e⟩
    | newL k=>exact⟨fun _=>nonS (Jp e3.2.1),fun e=>by cases e⟩
    | str d c on=>
     cases on with
     | none=>
      obtain⟨_,t,x,sv,p,c2,q1,q2,q3,q4,q5,q6⟩:=e3;rw[show l.toArray.toList=l by simp]at q6;exact⟨fun _=>non fun d' t' x' h=>by rw[q1]at h;simp only[za,Kk]at h;obtain⟨rfl,_⟩:=h;exact q6,fun e=>by cases e⟩
     | some nn=>
      obtain⟨o2,t,x,p,c2,h1,h2,h3,h4,h5,h6,h7,sti',sv',h8⟩:=old i d c nn hi ht;obtain⟨nn',blk,vs,e,p',c1,c2',c3,c4,c5,c6,_⟩:=hH.here i o2 h2 d t x h3 h4;rw[h5]at c1;simp only[za,SV.ref.injEq]at c1;obtain⟨rfl,_⟩:=c1;rw[h6]at c3;simp only[za]at c3;subst c3;refine⟨blk,vs,e,c2',c5,?_,fun e=>by cases e⟩
      rw[c4,← h7];unfold cellsOf at h8;cases hp1:p.1 with
      | true=>
       rw[hp1]at h8;simp only[zd]at h8;split at h8
       · rename_i l'
         cases hb:(Nat.beq l'.length p.2&&Jy l')with
         | false=>rw[hb]at h8;simp at h8
         | true=>
          rw[hb]at h8;simp only[zd,za]at h8;simp only[zh]at hb;rw[← h8];exact(zb hb.1).symm
       replace h8:=qb h8;obtain⟨q,_,h8⟩:=h8
       split at h8
       · rename_i l' _
         cases hb:Nat.beq l'.length p.2 with
         | false=>rw[hb]at h8;simp at h8
         | true=>
          rw[hb]at h8;simp only[zd,za]at h8;rw[← h8];have:∀l:List T,(mpT l).length=l.length:=by
           intro l;induction l with
           | nil=>rfl
           | cons a l ih=>simp[mpT,ih]
          rw[this];exact(zb hb).symm
       · simp at h8
      | false=>
       rw[hp1]at h8;simp only[zo]at h8;cases hb:(YH sv'&&Nat.beq p.2 1)with
       | false=>rw[hb]at h8;simp at h8
       | true=>
        rw[hb]at h8;simp only[zd,za]at h8;simp only[zh]at hb;rw[← h8];exact zb hb.2
  · obtain⟨Es,hperm,hYi⟩:=hY
    have hall:∀j o t,j<mm+1→l[j]?=some o→o.dst=some t→lk (QB (fun i=>decide (i<mm+1)) l vals L (mm+1)) t=some (vals j):=fun j o t hj h1 h2=>Jo hP hj (by simp[hj]) h1 h2 _ hj (zJ _)
    have hS1:SR V' I stf (QB (fun i=>decide (i<mm+1)) l vals L (mm+1)) (jH Es 0++G0):=by
     refine⟨by rw[p6];exact(hH.sr.mono hs).mem,fun d sv hd hb=>?_⟩
     rcases i2 d sv hd hb with⟨j,o,t,hj,q1,q2,q3,q4⟩ | ⟨q1,q2⟩
     · have hy:=hYi j t hj q3
       refine⟨vals j,hall j o d hj q1 q2,?_⟩
       subst q4;cases t with
       | val s=>exact hy.2 (by simp[hj])
       | skip=>rw[hy.2 (by simp[hj])];exact .un
       | _=>exact absurd rfl hb
     · obtain⟨v,hv,hr⟩:=hH.sr.slot d sv q2 hb
       exact⟨v,ZW hv _ fun j o hj _ ho=>q1 j o hj ho,hr.mono hs (Ile.refl _)⟩
    obtain⟨I',b1,b2,b3⟩:=qbH (E:=E) (ms:=yT l []) hml p1 hall hYi (fun i k hi ht=>by
     obtain⟨o,ho,_⟩:=lat hi;obtain⟨_,_,_,_,_,c,t,p,_,a2,_⟩:=info i o _ hi ho ht;cases hod:o.dst with
     | none=>
      rw[hod]at a2;have:∀l:List Oper,QH none l=none:=by
       intro l;induction l with
       | nil=>rfl
       | cons x l ih=>simpa[QH]using ih
      rw[this]at a2;cases a2
     | some d=>
      rw[hod]at a2;obtain⟨i',o',x',c1,c2⟩:=qa4 a2;rw[K4,zY]at c1;split at c1
      · rename_i hlt
        exact⟨_,o',d,t,x',o,hlt,by simp[hlt],c1,c2,ho,hod⟩
      · cases c1) (fun i d c hi ht=>by
     obtain⟨o,ho,_⟩:=lat hi;obtain⟨_,_,_,_,t,x,sv,p,c2,q1,q2,q3,q4,q5,q6⟩:=info i o _ hi ho ht;rw[show l.toArray.toList=l by simp]at q6;exact(J0 hsw hi ho q1).2.2.2 q6) (fun j j' d c nn d' c' nn' hjj hj' h1 h2=>by
     obtain⟨o,t,x,_,_,_,a2,a3,a4,a5,_⟩:=old j d c nn (by omega) h1
     obtain⟨o',t',x',_,_,_,a2',a3',a4',a5',_⟩:=old j' d' c' nn' hj' h2;exact hH.dist j j' o o' d t x d' t' x' nn nn' hjj a2 a2' a3 a4 a3' a4' a5 a5') (mm+1) 0 stf I (by omega) (Ile.refl _) hS1 fun j d c nn _ hj ht=>by
     obtain⟨o,t,x,_,_,_,a2,a3,a4,a5,_⟩:=old j d c nn hj ht;obtain⟨nn',_,_,_,_,c1,_,_,_,_,c6,_⟩:=hH.here j o a2 d t x a3 a4;rw[a5]at c1;simp only[za,SV.ref.injEq]at c1;obtain⟨rfl,_⟩:=c1;rw[p6];exact c6
    simp only[Vk]at b1 b2 b3;rw[zx]at i3;rw[← i3]at b1 b2 b3;refine qhh S hC _ r' k' q' [] D' _ _ V' _ I' p3 (fun x hx=>hok x (KV hx)) (b1.perm hperm) (hg.mono hs) ?_
    intro st' L' V2 G2 I2 h1 h2 h3 h4 h5 h6;refine p4 st' L' V2 G2 I2 h1 h2 h3 (hs.trans h4) (b2.trans h5) fun e=>?_
    have hn:=p5 e;obtain⟨c1,c2,c3⟩:=h6 e;rw[hn]at c1 c3;exact⟨c1,c2.trans (b3 hn),c3⟩
end
theorem qpr{P:Program}{T:Tbl}(S:Sound P T){pr:jj}{call:Zs}(hC:JX P T S call)(hpr:Ju P T S pr):qly P T pr call:=by
 intro E rfl hcall hprim n X H0 I0 hl0 hl1 id ops draw O r kn st L V G I K hok he hS hg hip hN;subst hcall;subst hprim;have hC:qbC P E S:=⟨hC,hpr⟩
 simp only[okC,zh,Ko]at hok;unfold qox at he;simp only[qec]at he;have hcont:∀(st1:St) (G1:Own),IPf st.H I st1.H I→JE P n X K E.T r (fun st'=>kn (yU E.base st')) false (yG ops.toList) V I st1 G1:=by
  intro st1 G1 h0 st' L' V' G' I' h1 h2 h3 h4 h5 _;obtain⟨I1,G1,a1,a2,a3⟩:=ZV h2 hl0 hl1 (hip.trans (h0.trans h5))
  exact JZ (a2 X) (hN _ _ _ _ _ h1 a1 h3 a3)
 cases draw with
 | false=>
  simp only[zo,Bool.false_and,List.take_zero,qaH]at he;have:=qhh S hC ops.toList r _ false [] [] st L V G I he (fun x hx=>hok.1 x hx) hS hg (hcont st G (IPf.refl _ _)) (K:=K) (X:=X) (n:=n)
  have h2:=qc (id:=id) (l:=ops.toList) (by simpa using this)
  simpa using h2
 | true=>
  simp only[zd,Vf]at he hok;cases hbl:Nat.blt 5000 (E.T.dm E.f id)with
  | true=>
   rw[hbl]at he hok;simp only[zd]at he hok;cases hb9:Nat.beq (E.T.dm E.f id) 9999 with
   | true=>rw[hb9]at he;simp at he
   | false=>
    rw[hb9]at he hok;simp only[zo]at he hok;have:=qxm (id:=id) S hC (l:=ops.toList) (Bool.and_eq_true_iff.1 hok.2).1 (Bool.and_eq_true_iff.1 hok.2).2 (fun x hx=>hok.1 x hx) (by simpa using he) hS hg hcont (K:=K) (X:=X)
    simpa using this
  | false=>
  rw[hbl]at he hok;simp only[zo]at he hok;have:=qpq (id:=id) S hC (l:=ops.toList) (Bool.and_eq_true_iff.1 hok.2).1 (Bool.and_eq_true_iff.1 hok.2).2 (fun x hx=>hok.1 x hx) (by simpa using he) hS hg hcont (K:=K) (X:=X)
  simpa using this
end Su
