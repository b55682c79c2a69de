/-
  A logic of walks. No condition.
-/
import Derived.Test.YtldhknmacepeiaaGreatDoorSuS
import Derived.Test.YtldhknmacepeiaaGreatDoorSuP1
set_option linter.unusedVariables false
set_option linter.unusedSimpArgs false
section
namespace Fly
open Go
def qi9(l:List Oper)(ms:List Nat)(m:Nat):Bool :=
 (l.take m).zipIdx.all fun p=>match p.1.dst with
   | none=>true
   | some d=>(l.take m).zipIdx.all fun q=>p.2 == q.2||((q.1.dst != some d)&&(!((q.1.looksAt l.toArray).contains d)||(bif Nat.blt q.2 p.2 then yJ ms p.2 q.2 else yJ ms q.2 p.2)))
def qhI(l:List Oper)(ms:List Nat)(m:Nat):Bool:=(l.take m).zipIdx.all fun p=>match p.1.guard with
 | none=>true
 | some (g,_)=>Nat.blt g p.2&&yJ ms p.2 g&&((l[g]?).bind (·.dst)).isSome
def qhJ(n:Nat)(l:List Oper)(ms:List Nat)(m:Nat):Bool:=qhI l ms m&&(l.take m).all (fun o=>okd n o.dst)&&qd3 l&&qi9 l ms m&&qio l ms m&&Nat.ble m l.length&&Region.noSelect l.toArray
theorem Qk{l:List Oper}{ms:List Nat}{m:Nat}(h:qi9 l ms m=true){i:Nat}{o:Oper}(hi:i<m)(ho:l[i]?=some o){d:Tmp}(hd:o.dst=some d){j:Nat}{q:Oper}(hj:j<m)(hq:l[j]?=some q)(hne:j≠i) :
 q.dst≠some d∧(d∈q.looksAt l.toArray→if j<i then yJ ms i j=true else yJ ms j i=true):=by
 simp only[qi9,Ko]at h;have h1:=h (o,i) (by rw[Kz];simp[hi,ho])
 simp only[hd,Ko]at h1;have h2:=h1 (q,j) (by rw[Kz];simp[hj,hq])
 simp only[VR,beq_iff_eq,zp,bne_iff_ne,Wb,List.contains_eq_mem,decide_eq_false_iff_not]at h2;rcases h2 with h2|⟨h2,h3⟩
 · exact absurd h2.symm hne
 · refine⟨h2,fun hm=>?_⟩
   have h4:=h3.resolve_left (fun h=>h hm)
   by_cases hlt:j<i
   · rw[show Nat.blt j i=true by simp[VY,hlt]]at h4
     rw[z6 hlt];exact h4
   · rw[show Nat.blt j i=false by cases hb:Nat.blt j i with|false=>rfl|true=>exact absurd (by simpa[VY]using hb) hlt]at h4
     rw[zQ hlt];exact h4
theorem qc7{l:List Oper}{ms:List Nat}{m:Nat}(h:qhI l ms m=true){i:Nat}{o:Oper}(hi:i<m)(ho:l[i]?=some o){g:Nat}{b:Bool}(hg:o.guard=some (g,b)):g<i∧yJ ms i g=true∧∃og d,l[g]?=some og∧og.dst=some d:=by
 simp only[qhI,Ko]at h;have h1:=h (o,i) (by rw[Kz];simp[hi,ho])
 simp only[hg,zp]at h1;refine⟨by simpa[VY]using h1.1.1,h1.1.2,?_⟩
 have h2:=h1.2;cases hl:l[g]? with
 | none=>rw[hl]at h2;simp at h2
 | some og=>
  rw[hl]at h2;simp only[zm]at h2;cases hd:og.dst with
  | none=>rw[hd]at h2;simp at h2
  | some d=>exact⟨og,d,rfl,hd⟩
def QM(b:Nat→Bool)(l:List Oper)(vals:Nat→Value)(L:Lo):Nat→Lo
 | 0=>L
 | j+1=>bif b j then(match(l[j]?).bind (·.dst)with|some d=>(d,vals j)::QM b l vals L j|none=>QM b l vals L j)else QM b l vals L j
theorem qbR{b:Nat→Bool}{l:List Oper}{vals:Nat→Value}{L:Lo}{t:Nat}{v:Value}:∀k,lk (QM b l vals L k) t=some v→(∃j o,j<k∧b j=true∧l[j]?=some o∧o.dst=some t∧v=vals j)∨((∀(j:Nat) (o:Oper),j<k→b j=true→l[j]?=some o→o.dst≠some t)∧lk L t=some v)
 | 0,h=>.inr ⟨fun j _ hj=>by omega,h⟩
 | k+1,h=>by
  have up:(∃j o,j<k∧b j=true∧l[j]?=some o∧o.dst=some t∧v=vals j)→(∃j o,j<k+1∧b j=true∧l[j]?=some o∧o.dst=some t∧v=vals j):=fun⟨j,o,hj,r⟩=>⟨j,o,by omega,r⟩
  simp only[QM]at h;cases hb:b k with
  | false=>
   rw[hb]at h;rcases qbR k h with h|⟨h1,h2⟩
   · exact .inl (up h)
   · refine .inr ⟨fun j o hj hbj ho=>?_,h2⟩
     by_cases hjk:j=k
     · subst hjk;rw[hb]at hbj;cases hbj
     · exact h1 j o (by omega) hbj ho
  | true=>
   rw[hb,zg]at h;split at h
   · rename_i d hd
     cases ho:l[k]? with
     | none=>simp[ho]at hd
     | some o=>
      have hod:o.dst=some d:=by simpa[ho]using hd
      simp only[lk]at h;cases hq:Nat.beq d t with
      | true=>
       rw[hq]at h;have:=zd hq
       subst this;simp only[zg,za]at h;exact .inl ⟨k,o,by omega,hb,ho,hod,h.symm⟩
      | false=>
       rw[hq]at h;rcases qbR k h with h|⟨h1,h2⟩
       · exact .inl (up h)
       · refine .inr ⟨fun j o' hj hbj ho'=>?_,h2⟩
         by_cases hjk:j=k
         · subst hjk
           rw[ho]at ho';simp only[za]at ho';subst ho';rw[hod];intro e;simp only[za]at e;subst e;simp at hq
         · exact h1 j o' (by omega) hbj ho'
   · rename_i hd
     rcases qbR k h with h|⟨h1,h2⟩
     · exact .inl (up h)
     · refine .inr ⟨fun j o' hj hbj ho'=>?_,h2⟩
       by_cases hjk:j=k
       · subst hjk;intro e;simp[ho',e]at hd
       · exact h1 j o' (by omega) hbj ho'
theorem Jv{b:Nat→Bool}{l:List Oper}{ms:List Nat}{m:Nat}(hP:qi9 l ms m=true){vals:Nat→Value}{L:Lo}{j:Nat}{o:Oper}{t:Tmp}(hjm:j<m)(hb:b j=true)(ho:l[j]?=some o)(hd:o.dst=some t):∀k,j<k→k≤m→lk (QM b l vals L k) t=some (vals j)
 | 0,h,_=>by omega
 | k+1,h,hk=>by
  simp only[QM];by_cases hjk:j=k
  · subst hjk
    simp[hb,ho,hd,lk]
  · have ih:=Jv hP (L:=L) (vals:=vals) hjm hb ho hd k (by omega) (by omega)
    cases hbk:b k with
    | false=>exact ih
    | true=>
     rw[zg];cases hlk:l[k]? with
     | none=>simpa using ih
     | some ok=>
      cases hdk:ok.dst with
      | none=>simpa[hdk]using ih
      | some dk=>
       have hne:=(Qk hP hjm ho hd (show k<m by omega) hlk (Ne.symm hjk)).1
       have hb':Nat.beq dk t=false:=by
        cases hq:Nat.beq dk t with
        | false=>rfl
        | true=>exact absurd (by rw[hdk,zd hq]) hne
       simpa[hdk,lk,hb']using ih
theorem Z0{b:Nat→Bool}{l:List Oper}{vals:Nat→Value}{L:Lo}{t:Nat}{v:Value}(h:lk L t=some v):∀k,(∀(j:Nat) (o:Oper),j<k→b j=true→l[j]?=some o→o.dst≠some t)→lk (QM b l vals L k) t=some v
 | 0,_=>h
 | k+1,hn=>by
  have ih:=Z0 (vals:=vals) h k fun j o hj=>hn j o (by omega)
  simp only[QM];cases hbk:b k with
  | false=>exact ih
  | true=>
   rw[zg];cases hlk:l[k]? with
   | none=>simpa using ih
   | some ok=>
    cases hdk:ok.dst with
    | none=>simpa[hdk]using ih
    | some dk=>
     have hne:=hn k ok (by omega) hbk hlk
     have hb':Nat.beq dk t=false:=by
      cases hq:Nat.beq dk t with
      | false=>rfl
      | true=>exact absurd (by rw[hdk,zd hq]) hne
     simpa[hdk,lk,hb']using ih
section
variable {P:Program} {n:Nat} {X:Cx} {L:Lo} {V:qc} {G:Own} {K:List KI}
abbrev qnS:=(Nat→Bool)→(Nat→Value)→Own→qc→Prop
def y7(b:Nat→Bool)(i:Nat):Nat→Bool:=fun j=>if j=i then true else b j
def QN(vals:Nat→Value)(i:Nat)(v:Value):Nat→Value:=fun j=>if j=i then v else vals j
def qpT(P:Program)(n:Nat)(X:Cx)(L:Lo)(V:qc)(l:List Oper)(ms:List Nat)(m:Nat)(Fct:qnS)(i:Nat)(o:Oper):Prop :=
 ∀(b:Nat→Bool) (vals:Nat→Value) (Ow:Own) (V':qc),Sub V V'→b i=false→(∀j,yJ ms i j=true→b j=true)→(∀p,p<m→yJ ms p i=true→b p=false)→Fct b vals Ow V' →
  match o.guard with
  | none=>Opr P n X (QM b l vals L m) V' Ow o fun v V'' G''=>Sub V' V''∧Fct (y7 b i) (QN vals i v) G'' V''
  | some (g,c)=>(∃t,vals g = .bool t∧(t=c→Opr P n X (QM b l vals L m) V' Ow o fun v V'' G''=>Sub V' V''∧Fct (y7 b i) (QN vals i v) G'' V'')∧(t = !c→Fct (y7 b i) (QN vals i undef) Ow V'))∨(vals g=undef∧Fct (y7 b i) (QN vals i undef) Ow V')
structure InvW (n:Nat) (X:Cx) (L:Lo) (V:qc) (l:List Oper) (m:Nat) (Fct:qnS) (listed:Array Bool) (a:Act) (w:World) (vals:Nat→Value) (Ow:Own) (V':qc):Prop where
 sub:Sub V V'
 closed:∀(k:Nat) (o:Oper),l[k]?=some o→listed.getD k false=true→∀e∈o.after.toList,Region.binds .any e=true→listed.getD e.on false=true
 only:∀k,m≤k→listed.getD k false=false
 facts:Fct (fun i=>listed.getD i false) vals Ow V'
 defers:a.defers=[]
 size:a.tmps.size=n
 new:∀(i:Nat) (o:Oper) (d:Tmp),i<m→listed.getD i false=true→l[i]?=some o→o.dst=some d→a.tmps[d]?=some (vals i)
 old:∀t v,lk L t=some v→(∀(i:Nat) (o:Oper),i<m→listed.getD i false=true→l[i]?=some o→o.dst≠some t)→a.tmps[t]?=some v
 holds:Holds X V' Ow w
theorem qkW{l:List Oper}{ms:List Nat}{m:Nat}{Fct:qnS}(hms:Qb l []=ms)(hc:qhJ n l ms m=true)
 (hob:∀(i:Nat) (o:Oper),i<m→l[i]?=some o→qpT P n X L V l ms m Fct i o)
 (hk:∀vals Ow V',Sub V V'→Fct (fun i=>decide (i<m)) vals Ow V'→WR P n X (QM (fun i=>decide (i<m)) l vals L m) V' Ow l.toArray (l.drop m) K) :
 ∀(fuel:Nat) (listed:Array Bool) (a:Act) (w:World) (vals:Nat→Value) (Ow:Own) (V':qc),listed.size=l.length→listed.toList.count false=fuel→InvW n X L V l m Fct listed a w vals Ow V' →
  wpAny P .any l.toArray (Qp P X.R K) fuel listed a w:=by
 have hc':=hc;simp only[qhJ,zp]at hc';obtain⟨⟨⟨⟨⟨⟨hGd,hdst⟩,hE⟩,hP⟩,hT⟩,hml⟩,hS⟩:=hc';have hml':m≤l.length:=zx hml
 have known:∀ {listed:Array Bool} {a:Act} {w:World} {vals:Nat→Value} {Ow:Own} {V':qc},InvW n X L V l m Fct listed a w vals Ow V'→Knows n (QM (fun i=>listed.getD i false) l vals L m) a:=by
  intro listed a w vals Ow V' hI;refine⟨hI.defers,hI.size,fun t u ht=>?_⟩
  rcases qbR _ ht with⟨j,o,hj,hb,ho,hd,rfl⟩|⟨h1,h2⟩
  · exact hI.new j o t hj hb ho hd
  · exact hI.old t u h2 fun i o hi hb ho=>h1 i o hi hb ho
 have finish:∀ {listed:Array Bool} {a:Act} {w:World} {vals:Nat→Value} {Ow:Own} {V':qc},InvW n X L V l m Fct listed a w vals Ow V'→(∀i,i<m→listed.getD i false=true)→wpList P l.toArray (Qp P X.R K) (l.drop m) a w:=by
  intro listed a w vals Ow V' hI hdone;have hfun:(fun i=>listed.getD i false)=fun i=>decide (i<m):=by
   funext i
   by_cases him:i<m
   · rw[hdone i him];simp[him]
   · rw[hI.only i (by omega)];simp[him]
  have hf:=hI.facts;have hkn:=known hI;rw[hfun]at hf hkn;exact hk vals Ow V' hI.sub hf a w hkn hI.holds
 intro fuel;induction fuel with
 | zero=>
  intro listed a w vals Ow V' hs hf hI;have hall:∀i,i<l.length→listed.getD i false=true:=by
   intro i hi;have hi':i<listed.size:=by omega
   rw[gd hi'];cases hb:listed[i]with
   | true=>rfl
   | false=>
    have:false∈listed.toList:=by rw[← hb];simp
    have:=List.count_pos_iff.2 this
    omega
  have hm:m=l.length:=by
   rcases VH m l.length with h|h
   · have h1:=hall m h
     rw[hI.only m (zI _)]at h1;cases h1
   · omega
  refine JY hms hT hE 0 l.length listed a w (by omega) (by omega) hs (fun j hj=>?_) ?_
  · have:=hall j hj
    have hj':j<listed.size:=by omega
    rw[gd hj']at this ⊢;simp[this,hj]
  · have:=finish hI fun i hi=>hall i (by omega)
    rwa [hm]at this
 | succ fuel ih=>
  intro listed a w vals Ow V' hs hf hI;by_cases hdone:∀i,i<m→listed.getD i false=true
  · have hshape:∀j,j<l.length→listed.getD j true=decide (j<m):=fun j hj=>by
     have hj':j<listed.size:=by omega
     have h1:listed.getD j true=listed.getD j false:=by rw[gd hj',gd hj']
     rw[h1];by_cases hjm:j<m
     · rw[hdone j hjm];simp[hjm]
     · rw[hI.only j (by omega)];simp[hjm]
    have hcnt:m+(fuel+1)=l.length:=by
     have e1:listed.toList=List.replicate m true++List.replicate (l.length-m) false:=by
      apply WS
      intro j;by_cases hj:j<l.length
      · have h2:=hshape j hj
        have hj':j<listed.size:=by omega
        rw[gd hj']at h2;have h2':listed[j]?=some (decide (j<m)):=by rw[VT hj'];exact congrArg some h2
        rw[Wp,h2',List.getElem?_append];by_cases hjm:j<m
        · simp[hjm]
        · rw[zQ (by simpa using hjm),K9,z6 (by simp;omega)];simp[hjm]
      · rw[Kk (by simp;omega),Kk (by simp;omega)]
     rw[e1]at hf;simp[List.count_append,List.count_replicate]at hf;omega
    exact JY hms hT hE (fuel+1) m listed a w (zI _) hcnt hs hshape (finish hI hdone)
  · have hex:∃i,i<m∧listed.getD i false=false∧∀j,j<i→listed.getD j false=true:=by
     have:∃i,i<m∧listed.getD i false=false:=by
      apply Wq
      intro h;apply hdone
      intro i hi;cases hb:listed.getD i false with
      | true=>rfl
      | false=>exact absurd ⟨i,hi,hb⟩ h
     obtain⟨i,hi,hb⟩:=this;induction i using Nat.strongRecOn with
     | _ i ihi=>
      by_cases h:∀j,j<i→listed.getD j false=true
      · exact⟨i,hi,hb,h⟩
      · have:∃j,j<i∧listed.getD j false=false:=by
         apply Wq
         intro h';apply h
         intro j hj;cases hb':listed.getD j false with
         | true=>rfl
         | false=>exact absurd ⟨j,hj,hb'⟩ h'
        obtain⟨j,hj,hb'⟩:=this;exact ihi j hj (by omega) hb'
    obtain⟨i0,hi0,hb0,hlow⟩:=hex;have hr0:i0∈Region.ready .any l.toArray listed:=by
     have hlt:i0<l.length:=by omega
     rw[mem_ready];refine⟨by rw[gd (show i0<listed.size by omega)]at hb0 ⊢;exact hb0,l[i0],by simp[hlt],fun e he hb=>?_⟩
     exact hlow e.on (Jp hE (i:=i0) (o:=l[i0]) (by simp[hlt]) e (by simpa using he) hb)
    refine⟨fun h0=>by rw[h0]at hr0;simp at hr0,fun i hi=>?_⟩
    obtain⟨hun,o,ho,hall⟩:=mem_ready.1 hi;have ho':l[i]?=some o:=by simpa using ho
    have hlt:i<l.length:=(zu.1 ho').1
    have ancs:∀ {i:Nat} {o:Oper},l[i]?=some o→(∀e∈o.after.toList,Region.binds .any e=true→listed.getD e.on false=true)→∀j,yJ ms i j=true→listed.getD j false=true:=fun ho' hall j hj=>
     qco (l:=l) (Lst:=fun j=>listed.getD j false=true) (fun k o hk hL=>hI.closed k o hk hL) ho' hall (by rw[hms];exact hj)
    have hanc:=ancs ho' fun e he hb=>hall e (by simpa using he) hb
    have him:i<m:=by
     rcases VH i m with h|h
     · exact h
     · have:=hanc i0 (qaV hT h hlt i0 (by omega))
       rw[hb0]at this;cases this
    have hunf:listed.getD i false=false:=by
     have hi':i<listed.size:=by omega
     rw[gd hi']at hun ⊢;exact hun
    have hdesc:∀p,p<m→yJ ms p i=true→listed.getD p false=false:=by
     intro p hp ha;cases hb:listed.getD p false with
     | false=>rfl
     | true=>
      have hpl:p<l.length:=by omega
      have:=ancs (i:=p) (o:=l[p]) (by simp[hpl]) (fun e he hbe=>hI.closed p l[p] (by simp[hpl]) hb e he hbe) i ha
      rw[hunf]at this;cases this
    have hdn:okd n o.dst=true:=Ko.1 hdst o (K7.2 ⟨i,by simp[him,ho']⟩)
    -- the next state
    have hset:∀j,(listed.setIfInBounds i true).getD j false=if j=i then true else listed.getD j false:=fun j=>by
     by_cases hji:j=i
     · subst hji;rw[gd (by simp;omega)];simp
     · rw[zQ hji,getD_set_ne false (Ne.symm hji)]
    have next:∀(v:Value) (Ow':Own) (V'':qc) (w':World),Sub V' V''→Fct (y7 (fun i=>listed.getD i false) i) (QN vals i v) Ow' V''→Holds X V'' Ow' w' →
     wpAny P .any l.toArray (Qp P X.R K) fuel (listed.setIfInBounds i true) (a.put o.dst v) w':=by
     intro v Ow' V'' w' hs' hyi hh;refine ih (listed.setIfInBounds i true) (a.put o.dst v) w' (QN vals i v) Ow' V'' (by simpa using hs) ?_ ?_
     · have:=qcp listed.toList i (by rw[Wp,VT (show i<listed.size by omega)];rw[gd (show i<listed.size by omega)]at hunf;rw[hunf])
       rw[Array.toList_setIfInBounds];omega
     · refine⟨hI.sub.trans hs',?_,?_,?_,(by cases o.dst <;> exact hI.defers),?_,?_,?_,hh⟩
       · intro k ok hk hL e he hb
         rw[hset]at hL ⊢;split
         · rfl
         · by_cases hki:k=i
           · subst hki
             rw[ho']at hk;simp only[za]at hk;subst hk;exact hall e (by simpa using he) hb
           · rw[zQ hki]at hL
             exact hI.closed k ok hk hL e he hb
       · intro k hk
         rw[hset,zQ (by omega)];exact hI.only k hk
       · have:(fun j=>(listed.setIfInBounds i true).getD j false)=y7 (fun i=>listed.getD i false) i:=funext hset
         rw[this];exact hyi
       · cases o.dst <;> simp[Act.put,hI.size]
       · intro j oj dj hj hL hoj hdj
         rw[hset]at hL;by_cases hji:j=i
         · subst hji
           rw[ho']at hoj;simp only[za]at hoj;subst hoj;have hdl:dj<a.tmps.size:=by rw[hI.size];simpa[okd,hdj]using hdn
           simp[hdj,Act.put,hdl,QN]
         · rw[zQ hji]at hL
           have hold:=hI.new j oj dj hj hL hoj hdj;cases hd:o.dst with
           | none=>simpa[Act.put,QN,hji]using hold
           | some d=>
            have hne:=(Qk hP him ho' hd hj hoj hji).1
            have:d≠dj:=fun e=>hne (by rw[hdj,e])
            simp[Act.put,KO this,hji,QN,hold]
       · intro t u ht hno
         have:=hI.old t u ht fun j oj hj hL hoj=>by
          have hji:j≠i:=fun e=>by subst e;rw[hunf]at hL;cases hL
          exact hno j oj hj (by rw[hset,zQ hji];exact hL) hoj
         cases hd:o.dst with
         | none=>simpa[Act.put]using this
         | some d=>
          have hdt:d≠t:=fun e=>hno i o him (by rw[hset];simp) ho' (by rw[hd,e])
          simp[Act.put,KO hdt,this]
    have how:=hob i o him ho' (fun i=>listed.getD i false) vals Ow V' hI.sub hunf hanc hdesc hI.facts
    have hrun:Opr P n X (QM (fun i=>listed.getD i false) l vals L m) V' Ow o (fun v V'' G''=>Sub V' V''∧Fct (y7 (fun i=>listed.getD i false) i) (QN vals i v) G'' V'') →
     o.wp P a w (wpAny P .any l.toArray (Qp P X.R K) fuel (listed.setIfInBounds i true)) (Qp P X.R K):=fun hO=>
     Qg.wp rfl (hO a (known hI)) hI.holds fun v V'' G'' w' ⟨hs',hy⟩ hh=>next v G'' V'' w' hs' hy hh
    unfold wpOp;simp only[ho];cases hg:o.guard with
    | none=>
     rw[hg]at how;rw[z6 (by simp[Region.wanted,hg])];exact .inl (hrun how)
    | some gb=>
     obtain⟨g,b⟩:=gb;rw[hg]at how;obtain⟨hgi,hag,og,dg,hog,hdg⟩:=qc7 hGd him ho' hg;have hgl:g<l.length:=by omega
     have hge:l[g]=og:=by have:=zA hgl;rw[this]at hog;simpa using hog
     have h1:=hI.new g og dg (by omega) (hanc g hag) hog hdg
     rcases how with⟨t,hv,hyes,hno⟩|⟨hv,hno⟩
     · have hyd:yielded l.toArray a.tmps g=some t:=by
        simp[yielded,hgl,hge,hdg,h1,hv]
       by_cases htb:t=b
       · rw[z6 (by simp[Region.wanted,hg,hyd,htb])]
         exact .inl (hrun (hyes htb))
       · rw[zQ (by simp[Region.wanted,hg,hyd,htb])]
         have htb':t = !b:=by cases t <;> cases b <;> simp_all
         exact next undef Ow V' w (Sub.refl _) (hno htb') hI.holds
     · have hyd:yielded l.toArray a.tmps g=none:=by
        simp[yielded,hgl,hge,hdg,h1,hv,undef]
       rw[zQ (by simp[Region.wanted,hg,hyd])];exact next undef Ow V' w (Sub.refl _) hno hI.holds
theorem qcI{id:Nat}{l:List Oper}(m:Nat){ms:List Nat}(Fct:qnS)(hm:P.follows .mixedOrders=true)(hms:Qb l []=ms)(hc:qhJ n l ms m=true)(vals0:Nat→Value)(h0:Fct (fun _=>false) vals0 G V)
 (hob:∀(i:Nat) (o:Oper),i<m→l[i]?=some o→qpT P n X L V l ms m Fct i o)
 (hk:∀vals Ow V',Sub V V'→Fct (fun i=>decide (i<m)) vals Ow V'→WR P n X (QM (fun i=>decide (i<m)) l vals L m) V' Ow l.toArray (l.drop m) K):WC P n X L V G (.region id l.toArray true) K:=by
 intro a w ha hw;refine wp_region_any hm ?_
 have hf:∀i,(Array.replicate l.toArray.size false).getD i false=false:=fun i=>by
  rw[Array.getD_eq_getD_getElem?,Array.getElem?_replicate];split <;> rfl
 refine qkW hms hc hob hk _ _ a _ vals0 G V (by simp) ?_ ?_
 · simp
 · refine⟨Sub.refl _,fun k o _ h=>(by rw[hf]at h;cases h),fun k _=>hf k,?_,ha.defers,ha.size,fun i o d _ h=>(by rw[hf]at h;cases h),fun t v ht _=>ha.get t v ht,hw.drew⟩
   have:(fun i=>(Array.replicate l.toArray.size false).getD i false)=fun _=>false:=funext hf
   rw[this];exact h0
end
end Fly
end
section
namespace Su
noncomputable section
open Go Fly
def stW(l:List Oper)(ms:List Nat)(m:Nat):Bool:=(l.take m).zipIdx.all fun p=>match qU p.1.op with
 | none=>true
 | some (d,_,_)=>p.1.dst.isNone&&p.1.guard.isNone&&((l.take m).zipIdx.all fun q=>p.2 == q.2||(!(q.1.looksAt l.toArray).contains d&&(bif q.1.dst == some d then Jq q.1.op&&yJ ms p.2 q.2&&q.1.guard.isNone&&Nat.blt q.2 p.2 else true)))&&(!j7 d l||j7 d (l.take m))
def tlO:Op→Bool
 | .move (.tmp _)=>true
 | .move (.const (.int _ _))=>true
 | .binOp ..=>true
 | .indexAddr ..=>true
 | _=>false
def swW(l:List Oper)(ms:List Nat)(s m:Nat):Bool :=
 Nat.blt s m&&((l.take m).zipIdx.all fun p=>p.1.guard.isNone&&(bif Nat.beq p.2 s then p.1.dst.isNone else(!Jq p.1.op&&((qU p.1.op).isNone&&((tlO p.1.op||yJ ms s p.2)&&(bif Nat.blt s p.2 then(match p.1.dst,l[s]? with|some d,some o=>!(o.looksAt l.toArray).contains d|_,_=>true)else true))))))
def okC(n:Nat)(T:Tbl)(f:Nat):Code→Bool
 | .region id ops draw=>ops.toList.all (fun o=>okd n o.dst)&&(bif draw then(bif Nat.blt 5000 (T.dm f id)then(bif Nat.beq (T.dm f id) 9999 then true else(qhJ n ops.toList (Qb ops.toList []) (dmM (T.dm f id))&&swW ops.toList (Qb ops.toList []) (dmS (T.dm f id)) (dmM (T.dm f id))))else(qhJ n ops.toList (Qb ops.toList []) (T.dm f id)&&stW ops.toList (Qb ops.toList []) (T.dm f id)))else true)
 | .seq a b=>okC n T f a&&okC n T f b
 | .cond _ x y=>okC n T f x&&okC n T f y
 | .block _ b=>okC n T f b
 | .loop b=>okC n T f b
 | _=>true
theorem qja(g:SV→SV):∀K:List (Nat×SV),QI (mpK g K)=QI K
 | []=>rfl
 | (k,v)::K=>by simp[mpK,QI,qja g K]
theorem qjb:∀K:List (Nat×SV),qcy (QI K) (ZB K)=K
 | []=>rfl
 | (k,v)::K=>by
  simp only[QI,ZB];rw[qnQ,qjb K]
theorem qba(base:Nat)(st:St):QI (Qd base st).K=QI st.K∧(Qd base st).Tm=[]:=by
 unfold Qd;split
 · exact⟨rfl,rfl⟩
 · simp only[]
   generalize Nat.beq _ _=b
   cases b with
   | true=>exact⟨rfl,rfl⟩
   | false=>exact⟨qja _ _,rfl⟩
theorem qgm(st:St):∀keys:List Nat,QI (qcZ keys st)=keys
 | []=>rfl
 | k::keys=>by
  have:=qgm st keys
  unfold qcZ at this ⊢
  simp only[KH,QI,this]
theorem ql3(st:St)(d:Nat):∀keys:List Nat,lkG (qcZ keys st) d=if d∈keys then some ((st.look d).getD .bad)else none
 | []=>by simp[qcZ]
 | k::keys=>by
  have:=ql3 st d keys
  unfold qcZ at this ⊢
  simp only[KH,yM,this];cases hb:Nat.beq k d with
  | true=>have:=zd hb;subst this;simp
  | false=>
   have hne:d≠k:=fun e=>by subst e;simp at hb
   simp[hne]
theorem SR.only{V:qc}{I:List IE}{st:St}{L:Lo}{G:Own}(h:SR V I st L G)(keys:List Nat):SR V I ⟨qcZ keys st,[],st.H⟩ L G:=by
 refine⟨h.mem,fun d s hd hb=>?_⟩
 rw[Jd,ql3]at hd;split at hd
 · simp only[za]at hd
   cases hq:st.look d with
   | none=>rw[hq]at hd;exact absurd hd.symm hb
   | some s'=>rw[hq]at hd;simp at hd;subst hd;exact h.slot d s' hq hb
 · cases hd
theorem qpU(E:Env)(keys:List Nat)(st:St):(⟨qcy keys (ZB (qfF E keys st).K),[],(qfF E keys st).H⟩:St)=qfF E keys st:=by
 obtain⟨h1,h2⟩:=qba E.base ⟨qcZ keys st,[],st.H⟩
 have hk:QI (qfF E keys st).K=keys:=by unfold qfF;rw[h1];exact qgm st keys
 have:=qjb (qfF E keys st).K
 rw[hk]at this;rw[this];have h2':(qfF E keys st).Tm=[]:=h2
 rw[← h2']
section
variable {P:Program} {E:Env} {n:Nat} {X:Cx} {L:Lo} {V:qc} {I:List IE} {G:Own} {K:List KI} {H0:List OB} {I0:List IE} {rs:List ResultVar}
def CN(P:Program)(n:Nat)(X:Cx)(K:List KI)(T:Tbl)(H0:List OB)(I0:List IE){O:Type}(r:O)(kn:St→Option O):Prop :=
 ∀st L V G I,kn st=some r→SR V I st L G→GOK T V→IPf H0 I0 st.H I→WE P n X L V G .normal K
def CE(P:Program)(n:Nat)(X:Cx)(K:List KI)(T:Tbl)(H0:List OB)(I0:List IE){O:Type}(r:O)(ke:Nat→St→Option O):Prop :=
 ∀i st L V G I,ke i st=some r→SR V I st L G→GOK T V→IPf H0 I0 st.H I→WE P n X L V G (.exit i) K
def CR(n:Nat)(X:Cx)(E:Env)(rs:List ResultVar)(H0:List OB)(I0:List IE){O:Type}(r:O)(kr:List SV→List OB→Option O):Prop :=
 ∀st L V G I,qdl E rs st kr=some r→SR V I st L G→GOK E.T V→IPf H0 I0 st.H I→Fly.St n X L V G fun a w=>X.R .ret a w
theorem J7{e:Exit}{G':Own}(h:∀w,Holds X V G w→Holds X V G' w)(k:WE P n X L V G' e K):WE P n X L V G e K:=fun a w ha hw=>k a w ha (h w hw)
theorem qwC{s:Frm}{vs:List SV}{H:List OB}{p:s.pay}(h:pkS s vs H=some p):unS s p=⟨qcy s.keys (weak s.bads vs),[],H⟩:=by
 unfold pkS at h;obtain⟨r,h1,h⟩:=osm h;unfold unS;rw[qpS _ _ _ _ h];simp only[];rw[qhH _ _ _ h1]
theorem ql4:∀(ks:List Nat) (bs:List Bool) (vs:List SV) (d:Nat) (s:SV),lkG (qcy ks (weak bs vs)) d=some s→s≠.bad→lkG (qcy ks vs) d=some s
 | [],_,_,d,s,h,_=>h
 | k::ks,bs,vs,d,s,h,hb=>by
  cases bs with
  | nil=>cases vs <;> exact h
  | cons b bs=>
   cases vs with
   | nil=>exact h
   | cons x xs=>
    replace h:lkG ((k,bif b then SV.bad else x)::qcy ks (weak bs xs)) d=some s:=h
    show lkG ((k,x)::qcy ks xs) d=some s
    rw[yM]at h ⊢;cases hk:Nat.beq k d with
    | true=>
     rw[hk]at h;cases b with
     | true=>simp only[zg,za]at h;exact absurd h.symm hb
     | false=>exact h
    | false=>rw[hk]at h;exact ql4 ks bs xs d s h hb
theorem SR.weak{V:qc}{I:List IE}{ks:List Nat}{bs:List Bool}{vs:List SV}{H:List OB}{L:Lo}{G:Own}(h:SR V I ⟨qcy ks vs,[],H⟩ L G):SR V I ⟨qcy ks (Su.weak bs vs),[],H⟩ L G :=
 ⟨h.mem,fun d s hd hb=>h.slot d s (by rw[Jd]at hd ⊢;exact ql4 _ _ _ _ _ hd hb) hb⟩
theorem JM{O:Type}{r:O}{s:Frm}{st':St}{k:s.pay→Option O}(hl0:I0.length=E.base)(hl1:H0.length=E.base)(ho:ZI E s st' k=some r)(hS:SR V I st' L G)(hip:IPf H0 I0 st'.H I) :
 ∃p I' G',k p=some r∧SR V I' (unS s p) L G'∧IPf H0 I0 (unS s p).H I'∧∀X w,Holds X V G w→Holds X V G' w:=by
 unfold ZI at ho;obtain⟨p,hp,ho⟩:=osm ho;obtain⟨I',G',p1,p2,p3⟩:=ZZ (base:=E.base) (hS.only s.keys) hl0 hl1 hip
 have hu:=qwC hp;have hcs:=qpU E s.keys st';refine⟨p,I',G',ho,?_,?_,p2⟩
 · rw[hu]
   refine SR.weak ?_
   rw[hcs];exact p1
 · rw[hu];exact p3
theorem qpV(hl0:I0.length=E.base)(hl1:H0.length=E.base)
 (hreg:∀(id:Nat) (ops:Array Oper) (draw:Bool) {O:Type} (r:O) (kn:St→Option O) (st:St) (L:Lo) (V:qc) (G:Own) (I:List IE) (K:List KI),okC n E.T E.f (.region id ops draw)=true→qpb E id ops draw kn st=some r→SR V I st L G→GOK E.T V→IPf H0 I0 st.H I→CN P n X K E.T H0 I0 r kn→WC P n X L V G (.region id ops draw) K) :
 ∀(c:Code) {O:Type} (r:O) (kn:St→Option O) (ke:Nat→St→Option O) (kr:List SV→List OB→Option O) (st:St) (L:Lo) (V:qc) (G:Own) (I:List IE) (K:List KI),
  shC E rs c kn ke kr st=some r→okC n E.T E.f c=true→SR V I st L G→GOK E.T V→IPf H0 I0 st.H I→CN P n X K E.T H0 I0 r kn→CE P n X K E.T H0 I0 r ke→CR n X E rs H0 I0 r kr→WC P n X L V G c K:=by
 intro c;induction c with
 | skip=>
  intro O r kn ke kr st L V G I K he _ hS hg hip hN hE hR;exact qF (hN _ _ _ _ _ he hS hg hip)
 | region id ops draw=>
  intro O r kn ke kr st L V G I K he hok hS hg hip hN hE hR;simp only[shC]at he;generalize (bif draw then none else E.T.rj E.f id)=o at he
  cases o with
  | none=>exact hreg id ops draw r kn st L V G I K hok he hS hg hip hN
  | some l=>
   simp only[qen,qdy]at he;obtain⟨p,hp,he⟩:=osm he;refine hreg id ops draw (O:=(shape E (rjSt E ops.toList l st)).pay) p _ st L V G I K hok hp hS hg hip ?_
   intro st' L' V' G' I' ho hS' hg' hip';obtain⟨q,I2,G2,h1,h2,h3,h4⟩:=JM hl0 hl1 ho hS' hip';have:=soi h1;subst this
   exact J7 (h4 X) (hN _ _ _ _ _ he h2 hg' h3)
 | seq a b iha ihb=>
  intro O r kn ke kr st L V G I K he hok hS hg hip hN hE hR;simp only[okC,zp]at hok;refine qq (iha r _ ke kr st L V G I _ he hok.1 hS hg hip ?_ ?_ hR)
  · intro st' L' V' G' I' h1 h2 h3 h4
    exact qe (ihb r kn ke kr st' L' V' G' I' K h1 hok.2 h2 h3 h4 hN hE hR)
  · intro i st' L' V' G' I' h1 h2 h3 h4
    exact qG (hE i st' L' V' G' I' h1 h2 h3 h4)
 | cond c x y ihx ihy=>
  intro O r kn ke kr st L V G I K he hok hS hg hip hN hE hR;simp only[okC,zp]at hok;simp only[shC]at he;replace he:=qf he;obtain⟨sv,hsv,he⟩:=he
  replace he:=qf he;obtain⟨t,ht,he⟩:=he
  have:=qa4 ht;subst this
  obtain⟨v,hv,hr⟩:=qlS hg hS.slot c _ hsv;have:=jY hr;subst this
  have base:∀ {O:Type} (r:O) (kn:St→Option O) (ke:Nat→St→Option O) (kr:List SV→List OB→Option O) (st:St) (L:Lo) (V:qc) (G:Own) (I:List IE) (K:List KI),ev L c=some (.bool t) →
   (bif t then shC E rs x kn ke kr st else shC E rs y kn ke kr st)=some r→SR V I st L G→GOK E.T V→IPf H0 I0 st.H I→CN P n X K E.T H0 I0 r kn→CE P n X K E.T H0 I0 r ke→CR n X E rs H0 I0 r kr→WC P n X L V G (.cond c x y) K:=by
   intro O r kn ke kr st L V G I K hv he hS hg hip hN hE hR;cases t with
   | true=>exact qE hv (ihx r kn ke kr st L V G I K he hok.1 hS hg hip hN hE hR)
   | false=>exact qz hv (ihy r kn ke kr st L V G I K he hok.2 hS hg hip hN hE hR)
  unfold qvd at he;generalize (E.T.jn E.f&&(ZP x&&ZP y&&((qbz x).isEmpty&&(qbz y).isEmpty&&!(qbA x||qbA y))))=j at he
  cases j with
  | true=>
   simp only[zg,qen,qdy]at he;obtain⟨p,hp,he⟩:=osm he;refine base (O:=(shape E (qaO E st)).pay) p _ noE noR st L V G I K hv hp hS hg hip ?_ ?_ ?_
   · intro st' L' V' G' I' ho hS' hg' hip'
     obtain⟨q,I2,G2,h1,h2,h3,h4⟩:=JM hl0 hl1 ho hS' hip';have:=soi h1;subst this
     exact J7 (h4 X) (hN _ _ _ _ _ he h2 hg' h3)
   · intro i st' L' V' G' I' ho
     exact non ho
   · intro st' L' V' G' I' ho
     unfold qdl at ho;obtain⟨q,_,ho⟩:=osm ho;exact non ho
  | false=>exact base r kn ke kr st L V G I K hv he hS hg hip hN hE hR
 | block i b ihb=>
  intro O r kn ke kr st L V G I K he hok hS hg hip hN hE hR;simp only[okC]at hok;simp only[shC,qpa]at he;refine qt ?_
  have hN':CN P n X (.blk i::K) E.T H0 I0 r kn:=fun st' L' V' G' I' h1 h2 h3 h4=>qS (hN st' L' V' G' I' h1 h2 h3 h4)
  have hE':CE P n X (.blk i::K) E.T H0 I0 r (fun j st'=>bif Nat.beq j i then kn st' else ke j st'):=by
   intro j st' L' V' G' I' h1 h2 h3 h4;replace h1:(bif Nat.beq j i then kn st' else ke j st')=some r:=h1
   cases hb:Nat.beq j i with
   | true=>
    have:=zd hb;subst this
    rw[hb]at h1;exact qD (hN st' L' V' G' I' h1 h2 h3 h4)
   | false=>
    rw[hb]at h1;exact qka hb (hE j st' L' V' G' I' h1 h2 h3 h4)
  generalize (E.T.jn E.f&&(qbz b).all (fun j=>Nat.beq j i)&&!qbA b&&Nat.blt 1 ((bif ZP b then 1 else 0)+exN i b))=j at he
  cases j with
  | true=>
   simp only[zg,qen,qdy]at he;obtain⟨p,hp,he⟩:=osm he;refine ihb (O:=(shape E (qaO E st)).pay) p _ _ noR st L V G I _ hp hok hS hg hip ?_ ?_ ?_
   · intro st' L' V' G' I' ho hS' hg' hip'
     obtain⟨q,I2,G2,h1,h2,h3,h4⟩:=JM hl0 hl1 ho hS' hip';have:=soi h1;subst this
     exact J7 (h4 X) (hN' _ _ _ _ _ he h2 hg' h3)
   · intro j st' L' V' G' I' ho hS' hg' hip'
     replace ho:(bif Nat.beq j i then ZI E (shape E (qaO E st)) st' some else none)=some p:=ho
     obtain⟨hj,ho2⟩:=qL ho;clear ho;have:=zd hj;subst this
     obtain⟨q,I2,G2,h1,h2,h3,h4⟩:=JM hl0 hl1 ho2 hS' hip';have:=soi h1;subst this
     exact J7 (h4 X) (qD (hN _ _ _ _ _ he h2 hg' h3))
   · intro st' L' V' G' I' ho
     unfold qdl at ho;obtain⟨q,_,ho⟩:=osm ho;exact non ho
  | false=>exact ihb r kn _ kr st L V G I _ he hok hS hg hip hN' hE' hR
 | loop b ihb=>
  intro O r kn ke kr st L V G I K he hok hS hg hip hN hE hR;simp only[okC]at hok;simp only[shC,qve,qen,qdy]at he;have huse:∃I1 G1,SR V I1 (qaO E st) L G1∧IPf H0 I0 (qaO E st).H I1∧∀X w,Holds X V G w→Holds X V G1 w:=by
   unfold qaO;split
   · rename_i l _
     obtain⟨I1,G1,p1,p2,p3⟩:=ZZ (base:=E.base) (hS.only (QI (qvc l st.K))) hl0 hl1 hip
     exact⟨I1,G1,p1,p3,p2⟩
   · exact⟨I,G,hS,hip,fun _ _ h=>h⟩
  obtain⟨I1,G1,hS1,hip1,hh1⟩:=huse
  suffices hsuf:WC P n X L V G1 (.loop b) K from fun a w ha hw=>hsuf a w ha (hh1 X w hw)
  clear hS hip hh1;generalize qaO E st=st at he hS1 hip1
  obtain⟨p0,I0',G0',he,hS0,hip0,hh0⟩:=JM hl0 hl1 he hS1 hip1
  suffices hsuf:WC P n X L V G0' (.loop b) K from fun a w ha hw=>hsuf a w ha (hh0 X w hw)
  generalize hos:(bif qbA b then[]else qbz b)=os at he
  cases os with
  | cons i l=>
   simp only[]at he;obtain⟨_,he⟩:=qL he;obtain⟨pe,hpe,he⟩:=osm he;refine qg7 (fun L' V' G' μ=>∃p I',SR V' I' (unS (shape E st) p) L' G'∧GOK E.T V'∧IPf H0 I0 (unS (shape E st) p).H I'∧itP μ (fun p=>shC E rs b (O:=(shape E st).pay ⊕ (shape E st).pay) (fun st'=>ZI E (shape E st) st' fun q=>some (.inl q)) (fun j st'=>bif Nat.beq j i then ZI E (shape E st) st' fun q=>some (.inr q)else none) noR (unS (shape E st) p)) p=some pe) (m0:=E.n)
    ⟨p0,I0',hS0,hg,hip0,hpe⟩ ?_
   rintro L' V' G' μ ⟨p,I',hS',hg',hip',hitr⟩
   cases μ with
   | zero=>exact non hitr
   | succ μ=>
    simp only[itP]at hitr;obtain⟨r1,hr1,hitr⟩:=osm hitr;refine ihb (O:=(shape E st).pay ⊕ (shape E st).pay) r1 _ _ noR (unS (shape E st) p) L' V' G' I' _ hr1 hok hS' hg' hip' ?_ ?_ ?_
    · intro st' L2 V2 G2 I2 ho hS2 hg2 hip2
      obtain⟨q,I3,G3,h1,h2,h3,h4⟩:=JM hl0 hl1 ho hS2 hip2;have:=soi h1;subst this
      simp only[]at hitr;exact qlq fun a w ha hw=>⟨L2,V2,G3,μ,⟨q,I3,h2,hg2,h3,hitr⟩,by omega,ha,h4 X w hw⟩
    · intro j st' L2 V2 G2 I2 ho hS2 hg2 hip2
      replace ho:(bif Nat.beq j i then ZI E (shape E st) st' (fun q=>some (Sum.inr q))else none)=some r1:=ho
      obtain⟨hj,ho2⟩:=qL ho;clear ho;have:=zd hj;subst this
      obtain⟨q,I3,G3,h1,h2,h3,h4⟩:=JM hl0 hl1 ho2 hS2 hip2;have:=soi h1;subst this
      simp only[za]at hitr;subst hitr;exact qI (J7 (h4 X) (hE _ _ _ _ _ _ he h2 hg2 h3))
    · intro st' L' V' G' I' ho
      unfold qdl at ho;obtain⟨q,_,ho⟩:=osm ho;exact non ho
  | nil=>
   simp only[]at he;obtain⟨fl,hfl,he⟩:=osm he;refine qg7 (fun L' V' G' μ=>∃p I',SR V' I' (unS (shape E st) p) L' G'∧GOK E.T V'∧IPf H0 I0 (unS (shape E st) p).H I'∧itP μ (fun p=>shC E rs b (O:=(shape E st).pay ⊕ Lp (shape E st).pay O) (fun st'=>ZI E (shape E st) st' fun q=>some (.inl q)) (fun j st'=>ZI E (shape E st) st' fun q=>some (.inr (.exit j q))) (fun r H=>(kr r H).bind fun o=>some (.inr (.ret o))) (unS (shape E st) p)) p=some fl) (m0:=E.n)
    ⟨p0,I0',hS0,hg,hip0,hfl⟩ ?_
   rintro L' V' G' μ ⟨p,I',hS',hg',hip',hitr⟩
   cases μ with
   | zero=>exact non hitr
   | succ μ=>
    simp only[itP]at hitr;obtain⟨r1,hr1,hitr⟩:=osm hitr;refine ihb (O:=(shape E st).pay ⊕ Lp (shape E st).pay O) r1 _ _ _ (unS (shape E st) p) L' V' G' I' _ hr1 hok hS' hg' hip' ?_ ?_ ?_
    · intro st' L2 V2 G2 I2 ho hS2 hg2 hip2
      obtain⟨q,I3,G3,h1,h2,h3,h4⟩:=JM hl0 hl1 ho hS2 hip2;have:=soi h1;subst this
      simp only[]at hitr;exact qlq fun a w ha hw=>⟨L2,V2,G3,μ,⟨q,I3,h2,hg2,h3,hitr⟩,by omega,ha,h4 X w hw⟩
    · intro j st' L2 V2 G2 I2 ho hS2 hg2 hip2
      obtain⟨q,I3,G3,h1,h2,h3,h4⟩:=JM hl0 hl1 ho hS2 hip2;have:=soi h1;subst this
      simp only[za]at hitr;subst hitr;exact qI (J7 (h4 X) (hE _ _ _ _ _ _ he h2 hg2 h3))
    · intro st' L2 V2 G2 I2 ho hS2 hg2 hip2
      refine hR st' L2 V2 G2 I2 ?_ hS2 hg2 hip2
      unfold qdl at ho ⊢
      obtain⟨q,hq,ho⟩:=osm ho;rw[hq];simp only[zm];simp only[]at ho;obtain⟨o,ho2,ho⟩:=osm ho;have:=soi ho;subst this
      simp only[za]at hitr;subst hitr;simp only[za]at he;subst he;exact ho2
 | exit i=>
  intro O r kn ke kr st L V G I K he _ hS hg hip hN hE hR;exact jh (hE i _ _ _ _ _ he hS hg hip)
 | ret=>
  intro O r kn ke kr st L V G I K he _ hS hg hip hN hE hR;exact qO (qg5 (hR _ _ _ _ _ he hS hg hip))
 | rangeFunc f ps as b _ _=>intro O r kn ke kr st L V G I K he;simp[shC]at he
 | scope b _=>intro O r kn ke kr st L V G I K he;simp[shC]at he
 | label l=>intro O r kn ke kr st L V G I K he;simp[shC]at he
 | goto l=>intro O r kn ke kr st L V G I K he;simp[shC]at he
 | refuse s=>intro O r kn ke kr st L V G I K he;simp[shC]at he
end
end
end Su
end
