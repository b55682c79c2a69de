/-
  A logic of walks. No condition.
-/
import Derived.Test.YtldhknmacepeiaaGreatDoorFlyG
set_option linter.unusedVariables false
set_option linter.unusedSimpArgs false
section
namespace Fly
open Go
abbrev YT:=Value→Own→qc→Prop
def qoN(y:YT):Prop:=∀v E V V',Sub V V'→y v E V→y v E V'
def Q9(c:Value):YT:=fun v E _=>v=c∧E=[]
theorem jg(c:Value):qoN (Q9 c):=fun _ _ _ _ _ h=>h
def qkm(R:Value→qc→Prop):YT:=fun v E V=>R v V∧E=[]
theorem qaj{R:Value→qc→Prop}(h:∀v V V',Sub V V'→R v V→R v V'):qoN (qkm R):=fun v _ V V' hs hr=>⟨h v V V' hs hr.1,hr.2⟩
def topY:YT:=fun _ _ _=>True
def Ysf(Ys:List YT)(j:Nat):YT:=Ys.getD j topY
def YP:List Tmp→Tmp→Bool
 | [],_=>false
 | d::ds,t=>bif Nat.beq d t then true else YP ds t
theorem qaK(t:Tmp):∀ds,YP ds t=true↔t∈ds
 | []=>by simp[YP]
 | d::ds=>by
  simp only[YP];cases hb:Nat.beq d t with
  | true=>have:=zd hb;subst this;simp
  | false=>
   simp only[zo,qaK t ds,zK];constructor
   · exact .inr
   · rintro(h|h)
     · subst h;simp at hb
     · exact h
def qnm(looks:List Tmp):List Oper→List YT→Option (List (Tmp×YT))
 | o::l,y::Ys=>match o.dst,qnm looks l Ys with
  | some d,some r=>match YP looks d with
   | true=>some ((d,y)::r)
   | false=>some r
  | _,_=>none
 | _,_=>some []
theorem qcr(looks:List Tmp):∀(l:List Oper) (Ys:List YT) (A:List (Tmp×YT)),qnm looks l Ys=some A→∀d y,(d,y)∈A→∃(j:Nat) (o:Oper),l[j]?=some o∧Ys[j]?=some y∧o.dst=some d∧d∈looks
 | [],Ys,A,h,d,y,hm=>by simp[qnm]at h;subst h;simp at hm
 | o::l,[],A,h,d,y,hm=>by simp[qnm]at h;subst h;simp at hm
 | o::l,y0::Ys,A,h,d,y,hm=>by
  simp only[qnm]at h;split at h
  · rename_i d0 r hd hr
    split at h
    · rename_i hc
      simp only[za]at h;subst h;rcases zK.1 hm with e|hm
      · simp only[Km]at e
        obtain⟨rfl,rfl⟩:=e;exact⟨0,o,rfl,rfl,hd,(qaK d looks).1 hc⟩
      · obtain⟨j,o',h1,h2,h3⟩:=qcr looks l Ys r hr d y hm
        exact⟨j+1,o',by simpa using h1,by simpa using h2,h3⟩
    · simp only[za]at h;subst h
      obtain⟨j,o',h1,h2,h3⟩:=qcr looks l Ys r hr d y hm;exact⟨j+1,o',by simpa using h1,by simpa using h2,h3⟩
  · cases h
def Owe(V':qc)(K:Lo→Prop):List (Tmp×YT)→Lo→Prop
 | [],L=>K L
 | (d,y)::A,L=>∀v E,y v E V'→Owe V' K A ((d,v)::L)
def yR(V':qc)(K:Lo→Own→Prop):List Oper→List YT→Lo→Own→Prop
 | o::l,y::Ys,L,E=>∀v E',y v E' V'→yR V' K l Ys (match o.dst with|some d=>(d,v)::L|none=>L) (E++E')
 | _,_,L,E=>K L E
theorem qly{V':qc}{K:Lo→Prop}{vals:Nat→Value}{Es:Nat→Own}{l:List Oper}{Ys:List YT}:∀(A:List (Tmp×YT)) (L:Lo),
 (∀d y,(d,y)∈A→∃(j:Nat) (o:Oper),l[j]?=some o∧Ys[j]?=some y∧o.dst=some d∧y (vals j) (Es j) V')→Owe V' K A L→∃L',K L'∧∀t v,lk L' t=some v→(∃(j:Nat) (o:Oper),l[j]?=some o∧o.dst=some t∧v=vals j∧(∃y,(t,y)∈A)∧j<Ys.length)∨lk L t=some v
 | [],L,_,h=>⟨L,h,fun _ _ h=>.inr h⟩
 | (d,y)::A,L,hA,h=>by
  obtain⟨j,o,hj,hY,hd,hy⟩:=hA d y (by simp)
  obtain⟨L',hK,hL'⟩:=qly A ((d,vals j)::L) (fun d' y' hm=>hA d' y' (by simp[hm])) (h _ _ hy)
  refine⟨L',hK,fun t v ht=>?_⟩
  rcases hL' t v ht with⟨j',o',h1,h2,h3,⟨y',h4⟩,h5⟩|ht
  · exact .inl ⟨j',o',h1,h2,h3,⟨y',by simp[h4]⟩,h5⟩
  · simp only[lk]at ht
    cases hb:Nat.beq d t with
    | true=>
     rw[hb]at ht;have:=zd hb
     subst this;simp only[zg,za]at ht;exact .inl ⟨j,o,hj,hd,ht.symm,⟨y,by simp⟩,(zu.1 hY).1⟩
    | false=>rw[hb]at ht;exact .inr ht
def One(P:Program)(n:Nat)(X:Cx)(V':qc)(G':Own)(l:List Oper)(o:Oper)(y:YT)(L':Lo):Prop :=
 match o.guard with
 | none=>Opr P n X L' V' G' o fun v V'' G''=>Sub V' V''∧∃E,G''.Perm (E++G')∧y v E V''
 | some (g,b)=>∃d t,(l[g]?).bind (·.dst)=some d∧lk L' d=some (.bool t)∧(t=b→Opr P n X L' V' G' o fun v V'' G''=>Sub V' V''∧∃E,G''.Perm (E++G')∧y v E V'')∧(t = !b→y undef [] V')
inductive Prog (P:Program) (n:Nat) (X:Cx) (L:Lo) (V:qc) (G:Own) (K:List KI) (l:List Oper) (m:Nat):List YT→Nat→Prop
 | done {Ys:List YT} (h:∀V',Sub V V'→yR V' (fun L' E=>WR P n X L' V' (E++G) l.toArray (l.drop m) K) (l.take m) Ys L []):Prog P n X L V G K l m Ys 0
 | step {Ys:List YT} {r:Nat} {o:Oper} {A:List (Tmp×YT)} (y:YT) (hy:qoN y) (ho:l[Ys.length]?=some o) (hA:qnm (o.looksAt l.toArray) l Ys=some A)
  (h:∀V' F,Sub V V'→Owe V' (One P n X V' (F++G) l o y) A L) (k:Prog P n X L V G K l m (Ys++[y]) r):Prog P n X L V G K l m Ys (r+1)
theorem qiq{V':qc}{K:Lo→Own→Prop}{vals:Nat→Value}{Es:Nat→Own}{l:List Oper}{m:Nat}(hm:m≤l.length){Ys:List YT}{L:Lo}(hY:Ys.length=m)(hf:∀j,j<m→Ysf Ys j (vals j) (Es j) V'):∀(r k:Nat),k+r=m →
 yR V' K ((l.take m).drop k) (Ys.drop k) (qfz l vals L k) (jN Es k)→K (qfz l vals L m) (jN Es m)
 | 0,k,hk,h=>by
  have hkm:k=m:=by omega
  subst hkm;rw[KW (by simp;omega)]at h;simpa[yR]using h
 | r+1,k,hk,h=>by
  have hkm:k<m:=by omega
  have h1:(l.take m).drop k=l[k]'(by omega)::(l.take m).drop (k+1):=by
   rw[Kj (by simp;omega)];simp
  have h2:Ys.drop k=Ys[k]'(by omega)::Ys.drop (k+1):=Kj (by omega)
  rw[h1,h2]at h;simp only[yR]at h;have hy:=hf k hkm;have hyk:Ysf Ys k=Ys[k]'(by omega):=by unfold Ysf;rw[K6,zA (by omega)];rfl
  rw[hyk]at hy;have h3:=h _ _ hy;refine qiq hm hY hf r (k+1) (by omega) ?_
  simp only[qfz,jN];have hlk:l[k]?=some (l[k]'(by omega)):=zA (by omega)
  rw[hlk];simp only[zm];exact h3
section
variable {P:Program} {n:Nat} {X:Cx} {L:Lo} {V:qc} {G:Own} {K:List KI}
theorem qd7{l:List Oper}{ms:List Nat}{m:Nat}(hP:qlx l ms m=true){vals:Nat→Value}{i j:Nat}{o:Oper}{t:Tmp}(hj:l[j]?=some o)(hd:o.dst=some t)(ha:yJ ms i j=true)(hjm:j<m):∀k,j<k→k≤m→lk (qaW l ms vals i L k) t=some (vals j)
 | 0,h,_=>by omega
 | k+1,h,hk=>by
  simp only[qaW];by_cases hjk:j=k
  · subst hjk
    simp[ha,hj,hd,lk]
  · have ih:=qd7 hP (vals:=vals) hj hd ha hjm k (by omega) (by omega)
    cases hb:yJ ms i k with
    | false=>simpa using ih
    | true=>
     simp only[zg];cases hlk:l[k]? with
     | none=>simpa using ih
     | some ok=>
      cases hdk:ok.dst with
      | none=>simpa[hdk]using ih
      | some dk=>
       obtain⟨d',hd',ho'⟩:=JX hP hjm hj;rw[hd]at hd';simp only[za]at hd';subst hd';have hne:=(ho' k ok (by omega) hlk (Ne.symm hjk)).1
       have hb':Nat.beq dk t=false:=by
        cases hq:Nat.beq dk t with
        | false=>rfl
        | true=>exact absurd (by rw[hdk,zd hq]) hne
       simpa[hdk,lk,hb']using ih
theorem qir{l:List Oper}{ms:List Nat}{vals:Nat→Value}{i:Nat}{t:Tmp}{v:Value}{m:Nat}(hn:t ∉ qd6 (l.take m))(h:lk L t=some v):∀k,k≤m→lk (qaW l ms vals i L k) t=some v
 | 0,_=>h
 | k+1,hk=>by
  have ih:=qir (ms:=ms) (vals:=vals) (i:=i) hn h k (by omega)
  simp only[qaW];cases hb:yJ ms i k with
  | false=>simpa using ih
  | true=>
   simp only[zg];cases hlk:l[k]? with
   | none=>simpa using ih
   | some ok=>
    cases hdk:ok.dst with
    | none=>simpa[hdk]using ih
    | some dk=>
     have hb':Nat.beq dk t=false:=by
      cases hq:Nat.beq dk t with
      | false=>rfl
      | true=>
       refine absurd (WA.2 ⟨ok,K7.2 ⟨k,?_⟩,?_⟩) hn
       · simp[show k<m by omega,hlk]
       · rw[hdk,zd hq]
     simpa[hdk,lk,hb']using ih
theorem qis{L':Lo}{V':qc}{G':Own}{o:Oper}{Q:Value→qc→Own→Prop}(h:Opr P n X L' V' G' o Q)(hL:∀t v,lk L' t=some v→lk L t=some v):Opr P n X L V' G' o Q :=
 fun a ha=>h a ⟨ha.defers,ha.size,fun t v e=>ha.get t v (hL t v e)⟩
theorem qoO{l:List Oper}{ms:List Nat}{m:Nat}{L0:Lo}(hc:qkl n l ms m=true)(hL:qcX (qd6 (l.take m)) L0=some L){Ys:List YT}{r:Nat}(h:Prog P n X L V G K l m Ys r):Ys.length+r=m→(∀i,i<Ys.length→qoN (Ysf Ys i)) →
 ∃Yf:List YT,Yf.length=m∧(∀i,i<Ys.length→Ysf Yf i=Ysf Ys i)∧(∀i,i<m→qoN (Ysf Yf i))∧(∀(i:Nat) (o:Oper),Ys.length≤i→i<m→l[i]?=some o→qv4 P n X L V G l ms (Ysf Yf) i o) ∧
  (∀V',Sub V V'→yR V' (fun L' E=>WR P n X L' V' (E++G) l.toArray (l.drop m) K) (l.take m) Yf L []):=by
 have hc':=hc;simp only[qkl,zp]at hc';obtain⟨⟨⟨⟨⟨⟨hGd,hdst⟩,hE⟩,hP⟩,hT⟩,hml⟩,hS⟩:=hc';have hmsk:=Q8 _ _ _ hL;induction h with
 | @done Ys hd=>intro hlen hmono;exact⟨Ys,by omega,fun _ _=>rfl,fun i hi=>hmono i (by omega),fun i _ h1 h2=>by omega,hd⟩
 | @step Ys r o A y hy ho hA h _ ih=>
  intro hlen hmono;obtain⟨Yf,h1,h2,h3,h4,h5⟩:=ih (by simp;omega) (fun i hi=>by
   simp only[zb,VU]at hi;by_cases hlt:i<Ys.length
   · have:Ysf (Ys++[y]) i=Ysf Ys i:=by unfold Ysf;simp[K6,Ki hlt]
     rw[this];exact hmono i hlt
   · have hie:i=Ys.length:=by omega
     subst hie;have:Ysf (Ys++[y]) Ys.length=y:=by unfold Ysf;simp
     rw[this];exact hy)
  have hYi:Ysf Yf Ys.length=y:=by rw[h2 Ys.length (by simp)];unfold Ysf;simp
  have hYl:∀i,i<Ys.length→Ysf Yf i=Ysf Ys i:=fun i hi=>by
   rw[h2 i (by simp;omega)];unfold Ysf;simp[K6,Ki hi]
  refine⟨Yf,h1,hYl,h3,fun i o' hi him ho'=>?_,h5⟩
  by_cases hie:i=Ys.length
  · subst hie
    rw[ho]at ho';simp only[za]at ho';subst ho';intro vals Es V' F hs hfacts;have hsel:=qcr _ _ _ _ hA;have hAf:∀d y,(d,y)∈A→∃(j:Nat) (o:Oper),l[j]?=some o∧Ys[j]?=some y∧o.dst=some d∧y (vals j) (Es j) V':=fun d y hm=>by
     obtain⟨j,oj,hj,hYj,hdj,hlook⟩:=hsel d y hm;have hjl:j<Ys.length:=(zu.1 hYj).1
     obtain⟨d',hd',hoth⟩:=JX hP (show j<m by omega) hj
     rw[hdj]at hd';simp only[za]at hd';subst hd';have hanc:=(hoth Ys.length o him ho (by omega)).2 hlook
     have hfact:=hfacts j hjl hanc;rw[hYl j hjl]at hfact;have:Ysf Ys j=y:=by unfold Ysf;rw[K6,hYj];rfl
     rw[this]at hfact;exact⟨j,oj,hj,hYj,hdj,hfact⟩
    obtain⟨L',hK,hL'⟩:=qly A L hAf (h V' F hs)
    have hincl:∀t v,lk L' t=some v→lk (qaW l ms vals Ys.length L Ys.length) t=some v:=fun t v ht=>by
     rcases hL' t v ht with⟨j,oj,hj,hdj,rfl,⟨y',hm⟩,hjl⟩|ht
     · obtain⟨j2,oj2,hj2,hYj2,hdj2,hlook⟩:=hsel t y' hm
       obtain⟨d',hd',hoth⟩:=JX hP (show j<m by omega) hj
       rw[hdj]at hd';simp only[za]at hd';subst hd';exact qd7 hP hj hdj ((hoth Ys.length o him ho (by omega)).2 hlook) (by omega) _ hjl (by omega)
     · exact qir (hmsk t v ht).1 ht _ (by omega)
    unfold One at hK;rw[hYi];split at hK
    · rename_i hg
      rw[hg];exact qis hK hincl
    · rename_i g b hg
      rw[hg];obtain⟨d,t,hd,ht,hyes,hno⟩:=hK;obtain⟨hgi,hga⟩:=qip hGd him ho hg;refine⟨t,?_,hga,hgi,fun e=>qis (hyes e) hincl,hno⟩
      have hgl:g<l.length:=by have:=zx hml;omega
      have hdg:(l[g]).dst=some d:=by simpa[hgl]using hd
      have hx:=hincl d _ ht;rw[qd7 hP (show l[g]?=some l[g] by simp[hgl]) hdg hga (by omega) _ hgi (by omega)]at hx;simpa using hx
  · exact h4 i o' (by simp;omega) him ho'
theorem jo{Lm:Lo}{id:Nat}{l:List Oper}(m:Nat){ms:List Nat}(hm:P.follows .mixedOrders=true)(hms:Qb l []=ms)(hc:qkl n l ms m=true)(hL:qcX (qd6 (l.take m)) L=some Lm)
 (h:Prog P n X Lm V G K l m [] m):WC P n X L V G (.region id l.toArray true) K:=by
 obtain⟨Yf,h1,_,h3,h4,h5⟩:=qoO hc hL h (by simp) (fun i hi=>by simp at hi)
 have hml:m≤l.length:=by
  simp only[qkl,zp]at hc;exact zx hc.1.2
 refine qoM m (Ysf Yf) hm hms hc hL (fun i v E V V' hs hy=>?_) (fun i o hi ho=>h4 i o (by simp) hi ho) (fun vals Es V' hs hf=>?_)
 · by_cases hi:i<m
   · exact h3 i hi v E V V' hs hy
   · have:Ysf Yf i=topY:=by unfold Ysf;rw[K6,Kk (by omega)];rfl
     rw[this];trivial
 · have:=qiq (K:=fun L' E=>WR P n X L' V' (E++G) l.toArray (l.drop m) K) hml h1 hf m 0 (by omega) (by simpa[qfz,jN]using h5 V' hs)
   exact this
end
end Fly
end
section
namespace Fly
open Go
def qaX(m:Nat)(l:List Value)(e:TypeId)(v:Value)(V:qc):Prop:=∃b,v = .slice (some ⟨b,0,none⟩) m m∧V b=some (.cells l.toArray e (0,0))
theorem Yu{m:Nat}{l:List Value}{e:TypeId}:∀v V V',Sub V V'→qaX m l e v V→qaX m l e v V':=fun _ _ _ hs ⟨b,h1,h2⟩=>⟨b,h1,hs _ _ h2⟩
theorem Has.app{F G:Own}{b:Nat}{o:Obj}(h:Has G b o):Has (F++G) b o:=by
 induction F with
 | nil=>exact h
 | cons p F ih=>exact .there ih
section
variable {P:Program} {n:Nat} {X:Cx} {L:Lo} {V V':qc} {G G':Own} {K:List KI} {Q:Value→qc→Own→Prop} {KL:Lo→Prop} {KE:Lo→Own→Prop} {A:List (Tmp×YT)} {l all ops:List Oper} {Ys:List YT} {E:Own}
variable {op:Op} {ty:TypeId} {pos:String} {af:Array Edge} {gd:Option (Nat×Bool)} {ds:Option Tmp} {d:Tmp}
theorem js(h:KL L):Owe V' KL [] L:=h
theorem jt{c:Value}(h:Owe V' KL A ((d,c)::L)):Owe V' KL ((d,Q9 c)::A) L:=by rintro _ _ ⟨rfl,_⟩;exact h
theorem qW{y:YT}(h:Opr P n X L V' G' ⟨ds,op,ty,pos,af,none⟩ fun v V'' G''=>Sub V' V''∧∃E,G''.Perm (E++G')∧y v E V''):One P n X V' G' l ⟨ds,op,ty,pos,af,none⟩ y L:=h
theorem qnn{y:YT}{g d:Nat}{b t:Bool}(hd:(l[g]?).bind (·.dst)=some d)(ht:lk L d=some (.bool t))(h:t=b→Opr P n X L V' G' ⟨ds,op,ty,pos,af,some (g,b)⟩ fun v V'' G''=>Sub V' V''∧∃E,G''.Perm (E++G')∧y v E V'')(h0:t = !b→y undef [] V') :
 One P n X V' G' l ⟨ds,op,ty,pos,af,some (g,b)⟩ y L:=⟨d,t,hd,ht,h,h0⟩
theorem Qc{c:Value}:Sub V' V'∧∃E,G'.Perm (E++G')∧Q9 c c E V':=⟨Sub.refl _,[],zr _,rfl,rfl⟩
theorem jp{c:Value}(h:yR V' KE l Ys ((d,c)::L) E):yR V' KE (⟨some d,op,ty,pos,af,gd⟩::l) (Q9 c::Ys) L E:=by rintro _ _ ⟨rfl,rfl⟩;simpa using h
theorem qbr{R:Value→qc→Prop}(h:∀v,R v V'→yR V' KE l Ys ((d,v)::L) E):yR V' KE (⟨some d,op,ty,pos,af,gd⟩::l) (qkm R::Ys) L E:=by rintro v _ ⟨hr,rfl⟩;simpa using h v hr
theorem jr{al:Array Oper}(h:WR P n X L V' G al ops K):yR V' (fun L' E=>WR P n X L' V' (E++G) al ops K) [] [] L []:=h
theorem qdq{m:Nat}{r:List Value}{e:TypeId}{b:Nat}(h:V' b=none):Sub V' (addV V' b (.cells r.toArray e (0,0)))∧∃E,G'.Perm (E++G')∧qkm (qaX m r e) (.slice (some ⟨b,0,none⟩) m m) E (addV V' b (.cells r.toArray e (0,0))) :=
 ⟨Sub.addV h,[],zr _,⟨b,rfl,by simp⟩,rfl⟩
end
end Fly
end
