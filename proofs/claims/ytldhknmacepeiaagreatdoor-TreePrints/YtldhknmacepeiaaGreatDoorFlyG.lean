/-
  A logic of walks. No condition.
-/
import Derived.Test.YtldhknmacepeiaaGreatDoorFlyD
set_option linter.unusedVariables false
set_option linter.unusedSimpArgs false
namespace Fly
open Go
def msk(acc:List Nat)(o:Oper):Nat:=o.after.toList.foldl (fun s e=>if Region.binds .any e then s ||| 2^e.on ||| acc.getD e.on 0 else s) 0
def Qb:List Oper→List Nat→List Nat
 | [],acc=>acc
 | o::l,acc=>Qb l (acc++[msk acc o])
def yJ(ms:List Nat)(i j:Nat):Bool:=(ms.getD i 0).testBit j
theorem qin(acc:List Nat)(j:Nat):∀(es:List Edge) (s:Nat),(es.foldl (fun s e=>if Region.binds .any e then s ||| 2^e.on ||| acc.getD e.on 0 else s) s).testBit j=true →
 s.testBit j=true∨∃e∈es,Region.binds .any e=true∧(e.on=j∨(acc.getD e.on 0).testBit j=true)
 | [],s,h=>.inl h
 | e::es,s,h=>by
  simp only[List.foldl_cons]at h;rcases qin acc j es _ h with h|⟨e',he',hb,hx⟩
  · by_cases hb:Region.binds .any e=true
    · rw[z6 hb]at h
      simp only[Nat.testBit_or,VR]at h;rcases h with(h|h)|h
      · exact .inl h
      · rw[Nat.testBit_two_pow]at h
        exact .inr ⟨e,by simp,hb,.inl (by simpa using h)⟩
      · exact .inr ⟨e,by simp,hb,.inr h⟩
    · rw[zQ hb]at h;exact .inl h
  · exact .inr ⟨e',by simp[he'],hb,hx⟩
theorem qd2{all:List Oper}{Lst:Nat→Prop}(hcl:∀(k:Nat) (o:Oper),all[k]?=some o→Lst k→∀e∈o.after.toList,Region.binds .any e=true→Lst e.on) :
 ∀(l:List Oper) (acc:List Nat),(∀j,l[j]?=all[acc.length+j]?) →
  (∀(i:Nat) (o:Oper),i<acc.length→all[i]?=some o→(∀e∈o.after.toList,Region.binds .any e=true→Lst e.on)→∀j,yJ acc i j=true→Lst j) →
  ∀(i:Nat) (o:Oper),all[i]?=some o→(∀e∈o.after.toList,Region.binds .any e=true→Lst e.on)→∀j,yJ (Qb l acc) i j=true→Lst j
 | [],acc,hl,hacc,i,o,ho,hd,j,h=>by
  by_cases hi:i<acc.length
  · exact hacc i o hi ho hd j h
  · simp[Qb,yJ,K6,Kk (Wi hi)]at h
 | x::l,acc,hl,hacc,i,o,ho,hd,j,h=>by
  refine qd2 hcl l (acc++[msk acc x]) (fun j=>?_) (fun i o hi ho hd j h=>?_) i o ho hd j h
  · have:=hl (j+1)
    simp only[K8]at this;rw[this];simp[Kp,Wh 1 j]
  · simp only[zb,VU]at hi
    by_cases hlt:i<acc.length
    · refine hacc i o hlt ho hd j ?_
      simpa[yJ,K6,Ki hlt]using h
    · have hie:i=acc.length:=by omega
      subst hie;have hx:all[acc.length]?=some x:=by have:=hl 0;simpa using this.symm
      rw[hx]at ho;simp only[za]at ho;subst ho;have h':(msk acc x).testBit j=true:=by simpa[yJ]using h
      rcases qin acc j _ 0 h' with h0|⟨e,he,hb,hj|hj⟩
      · simp at h0
      · exact hj ▸ hd e he hb
      · have hlt':e.on<acc.length:=by
         rcases VH e.on acc.length with h1|h1
         · exact h1
         · simp[K6,Kk h1]at hj
        have hL:=hd e he hb;cases hoe:all[e.on]? with
        | none=>
         have h1:=hl 0
         have:acc.length<all.length:=(zu.1 hx).1
         rw[VS]at hoe;omega
        | some oe=>exact hacc e.on oe hlt' hoe (fun e' he' hb'=>hcl e.on oe hoe hL e' he' hb') j hj
theorem qco{l:List Oper}{Lst:Nat→Prop}(hcl:∀(k:Nat) (o:Oper),l[k]?=some o→Lst k→∀e∈o.after.toList,Region.binds .any e=true→Lst e.on)
 {i:Nat} {o:Oper} (ho:l[i]?=some o) (hd:∀e∈o.after.toList,Region.binds .any e=true→Lst e.on) {j:Nat} (h:yJ (Qb l []) i j=true):Lst j :=
 qd2 hcl l [] (by simp) (fun i _ hi=>by simp at hi) i o ho hd j h
theorem gd{xs:Array Bool}{i:Nat}(h:i<xs.size)(b:Bool):xs.getD i b=xs[i]:=by
 rw[Array.getD_eq_getD_getElem?,VT h];rfl
def qd3(l:List Oper):Bool:=l.zipIdx.all fun p=>p.1.after.toList.all fun e=>!Region.binds .any e||Nat.blt e.on p.2
def qlx(l:List Oper)(ms:List Nat)(m:Nat):Bool :=
 (l.take m).zipIdx.all fun p=>match p.1.dst with
   | none=>false
   | some d=>(l.take m).zipIdx.all fun q=>p.2 == q.2||((q.1.dst != some d)&&(!((q.1.looksAt l.toArray).contains d)||yJ ms q.2 p.2))
def qio(l:List Oper)(ms:List Nat)(m:Nat):Bool:=(l.zipIdx.drop m).all fun p=>(List.range p.2).all fun j=>yJ ms p.2 j
def qkk(l:List Oper)(ms:List Nat)(m:Nat):Bool:=(l.take m).zipIdx.all fun p=>match p.1.guard with
 | none=>true
 | some (g,_)=>Nat.blt g p.2&&yJ ms p.2 g
def qkl(n:Nat)(l:List Oper)(ms:List Nat)(m:Nat):Bool:=qkk l ms m&&(l.take m).all (fun o=>okd n o.dst)&&qd3 l&&qlx l ms m&&qio l ms m&&Nat.ble m l.length&&Region.noSelect l.toArray
theorem Jp{l:List Oper}(h:qd3 l=true){i:Nat}{o:Oper}(ho:l[i]?=some o):∀e∈o.after.toList,Region.binds .any e=true→e.on<i:=by
 intro e he hb;simp only[qd3,Ko]at h;have h1:=h (o,i) (by rw[Kz];simpa using ho) 
 have h2:=h1 e he;simpa[hb]using h2
theorem JX{l:List Oper}{ms:List Nat}{m:Nat}(h:qlx l ms m=true){i:Nat}{o:Oper}(hi:i<m)(ho:l[i]?=some o) :
 ∃d,o.dst=some d∧∀(j:Nat) (q:Oper),j<m→l[j]?=some q→j≠i→q.dst≠some d∧(d∈q.looksAt l.toArray→yJ ms j i=true):=by
 simp only[qlx,Ko]at h;have h1:=h (o,i) (by rw[Kz];simp[hi,ho])
 cases hd:o.dst with
 | none=>simp[hd]at h1
 | some d=>
  simp only[hd,Ko]at h1;refine⟨d,rfl,fun j q hj hq hne=>?_⟩
  have h2:=h1 (q,j) (by rw[Kz];simp[hj,hq])
  simp only[VR,beq_iff_eq,zp,bne_iff_ne,Wb,List.contains_eq_mem,decide_eq_false_iff_not]at h2;rcases h2 with h2|⟨h2,h3⟩
  · exact absurd h2.symm hne
  · exact⟨h2,fun hm=>h3.resolve_left (fun h=>h hm)⟩
theorem qip{l:List Oper}{ms:List Nat}{m:Nat}(h:qkk l ms m=true){i:Nat}{o:Oper}(hi:i<m)(ho:l[i]?=some o){g:Nat}{b:Bool}(hg:o.guard=some (g,b)):g<i∧yJ ms i g=true:=by
 simp only[qkk,Ko]at h;have h1:=h (o,i) (by rw[Kz];simp[hi,ho])
 simp only[hg,zp]at h1;exact⟨by simpa using h1.1,h1.2⟩
theorem qaV{l:List Oper}{ms:List Nat}{m:Nat}(h:qio l ms m=true){i:Nat}(hi:m≤i)(hl:i<l.length):∀j,j<i→yJ ms i j=true:=by
 intro j hj;simp only[qio,Ko]at h;have h1:=h (l[i],i) (by
  rw[K7];exact⟨i-m,by rw[KZ,show m+(i-m)=i by omega];simp[hl]⟩)
 exact h1 j (by simpa using hj)
section
variable {P:Program} {n:Nat} {X:Cx} {L:Lo} {V:qc} {G:Own} {K:List KI}
theorem JY{l:List Oper}{ms:List Nat}{m:Nat}(hms:Qb l []=ms)(hT:qio l ms m=true)(hE:qd3 l=true){Q:Exit→Act→World→Prop}:∀(fuel k:Nat) (listed:Array Bool) (a:Act) (w:World),m≤k→k+fuel=l.length→listed.size=l.length→(∀j,j<l.length→listed.getD j true=decide (j<k)) →
 wpList P l.toArray Q (l.drop k) a w→wpAny P .any l.toArray Q fuel listed a w
 | 0,k,listed,a,w,hk,hf,hs,hl,h=>by
  have hkl:k=l.length:=by omega
  subst hkl;refine⟨?_,by simpa[wpList]using h⟩
  cases hr:Region.ready .any l.toArray listed with
  | nil=>rfl
  | cons x xs=>
   have hx:x∈Region.ready .any l.toArray listed:=by simp[hr]
   obtain⟨h0,o,ho,_⟩:=mem_ready.1 hx;have hlt:x<l.length:=by have:=(zX.1 ho).1;simpa using this
   rw[hl x hlt]at h0;simp[hlt]at h0
 | fuel+1,k,listed,a,w,hk,hf,hs,hl,h=>by
  have hkl:k<l.length:=by omega
  have hready:∀i∈Region.ready .any l.toArray listed,i=k:=by
   intro i hi;obtain⟨h0,o,ho,hall⟩:=mem_ready.1 hi;have ho':l[i]?=some o:=by simpa using ho
   have hlt:i<l.length:=(zu.1 ho').1
   rw[hl i hlt]at h0;have hge:k≤i:=by simpa using h0
   rcases VH k i with hki|hki
   · have hanc:yJ (Qb l []) i k=true:=by rw[hms];exact qaV hT (by omega) hlt k hki
     have:=qco (l:=l) (Lst:=fun j=>j<k) (fun k' o' ho'' hL e he hb=>Nat.lt_trans (Jp hE ho'' e he hb) hL) ho' (fun e he hb=>by
      have h1:=hall e (by simpa using he) hb
      have hel:e.on<l.length:=by have:=Jp hE ho' e he hb;omega
      have h2:=hl e.on hel;rw[show listed.getD e.on true=listed.getD e.on false by rw[gd (by omega),gd (by omega)]]at h2;rw[h1]at h2;simpa using h2.symm) hanc
     omega
   · omega
  have hk':k∈Region.ready .any l.toArray listed:=by
   rw[mem_ready];refine⟨by rw[hl k hkl];simp,l[k],by simp[hkl],fun e he hb=>?_⟩
   have he':=Jp hE (i:=k) (o:=l[k]) (by simp[hkl]) e (by simpa using he) hb
   have h2:=hl e.on (by omega)
   rw[show listed.getD e.on true=listed.getD e.on false by rw[gd (by omega),gd (by omega)]]at h2;rw[h2];simpa using he'
  refine⟨fun h0=>by rw[h0]at hk';simp at hk',fun i hi=>?_⟩
  rw[hready i hi];have hd:l.drop k=l[k]::l.drop (k+1):=Kj hkl
  rw[hd]at h;have ih:∀a w,wpList P l.toArray Q (l.drop (k+1)) a w→wpAny P .any l.toArray Q fuel (listed.setIfInBounds k true) a w:=fun a w h=>
   JY hms hT hE fuel (k+1) _ a w (by omega) (by omega) (by simpa using hs) (fun j hj=>by
    by_cases hjk:k=j
    · subst hjk;rw[gd (by simp;omega)];simp
    · rw[getD_set_ne true hjk,hl j hj]
      have e1:(j<k+1)=(j<k):=by apply propext;omega
      simp only[e1]) h
  unfold wpOp;have hok:l.toArray[k]?=some l[k]:=by simp[hkl]
  simp only[hok];unfold wpList at h;split
  · rename_i hw
    rw[z6 hw]at h;exact h.imp (Oper.wp_mono ih) id
  · rename_i hw
    rw[zQ hw]at h;exact ih _ _ h
def JE(Es:Nat→Own)(b:Nat→Bool):Nat→Own
 | 0=>[]
 | m+1=>JE Es b m++(bif b m then Es m else[])
theorem qfO(Es:Nat→Own)(b:Nat→Bool)(i:Nat)(E:Own)(hb:b i=false):∀m,i<m →
 (JE (fun j=>if j=i then E else Es j) (fun j=>if j=i then true else b j) m).Perm (E++JE Es b m)
 | 0,h=>by omega
 | m+1,h=>by
  simp only[JE];by_cases hm:m=i
  · subst hm
    have:∀k,k≤m→JE (fun j=>if j=m then E else Es j) (fun j=>if j=m then true else b j) k=JE Es b k:=by
     intro k;induction k with
     | zero=>intro _;rfl
     | succ k ih=>intro hk;simp only[JE,ih (by omega),show¬k=m by omega,Vv]
    rw[this m (zI _)];simp only[VG,zg,hb,zo,z7];exact zF
  · simp only[hm,Vv]
    have:=qfO Es b i E hb m (by omega)
    rw[← zw];exact this.append_right _
def jN(Es:Nat→Own):Nat→Own
 | 0=>[]
 | m+1=>jN Es m++Es m
def qaW(l:List Oper)(ms:List Nat)(vals:Nat→Value)(i:Nat)(L:Lo):Nat→Lo
 | 0=>L
 | j+1=>bif yJ ms i j then(match(l[j]?).bind (·.dst)with|some d=>(d,vals j)::qaW l ms vals i L j|none=>qaW l ms vals i L j)else qaW l ms vals i L j
def qfz(l:List Oper)(vals:Nat→Value)(L:Lo):Nat→Lo
 | 0=>L
 | j+1=>match(l[j]?).bind (·.dst)with|some d=>(d,vals j)::qfz l vals L j|none=>qfz l vals L j
def qv4(P:Program)(n:Nat)(X:Cx)(L:Lo)(V:qc)(G:Own)(l:List Oper)(ms:List Nat)(Y:Nat→Value→Own→qc→Prop)(i:Nat)(o:Oper):Prop :=
 ∀(vals:Nat→Value) (Es:Nat→Own) (V':qc) (F:Own),Sub V V'→(∀j,j<i→yJ ms i j=true→Y j (vals j) (Es j) V') →
  match o.guard with
  | none=>Opr P n X (qaW l ms vals i L i) V' (F++G) o fun v V'' G''=>Sub V' V''∧∃E,G''.Perm (E++(F++G))∧Y i v E V''
  | some (g,b)=>∃t,vals g = .bool t∧yJ ms i g=true∧g<i∧(t=b→Opr P n X (qaW l ms vals i L i) V' (F++G) o fun v V'' G''=>Sub V' V''∧∃E,G''.Perm (E++(F++G))∧Y i v E V'')∧(t = !b→Y i undef [] V')
theorem qd4{l:List Oper}{ms:List Nat}{vals:Nat→Value}{i:Nat}{L:Lo}{t:Nat}{v:Value}:∀k,lk (qaW l ms vals i L k) t=some v→(∃j o,j<k∧yJ ms i j=true∧l[j]?=some o∧o.dst=some t∧v=vals j)∨lk L t=some v
 | 0,h=>.inr h
 | k+1,h=>by
  simp only[qaW]at h;cases hb:yJ ms i k with
  | false=>
   simp only[hb,zo]at h;rcases qd4 k h with⟨j,o,hj,r⟩|h
   · exact .inl ⟨j,o,by omega,r⟩
   · exact .inr h
  | true=>
   simp only[hb,zg]at h;have prev:lk (qaW l ms vals i L k) t=some v→(∃j o,j<k∧yJ ms i j=true∧l[j]?=some o∧o.dst=some t∧v=vals j)∨lk L t=some v:=qd4 k
   split at h
   · rename_i d hd
     simp only[lk]at h;cases hq:Nat.beq d t with
     | true=>
      rw[hq]at h;have:=zd hq
      subst this;simp only[zg,za]at h;cases ho:l[k]? with
      | none=>simp[ho]at hd
      | some o=>exact .inl ⟨k,o,by omega,hb,ho,by simpa[ho]using hd,h.symm⟩
     | false=>
      rw[hq]at h;rcases prev h with⟨j,o,hj,r⟩|h
      · exact .inl ⟨j,o,by omega,r⟩
      · exact .inr h
   · rcases prev h with⟨j,o,hj,r⟩|h
     · exact .inl ⟨j,o,by omega,r⟩
     · exact .inr h
theorem qbq{l:List Oper}{vals:Nat→Value}{L:Lo}{t:Nat}{v:Value}:∀k,lk (qfz l vals L k) t=some v→(∃j o,j<k∧l[j]?=some o∧o.dst=some t∧v=vals j)∨((∀(j:Nat) (o:Oper),j<k→l[j]?=some o→o.dst≠some t)∧lk L t=some v)
 | 0,h=>.inr ⟨fun j _ hj=>by omega,h⟩
 | k+1,h=>by
  simp only[qfz]at h;split at h
  · rename_i d hd
    cases ho:l[k]? with
    | none=>simp[ho]at hd
    | some o=>
     have hod:o.dst=some d:=by simpa[ho]using hd
     simp only[lk]at h;cases hq:Nat.beq d t with
     | true=>
      rw[hq]at h;have:=zd hq
      subst this;simp only[zg,za]at h;exact .inl ⟨k,o,by omega,ho,hod,h.symm⟩
     | false=>
      rw[hq]at h;rcases qbq k h with⟨j,o,hj,r⟩|⟨h1,h2⟩
      · exact .inl ⟨j,o,by omega,r⟩
      · refine .inr ⟨fun j o' hj ho'=>?_,h2⟩
        by_cases hjk:j=k
        · subst hjk
          rw[ho]at ho';simp only[za]at ho';subst ho';rw[hod];intro e;simp only[za]at e;subst e;simp at hq
        · exact h1 j o' (by omega) ho'
  · rename_i hd
    rcases qbq k h with⟨j,o,hj,r⟩|⟨h1,h2⟩
    · exact .inl ⟨j,o,by omega,r⟩
    · refine .inr ⟨fun j o' hj ho'=>?_,h2⟩
      by_cases hjk:j=k
      · subst hjk;intro e;simp[ho',e]at hd
      · exact h1 j o' (by omega) ho'
def qoL:List Tmp→Tmp→Bool
 | [],_=>false
 | d::ds,t=>Nat.beq d t||qoL ds t
def qcX(ds:List Tmp):Lo→Option Lo
 | []=>some []
 | (t,v)::l=>match qoL ds t,qcX ds l with
  | true,some r=>some r
  | false,some r=>some ((t,v)::r)
  | _,none=>none
theorem qd5(t:Tmp):∀ds,qoL ds t=true↔t∈ds
 | []=>by simp[qoL]
 | d::ds=>by
  simp only[qoL,VR,qd5 t ds,zK];constructor
  · rintro(h|h)
    · exact .inl (zd h).symm
    · exact .inr h
  · rintro(h|h)
    · subst h;exact .inl (Vk _)
    · exact .inr h
theorem Q8(ds:List Tmp):∀(L Lm:Lo),qcX ds L=some Lm→∀t v,lk Lm t=some v→t ∉ ds∧lk L t=some v
 | [],Lm,h,t,v,hv=>by simp[qcX]at h;subst h;simp[lk]at hv
 | (k,u)::l,Lm,h,t,v,hv=>by
  simp only[qcX]at h;split at h
  · rename_i r hm hr
    simp only[za]at h;subst h;obtain⟨h1,h2⟩:=Q8 ds l r hr t v hv;refine⟨h1,?_⟩
    have:Nat.beq k t=false:=by
     cases hb:Nat.beq k t with
     | false=>rfl
     | true=>have:=zd hb;subst this;exact absurd ((qd5 k ds).1 hm) h1
    simp[lk,this,h2]
  · rename_i r hm hr
    simp only[za]at h;subst h;simp only[lk]at hv ⊢;cases hb:Nat.beq k t with
    | true=>
     have:=zd hb;subst this
     rw[hb]at hv;exact⟨fun hm'=>(by rw[(qd5 k ds).2 hm']at hm;cases hm),hv⟩
    | false=>rw[hb]at hv;exact Q8 ds l r hr t v hv
  · cases h
def qd6(l:List Oper):List Tmp:=l.filterMap (·.dst)
theorem qcp:∀(l:List Bool) (i:Nat),l[i]?=some false→(l.set i true).count false+1=l.count false
 | [],i,h=>by simp at h
 | x::l,0,h=>by simp at h;subst h;simp
 | x::l,i+1,h=>by
  simp only[K8]at h;have:=qcp l i h
  cases x <;> simp <;> omega
theorem qcq(Es:Nat→Own)(b:Nat→Bool):∀m,(∀i,i<m→b i=true)→JE Es b m=jN Es m
 | 0,_=>rfl
 | m+1,h=>by simp only[JE,jN,qcq Es b m (fun i hi=>h i (by omega)),h m (by omega),zg]
structure Inv (n:Nat) (X:Cx) (L:Lo) (V:qc) (G:Own) (l:List Oper) (ms:List Nat) (m:Nat) (Y:Nat→Value→Own→qc→Prop) (listed:Array Bool) (a:Act) (w:World) (vals:Nat→Value) (Es:Nat→Own) (V':qc):Prop where
 sub:Sub V V'
 closed:∀(k:Nat) (o:Oper),l[k]?=some o→listed.getD k false=true→∀e∈o.after.toList,Region.binds .any e=true→listed.getD e.on false=true
 only:∀k,m≤k→listed.getD k false=false
 facts:∀i,i<m→listed.getD i false=true→Y i (vals i) (Es i) V'
 defers:a.defers=[]
 size:a.tmps.size=n
 new:∀(i:Nat) (o:Oper) (d:Tmp),i<m→listed.getD i false=true→l[i]?=some o→o.dst=some d→a.tmps[d]?=some (vals i)
 old:∀t v,lk L t=some v→(∀(i:Nat) (o:Oper),i<m→listed.getD i false=true→l[i]?=some o→o.dst≠some t)→a.tmps[t]?=some v
 holds:Holds X V' (JE Es (fun i=>listed.getD i false) m++G) w
theorem qnl{Lm:Lo}{l:List Oper}{ms:List Nat}{m:Nat}(hL:qcX (qd6 (l.take m)) L=some Lm){Y:Nat→Value→Own→qc→Prop}(hms:Qb l []=ms)(hc:qkl n l ms m=true)
 (hY:∀i v E V V',Sub V V'→Y i v E V→Y i v E V') (hob:∀(i:Nat) (o:Oper),i<m→l[i]?=some o→qv4 P n X Lm V G l ms Y i o)
 (hk:∀vals Es V',Sub V V'→(∀i,i<m→Y i (vals i) (Es i) V')→WR P n X (qfz l vals Lm m) V' (jN Es m++G) l.toArray (l.drop m) K) :
 ∀(fuel:Nat) (listed:Array Bool) (a:Act) (w:World) (vals:Nat→Value) (Es:Nat→Own) (V':qc),listed.size=l.length→listed.toList.count false=fuel→Inv n X L V G l ms m Y listed a w vals Es V' →
  wpAny P .any l.toArray (Qp P X.R K) fuel listed a w:=by
 have hc':=hc;simp only[qkl,zp]at hc';obtain⟨⟨⟨⟨⟨⟨_,hdst⟩,hE⟩,hP⟩,hT⟩,hml⟩,hS⟩:=hc';have hml':m≤l.length:=zx hml
 intro fuel;induction fuel with
 | zero=>
  intro listed a w vals Es V' hs hf hI;have hall:∀i,i<l.length→listed.getD i false=true:=by
   intro i hi;have hi':i<listed.size:=by omega
   rw[gd hi'];cases hb:listed[i]with
   | true=>rfl
   | false=>
    have:false∈listed.toList:=by rw[← hb];simp
    have:=List.count_pos_iff.2 this
    omega
  have hm:m=l.length:=by
   rcases VH m l.length with h|h
   · have h1:=hall m h
     rw[hI.only m (zI _)]at h1;cases h1
   · omega
  have hfin:=hk vals Es V' hI.sub (fun i hi=>hI.facts i hi (hall i (by omega)))
  rw[hm,List.drop_length]at hfin;refine JY hms hT hE 0 l.length listed a w (by omega) (by omega) hs (fun j hj=>?_) ?_
  · have:=hall j hj
    have hj':j<listed.size:=by omega
    rw[gd hj']at this ⊢;simp[this,hj]
  · rw[List.drop_length]
    have hh:=hI.holds;rw[hm,qcq Es _ l.length hall]at hh;refine hfin a w ⟨hI.defers,hI.size,fun t v ht=>?_⟩ hh
    rcases qbq _ ht with⟨j,o,hj,ho,hd,rfl⟩|⟨h1,h2⟩
    · exact hI.new j o t (by omega) (hall j hj) ho hd
    · exact hI.old t v (Q8 _ _ _ hL t v h2).2 fun i o hi _ ho=>h1 i o (by omega) ho
 | succ fuel ih=>
  intro listed a w vals Es V' hs hf hI
  -- are all of the first part carried out?
  by_cases hdone:∀i,i<m→listed.getD i false=true
  · have hfin:=hk vals Es V' hI.sub (fun i hi=>hI.facts i hi (hdone i hi))
    have hh:=hI.holds;rw[qcq Es _ m hdone]at hh;have hshape:∀j,j<l.length→listed.getD j true=decide (j<m):=fun j hj=>by
     have hj':j<listed.size:=by omega
     have h1:listed.getD j true=listed.getD j false:=by rw[gd hj',gd hj']
     rw[h1];by_cases hjm:j<m
     · rw[hdone j hjm];simp[hjm]
     · rw[hI.only j (by omega)];simp[hjm]
    have hcnt:m+(fuel+1)=l.length:=by
     have e1:listed.toList=List.replicate m true++List.replicate (l.length-m) false:=by
      apply WS
      intro j;by_cases hj:j<l.length
      · have h2:=hshape j hj
        have hj':j<listed.size:=by omega
        rw[gd hj']at h2;have h2':listed[j]?=some (decide (j<m)):=by rw[VT hj'];exact congrArg some h2
        rw[Wp,h2',List.getElem?_append];by_cases hjm:j<m
        · simp[hjm]
        · rw[zQ (by simpa using hjm),K9,z6 (by simp;omega)];simp[hjm]
      · rw[Kk (by simp;omega),Kk (by simp;omega)]
     rw[e1]at hf;simp[List.count_append,List.count_replicate]at hf;omega
    refine JY hms hT hE (fuel+1) m listed a w (zI _) hcnt hs hshape ?_
    refine hfin a w ⟨hI.defers,hI.size,fun t v ht=>?_⟩ hh
    rcases qbq _ ht with⟨j,o,hj,ho,hd,rfl⟩|⟨h1,h2⟩
    · exact hI.new j o t hj (hdone j hj) ho hd
    · exact hI.old t v (Q8 _ _ _ hL t v h2).2 fun i o hi _ ho=>h1 i o hi ho
  · -- some operation of the first part is still to come: it,and no other than such,is ready
    have hex:∃i,i<m∧listed.getD i false=false∧∀j,j<i→listed.getD j false=true:=by
     have:∃i,i<m∧listed.getD i false=false:=by
      apply Wq
      intro h;apply hdone
      intro i hi;cases hb:listed.getD i false with
      | true=>rfl
      | false=>exact absurd ⟨i,hi,hb⟩ h
     obtain⟨i,hi,hb⟩:=this;induction i using Nat.strongRecOn with
     | _ i ihi=>
      by_cases h:∀j,j<i→listed.getD j false=true
      · exact⟨i,hi,hb,h⟩
      · have:∃j,j<i∧listed.getD j false=false:=by
         apply Wq
         intro h';apply h
         intro j hj;cases hb':listed.getD j false with
         | true=>rfl
         | false=>exact absurd ⟨j,hj,hb'⟩ h'
        obtain⟨j,hj,hb'⟩:=this;exact ihi j hj (by omega) hb'
    obtain⟨i0,hi0,hb0,hlow⟩:=hex;have hr0:i0∈Region.ready .any l.toArray listed:=by
     have hlt:i0<l.length:=by omega
     rw[mem_ready];refine⟨by rw[gd (show i0<listed.size by omega)]at hb0 ⊢;exact hb0,l[i0],by simp[hlt],fun e he hb=>?_⟩
     exact hlow e.on (Jp hE (i:=i0) (o:=l[i0]) (by simp[hlt]) e (by simpa using he) hb)
    refine⟨fun h0=>by rw[h0]at hr0;simp at hr0,fun i hi=>?_⟩
    obtain⟨hun,o,ho,hall⟩:=mem_ready.1 hi;have ho':l[i]?=some o:=by simpa using ho
    have hlt:i<l.length:=(zu.1 ho').1
    have hanc:∀j,yJ ms i j=true→listed.getD j false=true:=fun j hj=>
     qco (l:=l) (Lst:=fun j=>listed.getD j false=true) (fun k o hk hL=>hI.closed k o hk hL) ho' (fun e he hb=>hall e (by simpa using he) hb) (by rw[hms];exact hj)
    have him:i<m:=by
     rcases VH i m with h|h
     · exact h
     · have:=hanc i0 (qaV hT h hlt i0 (by omega))
       rw[hb0]at this;cases this
    have hunf:listed.getD i false=false:=by
     have hi':i<listed.size:=by omega
     rw[gd hi']at hun ⊢;exact hun
    obtain⟨d,hd,hother⟩:=JX hP him ho';have hdn:okd n o.dst=true:=by
     have:=Ko.1 hdst o (K7.2 ⟨i,by simp[him,ho']⟩)
     exact this
    -- the next state
    have next:∀(v:Value) (E:Own) (V'':qc) (w':World),Sub V' V''→Y i v E V''→Holds X V'' (E++(JE Es (fun i=>listed.getD i false) m++G)) w' →
     wpAny P .any l.toArray (Qp P X.R K) fuel (listed.setIfInBounds i true) (a.put o.dst v) w':=by
     intro v E V'' w' hs' hyi hh;have hset:∀j,(listed.setIfInBounds i true).getD j false=if j=i then true else listed.getD j false:=fun j=>by
      by_cases hji:j=i
      · subst hji;rw[gd (by simp;omega)];simp
      · rw[zQ hji,getD_set_ne false (Ne.symm hji)]
     refine ih (listed.setIfInBounds i true) (a.put o.dst v) w' (fun j=>if j=i then v else vals j) (fun j=>if j=i then E else Es j) V'' (by simpa using hs) ?_ ?_
     · have:=qcp listed.toList i (by rw[Wp,VT (show i<listed.size by omega)];rw[gd (show i<listed.size by omega)]at hunf;rw[hunf])
       rw[Array.toList_setIfInBounds];omega
     · refine⟨hI.sub.trans hs',?_,?_,?_,(by cases o.dst <;> exact hI.defers),?_,?_,?_,?_⟩
       · intro k ok hk hL e he hb
         rw[hset]at hL ⊢;split
         · rfl
         · by_cases hki:k=i
           · subst hki
             rw[ho']at hk;simp only[za]at hk;subst hk;exact hall e (by simpa using he) hb
           · rw[zQ hki]at hL
             exact hI.closed k ok hk hL e he hb
       · intro k hk
         rw[hset,zQ (by omega)];exact hI.only k hk
       · intro j hj hL
         rw[hset]at hL;by_cases hji:j=i
         · subst hji;simpa using hyi
         · rw[zQ hji]at hL
           simpa[hji]using hY j _ _ _ _ hs' (hI.facts j hj hL)
       · cases o.dst <;> simp[Act.put,hI.size]
       · intro j oj dj hj hL hoj hdj
         rw[hset]at hL;by_cases hji:j=i
         · subst hji
           rw[ho']at hoj;simp only[za]at hoj;subst hoj;rw[hd]at hdj;simp only[za]at hdj;subst hdj;have hdl:d<a.tmps.size:=by rw[hI.size];simpa[okd,hd]using hdn
           simp[hd,Act.put,hdl]
         · rw[zQ hji]at hL
           have hne:=(hother j oj hj hoj hji).1
           have:d≠dj:=fun e=>hne (by rw[hdj,e])
           simp[hd,Act.put,KO this,hji,hI.new j oj dj hj hL hoj hdj]
       · intro t u ht hno
         have hdt:d≠t:=fun e=>hno i o him (by rw[hset];simp) ho' (by rw[hd,e])
         have:=hI.old t u ht fun j oj hj hL hoj=>by
          have hji:j≠i:=fun e=>by subst e;rw[hunf]at hL;cases hL
          exact hno j oj hj (by rw[hset,zQ hji];exact hL) hoj
         simp[hd,Act.put,KO hdt,this]
       · have hp:=qfO Es (fun i=>listed.getD i false) i E hunf m him
         have hfun:(fun j=>(listed.setIfInBounds i true).getD j false)=fun j=>if j=i then true else listed.getD j false:=funext hset
         rw[hfun];refine hh.perm ?_
         rw[← zw];exact(hp.symm).append_right _
    have hfacts:∀j,j<i→yJ ms i j=true→Y j (vals j) (Es j) V':=fun j hj ha=>hI.facts j (by omega) (hanc j ha)
    have hknow:Knows n (qaW l ms vals i Lm i) a:=by
     refine⟨hI.defers,hI.size,fun t u ht=>?_⟩
     rcases qd4 _ ht with⟨j,oj,hj,ha,hoj,hdj,rfl⟩|ht
     · exact hI.new j oj t (by omega) (hanc j ha) hoj hdj
     · obtain⟨h1,h2⟩:=Q8 _ _ _ hL t u ht
       refine hI.old t u h2 fun j oj hj _ hoj hdj=>h1 ?_
       exact WA.2 ⟨oj,K7.2 ⟨j,by simp[hj,hoj]⟩,hdj⟩
    have how:=hob i o him ho' vals Es V' (JE Es (fun i=>listed.getD i false) m) hI.sub hfacts
    have hrun:Opr P n X (qaW l ms vals i Lm i) V' (JE Es (fun i=>listed.getD i false) m++G) o (fun v V'' G''=>Sub V' V''∧∃E,G''.Perm (E++(JE Es (fun i=>listed.getD i false) m++G))∧Y i v E V'') →
     o.wp P a w (wpAny P .any l.toArray (Qp P X.R K) fuel (listed.setIfInBounds i true)) (Qp P X.R K):=fun hO=>
     Qg.wp rfl (hO a hknow) hI.holds fun v V'' G'' w' ⟨hs',E,hp,hy⟩ hh=>next v E V'' w' hs' hy (hh.perm hp)
    unfold wpOp;simp only[ho];cases hg:o.guard with
    | none=>
     rw[hg]at how;rw[z6 (by simp[Region.wanted,hg])];exact .inl (hrun how)
    | some gb=>
     obtain⟨g,b⟩:=gb;rw[hg]at how;obtain⟨t,hv,hag,hgi,hyes,hno⟩:=how;have hgl:g<l.length:=by omega
     have hlg:listed.getD g false=true:=hanc g hag
     obtain⟨dg,hdg,_⟩:=JX hP (show g<m by omega) (show l[g]?=some l[g] by simp[hgl])
     have hyd:yielded l.toArray a.tmps g=some t:=by
      have h1:=hI.new g l[g] dg (by omega) hlg (by simp[hgl]) hdg
      simp[yielded,hgl,hdg,h1,hv]
     by_cases htb:t=b
     · rw[z6 (by simp[Region.wanted,hg,hyd,htb])]
       exact .inl (hrun (hyes htb))
     · rw[zQ (by simp[Region.wanted,hg,hyd,htb])]
       have htb':t = !b:=by cases t <;> cases b <;> simp_all
       exact next undef [] V' w (Sub.refl _) (hno htb') hI.holds
theorem qoM{Lm:Lo}{id:Nat}{l:List Oper}(m:Nat){ms:List Nat}(Y:Nat→Value→Own→qc→Prop)(hm:P.follows .mixedOrders=true)(hms:Qb l []=ms)(hc:qkl n l ms m=true)(hL:qcX (qd6 (l.take m)) L=some Lm)
 (hY:∀i v E V V',Sub V V'→Y i v E V→Y i v E V') (hob:∀(i:Nat) (o:Oper),i<m→l[i]?=some o→qv4 P n X Lm V G l ms Y i o)
 (hk:∀vals Es V',Sub V V'→(∀i,i<m→Y i (vals i) (Es i) V')→WR P n X (qfz l vals Lm m) V' (jN Es m++G) l.toArray (l.drop m) K):WC P n X L V G (.region id l.toArray true) K:=by
 intro a w ha hw;refine wp_region_any hm ?_
 have h0:∀i,(Array.replicate l.toArray.size false).getD i false=false:=fun i=>by
  rw[Array.getD_eq_getD_getElem?,Array.getElem?_replicate];split <;> rfl
 refine qnl hL hms hc hY hob hk _ _ a _ (fun _=>undef) (fun _=>[]) V (by simp) ?_ ?_
 · simp
 · refine⟨Sub.refl _,fun k o _ h=>(by rw[h0]at h;cases h),fun k _=>h0 k,fun i _ h=>(by rw[h0]at h;cases h),ha.defers,ha.size,fun i o d _ h=>(by rw[h0]at h;cases h),fun t v ht _=>ha.get t v ht,?_⟩
   have:∀k,JE (fun _=>[]) (fun i=>(Array.replicate l.toArray.size false).getD i false) k=[]:=by
    intro k;induction k with
    | zero=>rfl
    | succ k ih=>simp only[JE,h0,zo,z7]at ih ⊢;exact ih
   rw[this];exact hw.drew
end
end Fly
