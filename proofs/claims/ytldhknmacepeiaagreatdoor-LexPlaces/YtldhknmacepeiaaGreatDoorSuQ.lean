/-
  An evaluator of the program's functions over trees of values, proved sound. No condition.
-/
import Derived.Test.YtldhknmacepeiaaGreatDoorSuO
set_option linter.unusedVariables false
set_option linter.unusedSimpArgs false
section
namespace Su
open Go Fly
theorem qha:∀ {l:List Nat} {t:Nat},Jv l t=true↔t∈l
 | [],t=>by simp
 | k::l,t=>by
  rw[qlB];cases hb:Nat.beq k t with
  | true=>have:=zf hb;subst this;simp
  | false=>
   have:t≠k:=fun e=>by subst e;simp at hb
   simp[qha (l:=l),this]
theorem qeO:∀ {l:List Nat},qc3 l=true→l.Nodup
 | [],_=>Wv
 | n::l,h=>by
  simp only[qc3,zn,V8]at h;refine Vi.2 ⟨fun hm=>?_,qeO h.2⟩
  rw[qha.2 hm]at h;simp at h
theorem qbY:∀ {l:List Nat} {n i:Nat},JF l n=some i→l[i]?=some n
 | [],n,i,h=>by simp[JF]at h
 | k::l,n,i,h=>by
  simp only[JF]at h;cases hb:Nat.beq k n with
  | true=>rw[hb]at h;simp at h;subst h;simp[zf hb]
  | false=>
   rw[hb]at h;simp only[zm]at h;replace h:=qb h;obtain⟨j,hj,h⟩:=h
   simp at h;subst h;simpa using qbY hj
section
variable {α:Type}
theorem qhb:∀ {ns:List Nat} {H bs:List α},ns.length≤bs.length→(QC H ns bs).length=H.length+(bs.length-ns.length)
 | [],H,bs,_=>by simp[QC]
 | n::ns,H,[],h=>by simp at h
 | n::ns,H,b::bs,h=>by
  simp only[QC];rw[qhb (by simpa using h)];simp
theorem Yb:∀ {ns:List Nat} {H bs:List α} {m:Nat},ns.length≤bs.length→m ∉ ns→m<H.length→(QC H ns bs)[m]?=H[m]?
 | [],H,bs,m,_,_,hm=>by simp[QC,Ke hm]
 | n::ns,H,[],m,h,_,_=>by simp at h
 | n::ns,H,b::bs,m,h,hn,hm=>by
  simp only[QC];rw[Yb (by simpa using h) (fun hx=>hn (zw _ hx)) (by simpa using hm)];rw[zY (fun e=>hn (by rw[e];exact zI ..))]
theorem qfZ:∀ {ns:List Nat} {H bs:List α} {i n:Nat},ns.length≤bs.length→ns.Nodup→ns[i]?=some n→(∀m∈ns,m<H.length)→(QC H ns bs)[n]?=bs[i]?
 | [],H,bs,i,n,_,_,h,_=>by simp at h
 | k::ns,H,[],i,n,h,_,_,_=>by simp at h
 | k::ns,H,b::bs,0,n,h,hd,hn,hm=>by
  simp at hn;subst hn;have hk:=hm k (zI ..)
  simp only[QC];rw[Yb (by simpa using h) (Vi.1 hd).1 (by simpa using hk),Vg hk];simp
 | k::ns,H,b::bs,i+1,n,h,hd,hn,hm=>by
  simp at hn;simp only[QC];rw[qfZ (by simpa using h) (Vi.1 hd).2 hn (fun m hx=>by simpa using hm m (zw _ hx))];simp
theorem qhc:∀ {ns:List Nat} {H bs:List α} {i:Nat},ns.length≤bs.length→ns.length≤i→(QC H ns bs)[H.length+(i-ns.length)]?=bs[i]?
 | [],H,bs,i,_,_=>by
  simp only[QC,zU,KJ];rw[zW (by omega)];simp
 | n::ns,H,[],i,h,_=>by simp at h
 | n::ns,H,b::bs,0,h,hi=>by simp at hi
 | n::ns,H,b::bs,i+1,h,hi=>by
  simp only[QC];have:=qhc (H:=H.set n b) (ns:=ns) (bs:=bs) (i:=i) (by simpa using h) (by simpa using hi)
  simp only[List.length_set]at this;rw[zt,Nat.add_sub_add_right,this];simp
end
theorem qdl:∀ {ns:List Nat} {H:List OB},(QX H ns).length=H.length
 | [],H=>rfl
 | n::ns,H=>by simp only[QX];rw[qdl];simp
theorem ZZ:∀ {ns:List Nat} {H:List OB} {m:Nat},m ∉ ns→(QX H ns)[m]?=H[m]?
 | [],H,m,_=>rfl
 | n::ns,H,m,h=>by
  simp only[QX];rw[ZZ (fun hx=>h (zw _ hx)),zY (fun e=>h (by rw[e];exact zI ..))]
theorem qhd(g:SV→SV):∀ {ns:List Nat} {H:List OB},QX (H.map (OB.mp g)) ns=(QX H ns).map (OB.mp g)
 | [],H=>rfl
 | n::ns,H=>by
  simp only[QX];rw[← qhd g,We];rfl
theorem qeP:∀ {ns:List Nat} {H:List OB} {n:Nat},n∈ns→n<H.length→(QX H ns)[n]?=some .dead
 | [],H,n,h,_=>by simp at h
 | k::ns,H,n,h,hl=>by
  simp only[QX];by_cases hn:n∈ns
  · exact qeP hn (by simpa using hl)
  · rcases zO.1 h with rfl | h
    · rw[ZZ hn,Vg hl]
    · exact absurd h hn
theorem qdm:∀ {ns:List Nat} {H os:List OB},pick H ns=some os→os.length=ns.length
 | [],H,os,h=>by simp[pick]at h;subst h;rfl
 | n::ns,H,os,h=>by
  simp only[pick]at h;replace h:=qb h;obtain⟨b,hb,h⟩:=h
  replace h:=qb h;obtain⟨l,hl,h⟩:=h
  simp at h;subst h;simp[qdm hl]
theorem qdn:∀ {ns:List Nat} {H os:List OB} {i n:Nat},pick H ns=some os→ns[i]?=some n→os[i]?=H[n]?∧n<H.length
 | [],H,os,i,n,h,hn=>by simp at hn
 | k::ns,H,os,i,n,h,hn=>by
  simp only[pick]at h;replace h:=qb h;obtain⟨b,hb,h⟩:=h
  replace h:=qb h;obtain⟨l,hl,h⟩:=h
  simp at h;subst h;cases i with
  | zero=>simp at hn;subst hn;exact⟨by simp[hb],(zp.1 hb).1⟩
  | succ i=>simp at hn;simpa using qdn hl hn
theorem qhe:∀ {ns:List Nat} {H:List OB} {n:Nat} {ob:OB},n ∉ ns→pick (H.set n ob) ns=pick H ns
 | [],H,n,ob,_=>rfl
 | k::ns,H,n,ob,h=>by
  simp only[pick];rw[zY (fun e=>h (by rw[e];exact zI ..)),qhe (fun hx=>h (zw _ hx))]
theorem GRel.takeout{V:qa}{I:List IE}{Is:List IE}:∀ {ns:List Nat} {H os:List OB} {G:Own},GRel V I Is H G→pick H ns=some os→ns.Nodup →
 ∃is g G1,(∀(i n:Nat),ns[i]?=some n→is[i]?=Is[n]?)∧GRel V I is os g∧G.Perm (g++G1)∧GRel V I Is (QX H ns) G1
 | [],H,os,G,h,e,_=>by
  simp[pick]at e;subst e;exact⟨[],[],G,by simp,.nil,zJ _,h⟩
 | n::ns,H,os,G,h,e,hd=>by
  simp only[pick]at e;replace e:=qb e;obtain⟨b,hb,e⟩:=e
  replace e:=qb e;obtain⟨l,hl,e⟩:=e
  simp at e;subst e;obtain⟨ie,g0,G1,k1,k2,k3,k4⟩:=h.focus hb;obtain⟨G2,j1,j2⟩:=k4 .dead ie [] .dead
  rw[Qm k1]at j1;have hnd:=Vi.1 hd;obtain⟨is,g,G3,i1,i2,i3,i4⟩:=GRel.takeout j1 (by rw[qhe hnd.1];exact hl) hnd.2
  refine⟨ie::is,g0++g,G3,fun i m hm=>?_,.cons k2 i2,?_,i4⟩
  · cases i with
    | zero=>simp at hm;subst hm;simpa using k1.symm
    | succ i=>simp at hm;simpa using i1 i m hm
  · refine k3.trans ?_
    rw[zR];refine List.Perm.append_left g0 ?_
    exact(show G1.Perm G2 by simpa using j2.symm).trans i3
theorem GRel.putin{V:qa}{I:List IE}:∀ {ns:List Nat} {Is is:List IE} {H bs:List OB} {G g:Own},GRel V I Is H G→GRel V I is bs g→ns.length≤bs.length→ns.Nodup→(∀n∈ns,H[n]?=some .dead) →
 ∃G',GRel V I (QC Is ns is) (QC H ns bs) G'∧G'.Perm (g++G)
 | [],Is,is,H,bs,G,g,h,hb,_,_,_=>⟨G++g,by simp only[QC];exact h.append hb,KN⟩
 | n::ns,Is,_,H,_,G,_,h,.nil,hl,_,_=>by simp at hl
 | n::ns,Is,_,H,_,G,_,h,.cons (ie:=ie) (ob:=ob) (g:=g0) (Is:=is) (H:=bs) (G:=g) hb hbs,hl,hd,hdead=>by
  have hnd:=Vi.1 hd;obtain⟨ie0,g1,G1,k1,k2,k3,k4⟩:=h.focus (hdead n (zI ..))
  cases k2 with | dead=>
  obtain⟨G2,j1,j2⟩:=k4 ob ie g0 hb;obtain⟨G3,i1,i2⟩:=GRel.putin j1 hbs (by simpa using hl) hnd.2 (fun m hm=>by
   rw[zY (fun e=>hnd.1 (by rw[e];exact hm))];exact hdead m (zw _ hm))
  refine⟨G3,by simp only[QC];exact i1,i2.trans ?_⟩
  refine(j2.append_left g).trans ?_
  rw[← zR];exact(List.perm_append_comm.append_right G1).trans ((show G.Perm G1 by simpa using k3).symm.append_left _)
theorem Zk:∀ {os bs:List OB},(Qw os bs).length=bs.length
 | [],bs=>by simp[Qw]
 | o::os,[]=>by simp[Qw]
 | o::os,b::bs=>by simp[Qw,Zk]
theorem qnP{V:qa}{I:List IE}{o b:OB}{ie:IE}{g:Own}(h:RepOB V I b ie g):RepOB V I (qu3 o b) ie g:=by
 cases h with
 | cells h hc=>cases o <;> exact .cells h hc
 | row h1 h2 h3 h4 h5 h6=>cases o <;> exact .row h1 h2 h3 h4 h5 h6
 | vrow=>cases o <;> exact .vrow
 | dead=>cases o <;> exact .dead
theorem qeQ{V:qa}{I:List IE}:∀ {os bs:List OB} {is:List IE} {g:Own},GRel V I is bs g→GRel V I is (Qw os bs) g
 | [],bs,is,g,h=>by simpa[Qw]using h
 | o::os,_,_,_,.nil=>by simp only[Qw];exact .nil
 | o::os,_,_,_,.cons h h'=>by simp only[Qw];exact .cons (qnP h) (qeQ h')
theorem qhf:∀ {os bs:List OB} {i:Nat} {o b:OB},os[i]?=some o→bs[i]?=some b→(Qw os bs)[i]?=some (qu3 o b)
 | [],bs,i,o,b,h,_=>by simp at h
 | o'::os,[],i,o,b,_,h=>by simp at h
 | o'::os,b'::bs,0,o,b,h,h'=>by simp at h h';subst h h';simp[Qw]
 | o'::os,b'::bs,i+1,o,b,h,h'=>by simp at h h';simp[Qw,qhf h h']
theorem qrZ{V:qa}{I:List IE}{b:OB}{ie:IE}{g:Own}(h:RepOB V I b ie g):RepOB V I (fxB b) ie g:=by
 cases h with
 | cells h hc=>exact .cells h hc
 | row h1 h2 h3 h4 h5 h6=>exact .row h1 h2 h3 h4 h5 h6
 | vrow=>exact .vrow
 | dead=>exact .dead
theorem qhg{V:qa}{I:List IE}:∀ {bs:List OB} {is:List IE} {g:Own},GRel V I is bs g→GRel V I is (bs.map fxB) g
 | _,_,_,.nil=>.nil
 | _,_,_,.cons h h'=>.cons (qrZ h) (qhg h')
theorem qdo{V V':qa}{I I':List IE}{g:Nat→Option Nat}(hs:Sub V V')(hg:∀(n m:Nat) (ie:IE),g n=some m→I[n]?=some ie→I'[m]?=some ie):Yt V V' I I' (QZ g):=by
 intro x v hx h1 h2 h3';cases hx with
 | t h=>exact .t (h.mono hs)
 | un=>exact .un
 | bad=>exact .bad
 | @ref m off b h=>
  simp only[QZ];cases hq:g m with
  | none=>exact .bad
  | some q=>exact .ref (hg _ _ _ hq h)
 | @osl m off len b k ct cap h h3 h4 h5=>
  simp only[QZ];cases hq:g m with
  | none=>exact .bad
  | some q=>exact .osl (hg _ _ _ hq h) h3 h4 h5
 | @osl0 m off cap a h0 h=>
  simp only[QZ];cases hq:g m with
  | none=>exact .bad
  | some q=>exact .osl0 h0 h
 | @oslv m h=>
  simp only[QZ];cases hq:g m with
  | none=>exact .bad
  | some q=>exact .oslv (hg _ _ _ hq h)
 | @oslp m len b h h3=>
  simp only[QZ];cases hq:g m with
  | none=>exact .bad
  | some q=>exact .oslp (hg _ _ _ hq h) h3
 | @ep m i off b k ct h=>
  simp only[QZ];cases hq:g m with
  | none=>exact .bad
  | some q=>exact .ep (hg _ _ _ hq h)
 | clo h h'=>exact absurd rfl (h1 _ _ _)
 | tup h=>exact absurd rfl (h2 _)
 | st h=>exact absurd rfl (h3' _)
theorem qdp(g:Nat→Option Nat)(x:SV)(h:jv x=true):jv (QZ g x)=true:=by
 cases x <;> simp only[QZ] <;> try exact h
 all_goals (split <;> rfl)
def qhh:SV→Option Nat
 | .ref n _=>some n
 | .osl n _ _=>some n
 | .ep n _ _=>some n
 | _=>none
theorem qf0(n:Nat)(x:SV):jN n x=x∧qhh x≠some n∨jN n x = .bad:=by
 have go:∀(m:Nat) (y:SV),(bif Nat.beq m n then SV.bad else y)=y∧some m≠some n∨(bif Nat.beq m n then SV.bad else y) = .bad:=fun m y=>by
  cases hb:Nat.beq m n with
  | true=>exact .inr rfl
  | false=>exact .inl ⟨rfl,fun e=>by simp at e;subst e;simp at hb⟩
 cases x with
 | ref m o=>exact go m _
 | osl m o l=>exact go m _
 | ep m i o=>exact go m _
 | _=>exact .inl ⟨rfl,by simp[qhh]⟩
def qeR(o b:OB):Prop:=(∃l l',o = .cells l∧b = .cells l')∨∃e k l,o = .row true e k l
theorem Jy:∀(ns:List Nat) (os bs:List OB) (x:SV),os.length=ns.length→ns.length≤bs.length →
 (jI ns os bs x=x∧∀(i n:Nat) (o b:OB),qhh x=some n→ns[i]?=some n→os[i]?=some o→bs[i]?=some b→qeR o b)∨jI ns os bs x = .bad
 | [],os,bs,x,_,_=>.inl ⟨by cases os <;> rfl,fun i n o b _ h=>by simp at h⟩
 | n::ns,[],bs,x,h,_=>by simp at h
 | n::ns,o::os,[],x,_,h=>by simp at h
 | n::ns,o::os,b::bs,x,h,h'=>by
  have ih:=Jy ns os bs x (by simpa using h) (by simpa using h')
  have keep:qeR o b→jI (n::ns) (o::os) (b::bs) x=jI ns os bs x→(jI (n::ns) (o::os) (b::bs) x=x∧∀(i m:Nat) (o' b':OB),qhh x=some m→(n::ns)[i]?=some m→(o::os)[i]?=some o'→(b::bs)[i]?=some b'→qeR o' b')∨jI (n::ns) (o::os) (b::bs) x = .bad:=by
   intro hst e;rw[e];refine ih.imp (fun⟨e1,h1⟩=>⟨e1,fun i m o' b' hn hi ho hb=>?_⟩) id
   cases i with
   | zero=>simp at ho hb;subst ho hb;exact hst
   | succ i=>exact h1 i m o' b' hn (by simpa using hi) (by simpa using ho) (by simpa using hb)
  have drop:jI (n::ns) (o::os) (b::bs) x=jN n (jI ns os bs x)→(jI (n::ns) (o::os) (b::bs) x=x∧∀(i m:Nat) (o' b':OB),qhh x=some m→(n::ns)[i]?=some m→(o::os)[i]?=some o'→(b::bs)[i]?=some b'→qeR o' b')∨jI (n::ns) (o::os) (b::bs) x = .bad:=by
   intro e;rw[e];rcases ih with⟨e1,h1⟩ | e1
   · rw[e1]
     rcases qf0 n x with⟨p1,p2⟩ | p1
     · refine .inl ⟨p1,fun i m o' b' hn hi ho hb=>?_⟩
       cases i with
       | zero=>simp at hi;subst hi;exact absurd hn p2
       | succ i=>exact h1 i m o' b' hn (by simpa using hi) (by simpa using ho) (by simpa using hb)
     · exact .inr p1
   · rw[e1];exact .inr rfl
  cases o with
  | cells l=>cases b with
   | cells l'=>exact keep (.inl ⟨_,_,rfl,rfl⟩) rfl
   | row _ _ _ _=>exact drop rfl
   | dead=>exact drop rfl
  | row fx e k l=>cases fx with
   | true=>cases b <;> exact keep (.inr ⟨_,_,_,rfl⟩) rfl
   | false=>cases b <;> exact drop rfl
  | dead=>cases b <;> exact drop rfl
theorem qiV(ns:List Nat)(os bs:List OB)(h1:os.length=ns.length)(h2:ns.length≤bs.length)(x:SV)(h:jv x=true):jv (jI ns os bs x)=true:=by
 rcases Jy ns os bs x h1 h2 with⟨e,_⟩ | e <;> rw[e]
 · exact h
 · rfl
theorem qiW{V V':qa}{I I':List IE}{ns:List Nat}{os bs:List OB}(hs:Sub V V')(h1:os.length=ns.length)(h2:ns.length≤bs.length)
 (hI:∀(n:Nat) (ie:IE),I[n]?=some ie→(∀(i:Nat) (o b:OB),ns[i]?=some n→os[i]?=some o→bs[i]?=some b→qeR o b)→I'[n]?=some ie):Yt V V' I I' (jI ns os bs):=by
 intro x v hx k1 k2 k3;rcases Jy ns os bs x h1 h2 with⟨e,hk⟩ | e
 · rw[e]
   cases hx with
   | t h=>exact .t (h.mono hs)
   | un=>exact .un
   | bad=>exact .bad
   | @ref m off b h=>exact .ref (hI _ _ h fun i o b=>hk i m o b rfl)
   | @osl m off len b k ct cap h h3 h4 h5=>exact .osl (hI _ _ h fun i o b=>hk i m o b rfl) h3 h4 h5
   | @osl0 m off cap a h0 h=>exact .osl0 h0 h
   | @oslv m h=>exact .oslv (hI _ _ h fun i o b=>hk i m o b rfl)
   | @oslp m len b h h3=>exact .oslp (hI _ _ h fun i o b=>hk i m o b rfl) h3
   | @ep m i off b k ct h=>exact .ep (hI _ _ h fun i o b=>hk i m o b rfl)
   | clo h h'=>exact absurd rfl (k1 _ _ _)
   | tup h=>exact absurd rfl (k2 _)
   | st h=>exact absurd rfl (k3 _)
 · rw[e];exact .bad
end Su
end
section
namespace Su
open Go Fly
section
variable {fr:Bool} {P:Program} {E:Env} {n:Nat} {X:Cx} {L:Lo} {V:qa} {I:List IE} {G:Own} {st:St} {O:Type} {r:O} {k:SV→St→Option O} {xs:List Operand} {Q:Value→qa→Own→Prop}
variable {ty:TypeId} {pos:String} {af:Array Edge} {gd:Option (Nat×Bool)} {ds:Option Tmp}
theorem qnQ(S:Sound P E.T)(hC:Jk P E.T S E.call){c:Operand}{f:Nat}{first cap:List Value}{as:List Operand}{vs:List Value}{ts:Array TypeId}{svs:List SV}{ns:List Nat}{os0 os:List OB}(h:Pre true E V I st L G xs)
 (hc:ev L c=some (.func (.func f) first.toArray cap.toArray)) (hx:evs L as=some vs) (hr:RepSs V I svs (first++vs++cap))
 (hp:pick st.H ns=some os0) (hd:ns.Nodup) (hos:os=os0∨os=os0.map fxB) (hcall:(E.call O f (mpL (QZ (JF ns)) svs) (os.map (OB.mp (QZ (JF ns)))) fun r1 H1=>
   k (yl (mpL (QZ (qal ns st.H.length)) r1)) { st.mp (jI ns os (H1.map (OB.mp (QZ (qal ns st.H.length)))))with H:=QC (QX (st.mp (jI ns os (H1.map (OB.mp (QZ (qal ns st.H.length)))))).H ns) ns (Qw os0 (H1.map (OB.mp (QZ (qal ns st.H.length))))) })=some r) :
 Opr P n X L V G ⟨ds,.call { callee:=.value c,args:=as.toArray,argTypes:=ts },ty,pos,af,gd⟩ (jm true r k V I st L G):=by
 have hS:=h.full rfl;have hIl:=hS.len;obtain⟨G0,hg,hperm⟩:=hS.mem;obtain⟨is,g,G1,t1,t2,t3,t4⟩:=hg.takeout hp hd;have hisl:is.length=ns.length:=by rw[t2.length,qdm hp]
 have hosl:os.length=ns.length:=by rcases hos with rfl | rfl <;> simp[qdm hp]
 -- what is handed on
 have hren:Yt V V I is (QZ (JF ns)):=qdo (Sub.refl _) fun m i ie hm hi=>by rw[t1 i m (qbY hm)];exact hi
 have t2':GRel V I is os g:=by rcases hos with rfl | rfl;exact t2;exact qhg t2
 have g1:GRel V is is (os.map (OB.mp (QZ (JF ns)))) g:=t2'.map (Sub.refl _) hren (qdp _)
 obtain⟨hgo,hF⟩:=hC _ f _ _ _ _ hcall;have hF:=hF V is g _ h.gok ⟨g,g1,zJ _⟩ (hr.map hren)
 refine Qo (hperm.trans t3) (jK (qP S.tb hc hx hgo hF (zJ _) fun v V' G' hsub hR hfree=>?_))
 obtain⟨rs,H1,he,I1,rvs,m1,m2,rfl,m3⟩:=hR;obtain⟨bs,hbs⟩:∃bs,bs=H1.map (OB.mp (QZ (qal ns st.H.length))):=⟨_,rfl⟩
 rw[← hbs]at he;obtain⟨G2,n1,n2⟩:=m1;have hlenI1:ns.length≤I1.length:=by rw[← hisl];exact m3.len
 have hlenb:bs.length=I1.length:=by rw[hbs];simp[n1.length]
 have hnsb:ns.length≤bs.length:=by omega
 have hbound:∀m∈ns,m<st.H.length:=fun m hm=>by
  obtain⟨i,hi⟩:=Vm.1 hm
  exact(qdn hp hi).2
 have hboundI:∀m∈ns,m<I.length:=fun m hm=>by rw[hIl];exact hbound m hm
 -- the new names
 have nAt:∀(i m:Nat),ns[i]?=some m→(QC I ns I1)[m]?=I1[i]?:=fun i m hi=>qfZ hlenI1 hd hi hboundI
 have nOther:∀m,m ∉ ns→m<I.length→(QC I ns I1)[m]?=I[m]?:=fun m hm hl=>Yb hlenI1 hm hl
 have hkind:∀(i m:Nat) (ie:IE) (o b:OB),ns[i]?=some m→I[m]?=some ie→os[i]?=some o→bs[i]?=some b→qeR o b→I1[i]?=some ie:=by
  intro i m ie o b hi hm ho hb hst;have his:is[i]?=some ie:=by rw[t1 i m hi];exact hm
  rcases hst with⟨l,l',rfl,rfl⟩ | ⟨e,kk,l,rfl⟩
  · obtain⟨ie',g',q1,q2,_⟩:=GRel.at t2' ho
    rw[his]at q1;simp only[zb]at q1;subst q1;cases q2 with | cells _ _=>exact m3.blk _ _ his
  · have:=m3.fx i e kk l (by rw[Kq,ho];rfl)
    rw[this.1];exact his
 have hmoved:Yt V V' I (QC I ns I1) (jI ns os bs):=qiW hsub hosl hnsb fun m ie hm hst=>by
  have hml:m<I.length:=(zp.1 hm).1
  by_cases hmem:m∈ns
  · obtain⟨i,hi⟩:=Vm.1 hmem
    have hil:i<ns.length:=(zp.1 hi).1
    obtain⟨o,ho⟩:∃o,os[i]?=some o:=⟨os[i],zq (by omega)⟩
    obtain⟨b,hb⟩:∃b,bs[i]?=some b:=⟨bs[i],zq (by omega)⟩
    rw[nAt i m hi];exact hkind i m ie o b hi hm ho hb (hst i o b hi ho hb)
  · rw[nOther m hmem hml];exact hm
 have hback:Yt V' V' I1 (QC I ns I1) (QZ (qal ns st.H.length)):=qdo (Sub.refl _) fun i m ie hi hie=>by
  unfold qal at hi;cases hb:Nat.blt i ns.length with
  | true=>
   rw[hb]at hi;rw[nAt i m hi];exact hie
  | false=>
   rw[hb]at hi;simp only[zm,zb]at hi;subst hi;have hge:ns.length≤i:=by
    have : ¬i<ns.length:=fun hl=>by rw[show Nat.blt i ns.length=true by rw[Ve];exact hl]at hb;cases hb
    omega
   rw[← hIl,qhc hlenI1 hge];exact hie
 -- the memory
 have p1:=t4.map hsub hmoved (qiV ns os bs hosl hnsb)
 rw[← qhd]at p1;have p2:GRel V' (QC I ns I1) I1 (Qw os0 bs) G2:=qeQ (by rw[hbs];exact n1.map (Sub.refl _) hback (qdp _))
 obtain⟨G3,p3,p4⟩:=p1.putin p2 (by rw[Zk];exact hnsb) hd (fun m hm=>qeP hm (by simpa using hbound m hm))
 have hmb:jI ns os bs .bad = .bad:=by rcases Jy ns os bs .bad hosl hnsb with⟨e,_⟩ | e <;> exact e
 have hH:(st.mp (jI ns os bs)).H=st.H.map (OB.mp (jI ns os bs)):=rfl
 have hSR:SR V' (QC I ns I1) { st.mp (jI ns os bs)with H:=QC (QX (st.mp (jI ns os bs)).H ns) ns (Qw os0 bs) } L (G'++G1) :=
  ⟨⟨G3,p3,(n2.append_right G1).trans p4.symm⟩,Ji hmoved hmb hS.slot⟩
 refine⟨V',_,Gh.refl hfree,hsub,QC I ns I1,_,_,he,hSR,Qc (m2.map hback),⟨fun m b hm=>?_,fun m e kk l hm=>?_,?_⟩⟩
 · have hml:m<I.length:=(zp.1 hm).1
   by_cases hmem:m∈ns
   · obtain⟨i,hi⟩:=Vm.1 hmem
     rw[nAt i m hi];exact m3.blk _ _ (by rw[t1 i m hi];exact hm)
   · rw[nOther m hmem hml];exact hm
 · have hml:m<st.H.length:=(zp.1 hm).1
   by_cases hmem:m∈ns
   · obtain⟨i,hi⟩:=Vm.1 hmem
     have ho0:os0[i]?=some (.row true e kk l):=by rw[(qdn hp hi).1];exact hm
     have ho:os[i]?=some (.row true e kk l):=by
      rcases hos with rfl | rfl
      · exact ho0
      · rw[Kq,ho0];rfl
     obtain⟨q1,l',q2⟩:=m3.fx i e kk l (by rw[Kq,ho];rfl)
     have hb:bs[i]?=some (.row true e kk l'):=by rw[hbs,Kq,q2];rfl
     refine⟨by rw[nAt i m hi,q1,t1 i m hi],l',?_⟩
     have:=qfZ (H:=QX (st.mp (jI ns os bs)).H ns) (bs:=Qw os0 bs) (by rw[Zk];exact hnsb) hd hi (fun q hq=>by rw[qdl,hH];simpa using hbound q hq)
     rw[this,qhf ho0 hb];rfl
   · refine⟨nOther m hmem (by omega),l,?_⟩
     have:=Yb (H:=QX (st.mp (jI ns os bs)).H ns) (bs:=Qw os0 bs) (ns:=ns) (m:=m) (by rw[Zk];exact hnsb) hmem (by rw[qdl,hH];simpa using hml)
     rw[this,ZZ hmem,hH,Kq,hm];rfl
 · rw[qhb hlenI1];omega
theorem qnR{sv:SV}{v:Value}{q:Nat×List SV×List SV}(hr:RepS V I sv v)(h:qfN sv=some q):∃a b,v = .func (.func q.1) (List.toArray a) (List.toArray b)∧RepSs V I q.2.1 a∧RepSs V I q.2.2 b:=by
 unfold qfN at h;split at h
 · simp only[zb]at h;subst h
   cases hr with | t hr=>cases hr with | fn h1 h2=>exact⟨_,_,rfl,RepSs.ofT h1,RepSs.ofT h2⟩
 · simp only[zb]at h;subst h
   cases hr with | clo h1 h2=>exact⟨_,_,rfl,h1,h2⟩
 · simp at h
theorem qiX{f:Nat}{c:Operand}{first cap:List Value}{as:List Operand}{vs:List Value}{v:Value}{ts:Array TypeId}(hc:ev L c=some (.func (.func f) first.toArray cap.toArray))(hx:evs L as=some vs)
 (h:∀w,(callFunc f (first++vs++cap).toArray).run P w = .ok (.value v) w) (k':Q v V G):Opr P n X L V G ⟨ds,.call { callee:=.value c,args:=as.toArray,argTypes:=ts },ty,pos,af,gd⟩ Q:=by
 refine qE (fun a w ha=>?_) k'
 have hm:=Za ha as vs hx;have h':=h w;simp only[zR]at h';simp[execOp,resolve,Deferred.ofValue,ha.ev hc,invoke,hm,h']
theorem qr0(κ:Nat){x y c:Int}(hx:inR .u64 x=true)(hy:inR .u64 y=true)(hc:inR .u64 c=true)(h1:c≤1):inR .u64 (qfK κ x y c)=true∧inR .u64 (qfL κ x y c)=true:=by
 have u:∀n:Int,inR .u64 n=true↔0≤n∧n<18446744073709551616:=fun n=>by
  simp only[inR,IntKind.min,IntKind.max,IntKind.bits,IntKind.signed,zn,zL];simp;omega
 rw[u]at hx hy hc;rw[u,u];unfold qfK qfL;refine⟨?_,?_⟩
 · split <;> omega
 · split
   · cases Nat.blt x.toNat (y.toNat+c.toNat) <;> decide
   · omega
theorem qr1(S:Sound P E.T){c:Operand}{f κ:Nat}{first cap:List Value}{as:List Operand}{vs:List Value}{ts:Array TypeId}{svs:List SV}(h:Pre fr E V I st L G xs)(hκ:E.T.ext f=some κ)
 (hc:ev L c=some (.func (.func f) first.toArray cap.toArray)) (hx:evs L as=some vs) (hr:RepSs V I svs (first++vs++cap)) (he:qrz κ svs (fun v=>k v st)=some r) :
 Opr P n X L V G ⟨ds,.call { callee:=.value c,args:=as.toArray,argTypes:=ts },ty,pos,af,gd⟩ (jm fr r k V I st L G):=by
 unfold qrz at he;split at he
 · rename_i a b d
   replace he:=qb he;obtain⟨x,hx1,he⟩:=he
   replace he:=qb he;obtain⟨y,hy1,he⟩:=he
   replace he:=qb he;obtain⟨z,hz1,he⟩:=he
   have:=Jh hx1;subst this
   have:=Jh hy1;subst this
   have:=Jh hz1;subst this
   by_cases hz:z≤1
   · rw[za hz,zg]at he
     generalize hl:first++vs++cap=l at hr
     cases hr with | cons q1 hr=>
     cases hr with | cons q2 hr=>
     cases hr with | cons q3 hr=>
     cases hr;have i1:=qda q1;have i2:=qda q2;have i3:=qda q3;have:=jJ q1;subst this
     have:=jJ q2;subst this
     have:=jJ q3;subst this
     have hv:=S.ext f κ hκ x y z i1 i2 i3 hz
     obtain⟨e1,e2⟩:=qr0 κ i1 i2 i3 hz
     exact qiX hc hx (by rw[hl];exact hv) (h.post he (.tup (.cons (QS e1) (.cons (QS e2) .nil))))
   · rw[zk hz]at he;simp at he
 · simp at he
theorem qnS(S:Sound P E.T){q:PrimD}{j:Nat×Nat}{c:Operand}{f:Nat}{first cap:List Value}{as:List Operand}{vs:List Value}{ts:Array TypeId}{svs:List SV}(h:Pre true E V I st L G xs)
 (hq:Zj P E.T S f q) (hj:q.own=some j)
 (hc:ev L c=some (.func (.func f) first.toArray cap.toArray)) (hx:evs L as=some vs) (hr:RepSs V I svs (first++vs++cap))
 (he:(qjS st j svs fun n xs=>(q.g xs).bind fun y=>k (yl (mpT (q.enc y))) (st.give n))=some r) :
 Opr P n X L V G ⟨ds,.call { callee:=.value c,args:=as.toArray,argTypes:=ts },ty,pos,af,gd⟩ (jm true r k V I st L G):=by
 obtain⟨m,e,w,l,ys,svs',hn,he,ho,hr'⟩:=qrY hr he;replace he:=qb he;obtain⟨y,hy,he⟩:=he
 obtain⟨hgo,hl⟩:=hq;rw[hj]at hl;replace hl:=hl.2
 have hS:=h.full rfl;obtain⟨G0,hg,hp⟩:=hS.mem;obtain⟨ie,g,G1,h1,h2,h3,h4⟩:=hg.focus hn;have hperm:=hp.trans h3;obtain⟨G2,k1,k2⟩:=h4 .dead ie [] .dead
 have hfree:jF V g:=by
  have:=h.free.perm hperm
  exact⟨fun p hp=>this.1 p (Ka.2 (.inl hp)),by have:=this.2;rw[Kv,VN]at this;exact this.1⟩
 have hF:=hl ys y hy svs' _ ho V [ie] g _ h.gok hfree ⟨g++[],.cons h2.row_any .nil,by rw[KU]⟩ (hr' ie h1)
 refine Qo hperm (JP (qP S.tb hc hx hgo hF (zJ (g++G1)) fun v V' G' hsub hR=>?_))
 obtain⟨rvs,m2,rfl⟩:=hR;refine⟨V',G1,fun w hw=>hw.sublist (V7 _ _),fun hf=>?_⟩
 have hleaf:Yt V V I (I.set m ie) (jN m):=qbV ie
 rw[Qm h1]at hleaf k1;have hs:SR V I (st.give m) L G1:=by
  refine⟨⟨G2,?_,k2.symm⟩,Ji hleaf rfl hS.slot⟩
  have:=k1.map (Sub.refl _) hleaf (qbW m)
  rw[We]at this;exact this
 refine⟨V',G1,Gh.refl hf,hsub,I,_,_,he,hs.mono hsub,Qc (RepSs.ofT m2),⟨fun _ _ h=>h,fun m' e' k' x hm=>⟨rfl,x,?_⟩,zE _⟩⟩
 have hne:m≠m':=fun c=>by subst c;rw[hn]at hm;cases hm
 show((st.H.map (OB.mp (jN m))).set m .dead)[m']?=_
 rw[zY hne,Kq,hm];rfl
theorem qnT{b:Bool}{svs:List SV}{v:Value}{V':qa}{G':Own}(h:qnt r (qrA b svs k) V I st L v V' G'):qnt r k V I st L v V' G':=by
 obtain⟨V1,G1,g,hsub,I',sv,st',hk,hS,hR,ip⟩:=h;unfold qrA at hk;cases b with
 | false=>exact⟨V1,G1,g,hsub,I',sv,st',hk,hS,hR,ip⟩
 | true=>
  simp only[zg]at hk;split at hk
  · rename_i m _ _ _
    have hk:=(qbf 64).1 _ _ _ hk
    replace hk:=qb hk;obtain⟨p,hp,hk⟩:=hk
    have hv:∃v0,RepS V1 I' (.osl m 0 0) v0:=by
     simp only[toT]at hp;split at hp
     · rename_i hn
       rcases hS.mem.mr.row hn with⟨b',ct',cur,a1,_,_,a4,_⟩ | ⟨a1,_⟩
       · exact⟨_,.osl a1 (by omega) a4 ⟨zE 0,by omega⟩⟩
       · exact⟨_,.oslv a1⟩
     · simp at hp
    obtain⟨v0,hv⟩:=hv;obtain⟨V2,G2,h1,h2,_,h4⟩:=(Qn (I:=I') (L:=L) 64).1 st' p.2 (.osl m 0 0) p.1 (by rw[hp]) V1 G1 v0 hv hS g.free
    exact⟨V2,G2,g.trans h1,hsub.trans h1.sub,I',_,p.2,hk,h2,hR.mono h1.sub (fun _ _ h=>h),ip.trans h4.ipf⟩
  · simp at hk
theorem qnU(S:Sound P E.T)(hC:qaB P E S){c:Operand}{f:Nat}{first cap:List Value}{as:List Operand}{vs:List Value}{ts:Array TypeId}{svs:List SV}(h:Pre fr E V I st L G xs)
 (hc:ev L c=some (.func (.func f) first.toArray cap.toArray)) (hx:evs L as=some vs) (hr:RepSs V I svs (first++vs++cap)) (he:qgY E fr st f svs k=some r) :
 Opr P n X L V G ⟨ds,.call { callee:=.value c,args:=as.toArray,argTypes:=ts },ty,pos,af,gd⟩ (jm fr r k V I st L G):=by
 unfold qgY at he;split at he
 · rename_i κ hκ
   exact qr1 S h hκ hc hx hr he
 split at he
 · split at he
   · rename_i q hq
     cases ho:q.own with
     | some j=>rw[ho]at he;simp at he
     | none=>
      rw[ho]at he;have hl:=hC.2 f q hq;unfold Zj at hl;rw[ho]at hl;simp only[Option.isSome_none,zm]at he;split at he
      · exact qg9 S (qg:=q.g) h ⟨hl.1,hl.2.1⟩ hc hx hr (Jf he)
      · rename_i j hj
        cases fr with
        | false=>simp at hj
        | true=>
         simp only[zg]at hj;exact qnN S h ⟨hl.1,hl.2.2 j hj⟩ hc hx hr (Jf he)
   · cases fr with
     | true=>simp only[zg]at he;exact qlV S hC.1 h hc hx hr (Jf he)
     | false=>simp only[zm]at he;exact qnL S hC.1 h hc hx hr (Jf he)
 · split at he
   · rename_i q hq
     cases ho:q.own with
     | some j=>rw[ho]at he;simp at he
     | none=>
      rw[ho]at he;have hl:=hC.2 f q hq;unfold Zj at hl;rw[ho]at hl;simp only[Option.isSome_none,zm]at he;rw[Zd]at he;exact qlW S h ⟨hl.1,hl.2.1⟩ hc hx hr he
   · rw[Zd]at he
     cases fr with
     | true=>simp only[zg]at he;exact qlX S hC.1 h hc hx hr he
     | false=>simp only[zm]at he;exact qnO S hC.1 h hc hx hr he
 · rename_i m _ _
   split at he
   · rename_i jq hjq
     obtain⟨hq,hj⟩:E.prim f=some jq.2∧jq.2.own=some jq.1:=by
      unfold own4 at hjq;cases hb:Nat.beq (E.T.mode f) 4 with
      | false=>rw[hb]at hjq;simp at hjq
      | true=>
       rw[hb]at hjq;simp only[zg]at hjq;split at hjq
       · rename_i q hq
         split at hjq
         · rename_i j hj
           simp only[zb]at hjq;subst hjq;exact⟨hq,hj⟩
         · simp at hjq
       · simp at hjq
     cases hlb:qt1 jq.1 svs with
     | true=>
      rw[hlb]at he;cases fr with
      | false=>simp at he
      | true=>
       simp only[zg]at he;exact qnS S h (hC.2 f jq.2 hq) hj hc hx hr he
     | false=>
      rw[hlb,zm]at he;have hl:=hC.2 f jq.2 hq;unfold Zj at hl;rw[hj]at hl;exact qg9 S (qg:=jq.2.gT) h ⟨hl.1,hl.2.1⟩ hc hx hr (Jf he)
   cases fr with
   | false=>simp at he
   | true=>
    simp only[zg]at he;replace he:=qb he;obtain⟨os0,hp,he⟩:=he
    cases hnd:qc3 (qc2 99 st.H (ZU.go svs) [])with
    | false=>rw[hnd]at he;simp at he
    | true=>
     rw[hnd]at he;simp only[zg]at he;refine QM (qnQ (k:=qrA (Nat.beq (E.T.mode f) 5) svs k) S hC.1 h hc hx hr hp (qeO hnd) (os:=bif Nat.beq (E.T.mode f) 3||Nat.beq (E.T.mode f) 5 then os0.map fxB else os0) ?_ he) fun v V' G' hq=>qnT hq
     cases Nat.beq (E.T.mode f) 3||Nat.beq (E.T.mode f) 5
     · exact .inl rfl
     · exact .inr rfl
theorem qr2(S:Sound P E.T)(hC:qaB P E S){c:Call}(h:Pre fr E V I st L G xs)(hm:∀x∈c.operands.toList,jd E st V I L x)(he:qfQ E fr st c k=some r) :
 Opr P n X L V G ⟨ds,.call c,ty,pos,af,gd⟩ (jm fr r k V I st L G):=by
 obtain⟨callee,args,ts⟩:=c;unfold qfQ at he;obtain⟨al,rfl⟩:∃l:List Operand,args=l.toArray:=⟨args.toList,by simp⟩
 cases callee with
 | value f=>
  simp only[]at he;replace he:=qb he;obtain⟨g,hg,he⟩:=he
  replace he:=qb he;obtain⟨q,hq,he⟩:=he
  replace he:=qb he;obtain⟨svs,hsv,he⟩:=he
  obtain⟨v,hv,hr⟩:=hm f (by simp[Call.operands]) g hg
  obtain⟨a,b,rfl,ha,hb⟩:=qnR hr hq;obtain⟨vs,hvs,hrs⟩:=opds_ok al svs (fun x hx=>hm x (by simp[Call.operands,hx])) (by simpa using hsv)
  exact qnU S hC h hv hvs ((ha.append hrs).append hb) he
 | builtin b=>
  simp only[List.toList_toArray]at he;unfold qu6 at he;split at he
  · rename_i x
    have hox:=hm x (by simp[Call.operands])
    split at he
    · replace he:=qb he;obtain⟨v,hv,he⟩:=he
      replace he:=qb he;obtain⟨t,ht,he⟩:=he
      exact qve S h hox hv ht he
    · cases fr with
      | false=>simp at he
      | true=>
       simp only[zg]at he;replace he:=qb he;obtain⟨v,hv,he⟩:=he
       replace he:=qb he;obtain⟨t,ht,he⟩:=he
       exact qvg S h hox hv ht he
    · simp at he
  · rename_i x y
    have hox:=hm x (by simp[Call.operands])
    have hoy:=hm y (by simp[Call.operands])
    split at he
    · cases fr with
      | false=>simp at he
      | true=>
       simp only[zg]at he;replace he:=qb he;obtain⟨v,hv,he⟩:=he
       replace he:=qb he;obtain⟨u,hu,he⟩:=he
       replace he:=qb he;obtain⟨t,ht,he⟩:=he
       by_cases hts:ts = #[t,t]
       · simp only[hts,WA,zg]at he
         cases hn:qfJ x with
         | true=>rw[hn]at he;exact qvf S h hn hoy hu hts he
         | false=>rw[hn]at he;exact qxK S h hox hoy hv hu hts he
       · simp[hts]at he
    · exact qt7 S true h hox hoy he
    · exact qt7 S false h hox hoy he
    · simp at he
  · simp at he
 | invoke _ _=>simp at he
theorem qcv(S:Sound P E.T)(hC:qaB P E S){o:Oper}(h:Pre fr E V I st L G o.op.operands.toList)(he:J8 E fr st o k=some r):Opr P n X L V G o (jm fr r k V I st L G):=by
 obtain⟨ds,op,ty,pos,af,gd⟩:=o;unfold J8 at he;have hm:=h.opd;cases op <;> simp only[reduceCtorEq]at he hm
 case move x=>exact qt6 (.inl rfl) h (hm x (by simp[Op.operands])) he
 case assign x=>exact qt6 (.inr rfl) h (hm x (by simp[Op.operands])) he
 case pick c a b=>exact qlM (hm c (by simp[Op.operands])) (hm a (by simp[Op.operands])) (hm b (by simp[Op.operands])) he fun v sv hk hr=>h.post hk hr
 case alloc e=>exact qnv S h he
 case box e x=>exact qrS h (hm x (by simp[Op.operands])) he
 case build t parts=>exact qnw S h (fun p hp=>by simpa[Op.operands]using⟨p.1,by simpa using hp⟩) he
 case buildSlice t m parts=>exact qlR S h (fun p hp=>by simpa[Op.operands]using⟨p.1,by simpa using hp⟩) he
 case load t a=>exact qrU S h (hm a (by simp[Op.operands])) he
 case store t a x=>exact qnD S h (hm a (by simp[Op.operands])) (hm x (by simp[Op.operands])) he
 case nilCheck x=>exact qnm (hm x (by simp[Op.operands])) he fun v sv hk hr=>h.post hk hr
 case binOp op t x y u=>exact qnl S (hm x (by simp[Op.operands])) (hm y (by simp[Op.operands])) he fun v sv hk hr=>h.post hk hr
 case unOp op t x=>exact qrL (hm x (by simp[Op.operands])) he fun v sv hk hr=>h.post hk hr
 case convert s d x=>exact qnE S h (hm x (by simp[Op.operands])) he
 case makeFunc fn a b=>exact qnx h (fun x hx=>hm x (by simp[Op.operands];exact .inl (by simpa using hx))) (fun x hx=>hm x (by simp[Op.operands];exact .inr (by simpa using hx))) he
 case makeSlice t l c=>exact qxL S h (hm l (by simp[Op.operands])) (hm c (by simp[Op.operands])) he
 case slice t x lo hi mx=>exact qnB S h (hm x (by simp[Op.operands])) (fun y hy=>hm y (by simp[Op.operands,hy])) (fun y hy=>hm y (by simp[Op.operands,hy])) (fun y hy=>hm y (by simp[Op.operands,hy])) he
 case fieldAddr s x f=>exact qrN S (hm x (by simp[Op.operands])) he fun v sv hk hr=>h.post hk hr
 case field s x f=>exact qny S h (hm x (by simp[Op.operands])) he
 case indexAddr t x i=>exact qxJ S h (hm x (by simp[Op.operands])) (hm i (by simp[Op.operands])) he
 case index t x i=>exact qrW S h (hm x (by simp[Op.operands])) (hm i (by simp[Op.operands])) he
 case extract x i=>exact qrM (hm x (by simp[Op.operands])) he fun v sv hk hr=>h.post hk hr
 case call c=>exact qr2 S hC h (fun x hx=>hm x (by simpa[Op.operands]using hx)) he
end
end Su
end
