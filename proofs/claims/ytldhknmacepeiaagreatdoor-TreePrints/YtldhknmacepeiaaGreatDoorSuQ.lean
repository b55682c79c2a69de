/-
  An evaluator, proved sound. No condition.
-/
import Derived.Test.YtldhknmacepeiaaGreatDoorSuO
set_option linter.unusedVariables false
set_option linter.unusedSimpArgs false
section
namespace Su
open Go Fly
theorem qiW:∀ {l:List Nat} {t:Nat},Yo l t=true↔t∈l
 | [],t=>by simp
 | k::l,t=>by
  rw[qnr];cases hb:Nat.beq k t with
  | true=>have:=zd hb;subst this;simp
  | false=>
   have:t≠k:=fun e=>by subst e;simp at hb
   simp[qiW (l:=l),this]
theorem qgh:∀ {l:List Nat},qei l=true→l.Nodup
 | [],_=>VN
 | n::l,h=>by
  simp only[qei,zp,Wb]at h;refine Vn.2 ⟨fun hm=>?_,qgh h.2⟩
  rw[qiW.2 hm]at h;simp at h
theorem qc6:∀ {l:List Nat} {n i:Nat},YG l n=some i→l[i]?=some n
 | [],n,i,h=>by simp[YG]at h
 | k::l,n,i,h=>by
  simp only[YG]at h;cases hb:Nat.beq k n with
  | true=>rw[hb]at h;simp at h;subst h;simp[zd hb]
  | false=>
   rw[hb]at h;simp only[zo]at h;replace h:=qf h;obtain⟨j,hj,h⟩:=h
   simp at h;subst h;simpa using qc6 hj
section
variable {α:Type}
theorem qiX:∀ {ns:List Nat} {H bs:List α},ns.length≤bs.length→(Jb H ns bs).length=H.length+(bs.length-ns.length)
 | [],H,bs,_=>by simp[Jb]
 | n::ns,H,[],h=>by simp at h
 | n::ns,H,b::bs,h=>by
  simp only[Jb];rw[qiX (by simpa using h)];simp
theorem Zl:∀ {ns:List Nat} {H bs:List α} {m:Nat},ns.length≤bs.length→m ∉ ns→m<H.length→(Jb H ns bs)[m]?=H[m]?
 | [],H,bs,m,_,_,hm=>by simp[Jb,Ki hm]
 | n::ns,H,[],m,h,_,_=>by simp at h
 | n::ns,H,b::bs,m,h,hn,hm=>by
  simp only[Jb];rw[Zl (by simpa using h) (fun hx=>hn (zE _ hx)) (by simpa using hm)];rw[Kh (fun e=>hn (by rw[e];exact zM ..))]
theorem qhC:∀ {ns:List Nat} {H bs:List α} {i n:Nat},ns.length≤bs.length→ns.Nodup→ns[i]?=some n→(∀m∈ns,m<H.length)→(Jb H ns bs)[n]?=bs[i]?
 | [],H,bs,i,n,_,_,h,_=>by simp at h
 | k::ns,H,[],i,n,h,_,_,_=>by simp at h
 | k::ns,H,b::bs,0,n,h,hd,hn,hm=>by
  simp at hn;subst hn;have hk:=hm k (zM ..)
  simp only[Jb];rw[Zl (by simpa using h) (Vn.1 hd).1 (by simpa using hk),Vj hk];simp
 | k::ns,H,b::bs,i+1,n,h,hd,hn,hm=>by
  simp at hn;simp only[Jb];rw[qhC (by simpa using h) (Vn.1 hd).2 hn (fun m hx=>by simpa using hm m (zE _ hx))];simp
theorem qiY:∀ {ns:List Nat} {H bs:List α} {i:Nat},ns.length≤bs.length→ns.length≤i→(Jb H ns bs)[H.length+(i-ns.length)]?=bs[i]?
 | [],H,bs,i,_,_=>by
  simp only[Jb,zk,Vz];rw[Kl (by omega)];simp
 | n::ns,H,[],i,h,_=>by simp at h
 | n::ns,H,b::bs,0,h,hi=>by simp at hi
 | n::ns,H,b::bs,i+1,h,hi=>by
  simp only[Jb];have:=qiY (H:=H.set n b) (ns:=ns) (bs:=bs) (i:=i) (by simpa using h) (by simpa using hi)
  simp only[List.length_set]at this;rw[zf,Nat.add_sub_add_right,this];simp
end
theorem qeH:∀ {ns:List Nat} {H:List OB},(JG H ns).length=H.length
 | [],H=>rfl
 | n::ns,H=>by simp only[JG];rw[qeH];simp
theorem qa9:∀ {ns:List Nat} {H:List OB} {m:Nat},m ∉ ns→(JG H ns)[m]?=H[m]?
 | [],H,m,_=>rfl
 | n::ns,H,m,h=>by
  simp only[JG];rw[qa9 (fun hx=>h (zE _ hx)),Kh (fun e=>h (by rw[e];exact zM ..))]
theorem qiZ(g:SV→SV):∀ {ns:List Nat} {H:List OB},JG (H.map (OB.mp g)) ns=(JG H ns).map (OB.mp g)
 | [],H=>rfl
 | n::ns,H=>by
  simp only[JG];rw[← qiZ g,WF];rfl
theorem qgi:∀ {ns:List Nat} {H:List OB} {n:Nat},n∈ns→n<H.length→(JG H ns)[n]?=some .dead
 | [],H,n,h,_=>by simp at h
 | k::ns,H,n,h,hl=>by
  simp only[JG];by_cases hn:n∈ns
  · exact qgi hn (by simpa using hl)
  · rcases zK.1 h with rfl|h
    · rw[qa9 hn,Vj hl]
    · exact absurd h hn
theorem qeI:∀ {ns:List Nat} {H os:List OB},pick H ns=some os→os.length=ns.length
 | [],H,os,h=>by simp[pick]at h;subst h;rfl
 | n::ns,H,os,h=>by
  simp only[pick]at h;replace h:=qf h;obtain⟨b,hb,h⟩:=h
  replace h:=qf h;obtain⟨l,hl,h⟩:=h
  simp at h;subst h;simp[qeI hl]
theorem qeJ:∀ {ns:List Nat} {H os:List OB} {i n:Nat},pick H ns=some os→ns[i]?=some n→os[i]?=H[n]?∧n<H.length
 | [],H,os,i,n,h,hn=>by simp at hn
 | k::ns,H,os,i,n,h,hn=>by
  simp only[pick]at h;replace h:=qf h;obtain⟨b,hb,h⟩:=h
  replace h:=qf h;obtain⟨l,hl,h⟩:=h
  simp at h;subst h;cases i with
  | zero=>simp at hn;subst hn;exact⟨by simp[hb],(zu.1 hb).1⟩
  | succ i=>simp at hn;simpa using qeJ hl hn
theorem qi0:∀ {ns:List Nat} {H:List OB} {n:Nat} {ob:OB},n ∉ ns→pick (H.set n ob) ns=pick H ns
 | [],H,n,ob,_=>rfl
 | k::ns,H,n,ob,h=>by
  simp only[pick];rw[Kh (fun e=>h (by rw[e];exact zM ..)),qi0 (fun hx=>h (zE _ hx))]
theorem GRel.takeout{V:qc}{I:List IE}{Is:List IE}:∀ {ns:List Nat} {H os:List OB} {G:Own},GRel V I Is H G→pick H ns=some os→ns.Nodup →
 ∃is g G1,(∀(i n:Nat),ns[i]?=some n→is[i]?=Is[n]?)∧GRel V I is os g∧G.Perm (g++G1)∧GRel V I Is (JG H ns) G1
 | [],H,os,G,h,e,_=>by
  simp[pick]at e;subst e;exact⟨[],[],G,by simp,.nil,zr _,h⟩
 | n::ns,H,os,G,h,e,hd=>by
  simp only[pick]at e;replace e:=qf e;obtain⟨b,hb,e⟩:=e
  replace e:=qf e;obtain⟨l,hl,e⟩:=e
  simp at e;subst e;obtain⟨ie,g0,G1,k1,k2,k3,k4⟩:=h.focus hb;obtain⟨G2,j1,j2⟩:=k4 .dead ie [] .dead
  rw[QU k1]at j1;have hnd:=Vn.1 hd;obtain⟨is,g,G3,i1,i2,i3,i4⟩:=GRel.takeout j1 (by rw[qi0 hnd.1];exact hl) hnd.2
  refine⟨ie::is,g0++g,G3,fun i m hm=>?_,.cons k2 i2,?_,i4⟩
  · cases i with
    | zero=>simp at hm;subst hm;simpa using k1.symm
    | succ i=>simp at hm;simpa using i1 i m hm
  · refine k3.trans ?_
    rw[zw];refine List.Perm.append_left g0 ?_
    exact(show G1.Perm G2 by simpa using j2.symm).trans i3
theorem GRel.putin{V:qc}{I:List IE}:∀ {ns:List Nat} {Is is:List IE} {H bs:List OB} {G g:Own},GRel V I Is H G→GRel V I is bs g→ns.length≤bs.length→ns.Nodup→(∀n∈ns,H[n]?=some .dead) →
 ∃G',GRel V I (Jb Is ns is) (Jb H ns bs) G'∧G'.Perm (g++G)
 | [],Is,is,H,bs,G,g,h,hb,_,_,_=>⟨G++g,by simp only[Jb];exact h.append hb,zF⟩
 | n::ns,Is,_,H,_,G,_,h,.nil,hl,_,_=>by simp at hl
 | n::ns,Is,_,H,_,G,_,h,.cons (ie:=ie) (ob:=ob) (g:=g0) (Is:=is) (H:=bs) (G:=g) hb hbs,hl,hd,hdead=>by
  have hnd:=Vn.1 hd;obtain⟨ie0,g1,G1,k1,k2,k3,k4⟩:=h.focus (hdead n (zM ..))
  cases k2 with|dead=>
  obtain⟨G2,j1,j2⟩:=k4 ob ie g0 hb;obtain⟨G3,i1,i2⟩:=GRel.putin j1 hbs (by simpa using hl) hnd.2 (fun m hm=>by
   rw[Kh (fun e=>hnd.1 (by rw[e];exact hm))];exact hdead m (zE _ hm))
  refine⟨G3,by simp only[Jb];exact i1,i2.trans ?_⟩
  refine(j2.append_left g).trans ?_
  rw[← zw];exact(List.perm_append_comm.append_right G1).trans ((show G.Perm G1 by simpa using k3).symm.append_left _)
theorem qaw:∀ {os bs:List OB},(Q6 os bs).length=bs.length
 | [],bs=>by simp[Q6]
 | o::os,[]=>by simp[Q6]
 | o::os,b::bs=>by simp[Q6,qaw]
theorem qpI{V:qc}{I:List IE}{o b:OB}{ie:IE}{g:Own}(h:RepOB V I b ie g):RepOB V I (qwc o b) ie g:=by
 cases h with
 | cells h hc=>cases o <;> exact .cells h hc
 | row h1 h2 h3 h4 h5 h6=>cases o <;> exact .row h1 h2 h3 h4 h5 h6
 | vrow=>cases o <;> exact .vrow
 | dead=>cases o <;> exact .dead
theorem qgj{V:qc}{I:List IE}:∀ {os bs:List OB} {is:List IE} {g:Own},GRel V I is bs g→GRel V I is (Q6 os bs) g
 | [],bs,is,g,h=>by simpa[Q6]using h
 | o::os,_,_,_,.nil=>by simp only[Q6];exact .nil
 | o::os,_,_,_,.cons h h'=>by simp only[Q6];exact .cons (qpI h) (qgj h')
theorem qi1:∀ {os bs:List OB} {i:Nat} {o b:OB},os[i]?=some o→bs[i]?=some b→(Q6 os bs)[i]?=some (qwc o b)
 | [],bs,i,o,b,h,_=>by simp at h
 | o'::os,[],i,o,b,_,h=>by simp at h
 | o'::os,b'::bs,0,o,b,h,h'=>by simp at h h';subst h h';simp[Q6]
 | o'::os,b'::bs,i+1,o,b,h,h'=>by simp at h h';simp[Q6,qi1 h h']
theorem qtq{V:qc}{I:List IE}{b:OB}{ie:IE}{g:Own}(h:RepOB V I b ie g):RepOB V I (fxB b) ie g:=by
 cases h with
 | cells h hc=>exact .cells h hc
 | row h1 h2 h3 h4 h5 h6=>exact .row h1 h2 h3 h4 h5 h6
 | vrow=>exact .vrow
 | dead=>exact .dead
theorem qi2{V:qc}{I:List IE}:∀ {bs:List OB} {is:List IE} {g:Own},GRel V I is bs g→GRel V I is (bs.map fxB) g
 | _,_,_,.nil=>.nil
 | _,_,_,.cons h h'=>.cons (qtq h) (qi2 h')
theorem qeK{V V':qc}{I I':List IE}{g:Nat→Option Nat}(hs:Sub V V')(hg:∀(n m:Nat) (ie:IE),g n=some m→I[n]?=some ie→I'[m]?=some ie):qV V V' I I' (JJ g):=by
 intro x v hx h1 h2 h3';cases hx with
 | t h=>exact .t (h.mono hs)
 | un=>exact .un
 | bad=>exact .bad
 | @ref m off b h=>
  simp only[JJ];cases hq:g m with
  | none=>exact .bad
  | some q=>exact .ref (hg _ _ _ hq h)
 | @osl m off len b k ct cap h h3 h4 h5=>
  simp only[JJ];cases hq:g m with
  | none=>exact .bad
  | some q=>exact .osl (hg _ _ _ hq h) h3 h4 h5
 | @osl0 m off cap a h0 h=>
  simp only[JJ];cases hq:g m with
  | none=>exact .bad
  | some q=>exact .osl0 h0 h
 | @oslv m h=>
  simp only[JJ];cases hq:g m with
  | none=>exact .bad
  | some q=>exact .oslv (hg _ _ _ hq h)
 | @oslp m len b h h3=>
  simp only[JJ];cases hq:g m with
  | none=>exact .bad
  | some q=>exact .oslp (hg _ _ _ hq h) h3
 | @ep m i off b k ct h=>
  simp only[JJ];cases hq:g m with
  | none=>exact .bad
  | some q=>exact .ep (hg _ _ _ hq h)
 | clo h h'=>exact absurd rfl (h1 _ _ _)
 | tup h=>exact absurd rfl (h2 _)
 | st h=>exact absurd rfl (h3' _)
theorem qeL(g:Nat→Option Nat)(x:SV)(h:jG x=true):jG (JJ g x)=true:=by
 cases x <;> simp only[JJ] <;> try exact h
 all_goals (split <;> rfl)
def qi3:SV→Option Nat
 | .ref n _=>some n
 | .osl n _ _=>some n
 | .ep n _ _=>some n
 | _=>none
theorem qhD(n:Nat)(x:SV):j4 n x=x∧qi3 x≠some n∨j4 n x = .bad:=by
 have go:∀(m:Nat) (y:SV),(bif Nat.beq m n then SV.bad else y)=y∧some m≠some n∨(bif Nat.beq m n then SV.bad else y) = .bad:=fun m y=>by
  cases hb:Nat.beq m n with
  | true=>exact .inr rfl
  | false=>exact .inl ⟨rfl,fun e=>by simp at e;subst e;simp at hb⟩
 cases x with
 | ref m o=>exact go m _
 | osl m o l=>exact go m _
 | ep m i o=>exact go m _
 | _=>exact .inl ⟨rfl,by simp[qi3]⟩
def qgk(o b:OB):Prop:=(∃l l',o = .cells l∧b = .cells l')∨∃e k l,o = .row true e k l
theorem Yw:∀(ns:List Nat) (os bs:List OB) (x:SV),os.length=ns.length→ns.length≤bs.length →
 (jX ns os bs x=x∧∀(i n:Nat) (o b:OB),qi3 x=some n→ns[i]?=some n→os[i]?=some o→bs[i]?=some b→qgk o b)∨jX ns os bs x = .bad
 | [],os,bs,x,_,_=>.inl ⟨by cases os <;> rfl,fun i n o b _ h=>by simp at h⟩
 | n::ns,[],bs,x,h,_=>by simp at h
 | n::ns,o::os,[],x,_,h=>by simp at h
 | n::ns,o::os,b::bs,x,h,h'=>by
  have ih:=Yw ns os bs x (by simpa using h) (by simpa using h')
  have keep:qgk o b→jX (n::ns) (o::os) (b::bs) x=jX ns os bs x→(jX (n::ns) (o::os) (b::bs) x=x∧∀(i m:Nat) (o' b':OB),qi3 x=some m→(n::ns)[i]?=some m→(o::os)[i]?=some o'→(b::bs)[i]?=some b'→qgk o' b')∨jX (n::ns) (o::os) (b::bs) x = .bad:=by
   intro hst e;rw[e];refine ih.imp (fun⟨e1,h1⟩=>⟨e1,fun i m o' b' hn hi ho hb=>?_⟩) id
   cases i with
   | zero=>simp at ho hb;subst ho hb;exact hst
   | succ i=>exact h1 i m o' b' hn (by simpa using hi) (by simpa using ho) (by simpa using hb)
  have drop:jX (n::ns) (o::os) (b::bs) x=j4 n (jX ns os bs x)→(jX (n::ns) (o::os) (b::bs) x=x∧∀(i m:Nat) (o' b':OB),qi3 x=some m→(n::ns)[i]?=some m→(o::os)[i]?=some o'→(b::bs)[i]?=some b'→qgk o' b')∨jX (n::ns) (o::os) (b::bs) x = .bad:=by
   intro e;rw[e];rcases ih with⟨e1,h1⟩|e1
   · rw[e1]
     rcases qhD n x with⟨p1,p2⟩|p1
     · refine .inl ⟨p1,fun i m o' b' hn hi ho hb=>?_⟩
       cases i with
       | zero=>simp at hi;subst hi;exact absurd hn p2
       | succ i=>exact h1 i m o' b' hn (by simpa using hi) (by simpa using ho) (by simpa using hb)
     · exact .inr p1
   · rw[e1];exact .inr rfl
  cases o with
  | cells l=>cases b with
   | cells l'=>exact keep (.inl ⟨_,_,rfl,rfl⟩) rfl
   | row _ _ _ _=>exact drop rfl
   | dead=>exact drop rfl
  | row fx e k l=>cases fx with
   | true=>cases b <;> exact keep (.inr ⟨_,_,_,rfl⟩) rfl
   | false=>cases b <;> exact drop rfl
  | dead=>cases b <;> exact drop rfl
theorem qkT(ns:List Nat)(os bs:List OB)(h1:os.length=ns.length)(h2:ns.length≤bs.length)(x:SV)(h:jG x=true):jG (jX ns os bs x)=true:=by
 rcases Yw ns os bs x h1 h2 with⟨e,_⟩|e <;> rw[e]
 · exact h
 · rfl
theorem qkU{V V':qc}{I I':List IE}{ns:List Nat}{os bs:List OB}(hs:Sub V V')(h1:os.length=ns.length)(h2:ns.length≤bs.length)
 (hI:∀(n:Nat) (ie:IE),I[n]?=some ie→(∀(i:Nat) (o b:OB),ns[i]?=some n→os[i]?=some o→bs[i]?=some b→qgk o b)→I'[n]?=some ie):qV V V' I I' (jX ns os bs):=by
 intro x v hx k1 k2 k3;rcases Yw ns os bs x h1 h2 with⟨e,hk⟩|e
 · rw[e]
   cases hx with
   | t h=>exact .t (h.mono hs)
   | un=>exact .un
   | bad=>exact .bad
   | @ref m off b h=>exact .ref (hI _ _ h fun i o b=>hk i m o b rfl)
   | @osl m off len b k ct cap h h3 h4 h5=>exact .osl (hI _ _ h fun i o b=>hk i m o b rfl) h3 h4 h5
   | @osl0 m off cap a h0 h=>exact .osl0 h0 h
   | @oslv m h=>exact .oslv (hI _ _ h fun i o b=>hk i m o b rfl)
   | @oslp m len b h h3=>exact .oslp (hI _ _ h fun i o b=>hk i m o b rfl) h3
   | @ep m i off b k ct h=>exact .ep (hI _ _ h fun i o b=>hk i m o b rfl)
   | clo h h'=>exact absurd rfl (k1 _ _ _)
   | tup h=>exact absurd rfl (k2 _)
   | st h=>exact absurd rfl (k3 _)
 · rw[e];exact .bad
end Su
end
section
namespace Su
open Go Fly
section
variable {fr:Bool} {P:Program} {E:Env} {n:Nat} {X:Cx} {L:Lo} {V:qc} {I:List IE} {G:Own} {st:St} {O:Type} {r:O} {k:SV→St→Option O} {xs:List Operand} {Q:Value→qc→Own→Prop}
variable {ty:TypeId} {pos:String} {af:Array Edge} {gd:Option (Nat×Bool)} {ds:Option Tmp}
theorem qpJ(S:Sound P E.T)(hC:J5 P E.T S E.call){c:Operand}{f:Nat}{first cap:List Value}{as:List Operand}{vs:List Value}{ts:Array TypeId}{svs:List SV}{ns:List Nat}{os0 os:List OB}(h:Pre true E V I st L G xs)
 (hc:ev L c=some (.func (.func f) first.toArray cap.toArray)) (hx:evs L as=some vs) (hr:RepSs V I svs (first++vs++cap))
 (hp:pick st.H ns=some os0) (hd:ns.Nodup) (hos:os=os0∨os=os0.map fxB) (hcall:(E.call O f (mpL (JJ (YG ns)) svs) (os.map (OB.mp (JJ (YG ns)))) fun r1 H1=>
   k (yO (mpL (JJ (qbw ns st.H.length)) r1)) { st.mp (jX ns os (H1.map (OB.mp (JJ (qbw ns st.H.length)))))with H:=Jb (JG (st.mp (jX ns os (H1.map (OB.mp (JJ (qbw ns st.H.length)))))).H ns) ns (Q6 os0 (H1.map (OB.mp (JJ (qbw ns st.H.length))))) })=some r) :
 Opr P n X L V G ⟨ds,.call { callee:=.value c,args:=as.toArray,argTypes:=ts },ty,pos,af,gd⟩ (jv true r k V I st L G):=by
 have hS:=h.full rfl;have hIl:=hS.len;obtain⟨G0,hg,hperm⟩:=hS.mem;obtain⟨is,g,G1,t1,t2,t3,t4⟩:=hg.takeout hp hd;have hisl:is.length=ns.length:=by rw[t2.length,qeI hp]
 have hosl:os.length=ns.length:=by rcases hos with rfl|rfl <;> simp[qeI hp]
 -- what is handed on
 have hren:qV V V I is (JJ (YG ns)):=qeK (Sub.refl _) fun m i ie hm hi=>by rw[t1 i m (qc6 hm)];exact hi
 have t2':GRel V I is os g:=by rcases hos with rfl|rfl;exact t2;exact qi2 t2
 have g1:GRel V is is (os.map (OB.mp (JJ (YG ns)))) g:=t2'.map (Sub.refl _) hren (qeL _)
 obtain⟨hgo,hF⟩:=hC _ f _ _ _ _ hcall;have hF:=hF V is g _ h.gok ⟨g,g1,zr _⟩ (hr.map hren)
 refine QW (hperm.trans t3) (jZ (qr S.tb hc hx hgo hF (zr _) fun v V' G' hsub hR hfree=>?_))
 obtain⟨rs,H1,he,I1,rvs,m1,m2,rfl,m3⟩:=hR;obtain⟨bs,hbs⟩:∃bs,bs=H1.map (OB.mp (JJ (qbw ns st.H.length))):=⟨_,rfl⟩
 rw[← hbs]at he;obtain⟨G2,n1,n2⟩:=m1;have hlenI1:ns.length≤I1.length:=by rw[← hisl];exact m3.len
 have hlenb:bs.length=I1.length:=by rw[hbs];simp[n1.length]
 have hnsb:ns.length≤bs.length:=by omega
 have hbound:∀m∈ns,m<st.H.length:=fun m hm=>by
  obtain⟨i,hi⟩:=K7.1 hm
  exact(qeJ hp hi).2
 have hboundI:∀m∈ns,m<I.length:=fun m hm=>by rw[hIl];exact hbound m hm
 -- the new names
 have nAt:∀(i m:Nat),ns[i]?=some m→(Jb I ns I1)[m]?=I1[i]?:=fun i m hi=>qhC hlenI1 hd hi hboundI
 have nOther:∀m,m ∉ ns→m<I.length→(Jb I ns I1)[m]?=I[m]?:=fun m hm hl=>Zl hlenI1 hm hl
 have hkind:∀(i m:Nat) (ie:IE) (o b:OB),ns[i]?=some m→I[m]?=some ie→os[i]?=some o→bs[i]?=some b→qgk o b→I1[i]?=some ie:=by
  intro i m ie o b hi hm ho hb hst;have his:is[i]?=some ie:=by rw[t1 i m hi];exact hm
  rcases hst with⟨l,l',rfl,rfl⟩|⟨e,kk,l,rfl⟩
  · obtain⟨ie',g',q1,q2,_⟩:=GRel.at t2' ho
    rw[his]at q1;simp only[za]at q1;subst q1;cases q2 with|cells _ _=>exact m3.blk _ _ his
  · have:=m3.fx i e kk l (by rw[Ku,ho];rfl)
    rw[this.1];exact his
 have hmoved:qV V V' I (Jb I ns I1) (jX ns os bs):=qkU hsub hosl hnsb fun m ie hm hst=>by
  have hml:m<I.length:=(zu.1 hm).1
  by_cases hmem:m∈ns
  · obtain⟨i,hi⟩:=K7.1 hmem
    have hil:i<ns.length:=(zu.1 hi).1
    obtain⟨o,ho⟩:∃o,os[i]?=some o:=⟨os[i],zA (by omega)⟩
    obtain⟨b,hb⟩:∃b,bs[i]?=some b:=⟨bs[i],zA (by omega)⟩
    rw[nAt i m hi];exact hkind i m ie o b hi hm ho hb (hst i o b hi ho hb)
  · rw[nOther m hmem hml];exact hm
 have hback:qV V' V' I1 (Jb I ns I1) (JJ (qbw ns st.H.length)):=qeK (Sub.refl _) fun i m ie hi hie=>by
  unfold qbw at hi;cases hb:Nat.blt i ns.length with
  | true=>
   rw[hb]at hi;rw[nAt i m hi];exact hie
  | false=>
   rw[hb]at hi;simp only[zo,za]at hi;subst hi;have hge:ns.length≤i:=by
    have : ¬i<ns.length:=fun hl=>by rw[show Nat.blt i ns.length=true by rw[VY];exact hl]at hb;cases hb
    omega
   rw[← hIl,qiY hlenI1 hge];exact hie
 -- the memory
 have p1:=t4.map hsub hmoved (qkT ns os bs hosl hnsb)
 rw[← qiZ]at p1;have p2:GRel V' (Jb I ns I1) I1 (Q6 os0 bs) G2:=qgj (by rw[hbs];exact n1.map (Sub.refl _) hback (qeL _))
 obtain⟨G3,p3,p4⟩:=p1.putin p2 (by rw[qaw];exact hnsb) hd (fun m hm=>qgi hm (by simpa using hbound m hm))
 have hmb:jX ns os bs .bad = .bad:=by rcases Yw ns os bs .bad hosl hnsb with⟨e,_⟩|e <;> exact e
 have hH:(st.mp (jX ns os bs)).H=st.H.map (OB.mp (jX ns os bs)):=rfl
 have hSR:SR V' (Jb I ns I1) { st.mp (jX ns os bs)with H:=Jb (JG (st.mp (jX ns os bs)).H ns) ns (Q6 os0 bs) } L (G'++G1) :=
  ⟨⟨G3,p3,(n2.append_right G1).trans p4.symm⟩,J3 hmoved hmb hS.slot⟩
 refine⟨V',_,Gh.refl hfree,hsub,Jb I ns I1,_,_,he,hSR,QJ (m2.map hback),⟨fun m b hm=>?_,fun m e kk l hm=>?_,?_⟩⟩
 · have hml:m<I.length:=(zu.1 hm).1
   by_cases hmem:m∈ns
   · obtain⟨i,hi⟩:=K7.1 hmem
     rw[nAt i m hi];exact m3.blk _ _ (by rw[t1 i m hi];exact hm)
   · rw[nOther m hmem hml];exact hm
 · have hml:m<st.H.length:=(zu.1 hm).1
   by_cases hmem:m∈ns
   · obtain⟨i,hi⟩:=K7.1 hmem
     have ho0:os0[i]?=some (.row true e kk l):=by rw[(qeJ hp hi).1];exact hm
     have ho:os[i]?=some (.row true e kk l):=by
      rcases hos with rfl|rfl
      · exact ho0
      · rw[Ku,ho0];rfl
     obtain⟨q1,l',q2⟩:=m3.fx i e kk l (by rw[Ku,ho];rfl)
     have hb:bs[i]?=some (.row true e kk l'):=by rw[hbs,Ku,q2];rfl
     refine⟨by rw[nAt i m hi,q1,t1 i m hi],l',?_⟩
     have:=qhC (H:=JG (st.mp (jX ns os bs)).H ns) (bs:=Q6 os0 bs) (by rw[qaw];exact hnsb) hd hi (fun q hq=>by rw[qeH,hH];simpa using hbound q hq)
     rw[this,qi1 ho0 hb];rfl
   · refine⟨nOther m hmem (by omega),l,?_⟩
     have:=Zl (H:=JG (st.mp (jX ns os bs)).H ns) (bs:=Q6 os0 bs) (ns:=ns) (m:=m) (by rw[qaw];exact hnsb) hmem (by rw[qeH,hH];simpa using hml)
     rw[this,qa9 hmem,hH,Ku,hm];rfl
 · rw[qiX hlenI1];omega
theorem qpK{sv:SV}{v:Value}{q:Nat×List SV×List SV}(hr:RepS V I sv v)(h:qhm sv=some q):∃a b,v = .func (.func q.1) (List.toArray a) (List.toArray b)∧RepSs V I q.2.1 a∧RepSs V I q.2.2 b:=by
 unfold qhm at h;split at h
 · simp only[za]at h;subst h
   cases hr with|t hr=>cases hr with|fn h1 h2=>exact⟨_,_,rfl,RepSs.ofT h1,RepSs.ofT h2⟩
 · simp only[za]at h;subst h
   cases hr with|clo h1 h2=>exact⟨_,_,rfl,h1,h2⟩
 · simp at h
theorem qkV{f:Nat}{c:Operand}{first cap:List Value}{as:List Operand}{vs:List Value}{v:Value}{ts:Array TypeId}(hc:ev L c=some (.func (.func f) first.toArray cap.toArray))(hx:evs L as=some vs)
 (h:∀w,(callFunc f (first++vs++cap).toArray).run P w = .ok (.value v) w) (k':Q v V G):Opr P n X L V G ⟨ds,.call { callee:=.value c,args:=as.toArray,argTypes:=ts },ty,pos,af,gd⟩ Q:=by
 refine qP (fun a w ha=>?_) k'
 have hm:=Jm ha as vs hx;have h':=h w;simp only[zw]at h';simp[execOp,resolve,Deferred.ofValue,ha.ev hc,invoke,hm,h']
theorem qtr(κ:Nat){x y c:Int}(hx:inR .u64 x=true)(hy:inR .u64 y=true)(hc:inR .u64 c=true)(h1:c≤1):inR .u64 (qhj κ x y c)=true∧inR .u64 (qhk κ x y c)=true:=by
 have u:∀n:Int,inR .u64 n=true↔0≤n∧n<18446744073709551616:=fun n=>by
  simp only[inR,IntKind.min,IntKind.max,IntKind.bits,IntKind.signed,zp,zY];simp;omega
 rw[u]at hx hy hc;rw[u,u];unfold qhj qhk;refine⟨?_,?_⟩
 · split <;> omega
 · split
   · cases Nat.blt x.toNat (y.toNat+c.toNat) <;> decide
   · omega
theorem qts(S:Sound P E.T){c:Operand}{f κ:Nat}{first cap:List Value}{as:List Operand}{vs:List Value}{ts:Array TypeId}{svs:List SV}(h:Pre fr E V I st L G xs)(hκ:E.T.ext f=some κ)
 (hc:ev L c=some (.func (.func f) first.toArray cap.toArray)) (hx:evs L as=some vs) (hr:RepSs V I svs (first++vs++cap)) (he:qsX κ svs (fun v=>k v st)=some r) :
 Opr P n X L V G ⟨ds,.call { callee:=.value c,args:=as.toArray,argTypes:=ts },ty,pos,af,gd⟩ (jv fr r k V I st L G):=by
 unfold qsX at he;split at he
 · rename_i a b d
   replace he:=qf he;obtain⟨x,hx1,he⟩:=he
   replace he:=qf he;obtain⟨y,hy1,he⟩:=he
   replace he:=qf he;obtain⟨z,hz1,he⟩:=he
   have:=J2 hx1;subst this
   have:=J2 hy1;subst this
   have:=J2 hz1;subst this
   by_cases hz:z≤1
   · rw[zh hz,zg]at he
     generalize hl:first++vs++cap=l at hr
     cases hr with|cons q1 hr=>
     cases hr with|cons q2 hr=>
     cases hr with|cons q3 hr=>
     cases hr;have i1:=qew q1;have i2:=qew q2;have i3:=qew q3;have:=jY q1;subst this
     have:=jY q2;subst this
     have:=jY q3;subst this
     have hv:=S.ext f κ hκ x y z i1 i2 i3 hz
     obtain⟨e1,e2⟩:=qtr κ i1 i2 i3 hz
     exact qkV hc hx (by rw[hl];exact hv) (h.post he (.tup (.cons (JB e1) (.cons (JB e2) .nil))))
   · rw[zq hz]at he;simp at he
 · simp at he
theorem qpL(S:Sound P E.T){q:PrimD}{j:Nat×Nat}{c:Operand}{f:Nat}{first cap:List Value}{as:List Operand}{vs:List Value}{ts:Array TypeId}{svs:List SV}(h:Pre true E V I st L G xs)
 (hq:qav P E.T S f q) (hj:q.own=some j)
 (hc:ev L c=some (.func (.func f) first.toArray cap.toArray)) (hx:evs L as=some vs) (hr:RepSs V I svs (first++vs++cap))
 (he:(qlH st j svs fun n xs=>(q.g xs).bind fun y=>k (yO (mpT (q.enc y))) (st.give n))=some r) :
 Opr P n X L V G ⟨ds,.call { callee:=.value c,args:=as.toArray,argTypes:=ts },ty,pos,af,gd⟩ (jv true r k V I st L G):=by
 obtain⟨m,e,w,l,ys,svs',hn,he,ho,hr'⟩:=qtp hr he;replace he:=qf he;obtain⟨y,hy,he⟩:=he
 obtain⟨hgo,hl⟩:=hq;rw[hj]at hl;replace hl:=hl.2
 have hS:=h.full rfl;obtain⟨G0,hg,hp⟩:=hS.mem;obtain⟨ie,g,G1,h1,h2,h3,h4⟩:=hg.focus hn;have hperm:=hp.trans h3;obtain⟨G2,k1,k2⟩:=h4 .dead ie [] .dead
 have hfree:jQ V g:=by
  have:=h.free.perm hperm
  exact⟨fun p hp=>this.1 p (zS.2 (.inl hp)),by have:=this.2;rw[Kr,VM]at this;exact this.1⟩
 have hF:=hl ys y hy svs' _ ho V [ie] g _ h.gok hfree ⟨g++[],.cons h2.row_any .nil,by rw[z7]⟩ (hr' ie h1)
 refine QW hperm (YW (qr S.tb hc hx hgo hF (zr (g++G1)) fun v V' G' hsub hR=>?_))
 obtain⟨rvs,m2,rfl⟩:=hR;refine⟨V',G1,fun w hw=>hw.sublist (Ws _ _),fun hf=>?_⟩
 have hleaf:qV V V I (I.set m ie) (j4 m):=qc3 ie
 rw[QU h1]at hleaf k1;have hs:SR V I (st.give m) L G1:=by
  refine⟨⟨G2,?_,k2.symm⟩,J3 hleaf rfl hS.slot⟩
  have:=k1.map (Sub.refl _) hleaf (qc4 m)
  rw[WF]at this;exact this
 refine⟨V',G1,Gh.refl hf,hsub,I,_,_,he,hs.mono hsub,QJ (RepSs.ofT m2),⟨fun _ _ h=>h,fun m' e' k' x hm=>⟨rfl,x,?_⟩,zI _⟩⟩
 have hne:m≠m':=fun c=>by subst c;rw[hn]at hm;cases hm
 show((st.H.map (OB.mp (j4 m))).set m .dead)[m']?=_
 rw[Kh hne,Ku,hm];rfl
theorem qpM{b:Bool}{svs:List SV}{v:Value}{V':qc}{G':Own}(h:qpm r (qsY b svs k) V I st L v V' G'):qpm r k V I st L v V' G':=by
 obtain⟨V1,G1,g,hsub,I',sv,st',hk,hS,hR,ip⟩:=h;unfold qsY at hk;cases b with
 | false=>exact⟨V1,G1,g,hsub,I',sv,st',hk,hS,hR,ip⟩
 | true=>
  simp only[zg]at hk;split at hk
  · rename_i m _ _ _
    have hk:=(qal 64).1 _ _ _ hk
    replace hk:=qf hk;obtain⟨p,hp,hk⟩:=hk
    have hv:∃v0,RepS V1 I' (.osl m 0 0) v0:=by
     simp only[toT]at hp;split at hp
     · rename_i hn
       rcases hS.mem.mr.row hn with⟨b',ct',cur,a1,_,_,a4,_⟩|⟨a1,_⟩
       · exact⟨_,.osl a1 (by omega) a4 ⟨zI 0,by omega⟩⟩
       · exact⟨_,.oslv a1⟩
     · simp at hp
    obtain⟨v0,hv⟩:=hv;obtain⟨V2,G2,h1,h2,_,h4⟩:=(QV (I:=I') (L:=L) 64).1 st' p.2 (.osl m 0 0) p.1 (by rw[hp]) V1 G1 v0 hv hS g.free
    exact⟨V2,G2,g.trans h1,hsub.trans h1.sub,I',_,p.2,hk,h2,hR.mono h1.sub (fun _ _ h=>h),ip.trans h4.ipf⟩
  · simp at hk
theorem qpN(S:Sound P E.T)(hC:qbO P E S){c:Operand}{f:Nat}{first cap:List Value}{as:List Operand}{vs:List Value}{ts:Array TypeId}{svs:List SV}(h:Pre fr E V I st L G xs)
 (hc:ev L c=some (.func (.func f) first.toArray cap.toArray)) (hx:evs L as=some vs) (hr:RepSs V I svs (first++vs++cap)) (he:qiC E fr st f svs k=some r) :
 Opr P n X L V G ⟨ds,.call { callee:=.value c,args:=as.toArray,argTypes:=ts },ty,pos,af,gd⟩ (jv fr r k V I st L G):=by
 unfold qiC at he;split at he
 · rename_i κ hκ
   exact qts S h hκ hc hx hr he
 split at he
 · split at he
   · rename_i q hq
     cases ho:q.own with
     | some j=>rw[ho]at he;simp at he
     | none=>
      rw[ho]at he;have hl:=hC.2 f q hq;unfold qav at hl;rw[ho]at hl;simp only[Option.isSome_none,zo]at he;split at he
      · exact qiV S (qg:=q.g) h ⟨hl.1,hl.2.1⟩ hc hx hr (J0 he)
      · rename_i j hj
        cases fr with
        | false=>simp at hj
        | true=>
         simp only[zg]at hj;exact qpG S h ⟨hl.1,hl.2.2 j hj⟩ hc hx hr (J0 he)
   · cases fr with
     | true=>simp only[zg]at he;exact qnN S hC.1 h hc hx hr (J0 he)
     | false=>simp only[zo]at he;exact qpE S hC.1 h hc hx hr (J0 he)
 · split at he
   · rename_i q hq
     cases ho:q.own with
     | some j=>rw[ho]at he;simp at he
     | none=>
      rw[ho]at he;have hl:=hC.2 f q hq;unfold qav at hl;rw[ho]at hl;simp only[Option.isSome_none,zo]at he;rw[qan]at he;exact qnO S h ⟨hl.1,hl.2.1⟩ hc hx hr he
   · rw[qan]at he
     cases fr with
     | true=>simp only[zg]at he;exact qnP S hC.1 h hc hx hr he
     | false=>simp only[zo]at he;exact qpH S hC.1 h hc hx hr he
 · rename_i m _ _
   split at he
   · rename_i jq hjq
     obtain⟨hq,hj⟩:E.prim f=some jq.2∧jq.2.own=some jq.1:=by
      unfold own4 at hjq;cases hb:Nat.beq (E.T.mode f) 4 with
      | false=>rw[hb]at hjq;simp at hjq
      | true=>
       rw[hb]at hjq;simp only[zg]at hjq;split at hjq
       · rename_i q hq
         split at hjq
         · rename_i j hj
           simp only[za]at hjq;subst hjq;exact⟨hq,hj⟩
         · simp at hjq
       · simp at hjq
     cases hlb:qva jq.1 svs with
     | true=>
      rw[hlb]at he;cases fr with
      | false=>simp at he
      | true=>
       simp only[zg]at he;exact qpL S h (hC.2 f jq.2 hq) hj hc hx hr he
     | false=>
      rw[hlb,zo]at he;have hl:=hC.2 f jq.2 hq;unfold qav at hl;rw[hj]at hl;exact qiV S (qg:=jq.2.gT) h ⟨hl.1,hl.2.1⟩ hc hx hr (J0 he)
   cases fr with
   | false=>simp at he
   | true=>
    simp only[zg]at he;replace he:=qf he;obtain⟨os0,hp,he⟩:=he
    cases hnd:qei (qeh 99 st.H (qaZ.go svs) [])with
    | false=>rw[hnd]at he;simp at he
    | true=>
     rw[hnd]at he;simp only[zg]at he;refine Js (qpJ (k:=qsY (Nat.beq (E.T.mode f) 5) svs k) S hC.1 h hc hx hr hp (qgh hnd) (os:=bif Nat.beq (E.T.mode f) 3||Nat.beq (E.T.mode f) 5 then os0.map fxB else os0) ?_ he) fun v V' G' hq=>qpM hq
     cases Nat.beq (E.T.mode f) 3||Nat.beq (E.T.mode f) 5
     · exact .inl rfl
     · exact .inr rfl
theorem qtt(S:Sound P E.T)(hC:qbO P E S){c:Call}(h:Pre fr E V I st L G xs)(hm:∀x∈c.operands.toList,jm E st V I L x)(he:qhp E fr st c k=some r) :
 Opr P n X L V G ⟨ds,.call c,ty,pos,af,gd⟩ (jv fr r k V I st L G):=by
 obtain⟨callee,args,ts⟩:=c;unfold qhp at he;obtain⟨al,rfl⟩:∃l:List Operand,args=l.toArray:=⟨args.toList,by simp⟩
 cases callee with
 | value f=>
  simp only[]at he;replace he:=qf he;obtain⟨g,hg,he⟩:=he
  replace he:=qf he;obtain⟨q,hq,he⟩:=he
  replace he:=qf he;obtain⟨svs,hsv,he⟩:=he
  obtain⟨v,hv,hr⟩:=hm f (by simp[Call.operands]) g hg
  obtain⟨a,b,rfl,ha,hb⟩:=qpK hr hq;obtain⟨vs,hvs,hrs⟩:=opds_ok al svs (fun x hx=>hm x (by simp[Call.operands,hx])) (by simpa using hsv)
  exact qpN S hC h hv hvs ((ha.append hrs).append hb) he
 | builtin b=>
  simp only[List.toList_toArray]at he;unfold qwf at he;split at he
  · rename_i x
    have hox:=hm x (by simp[Call.operands])
    split at he
    · replace he:=qf he;obtain⟨v,hv,he⟩:=he
      replace he:=qf he;obtain⟨t,ht,he⟩:=he
      exact qwq S h hox hv ht he
    · cases fr with
      | false=>simp at he
      | true=>
       simp only[zg]at he;replace he:=qf he;obtain⟨v,hv,he⟩:=he
       replace he:=qf he;obtain⟨t,ht,he⟩:=he
       exact qws S h hox hv ht he
    · simp at he
  · rename_i x y
    have hox:=hm x (by simp[Call.operands])
    have hoy:=hm y (by simp[Call.operands])
    split at he
    · cases fr with
      | false=>simp at he
      | true=>
       simp only[zg]at he;replace he:=qf he;obtain⟨v,hv,he⟩:=he
       replace he:=qf he;obtain⟨u,hu,he⟩:=he
       replace he:=qf he;obtain⟨t,ht,he⟩:=he
       by_cases hts:ts = #[t,t]
       · simp only[hts,WX,zg]at he
         cases hn:qhi x with
         | true=>rw[hn]at he;exact qwr S h hn hoy hu hts he
         | false=>rw[hn]at he;exact qyl S h hox hoy hv hu hts he
       · simp[hts]at he
    · exact qvj S true h hox hoy he
    · exact qvj S false h hox hoy he
    · simp at he
  · simp at he
 | invoke _ _=>simp at he
theorem qdE(S:Sound P E.T)(hC:qbO P E S){o:Oper}(h:Pre fr E V I st L G o.op.operands.toList)(he:Zf E fr st o k=some r):Opr P n X L V G o (jv fr r k V I st L G):=by
 obtain⟨ds,op,ty,pos,af,gd⟩:=o;unfold Zf at he;have hm:=h.opd;cases op <;> simp only[reduceCtorEq]at he hm
 case move x=>exact qvi (.inl rfl) h (hm x (by simp[Op.operands])) he
 case assign x=>exact qvi (.inr rfl) h (hm x (by simp[Op.operands])) he
 case pick c a b=>exact qnD (hm c (by simp[Op.operands])) (hm a (by simp[Op.operands])) (hm b (by simp[Op.operands])) he fun v sv hk hr=>h.post hk hr
 case alloc e=>exact qpo S h he
 case box e x=>exact qtj h (hm x (by simp[Op.operands])) he
 case build t parts=>exact qpp S h (fun p hp=>by simpa[Op.operands]using⟨p.1,by simpa using hp⟩) he
 case buildSlice t m parts=>exact qnJ S h (fun p hp=>by simpa[Op.operands]using⟨p.1,by simpa using hp⟩) he
 case load t a=>exact qtl S h (hm a (by simp[Op.operands])) he
 case store t a x=>exact qpw S h (hm a (by simp[Op.operands])) (hm x (by simp[Op.operands])) he
 case nilCheck x=>exact qpf (hm x (by simp[Op.operands])) he fun v sv hk hr=>h.post hk hr
 case binOp op t x y u=>exact qpe S (hm x (by simp[Op.operands])) (hm y (by simp[Op.operands])) he fun v sv hk hr=>h.post hk hr
 case unOp op t x=>exact qtb (hm x (by simp[Op.operands])) he fun v sv hk hr=>h.post hk hr
 case convert s d x=>exact qpx S h (hm x (by simp[Op.operands])) he
 case makeFunc fn a b=>exact qpq h (fun x hx=>hm x (by simp[Op.operands];exact .inl (by simpa using hx))) (fun x hx=>hm x (by simp[Op.operands];exact .inr (by simpa using hx))) he
 case makeSlice t l c=>exact qym S h (hm l (by simp[Op.operands])) (hm c (by simp[Op.operands])) he
 case slice t x lo hi mx=>exact qpu S h (hm x (by simp[Op.operands])) (fun y hy=>hm y (by simp[Op.operands,hy])) (fun y hy=>hm y (by simp[Op.operands,hy])) (fun y hy=>hm y (by simp[Op.operands,hy])) he
 case fieldAddr s x f=>exact qtd S (hm x (by simp[Op.operands])) he fun v sv hk hr=>h.post hk hr
 case field s x f=>exact qpr S h (hm x (by simp[Op.operands])) he
 case indexAddr t x i=>exact qyk S h (hm x (by simp[Op.operands])) (hm i (by simp[Op.operands])) he
 case index t x i=>exact qtn S h (hm x (by simp[Op.operands])) (hm i (by simp[Op.operands])) he
 case extract x i=>exact qtc (hm x (by simp[Op.operands])) he fun v sv hk hr=>h.post hk hr
 case call c=>exact qtt S hC h (fun x hx=>hm x (by simpa[Op.operands]using hx)) he
end
end Su
end
