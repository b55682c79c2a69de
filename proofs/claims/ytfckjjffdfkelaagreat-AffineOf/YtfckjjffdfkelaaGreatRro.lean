/-
  Bits and rounding, in plain Lean. No condition.
-/
import Derived.Test.YtfckjjffdfkelaaGreatNC26
import Derived.Test.YtfckjjffdfkelaaGreatNC14
set_option linter.unusedVariables false
set_option linter.unusedSimpArgs false
set_option maxRecDepth 10000
section
namespace Su
open Go Fly
noncomputable section
def rk(neg:Bool)(mode:Int)(M E:Nat):Nat:=qcC (twN neg mode) (yd M E+(upN neg mode (jj M E % 2 == 1) (hfN M E) (rsN M E)).toNat)
theorem qCC{neg:Bool}{mode:Int}{M E:Nat}(hM:M≠0):RN neg mode M E false=sgN neg+rk neg mode M E:=by
 unfold RN rk;rw[qbW hM,VL];rfl
theorem qqm(tw:Bool)(k:Nat):qcC tw k<9223372036854775808:=by
 unfold qcC js;cases h:Nat.ble k 9218868437227405311 with
 | true=>have:=zo h;rw[zd];omega
 | false=>
  rw[zh];cases tw with
  | true=>show(9218868437227405311:Nat)<9223372036854775808;omega
  | false=>show(9218868437227405312:Nat)<9223372036854775808;omega
theorem qEL{b:Bool}{k:Nat}(h:k<9223372036854775808):bK (sgN b+k)=k∧bS (sgN b+k)=b:=by
 unfold bK sgN;cases b with
 | true=>
  rw[zd];exact⟨by omega,ZW.2 (by omega)⟩
 | false=>
  rw[zh];exact⟨by omega,Yw.2 (by omega)⟩
theorem qmD{neg:Bool}{mode:Int}{M E:Nat}(hM:M≠0):bK (RN neg mode M E false)=rk neg mode M E∧bS (RN neg mode M E false)=neg:=by
 rw[qCC hM];exact qEL (qqm _ _)
theorem qmE{tw:Bool}{k:Nat}(h:k≤js):qcC tw k=k:=by
 unfold qcC;rw[zn h,zd]
theorem qmF{tw:Bool}{k:Nat}(h:js<k):qcC tw k=bif tw then js else js+1:=by
 unfold qcC;rw[show Nat.ble k js=false by
  cases hb:Nat.ble k js with
  | false=>rfl
  | true=>have:=zo hb;omega,zh]
@[irreducible] def PS:Nat:=2^SH
theorem qqn:PS=2^SH:=by unfold PS;rfl
theorem qor:(0:Int)<(PS:Int):=Int.ofNat_lt.2 (by rw[qqn];exact zK _)
theorem qCD{neg:Bool}{mode:Int}{M E:Nat}(hM:M≠0)(ha:awN neg mode=true)(ht:twN neg mode=false) :
 (rk neg mode M E≤js∧M*2^E≤kV (rk neg mode M E)*PS)∨rk neg mode M E=js+1:=by
 have e:rk neg mode M E=qcC false (yd M E+(hfN M E||rsN M E).toNat):=by unfold rk upN;rw[ha,ht,zd]
 rw[qqn];by_cases h:yd M E+(hfN M E||rsN M E).toNat≤js
 · left
   rw[e,qmE h];refine⟨h,?_⟩
   cases hx:(hfN M E||rsN M E)with
   | true=>exact Wl (qt2 hM)
   | false=>
    rw[VQ]at hx;rw[Bool.toNat_false,Kr];exact XZ ((qlS hM).2 hx)
 · right;rw[e,qmF (by omega)];rfl
theorem qCE{neg:Bool}{mode:Int}{M E:Nat}(hM:M≠0)(ha:awN neg mode=false)(ht:twN neg mode=true) :
 rk neg mode M E≤js∧kV (rk neg mode M E)*PS≤M*2^E:=by
 have e:rk neg mode M E=qcC true (yd M E):=by unfold rk upN;rw[ha,ht,zh,zd];rfl
 rw[e,qqn];have hf:=qt1 (E:=E) hM
 by_cases h:yd M E≤js
 · rw[qmE h];exact⟨h,hf⟩
 · rw[qmF (by omega),zd]
   exact⟨zE _,zU (zH _ (qGR (by omega))) hf⟩
theorem qos{f:Nat}(h:bK f≤js)(hs:bS f=false):fv f=(kV (bK f):Int):=by
 unfold fv fvK;rw[qZ.2 h,hs];rfl
theorem qj7{f:Nat}(h:bK f≤js)(hs:bS f=true):fv f = -(kV (bK f):Int):=by
 unfold fv fvK;rw[qZ.2 h,hs];rfl
def sgV(neg:Bool)(n:Nat):Int:=bif neg then -(n:Int)else(n:Int)
theorem qbG{f:Nat}(h:bK f≤js):fv f=sgV (bS f) (kV (bK f)):=by
 cases hs:bS f with
 | false=>exact qos h hs
 | true=>exact qj7 h hs
theorem f_of{neg:Bool}{f:Nat}(h1:bK f=js+1)(h2:bS f=neg)(h:f<18446744073709551616):f=sgN neg+9218868437227405312:=by
 have:=qy5 h
 rw[h1,h2]at this;exact this
theorem qvH{neg:Bool}{mode:Int}{M E:Nat}(hM:M≠0):RN neg mode M E false<18446744073709551616:=by
 rw[qCC hM];have:=qqm (twN neg mode) (yd M E+(upN neg mode (jj M E % 2 == 1) (hfN M E) (rsN M E)).toNat)
 have e:rk neg mode M E<9223372036854775808:=this
 generalize rk neg mode M E=k at *
 unfold sgN;cases neg <;> simp only[zd,zh] <;> omega
theorem qqo{a b p:Nat}(h:a≤b*p):(a:Int)≤(b:Int)*(p:Int):=by rw[← Kq];exact Int.ofNat_le.2 h
theorem qmG{a b p:Nat}(h:b*p≤a):(b:Int)*(p:Int)≤(a:Int):=by rw[← Kq];exact Int.ofNat_le.2 h
theorem sg_f(n:Nat):sgV false n=(n:Int):=rfl
theorem sg_t(n:Nat):sgV true n = -(n:Int):=rfl
theorem qG4{neg:Bool}{M E:Nat}(hM:M≠0):(bK (RN neg 1 M E false)≤js∧sgV neg (M*2^E)≤fv (RN neg 1 M E false)*(PS:Int))∨RN neg 1 M E false=9218868437227405312:=by
 obtain⟨p1,p2⟩:=qmD (neg:=neg) (mode:=1) (E:=E) hM
 have hw:=qvH (neg:=neg) (mode:=1) (E:=E) hM
 have ha:=qCD (neg:=neg) (mode:=1) (E:=E) hM
 have ht:=qCE (neg:=neg) (mode:=1) (E:=E) hM
 rw[← p1]at ha ht;generalize RN neg 1 M E false=r at *
 generalize M*2^E=V at *
 generalize PS=P at *
 cases neg with
 | false=>
  rcases ha rfl rfl with⟨h1,h2⟩ | h
  · left
    exact⟨h1,by rw[qos h1 p2,sg_f];exact qqo h2⟩
  · right;exact f_of h p2 hw
 | true=>
  obtain⟨h1,h2⟩:=ht rfl rfl;left;refine⟨h1,?_⟩
  rw[qj7 h1 p2,sg_t,V8];exact Int.neg_le_neg (qmG h2)
theorem qG5{neg:Bool}{M E:Nat}(hM:M≠0):(bK (RN neg 2 M E false)≤js∧fv (RN neg 2 M E false)*(PS:Int)≤sgV neg (M*2^E))∨RN neg 2 M E false=18442240474082181120:=by
 obtain⟨p1,p2⟩:=qmD (neg:=neg) (mode:=2) (E:=E) hM
 have hw:=qvH (neg:=neg) (mode:=2) (E:=E) hM
 have ha:=qCD (neg:=neg) (mode:=2) (E:=E) hM
 have ht:=qCE (neg:=neg) (mode:=2) (E:=E) hM
 rw[← p1]at ha ht;generalize RN neg 2 M E false=r at *
 generalize M*2^E=V at *
 generalize PS=P at *
 cases neg with
 | true=>
  rcases ha rfl rfl with⟨h1,h2⟩ | h
  · left
    refine⟨h1,?_⟩
    rw[qj7 h1 p2,sg_t,V8];exact Int.neg_le_neg (qqo h2)
  · right;exact f_of h p2 hw
 | false=>
  obtain⟨h1,h2⟩:=ht rfl rfl;left;exact⟨h1,by rw[qos h1 p2,sg_f];exact qmG h2⟩
structure SumP (a b:Nat) (mode:Int) (r:Nat):Prop where
 got:(bK r≤js∧fv r=fv a+fv b)∨∃neg M E,M≠0∧r=RN neg mode M E false∧sgV neg (M*2^E)=(fv a+fv b)*(PS:Int)
theorem qCF{k D e:Nat}(h:kE k=D+e):2^D*kM k*2^(e+SH)=kV k*PS:=by
 rw[qqn];unfold kV;rw[h,zW,zW];rw[zL (2^D) (kM k),zR,zR,zR]
theorem qG6(k:Nat):((kE k:Int)-1074+6000).toNat=kE k+SH:=by rw[qCp];omega
theorem qvI(b:Bool){A B X Y P:Nat}(hx:A=X*P)(hy:B=Y*P):sgV b (A+B)=(sgV b X+sgV b Y)*(P:Int):=by
 subst hx hy
 unfold sgV;cases b
 · simp only[zh];rw[Vg,Kq,Kq,X8]
 · simp only[zd];rw[Vg,Kq,Kq,X8,V8,V8,Int.neg_add]
theorem qvJ(b:Bool){N X Y P:Nat}(h:N+Y*P=X*P):sgV b N=(sgV b X+sgV (!b) Y)*(P:Int):=by
 have hi:(N:Int)+(Y:Int)*(P:Int)=(X:Int)*(P:Int):=by rw[← Kq,← Kq,← Vg,h]
 rw[X8];unfold sgV;generalize (Y:Int)*(P:Int)=u at *
 cases b
 · simp only[zh,Kl,zd];rw[V8];omega
 · simp only[zd,Kh,zh];rw[V8];omega
theorem qvK(b c:Bool){X:Nat}:sgV c 0=sgV b X+sgV (!b) X:=by
 unfold sgV;cases b <;> cases c <;> simp only[zd,zh,Kh,Kl] <;> omega
theorem kV_0:kV 0=0:=rfl
theorem qmH{x y:Nat}{mode:Int}(fx:bK x≤js)(fy:bK y≤js)(zx:bK x≠0)(hle:kM (bK y)≤2^(kE (bK x)-kE (bK y))*kM (bK x))(he:kE (bK y)≤kE (bK x)):SumP x y mode (qoe x y mode):=by
 have mx:kM (bK x)≠0:=fun h=>zx (qcT.1 h)
 have hx:=qCF (k:=bK x) (D:=kE (bK x)-kE (bK y)) (e:=kE (bK y)) (by omega)
 have hy:kM (bK y)*2^(kE (bK y)+SH)=kV (bK y)*PS:=by
  have:=qCF (k:=bK y) (D:=0) (e:=kE (bK y)) (by omega)
  rwa [Vp,KU]at this
 have hv:fv x+fv y=sgV (bS x) (kV (bK x))+sgV (bS y) (kV (bK y)):=by rw[qbG fx,qbG fy]
 have hp0:=zK (kE (bK x)-kE (bK y))
 unfold qoe qmi;rw[qG6];generalize 2^(kE (bK x)-kE (bK y))=D at *
 have hp:D*kM (bK x)≠0:=Nat.mul_ne_zero (by omega) mx
 by_cases hs:bS x=bS y
 · rw[Kp hs]
   refine⟨.inr ⟨bS x,_,_,by omega,rfl,?_⟩⟩
   rw[hv,← hs,zV];exact qvI _ hx hy
 · rw[zZ hs]
   have hs':bS y = !bS x:=by revert hs;cases bS x <;> cases bS y <;> simp
   by_cases h0:D*kM (bK x)=kM (bK y)
   · rw[Kp h0]
     have hu:kV (bK x)=kV (bK y):=by
      have h1:kV (bK x)*PS=kV (bK y)*PS:=by rw[← hx,h0,hy]
      exact W8 (by have:=qor;omega) h1
     have hk:bK (sgN (decide (mode=2)))=0:=by cases decide (mode=2) <;> rfl
     have hk':bK (sgN (decide (mode=2)))≤js:=by rw[hk];exact Va _
     refine⟨.inl ⟨hk',?_⟩⟩
     rw[qbG hk',hk,hv,hu,hs',kV_0];exact qvK _ _
   · rw[zZ h0]
     refine⟨.inr ⟨bS x,_,_,by omega,rfl,?_⟩⟩
     rw[hv,hs'];refine qvJ _ ?_
     rw[← hy,← zV,← hx,WQ hle]
theorem Z7{f:Nat}(h:bK f=0):fv f=0:=by
 rw[qbG (by rw[h];exact Va _),h];have k0:kV 0=0:=rfl
 rw[k0];unfold sgV;cases bS f <;> rfl
theorem qvL{i j:Nat}(hi:i≤9218868437227405311)(hj:j≤9218868437227405311)(h:kE j<kE i∨kE j=kE i∧kM j≤kM i):kM j≤2^(kE i-kE j)*kM i:=by
 obtain⟨a1,a2,a3,a4⟩:=Zx hi;obtain⟨b1,b2,b3,b4⟩:=Zx hj;rcases h with h | ⟨h1,h2⟩
 · have hp:2^1≤2^(kE i-kE j):=Kf (by omega) (by omega)
   have h4:=a4 (by omega)
   have:=Vd hp h4
   omega
 · rw[h1,Vi,Vp,KU];exact h2
theorem qvM{a b:Nat}(h:qex a b=false)(ha:bK a≤js)(hb:bK b≤js):kM (bK b)≤2^(kE (bK a)-kE (bK b))*kM (bK a)∧kE (bK b)≤kE (bK a):=by
 unfold qex at h;simp only[VQ,Bool.and_eq_false_iff,WG]at h;obtain⟨h1,h2⟩:=h;have hc:kE (bK b)<kE (bK a)∨kE (bK b)=kE (bK a)∧kM (bK b)≤kM (bK a):=by omega
 exact⟨qvL ha hb hc,by omega⟩
theorem qvN{a b:Nat}(h:qex a b=true)(ha:bK a≤js)(hb:bK b≤js):kM (bK a)≤2^(kE (bK b)-kE (bK a))*kM (bK b)∧kE (bK a)≤kE (bK b):=by
 unfold qex at h;simp only[Vw,zm,zF]at h;have hc:kE (bK a)<kE (bK b)∨kE (bK a)=kE (bK b)∧kM (bK a)≤kM (bK b):=by omega
 exact⟨qvL hb ha hc,by omega⟩
theorem qvO{k:Nat}(h:k≤js):Qs k=false:=by
 unfold Qs;rw[beq_dec];exact zk (by unfold js at h;omega)
theorem qot{k:Nat}(h:k≤js):qP k=false:=y9.2 (by unfold js at h;omega)
theorem qmI{a b:Nat}{mode:Int}(fa:bK a≤js)(fb:bK b≤js):SumP a b mode (YF a b mode):=by
 unfold YF;rw[qot fa,qot fb,qvO fa,qvO fb];simp only[zh,KW];by_cases za:bK a=0
 · rw[show Nat.beq (bK a) 0=true by rw[za];rfl]
   by_cases zb:bK b=0
   · rw[show Nat.beq (bK b) 0=true by rw[zb];rfl]
     have key:∀r:Nat,bK r=0→SumP a b mode r:=fun r hr=>⟨.inl ⟨by rw[hr];exact Va _,by rw[Z7 hr,Z7 za,Z7 zb];rfl⟩⟩
     cases decide (bS a=bS b)with
     | true=>exact key a za
     | false=>
      refine key (sgN (decide (mode=2))) ?_
      cases decide (mode=2) <;> rfl
   · rw[qbW zb]
     exact⟨.inl ⟨fb,by rw[Z7 za,WP];rfl⟩⟩
 · rw[qbW za]
   by_cases zb:bK b=0
   · rw[show Nat.beq (bK b) 0=true by rw[zb];rfl]
     exact⟨.inl ⟨fa,by rw[Z7 zb,XA];rfl⟩⟩
   · rw[qbW zb]
     simp only[zh,KW];cases hs:qex a b with
     | false=>
      obtain⟨h1,h2⟩:=qvM hs fa fb;exact qmH fa fb za h1 h2
     | true=>
      obtain⟨h1,h2⟩:=qvN hs fa fb;have:=(qmH (mode:=mode) fb fa zb h1 h2).got
      rw[Int.add_comm]at this;exact⟨this⟩
theorem qz9{a b:Nat}(fa:bK a≤js)(fb:bK b≤js):(bK (YF a b 1)≤js∧fv a+fv b≤fv (YF a b 1))∨YF a b 1=9218868437227405312:=by
 rcases(qmI (mode:=1) fa fb).got with⟨h1,h2⟩ | ⟨neg,M,E,hM,h1,h2⟩
 · exact .inl ⟨h1,by omega⟩
 · rw[h1]
   rcases qG4 (neg:=neg) (E:=E) hM with⟨h3,h4⟩ | h
   · rw[h2]at h4
     exact .inl ⟨h3,XD h4 qor⟩
   · exact .inr h
theorem qAa{a b:Nat}(fa:bK a≤js)(fb:bK b≤js):(bK (YF a b 2)≤js∧fv (YF a b 2)≤fv a+fv b)∨YF a b 2=18442240474082181120:=by
 rcases(qmI (mode:=2) fa fb).got with⟨h1,h2⟩ | ⟨neg,M,E,hM,h1,h2⟩
 · exact .inl ⟨h1,by omega⟩
 · rw[h1]
   rcases qG5 (neg:=neg) (E:=E) hM with⟨h3,h4⟩ | h
   · rw[h2]at h4
     exact .inl ⟨h3,XD h4 qor⟩
   · exact .inr h
theorem qj8{n:Nat}(h:n<18446744073709551616):Fw (n:Int):=⟨VN _,by omega⟩
theorem qh5{a:Int}(h:Fw a):a.toNat<18446744073709551616:=by obtain⟨h1,h2⟩:=h;omega
theorem qgv:Fw 0:=⟨by decide,by decide⟩
theorem Z8{a b:Int}(ha:Fw a)(hb:Fw b)(m:Int):Fw (Jc a b m):=qj8 (qp6 (qh5 ha) (qh5 hb) m)
theorem qgw{a:Int}(ha:Fw a):Fw (qam a):=qj8 (qy6 (qh5 ha))
theorem qEM{a:Int}(ha:Fw a):Fw (qcY a):=qj8 (by
 unfold yE;have:=qgd a.toNat
 have:=qh5 ha
 cases qP (bK a.toNat) <;> simp only[zd,zh] <;> omega)
theorem qqp{x y:Int}(hx:Fw x)(hy:Fw y):Fw (upI [x,y]):=Z8 (Z8 qgv hx 1) hy 1
theorem qvP:∀ {l:List Tm} {s:Int},Fw s→(∀t∈l,Fw t.c)→Fw (qms l s)
 | [],s,h,_=>h
 | t::l,s,h,hl=>by
  unfold qms;exact qvP (qqp h (qEM (hl t (zu ..)))) fun u hu=>hl u (zp _ hu)
structure FmW (a:Fm):Prop where
 mid:Fw a.2.1
 err:Fw a.2.2.2
 tms:∀t∈a.2.2.1,Fw t.c
theorem qEN{a:Fm}(h:FmW a):Fw (qjW a):=by
 rw[qjX];cases okF a with
 | false=>
  show Fw 9218868437227405312
  exact⟨by decide,by decide⟩
 | true=>exact qqp (qvP qgv h.tms) h.err
end
end Su
end
section
namespace Su
open Go Fly
noncomputable section
def kyV(k:Int):Int:=bif decide (k<0)then -(kV k.natAbs:Int)else(kV k.natAbs:Int)
theorem qCG{f:Int}(h:fI f=true):fv f.toNat=kyV (ky f):=by
 have h':jT (bK f.toNat)=true:=h
 unfold fv fvK kyV;rw[h',zd,qdF];have e:ky f=bif bS f.toNat then -(bK f.toNat:Int)else(bK f.toNat:Int):=rfl
 rw[e];cases bS f.toNat with
 | true=>
  by_cases h0:bK f.toNat=0
  · rw[h0];rfl
  · rw[zf (by simp only[zd];omega)]
 | false=>rw[zk (by simp only[zh];omega)]
theorem qEO{w:Int}:Yz w.toNat = !fI w:=by
 have:=qj3 w.toNat
 unfold fI;rw[this,Bool.not_not]
theorem qvQ{i j:Int}(h:i<j):kyV i<kyV j:=by
 unfold kyV;by_cases hi:i<0
 · rw[zf hi,zd]
   have h1:kV 0<kV i.natAbs:=qpC (by omega)
   by_cases hj:j<0
   · rw[zf hj,zd]
     have:=qpC (show j.natAbs<i.natAbs by omega)
     omega
   · rw[zk hj,zh]
     omega
 · rw[zk hi,zk (show¬j<0 by omega),zh,zh]
   have:=qpC (show i.natAbs<j.natAbs by omega)
   omega
theorem qEP{i j:Int}:kyV i≤kyV j↔i≤j:=by
 constructor
 · intro h
   refine Int.le_of_not_gt fun hlt=>?_
   have:=qvQ hlt
   omega
 · intro h
   by_cases e:i=j
   · rw[e];exact Vy _
   · exact XY (qvQ (by omega))
theorem qvR{a b:Int}(ha:fI a=true)(hb:fI b=true):fv a.toNat≤fv b.toNat↔ky a≤ky b:=by
 rw[qCG ha,qCG hb];exact qEP
theorem qou{f:Int}(h:fI f=true) : -9218868437227405311≤ky f∧ky f≤9218868437227405311:=by
 have h1:=qdF f;have h2:=qZ.1 (show jT (bK f.toNat)=true from h)
 omega
abbrev qov:Int:=9218868437227405312
abbrev qb3:Int:=18442240474082181120
def Up(x n:Int):Prop:=(fI x=true∧n≤fv x.toNat)∨x=qov
def Dn(x n:Int):Prop:=(fI x=true∧fv x.toNat≤n)∨x=qb3
theorem yf{x:Int}:fI x=true↔bK x.toNat≤js:=qZ
theorem qj9:(qov:Int).toNat=9218868437227405312:=rfl
theorem qvS:(qb3:Int).toNat=18442240474082181120:=rfl
theorem qh6{b:Nat}{mode:Int}(h:qP (bK b)=false)(hs:Qs (bK b)=true→bS b=false):YF 9218868437227405312 b mode=9218868437227405312:=by
 unfold YF;have e1:qP (bK 9218868437227405312)=false:=rfl
 have e2:Qs (bK 9218868437227405312)=true:=rfl
 have e3:bS 9218868437227405312=false:=rfl
 rw[e1,h,e2,e3];cases hi:Qs (bK b)with
 | false=>rfl
 | true=>rw[hs hi];rfl
theorem qr1{a:Nat}{mode:Int}(h:bK a≤js):YF a 9218868437227405312 mode=9218868437227405312:=by
 unfold YF;have e1:qP (bK 9218868437227405312)=false:=rfl
 have e2:Qs (bK 9218868437227405312)=true:=rfl
 rw[e1,qot h,e2,qvO h];rfl
theorem qow{a:Nat}{mode:Int}(h:bK a≤js):YF a 18442240474082181120 mode=18442240474082181120:=by
 unfold YF;have e1:qP (bK 18442240474082181120)=false:=rfl
 have e2:Qs (bK 18442240474082181120)=true:=rfl
 rw[e1,qot h,e2,qvO h];rfl
theorem YC{x y n m:Int}(hx:Up x n)(hy:Up y m):Up (Jc x y 1) (n+m):=by
 unfold Jc;rw[Z5];rcases hx with⟨fx,hx⟩ | rfl
 · rcases hy with⟨fy,hy⟩ | rfl
   · rcases qz9 (yf.1 fx) (yf.1 fy)with⟨h1,h2⟩ | h
     · left
       refine⟨yf.2 (by rw[zl];exact h1),?_⟩
       rw[zl];omega
     · right;rw[h];rfl
   · right;rw[qj9,qr1 (yf.1 fx)];rfl
 · right
   rw[qj9];rcases hy with⟨fy,hy⟩ | rfl
   · rw[qh6 (qot (yf.1 fy)) (fun h=>by rw[qvO (yf.1 fy)]at h;cases h)];rfl
   · rw[qj9,qh6 rfl (fun _=>rfl)];rfl
theorem qEQ{x y n m:Int}(fx:fI x=true)(hx:fv x.toNat≤n)(hy:Dn y m):Dn (Jc x y 2) (n+m):=by
 unfold Jc;rw[Z5];rcases hy with⟨fy,hy⟩ | rfl
 · rcases qAa (yf.1 fx) (yf.1 fy)with⟨h1,h2⟩ | h
   · left
     refine⟨yf.2 (by rw[zl];exact h1),?_⟩
     rw[zl];omega
   · right;rw[h];rfl
 · right;rw[qvS,qow (yf.1 fx)];rfl
theorem qfe{x n m:Int}(h:Up x n)(hm:m≤n):Up x m:=h.imp (fun⟨a,b⟩=>⟨a,by omega⟩) id
theorem qqq{f:Nat}(hf:f<18446744073709551616)(h:bK f≤js):bK (QS f)≤js∧fv (QS f) = -fv f:=by
 have h1:=qDM hf;have h2:=qDN hf (qot h)
 refine⟨by rw[h1];exact h,?_⟩
 rw[qbG (by rw[h1];exact h),h1,h2,qbG h];unfold sgV;cases bS f <;> simp
theorem qER{x n:Int}(hw:Fw x)(h:Up x n):Dn (qam x) (-n):=by
 unfold qam;rcases h with⟨fx,hx⟩ | rfl
 · left
   obtain⟨h1,h2⟩:=qqq (qh5 hw) (yf.1 fx)
   refine⟨yf.2 (by rw[zl];exact h1),?_⟩
   rw[zl,h2];omega
 · right;rfl
theorem JW{x:Int}(h:fI x=true):Up x (fv x.toNat):=.inl ⟨h,Vy _⟩
theorem qAb:Up 0 0:=.inl ⟨rfl,by decide⟩
theorem qka{c:Int}(h:fI c=true):fI (qcY c)=true∧fv (qcY c).toNat=(avF c:Int):=by
 have h':=yf.1 h;have e:yE c.toNat=bK c.toNat:=by unfold yE;rw[qot h'];rfl
 unfold qcY avF;rw[zl,e];have hk:bK (bK c.toNat)≤js:=by rw[qh3];exact h'
 refine⟨yf.2 (by rw[zl];exact hk),?_⟩
 rw[qbG hk,qh3,qvF,qbG h'];unfold sgV;cases bS c.toNat <;> simp
theorem qgx:∀(l:List Tm) (s:Nat),Zd l s=s+Zd l 0
 | [],s=>rfl
 | t::l,s=>by
  unfold Zd;rw[qgx l (s+avF t.c),qgx l (0+avF t.c)];omega
theorem qvT:∀ {l:List Tm} {s:Int} {n:Nat},(∀t∈l,fI t.c=true)→Up s n→Up (qms l s) ((Zd l n:Nat):Int)
 | [],s,n,_,h=>h
 | t::l,s,n,hl,h=>by
  unfold qms Zd;obtain⟨h1,h2⟩:=qka (hl t (zu ..))
  refine qvT (fun u hu=>hl u (zp _ hu)) ?_
  have h3:Up (qcY t.c) (avF t.c:Int):=by rw[← h2];exact JW h1
  have:=YC (YC qAb h) h3
  rw[WP,← Vg]at this;exact this
theorem qqr{a:Fm}(h:okF a=true):bS a.2.2.2.toNat=false:=by
 unfold okF at h;simp only[KR,VQ,Xi]at h;obtain⟨h1,h2⟩:=h;rw[qe9,h1,zh]at h2;simp only[zm,zF]at h2;have h3:Int.fdiv a.2.2.2 (2^63)=0:=h2.2.2.2.2
 generalize a.2.2.2=e at *
 refine Yw.2 ?_
 by_cases hn:0≤e
 · obtain⟨n,rfl⟩:=KJ hn
   rw[JD]at h3;have h4:n / 2^63=0:=by omega
   rw[zl];have h5:=(Nat.div_eq_zero_iff_lt (zK 63)).1 h4
   omega
 · rw[Int.toNat_of_nonpos (by omega)];omega
theorem qES{a:Fm}(h:okF a=true):Up a.2.2.2 (avF a.2.2.2:Int):=by
 obtain⟨_,hf⟩:=yR h;left;refine⟨hf.err,?_⟩
 unfold avF;rw[qbG (yf.1 hf.err),qqr h];unfold sgV;simp
theorem qET{a:Fm}(h:okF a=true):Up (qjW a) (Zf a:Int):=by
 obtain⟨_,hf⟩:=yR h;rw[qjX,h,zd];have h1:=qvT (l:=a.2.2.1) (s:=0) (n:=0) hf.tms qAb
 have:=YC (YC qAb h1) (qES h)
 rw[WP]at this;refine qfe this ?_
 unfold Zf;rw[qgx];omega
end
end Su
end
section
namespace Su
open Go Fly
noncomputable section
end
end Su
end
section
namespace Su
open Go Fly
end Su
end
