/-
  What functions of the program compute, in plain Lean, and that the evaluator finds it.
-/
import Derived.Test.YtnegfdebjikfiaaGreatSuXl
import Derived.Test.YtnegfdebjikfiaaGreatNC14
set_option linter.unusedVariables false
set_option linter.unusedSimpArgs false
set_option maxRecDepth 10000
section
namespace Su
open Go Fly
noncomputable section
def qsh  (a:Fm):Option Int :=
 (qiy (a.1,(0:Int),a.2.2.1,a.2.2.2)).bind fun x0=>
 some x0
def aMid  (a:Int)(b:Int):Option Int :=
 some (((Qe (Int.toNat (qpr a.toNat (Int.toNat 4602678819172646912) 0:Int)) (Int.toNat (qpr b.toNat (Int.toNat 4602678819172646912) 0:Int)) 0):Nat):Int)
def qEl(a:Fm):Int:=qBL (a.1,0,a.2.2.1,a.2.2.2)
def qnI(a:Fm):Option Int:=bif qgI a.2.2.1 then some (qEl a)else none
theorem qsi(a:Fm)(y:Int)(hg:(d1 jC).good a)(h:qnI a=some y):qsh a=some y:=by
 obtain⟨h1,h2⟩:=qj h;have:=soi h2;subst this
 unfold qsh qiy;rw[h1];rfl
def jP(a b:Int):Int:=qJ (qcT a 4602678819172646912 0) (qcT b 4602678819172646912 0) 0
def qsj(p:Int×Int):Option Int:=some (jP p.1 p.2)
theorem qxE(p:Int×Int)(y:Int)(hg:(dc (cI .u64) (d1 (cI .u64))).good p)(h:qsj p=some y):aMid p.1 p.2=some y:=h
end
end Su
end
section
namespace Su
open Go Fly
noncomputable section
end
end Su
end
section
namespace Su
open Go Fly
noncomputable section
def fvK(b:Bool)(k:Nat):Int:=bif jo k then(bif b then -(kV k:Int)else(kV k:Int))else 0
def fv(f:Nat):Int:=fvK (bS f) (bK f)
end
end Su
end
section
namespace Su
open Go Fly
noncomputable section
theorem qke(f:Nat):bK (bK f)=bK f:=Nat.mod_mod _ _
theorem qzZ(f:Nat):bS (bK f)=false:=Jo.2 (qaw f)
end
end Su
end
section
namespace Su
open Go Fly
def qkf(f:Int):Bool:=qB (bK f.toNat)
def ky(f:Int):Int:=yf f.toNat
def mxI(a b:Int):Int:=((qaq a.toNat b.toNat:Nat):Int)
def Fw(f:Int):Prop:=0≤f∧f<18446744073709551616
theorem qkg{a b:Nat}:jV a b=true↔qB (bK a)=false∧qB (bK b)=false∧yf a<yf b:=by
 unfold jV qcO jZ qdC;cases qB (bK a) <;> cases qB (bK b) <;> simp
 by_cases h1:yf a<yf b
 · rw[zd h1];simp;omega
 · rw[zh h1]
   by_cases h2:yf b<yf a
   · rw[zd h2];simp;omega
   · rw[zh h2];simp;omega
theorem qsk(f:Int):(ky f).natAbs=bK f.toNat:=by
 unfold ky yf;cases bS f.toNat <;> simp
theorem qEm{a b:Int}(ha:Fw a)(hb:Fw b)(na:qkf a=false)(nb:qkf b=false):mxI a b=if ky a<ky b then b else a:=by
 unfold mxI qaq;unfold qkf at na nb;rw[na,nb];simp only[VK,zi];by_cases h:ky a<ky b
 · rw[zR h,qkg.2 ⟨na,nb,h⟩,zf];exact Int.toNat_of_nonneg hb.1
 · rw[zP h,show jV a.toNat b.toNat=false by
    cases hl:jV a.toNat b.toNat with
    | false=>rfl
    | true=>exact absurd (qkg.1 hl).2.2 h,zi]
   exact Int.toNat_of_nonneg ha.1
structure Nz (f:Int):Prop where
 w:Fw f
 n:qkf f=false
 z:f≠9223372036854775808
def SpOk(s:Spn):Prop:=s=qzX∨(s.1=false∧Nz s.2.1∧Nz s.2.2∧ky s.2.1≤ky s.2.2∧s.2.1≠9218868437227405312∧s.2.2≠18442240474082181120)
def SpW(s:Spn):Prop:=Fw s.2.1∧Fw s.2.2
theorem SpOk.w{s:Spn}(h:SpOk s):SpW s:=by
 rcases h with h | ⟨_,h1,h2,_⟩
 · rw[h];exact⟨⟨by decide,by decide⟩,⟨by decide,by decide⟩⟩
 · exact⟨h1.w,h2.w⟩
theorem qxF:ky 9218868437227405312=9218868437227405312:=by decide
end Su
end
section
namespace Su
open Go Fly
noncomputable section
def rk(neg:Bool)(mode:Int)(M E:Nat):Nat:=Jn (twN neg mode) (qp M E+(upN neg mode (qO M E % 2 == 1) (hfN M E) (rsN M E)).toNat)
theorem qz0{neg:Bool}{mode:Int}{M E:Nat}(hM:M≠0):RN neg mode M E false=sgN neg+rk neg mode M E:=by
 unfold RN rk;rw[Qy hM,VE];rfl
theorem qnJ(tw:Bool)(k:Nat):Jn tw k<9223372036854775808:=by
 unfold Jn qU;cases h:Nat.ble k 9218868437227405311 with
 | true=>have:=zr h;rw[zf];omega
 | false=>
  rw[zi];cases tw with
  | true=>show(9218868437227405311:Nat)<9223372036854775808;omega
  | false=>show(9218868437227405312:Nat)<9223372036854775808;omega
theorem qBM{b:Bool}{k:Nat}(h:k<9223372036854775808):bK (sgN b+k)=k∧bS (sgN b+k)=b:=by
 unfold bK sgN;cases b with
 | true=>
  rw[zf];exact⟨by omega,JU.2 (by omega)⟩
 | false=>
  rw[zi];exact⟨by omega,Jo.2 (by omega)⟩
theorem qsl{neg:Bool}{mode:Int}{M E:Nat}(hM:M≠0):bK (RN neg mode M E false)=rk neg mode M E∧bS (RN neg mode M E false)=neg:=by
 rw[qz0 hM];exact qBM (qnJ _ _)
theorem qkh{tw:Bool}{k:Nat}(h:k≤qU):Jn tw k=k:=by
 unfold Jn;rw[zB h,zf]
theorem qki{tw:Bool}{k:Nat}(h:qU<k):Jn tw k=bif tw then qU else qU+1:=by
 unfold Jn;rw[show Nat.ble k qU=false by
  cases hb:Nat.ble k qU with
  | false=>rfl
  | true=>have:=zr hb;omega,zi]
@[irreducible] def PS:Nat:=2^SH
theorem qnK:PS=2^SH:=by unfold PS;rfl
theorem qsm:(0:Int)<(PS:Int):=Int.ofNat_lt.2 (by rw[qnK];exact zJ _)
theorem qEn{neg:Bool}{mode:Int}{M E:Nat}(hM:M≠0)(ha:awN neg mode=true)(ht:twN neg mode=false) :
 (rk neg mode M E≤qU∧M*2^E≤kV (rk neg mode M E)*PS)∨rk neg mode M E=qU+1:=by
 have e:rk neg mode M E=Jn false (qp M E+(hfN M E||rsN M E).toNat):=by unfold rk upN;rw[ha,ht,zf]
 rw[qnK];by_cases h:qp M E+(hfN M E||rsN M E).toNat≤qU
 · left
   rw[e,qkh h];refine⟨h,?_⟩
   cases hx:(hfN M E||rsN M E)with
   | true=>exact Nat.le_of_lt (qjZ hM)
   | false=>
    rw[Bool.or_eq_false_iff]at hx;rw[WF,Kr];exact Nat.le_of_eq ((qdt hM).2 hx)
 · right;rw[e,qki (by omega)];rfl
theorem qEo{neg:Bool}{mode:Int}{M E:Nat}(hM:M≠0)(ha:awN neg mode=false)(ht:twN neg mode=true) :
 rk neg mode M E≤qU∧kV (rk neg mode M E)*PS≤M*2^E:=by
 have e:rk neg mode M E=Jn true (qp M E):=by unfold rk upN;rw[ha,ht,zi,zf];rfl
 rw[e,qnK];have hf:=qjY (E:=E) hM
 by_cases h:qp M E≤qU
 · rw[qkh h];exact⟨h,hf⟩
 · rw[qki (by omega),zf]
   exact⟨zE _,KV (Ks _ (qrt (by omega))) hf⟩
theorem qsn{f:Nat}(h:bK f≤qU)(hs:bS f=false):fv f=(kV (bK f):Int):=by
 unfold fv fvK;rw[qT.2 h,hs];rfl
theorem qnL{f:Nat}(h:bK f≤qU)(hs:bS f=true):fv f = -(kV (bK f):Int):=by
 unfold fv fvK;rw[qT.2 h,hs];rfl
def sgV(neg:Bool)(n:Nat):Int:=bif neg then -(n:Int)else(n:Int)
theorem qgK{f:Nat}(h:bK f≤qU):fv f=sgV (bS f) (kV (bK f)):=by
 cases hs:bS f with
 | false=>exact qsn h hs
 | true=>exact qnL h hs
theorem f_of{neg:Bool}{f:Nat}(h1:bK f=qU+1)(h2:bS f=neg)(h:f<18446744073709551616):f=sgN neg+9218868437227405312:=by
 have:=qil h
 rw[h1,h2]at this;exact this
theorem qBN{neg:Bool}{mode:Int}{M E:Nat}(hM:M≠0):RN neg mode M E false<18446744073709551616:=by
 rw[qz0 hM];have:=qnJ (twN neg mode) (qp M E+(upN neg mode (qO M E % 2 == 1) (hfN M E) (rsN M E)).toNat)
 have e:rk neg mode M E<9223372036854775808:=this
 generalize rk neg mode M E=k at *
 unfold sgN;cases neg <;> simp only[zf,zi] <;> omega
theorem qxG{a b p:Nat}(h:a≤b*p):(a:Int)≤(b:Int)*(p:Int):=by rw[← Vc];exact Int.ofNat_le.2 h
theorem qso{a b p:Nat}(h:b*p≤a):(b:Int)*(p:Int)≤(a:Int):=by rw[← Vc];exact Int.ofNat_le.2 h
theorem sg_f(n:Nat):sgV false n=(n:Int):=rfl
theorem sg_t(n:Nat):sgV true n = -(n:Int):=rfl
theorem qEp{neg:Bool}{M E:Nat}(hM:M≠0):(bK (RN neg 1 M E false)≤qU∧sgV neg (M*2^E)≤fv (RN neg 1 M E false)*(PS:Int))∨RN neg 1 M E false=9218868437227405312:=by
 obtain⟨p1,p2⟩:=qsl (neg:=neg) (mode:=1) (E:=E) hM
 have hw:=qBN (neg:=neg) (mode:=1) (E:=E) hM
 have ha:=qEn (neg:=neg) (mode:=1) (E:=E) hM
 have ht:=qEo (neg:=neg) (mode:=1) (E:=E) hM
 rw[← p1]at ha ht;generalize RN neg 1 M E false=r at *
 generalize M*2^E=V at *
 generalize PS=P at *
 cases neg with
 | false=>
  rcases ha rfl rfl with⟨h1,h2⟩ | h
  · left
    exact⟨h1,by rw[qsn h1 p2,sg_f];exact qxG h2⟩
  · right;exact f_of h p2 hw
 | true=>
  obtain⟨h1,h2⟩:=ht rfl rfl;left;refine⟨h1,?_⟩
  rw[qnL h1 p2,sg_t,Int.neg_mul];exact Int.neg_le_neg (qso h2)
structure SumP (a b:Nat) (mode:Int) (r:Nat):Prop where
 got:(bK r≤qU∧fv r=fv a+fv b)∨∃neg M E,M≠0∧r=RN neg mode M E false∧sgV neg (M*2^E)=(fv a+fv b)*(PS:Int)
theorem qz1{k D e:Nat}(h:kE k=D+e):2^D*kM k*2^(e+SH)=kV k*PS:=by
 rw[qnK];unfold kV;rw[h,Kg,Kg];rw[Kw (2^D) (kM k),zZ,zZ,zZ]
theorem qEq(k:Nat):((kE k:Int)-1074+6000).toNat=kE k+SH:=by rw[qbx];omega
theorem qsp(b:Bool){A B X Y P:Nat}(hx:A=X*P)(hy:B=Y*P):sgV b (A+B)=(sgV b X+sgV b Y)*(P:Int):=by
 subst hx hy
 unfold sgV;cases b
 · simp only[zi];rw[Wx,Vc,Vc,Int.add_mul]
 · simp only[zf];rw[Wx,Vc,Vc,Int.add_mul,Int.neg_mul,Int.neg_mul,Int.neg_add]
theorem qsq(b:Bool){N X Y P:Nat}(h:N+Y*P=X*P):sgV b N=(sgV b X+sgV (!b) Y)*(P:Int):=by
 have hi:(N:Int)+(Y:Int)*(P:Int)=(X:Int)*(P:Int):=by rw[← Vc,← Vc,← Wx,h]
 rw[Int.add_mul];unfold sgV;generalize (Y:Int)*(P:Int)=u at *
 cases b
 · simp only[zi,zX,zf];rw[Int.neg_mul];omega
 · simp only[zf,Kf,zi];rw[Int.neg_mul];omega
theorem qsr(b c:Bool){X:Nat}:sgV c 0=sgV b X+sgV (!b) X:=by
 unfold sgV;cases b <;> cases c <;> simp only[zf,zi,Kf,zX] <;> omega
theorem kV_0:kV 0=0:=rfl
theorem qkj{x y:Nat}{mode:Int}(fx:bK x≤qU)(fy:bK y≤qU)(zx:bK x≠0)(hle:kM (bK y)≤2^(kE (bK x)-kE (bK y))*kM (bK x))(he:kE (bK y)≤kE (bK x)):SumP x y mode (qfQ x y mode):=by
 have mx:kM (bK x)≠0:=fun h=>zx (QS.1 h)
 have hx:=qz1 (k:=bK x) (D:=kE (bK x)-kE (bK y)) (e:=kE (bK y)) (by omega)
 have hy:kM (bK y)*2^(kE (bK y)+SH)=kV (bK y)*PS:=by
  have:=qz1 (k:=bK y) (D:=0) (e:=kE (bK y)) (by omega)
  rwa [KH,Vq]at this
 have hv:fv x+fv y=sgV (bS x) (kV (bK x))+sgV (bS y) (kV (bK y)):=by rw[qgK fx,qgK fy]
 have hp0:=zJ (kE (bK x)-kE (bK y))
 unfold qfQ qcP;rw[qEq];generalize 2^(kE (bK x)-kE (bK y))=D at *
 have hp:D*kM (bK x)≠0:=Nat.mul_ne_zero (by omega) mx
 by_cases hs:bS x=bS y
 · rw[zR hs]
   refine⟨.inr ⟨bS x,_,_,by omega,rfl,?_⟩⟩
   rw[hv,← hs,Kp];exact qsp _ hx hy
 · rw[zP hs]
   have hs':bS y = !bS x:=by revert hs;cases bS x <;> cases bS y <;> simp
   by_cases h0:D*kM (bK x)=kM (bK y)
   · rw[zR h0]
     have hu:kV (bK x)=kV (bK y):=by
      have h1:kV (bK x)*PS=kV (bK y)*PS:=by rw[← hx,h0,hy]
      exact Nat.eq_of_mul_eq_mul_right (by have:=qsm;omega) h1
     have hk:bK (sgN (decide (mode=2)))=0:=by cases decide (mode=2) <;> rfl
     have hk':bK (sgN (decide (mode=2)))≤qU:=by rw[hk];exact Ve _
     refine⟨.inl ⟨hk',?_⟩⟩
     rw[qgK hk',hk,hv,hu,hs',kV_0];exact qsr _ _
   · rw[zP h0]
     refine⟨.inr ⟨bS x,_,_,by omega,rfl,?_⟩⟩
     rw[hv,hs'];refine qsq _ ?_
     rw[← hy,← Kp,← hx,Nat.sub_add_cancel hle]
theorem qbK{f:Nat}(h:bK f=0):fv f=0:=by
 rw[qgK (by rw[h];exact Ve _),h];have k0:kV 0=0:=rfl
 rw[k0];unfold sgV;cases bS f <;> rfl
theorem qss{i j:Nat}(hi:i≤9218868437227405311)(hj:j≤9218868437227405311)(h:kE j<kE i∨kE j=kE i∧kM j≤kM i):kM j≤2^(kE i-kE j)*kM i:=by
 obtain⟨a1,a2,a3,a4⟩:=q9 hi;obtain⟨b1,b2,b3,b4⟩:=q9 hj;rcases h with h | ⟨h1,h2⟩
 · have hp:2^1≤2^(kE i-kE j):=KK (by omega) (by omega)
   have h4:=a4 (by omega)
   have:=Va hp h4
   omega
 · rw[h1,Vv,KH,Vq];exact h2
theorem qst{a b:Nat}(h:Zy a b=false)(ha:bK a≤qU)(hb:bK b≤qU):kM (bK b)≤2^(kE (bK a)-kE (bK b))*kM (bK a)∧kE (bK b)≤kE (bK a):=by
 unfold Zy at h;simp only[Bool.or_eq_false_iff,Bool.and_eq_false_iff,Wn]at h;obtain⟨h1,h2⟩:=h;have hc:kE (bK b)<kE (bK a)∨kE (bK b)=kE (bK a)∧kM (bK b)≤kM (bK a):=by omega
 exact⟨qss ha hb hc,by omega⟩
theorem qsu{a b:Nat}(h:Zy a b=true)(ha:bK a≤qU)(hb:bK b≤qU):kM (bK a)≤2^(kE (bK b)-kE (bK a))*kM (bK b)∧kE (bK a)≤kE (bK b):=by
 unfold Zy at h;simp only[Vw,zl,zy]at h;have hc:kE (bK a)<kE (bK b)∨kE (bK a)=kE (bK b)∧kM (bK a)≤kM (bK b):=by omega
 exact⟨qss hb ha hc,by omega⟩
theorem qxH{k:Nat}(h:k≤qU):qQ k=false:=by
 unfold qQ;rw[beq_dec];exact zh (by unfold qU at h;omega)
theorem qsv{k:Nat}(h:k≤qU):qB k=false:=qE.2 (by unfold qU at h;omega)
theorem qsw{a b:Nat}{mode:Int}(fa:bK a≤qU)(fb:bK b≤qU):SumP a b mode (yg a b mode):=by
 unfold yg;rw[qsv fa,qsv fb,qxH fa,qxH fb];simp only[zi,Kh];by_cases za:bK a=0
 · rw[show Nat.beq (bK a) 0=true by rw[za];rfl]
   by_cases zb:bK b=0
   · rw[show Nat.beq (bK b) 0=true by rw[zb];rfl]
     have key:∀r:Nat,bK r=0→SumP a b mode r:=fun r hr=>⟨.inl ⟨by rw[hr];exact Ve _,by rw[qbK hr,qbK za,qbK zb];rfl⟩⟩
     cases decide (bS a=bS b)with
     | true=>exact key a za
     | false=>
      refine key (sgN (decide (mode=2))) ?_
      cases decide (mode=2) <;> rfl
   · rw[Qy zb]
     exact⟨.inl ⟨fb,by rw[qbK za,Int.zero_add];rfl⟩⟩
 · rw[Qy za]
   by_cases zb:bK b=0
   · rw[show Nat.beq (bK b) 0=true by rw[zb];rfl]
     exact⟨.inl ⟨fa,by rw[qbK zb,Int.add_zero];rfl⟩⟩
   · rw[Qy zb]
     simp only[zi,Kh];cases hs:Zy a b with
     | false=>
      obtain⟨h1,h2⟩:=qst hs fa fb;exact qkj fa fb za h1 h2
     | true=>
      obtain⟨h1,h2⟩:=qsu hs fa fb;have:=(qkj (mode:=mode) fb fa zb h1 h2).got
      rw[Int.add_comm]at this;exact⟨this⟩
theorem qxI{a b:Nat}(fa:bK a≤qU)(fb:bK b≤qU):(bK (yg a b 1)≤qU∧fv a+fv b≤fv (yg a b 1))∨yg a b 1=9218868437227405312:=by
 rcases(qsw (mode:=1) fa fb).got with⟨h1,h2⟩ | ⟨neg,M,E,hM,h1,h2⟩
 · exact .inl ⟨h1,by omega⟩
 · rw[h1]
   rcases qEp (neg:=neg) (E:=E) hM with⟨h3,h4⟩ | h
   · rw[h2]at h4
     exact .inl ⟨h3,Int.le_of_mul_le_mul_right h4 qsm⟩
   · exact .inr h
theorem qsx{n:Nat}(h:n<18446744073709551616):Fw (n:Int):=⟨Int.natCast_nonneg _,by omega⟩
theorem qkk{a:Int}(h:Fw a):a.toNat<18446744073709551616:=by obtain⟨h1,h2⟩:=h;omega
theorem fw_0:Fw 0:=⟨by decide,by decide⟩
theorem qsy{a b:Int}(ha:Fw a)(hb:Fw b)(m:Int):Fw (qJ a b m):=qsx (qiu (qkk ha) (qkk hb) m)
theorem qsz{a:Int}(ha:Fw a):Fw (Jr a):=qsx (qnr (qkk ha))
end
end Su
end
section
namespace Su
open Go Fly
noncomputable section
def kyV(k:Int):Int:=bif decide (k<0)then -(kV k.natAbs:Int)else(kV k.natAbs:Int)
theorem qz2{f:Int}(h:fI f=true):fv f.toNat=kyV (ky f):=by
 have h':jo (bK f.toNat)=true:=h
 unfold fv fvK kyV;rw[h',zf,qsk];have e:ky f=bif bS f.toNat then -(bK f.toNat:Int)else(bK f.toNat:Int):=rfl
 rw[e];cases bS f.toNat with
 | true=>
  by_cases h0:bK f.toNat=0
  · rw[h0];rfl
  · rw[zd (by simp only[zf];omega)]
 | false=>rw[zh (by simp only[zi];omega)]
theorem qsA{i j:Int}(h:i<j):kyV i<kyV j:=by
 unfold kyV;by_cases hi:i<0
 · rw[zd hi,zf]
   have h1:kV 0<kV i.natAbs:=qnn (by omega)
   by_cases hj:j<0
   · rw[zd hj,zf]
     have:=qnn (show j.natAbs<i.natAbs by omega)
     omega
   · rw[zh hj,zi]
     omega
 · rw[zh hi,zh (show¬j<0 by omega),zi,zi]
   have:=qnn (show i.natAbs<j.natAbs by omega)
   omega
theorem qBO{i j:Int}:kyV i≤kyV j↔i≤j:=by
 constructor
 · intro h
   refine Int.le_of_not_gt fun hlt=>?_
   have:=qsA hlt
   omega
 · intro h
   by_cases e:i=j
   · rw[e];exact Wp _
   · exact Int.le_of_lt (qsA (by omega))
theorem qEr{a b:Int}(ha:fI a=true)(hb:fI b=true):fv a.toNat≤fv b.toNat↔ky a≤ky b:=by
 rw[qz2 ha,qz2 hb];exact qBO
theorem qBP{f:Int}(h:fI f=true) : -9218868437227405311≤ky f∧ky f≤9218868437227405311:=by
 have h1:=qsk f;have h2:=qT.1 (show jo (bK f.toNat)=true from h)
 omega
abbrev posI:Int:=9218868437227405312
def Up(x n:Int):Prop:=(fI x=true∧n≤fv x.toNat)∨x=posI
theorem JV{x:Int}:fI x=true↔bK x.toNat≤qU:=qT
theorem qiz:(posI:Int).toNat=9218868437227405312:=rfl
theorem qgL{b:Nat}{mode:Int}(h:qB (bK b)=false)(hs:qQ (bK b)=true→bS b=false):yg 9218868437227405312 b mode=9218868437227405312:=by
 unfold yg;have e1:qB (bK 9218868437227405312)=false:=rfl
 have e2:qQ (bK 9218868437227405312)=true:=rfl
 have e3:bS 9218868437227405312=false:=rfl
 rw[e1,h,e2,e3];cases hi:qQ (bK b)with
 | false=>rfl
 | true=>rw[hs hi];rfl
theorem qpw{a:Nat}{mode:Int}(h:bK a≤qU):yg a 9218868437227405312 mode=9218868437227405312:=by
 unfold yg;have e1:qB (bK 9218868437227405312)=false:=rfl
 have e2:qQ (bK 9218868437227405312)=true:=rfl
 rw[e1,qsv h,e2,qxH h];rfl
theorem qiA{x y n m:Int}(hx:Up x n)(hy:Up y m):Up (qJ x y 1) (n+m):=by
 unfold qJ;rw[jX];rcases hx with⟨fx,hx⟩ | rfl
 · rcases hy with⟨fy,hy⟩ | rfl
   · rcases qxI (JV.1 fx) (JV.1 fy)with⟨h1,h2⟩ | h
     · left
       refine⟨JV.2 (by rw[zm];exact h1),?_⟩
       rw[zm];omega
     · right;rw[h];rfl
   · right;rw[qiz,qpw (JV.1 fx)];rfl
 · right
   rw[qiz];rcases hy with⟨fy,hy⟩ | rfl
   · rw[qgL (qsv (JV.1 fy)) (fun h=>by rw[qxH (JV.1 fy)]at h;cases h)];rfl
   · rw[qiz,qgL rfl (fun _=>rfl)];rfl
theorem qnM{x n m:Int}(h:Up x n)(hm:m≤n):Up x m:=h.imp (fun⟨a,b⟩=>⟨a,by omega⟩) id
theorem qnN{f:Nat}(hf:f<18446744073709551616)(h:bK f≤qU):bK (yG f)≤qU∧fv (yG f) = -fv f:=by
 have h1:=qBh hf;have h2:=qBi hf (qsv h)
 refine⟨by rw[h1];exact h,?_⟩
 rw[qgK (by rw[h1];exact h),h1,h2,qgK h];unfold sgV;cases bS f <;> simp
theorem qiB{x:Int}(h:fI x=true):Up x (fv x.toNat):=.inl ⟨h,Wp _⟩
theorem up_0:Up 0 0:=.inl ⟨rfl,by decide⟩
end
end Su
end
section
namespace Su
open Go Fly
noncomputable section
end
end Su
end
section
namespace Su
open Go Fly
theorem qEs{b:Bool}{k:Nat}(h:k<9223372036854775808):bK (sgN b+k)=k∧bS (sgN b+k)=b:=by
 unfold bK sgN;cases b with
 | true=>rw[zf];exact⟨by omega,JU.2 (by omega)⟩
 | false=>rw[zi];exact⟨by omega,Jo.2 (by omega)⟩
end Su
end
