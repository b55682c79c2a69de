/-
  Bits and rounding, in plain Lean. No condition.
-/
import Derived.Test.YtfckjjffdfkelaaGreatNB30
import Derived.Test.YtfckjjffdfkelaaGreatNC24
import Derived.Test.YtfckjjffdfkelaaGreatNB32
set_option maxRecDepth 10000
section
namespace Su
open Go Fly
set_option linter.unusedVariables false
noncomputable section
def rk (neg:Bool) (mode:Int) (M E:Nat):Nat:=qbS (twN neg mode) (jH M E+(upN neg mode (qZ M E % 2 == 1) (hfN M E) (rsN M E)).toNat)
theorem qCS {neg:Bool} {mode:Int} {M E:Nat} (hM:M≠0):RN neg mode M E false=sgN neg+rk neg mode M E:=by
 unfold RN rk
 rw [qaV hM,Bool.false_or];rfl
theorem qpn (tw:Bool) (k:Nat):qbS tw k<9223372036854775808:=by
 unfold qbS jf
 cases h:Nat.ble k 9218868437227405311 with
 | true=>have:=Nat.le_of_ble_eq_true h;rw [cond_true];omega
 | false =>
  rw [cond_false]
  cases tw with
  | true=>show (9218868437227405311:Nat)<9223372036854775808;omega
  | false=>show (9218868437227405312:Nat)<9223372036854775808;omega
theorem qFw {b:Bool} {k:Nat} (h:k<9223372036854775808):bK (sgN b+k)=k∧bS (sgN b+k)=b:=by
 unfold bK sgN
 cases b with
 | true =>
  rw [cond_true]
  exact ⟨by omega,JK.2 (by omega)⟩
 | false =>
  rw [cond_false]
  exact ⟨by omega,Jf.2 (by omega)⟩
theorem qlC {neg:Bool} {mode:Int} {M E:Nat} (hM:M≠0):bK (RN neg mode M E false)=rk neg mode M E∧bS (RN neg mode M E false)=neg:=by
 rw [qCS hM];exact qFw (qpn _ _)
theorem qlD {tw:Bool} {k:Nat} (h:k≤jf):qbS tw k=k:=by
 unfold qbS;rw [Nat.ble_eq_true_of_le h,cond_true]
theorem qlE {tw:Bool} {k:Nat} (h:jf<k):qbS tw k=bif tw then jf else jf+1:=by
 unfold qbS
 rw [show Nat.ble k jf=false by
  cases hb:Nat.ble k jf with
  | false=>rfl
  | true=>have:=Nat.le_of_ble_eq_true hb;omega,cond_false]
@[irreducible] def PS:Nat:=2^SH
theorem qpo:PS=2^SH:=by unfold PS;rfl
theorem qnj:(0:Int)<(PS:Int):=Int.ofNat_lt.2 (by rw [qpo];exact Nat.two_pow_pos _)
theorem qCT {neg:Bool} {mode:Int} {M E:Nat} (hM:M≠0) (ha:awN neg mode=true) (ht:twN neg mode=false) :
 (rk neg mode M E≤jf∧M*2^E≤kV (rk neg mode M E)*PS)∨rk neg mode M E=jf+1:=by
 have e:rk neg mode M E=qbS false (jH M E+(hfN M E||rsN M E).toNat):=by unfold rk upN;rw [ha,ht,cond_true]
 rw [qpo]
 by_cases h:jH M E+(hfN M E||rsN M E).toNat≤jf
 · left
   rw [e,qlD h]
   refine ⟨h,?_⟩
   cases hx:(hfN M E||rsN M E) with
   | true=>exact Nat.le_of_lt (qs4 hM)
   | false =>
    rw [Bool.or_eq_false_iff] at hx
    rw [Bool.toNat_false,Nat.add_zero]
    exact Nat.le_of_eq ((qkN hM).2 hx)
 · right;rw [e,qlE (by omega)];rfl
theorem qCU {neg:Bool} {mode:Int} {M E:Nat} (hM:M≠0) (ha:awN neg mode=false) (ht:twN neg mode=true) :
 rk neg mode M E≤jf∧kV (rk neg mode M E)*PS≤M*2^E:=by
 have e:rk neg mode M E=qbS true (jH M E):=by unfold rk upN;rw [ha,ht,cond_false,cond_true];rfl
 rw [e,qpo]
 have hf:=qs3 (E:=E) hM
 by_cases h:jH M E≤jf
 · rw [qlD h];exact ⟨h,hf⟩
 · rw [qlE (by omega),cond_true]
   exact ⟨Nat.le_refl _,Nat.le_trans (Nat.mul_le_mul_right _ (qHr (by omega))) hf⟩
theorem qnk {f:Nat} (h:bK f≤jf) (hs:bS f=false):fv f=(kV (bK f):Int):=by
 unfold fv fvK;rw [ji.2 h,hs];rfl
theorem qji {f:Nat} (h:bK f≤jf) (hs:bS f=true):fv f = -(kV (bK f):Int):=by
 unfold fv fvK;rw [ji.2 h,hs];rfl
def sgV (neg:Bool) (n:Nat):Int:=bif neg then -(n:Int) else (n:Int)
theorem qcv {f:Nat} (h:bK f≤jf):fv f=sgV (bS f) (kV (bK f)):=by
 cases hs:bS f with
 | false=>exact qnk h hs
 | true=>exact qji h hs
theorem f_of {neg:Bool} {f:Nat} (h1:bK f=jf+1) (h2:bS f=neg) (h:f<18446744073709551616):f=sgN neg+9218868437227405312:=by
 have:=qyJ h
 rw [h1,h2] at this;exact this
theorem qvi {neg:Bool} {mode:Int} {M E:Nat} (hM:M≠0):RN neg mode M E false<18446744073709551616:=by
 rw [qCS hM]
 have:=qpn (twN neg mode) (jH M E+(upN neg mode (qZ M E % 2 == 1) (hfN M E) (rsN M E)).toNat)
 have e:rk neg mode M E<9223372036854775808:=this
 generalize rk neg mode M E=k at *
 unfold sgN
 cases neg <;> simp only [cond_true,cond_false] <;> omega
theorem qpp {a b p:Nat} (h:a≤b*p):(a:Int)≤(b:Int)*(p:Int):=by rw [← Int.natCast_mul];exact Int.ofNat_le.2 h
theorem qlF {a b p:Nat} (h:b*p≤a):(b:Int)*(p:Int)≤(a:Int):=by rw [← Int.natCast_mul];exact Int.ofNat_le.2 h
theorem sg_f (n:Nat):sgV false n=(n:Int):=rfl
theorem sg_t (n:Nat):sgV true n = -(n:Int):=rfl
theorem qHH {neg:Bool} {M E:Nat} (hM:M≠0):(bK (RN neg 1 M E false)≤jf∧sgV neg (M*2^E)≤fv (RN neg 1 M E false)*(PS:Int))∨RN neg 1 M E false=9218868437227405312:=by
 obtain ⟨p1,p2⟩:=qlC (neg:=neg) (mode:=1) (E:=E) hM
 have hw:=qvi (neg:=neg) (mode:=1) (E:=E) hM
 have ha:=qCT (neg:=neg) (mode:=1) (E:=E) hM
 have ht:=qCU (neg:=neg) (mode:=1) (E:=E) hM
 rw [← p1] at ha ht
 generalize RN neg 1 M E false=r at *
 generalize M*2^E=V at *
 generalize PS=P at *
 cases neg with
 | false =>
  rcases ha rfl rfl with ⟨h1,h2⟩ | h
  · left
    exact ⟨h1,by rw [qnk h1 p2,sg_f];exact qpp h2⟩
  · right;exact f_of h p2 hw
 | true =>
  obtain ⟨h1,h2⟩:=ht rfl rfl
  left
  refine ⟨h1,?_⟩
  rw [qji h1 p2,sg_t,Int.neg_mul]
  exact Int.neg_le_neg (qlF h2)
theorem qHI {neg:Bool} {M E:Nat} (hM:M≠0):(bK (RN neg 2 M E false)≤jf∧fv (RN neg 2 M E false)*(PS:Int)≤sgV neg (M*2^E))∨RN neg 2 M E false=18442240474082181120:=by
 obtain ⟨p1,p2⟩:=qlC (neg:=neg) (mode:=2) (E:=E) hM
 have hw:=qvi (neg:=neg) (mode:=2) (E:=E) hM
 have ha:=qCT (neg:=neg) (mode:=2) (E:=E) hM
 have ht:=qCU (neg:=neg) (mode:=2) (E:=E) hM
 rw [← p1] at ha ht
 generalize RN neg 2 M E false=r at *
 generalize M*2^E=V at *
 generalize PS=P at *
 cases neg with
 | true =>
  rcases ha rfl rfl with ⟨h1,h2⟩ | h
  · left
    refine ⟨h1,?_⟩
    rw [qji h1 p2,sg_t,Int.neg_mul]
    exact Int.neg_le_neg (qpp h2)
  · right;exact f_of h p2 hw
 | false =>
  obtain ⟨h1,h2⟩:=ht rfl rfl
  left
  exact ⟨h1,by rw [qnk h1 p2,sg_f];exact qlF h2⟩
structure SumP (a b:Nat) (mode:Int) (r:Nat):Prop where
 got:(bK r≤jf∧fv r=fv a+fv b)∨∃ neg M E,M≠0∧r=RN neg mode M E false∧sgV neg (M*2^E)=(fv a+fv b)*(PS:Int)
theorem qCV {k D e:Nat} (h:kE k=D+e):2^D*kM k*2^(e+SH)=kV k*PS:=by
 rw [qpo]
 unfold kV
 rw [h,Nat.pow_add,Nat.pow_add]
 rw [Nat.mul_comm (2^D) (kM k),Nat.mul_assoc,Nat.mul_assoc,Nat.mul_assoc]
theorem qHJ (k:Nat):((kE k:Int)-1074+6000).toNat=kE k+SH:=by rw [qCq];omega
theorem qvj (b:Bool) {A B X Y P:Nat} (hx:A=X*P) (hy:B=Y*P):sgV b (A+B)=(sgV b X+sgV b Y)*(P:Int):=by
 subst hx hy
 unfold sgV
 cases b
 · simp only [cond_false];rw [Int.natCast_add,Int.natCast_mul,Int.natCast_mul,Int.add_mul]
 · simp only [cond_true];rw [Int.natCast_add,Int.natCast_mul,Int.natCast_mul,Int.add_mul,Int.neg_mul,Int.neg_mul,Int.neg_add]
theorem qvk (b:Bool) {N X Y P:Nat} (h:N+Y*P=X*P):sgV b N=(sgV b X+sgV (!b) Y)*(P:Int):=by
 have hi:(N:Int)+(Y:Int)*(P:Int)=(X:Int)*(P:Int):=by rw [← Int.natCast_mul,← Int.natCast_mul,← Int.natCast_add,h]
 rw [Int.add_mul]
 unfold sgV
 generalize (Y:Int)*(P:Int)=u at *
 cases b
 · simp only [cond_false,Bool.not_false,cond_true];rw [Int.neg_mul];omega
 · simp only [cond_true,Bool.not_true,cond_false];rw [Int.neg_mul];omega
theorem qvl (b c:Bool) {X:Nat}:sgV c 0=sgV b X+sgV (!b) X:=by
 unfold sgV
 cases b <;> cases c <;> simp only [cond_true,cond_false,Bool.not_true,Bool.not_false] <;> omega
theorem kV_0:kV 0=0:=rfl
theorem qlG {x y:Nat} {mode:Int} (fx:bK x≤jf) (fy:bK y≤jf) (zx:bK x≠0) (hle:kM (bK y)≤2^(kE (bK x)-kE (bK y))*kM (bK x)) (he:kE (bK y)≤kE (bK x)):SumP x y mode (qm8 x y mode):=by
 have mx:kM (bK x)≠0:=fun h=>zx (qca.1 h)
 have hx:=qCV (k:=bK x) (D:=kE (bK x)-kE (bK y)) (e:=kE (bK y)) (by omega)
 have hy:kM (bK y)*2^(kE (bK y)+SH)=kV (bK y)*PS:=by
  have:=qCV (k:=bK y) (D:=0) (e:=kE (bK y)) (by omega)
  rwa [Nat.pow_zero,Nat.one_mul] at this
 have hv:fv x+fv y=sgV (bS x) (kV (bK x))+sgV (bS y) (kV (bK y)):=by rw [qcv fx,qcv fy]
 have hp0:=Nat.two_pow_pos (kE (bK x)-kE (bK y))
 unfold qm8 qlf
 rw [qHJ]
 generalize 2^(kE (bK x)-kE (bK y))=D at *
 have hp:D*kM (bK x)≠0:=Nat.mul_ne_zero (by omega) mx
 by_cases hs:bS x=bS y
 · rw [if_pos hs]
   refine ⟨.inr ⟨bS x,_,_,by omega,rfl,?_⟩⟩
   rw [hv,← hs,Nat.add_mul]
   exact qvj _ hx hy
 · rw [if_neg hs]
   have hs':bS y = !bS x:=by revert hs;cases bS x <;> cases bS y <;> simp
   by_cases h0:D*kM (bK x)=kM (bK y)
   · rw [if_pos h0]
     have hu:kV (bK x)=kV (bK y):=by
      have h1:kV (bK x)*PS=kV (bK y)*PS:=by rw [← hx,h0,hy]
      exact Nat.eq_of_mul_eq_mul_right (by have:=qnj;omega) h1
     have hk:bK (sgN (decide (mode=2)))=0:=by cases decide (mode=2) <;> rfl
     have hk':bK (sgN (decide (mode=2)))≤jf:=by rw [hk];exact Nat.zero_le _
     refine ⟨.inl ⟨hk',?_⟩⟩
     rw [qcv hk',hk,hv,hu,hs',kV_0]
     exact qvl _ _
   · rw [if_neg h0]
     refine ⟨.inr ⟨bS x,_,_,by omega,rfl,?_⟩⟩
     rw [hv,hs']
     refine qvk _ ?_
     rw [← hy,← Nat.add_mul,← hx,Nat.sub_add_cancel hle]
theorem YP {f:Nat} (h:bK f=0):fv f=0:=by
 rw [qcv (by rw [h];exact Nat.zero_le _),h]
 have k0:kV 0=0:=rfl
 rw [k0];unfold sgV;cases bS f <;> rfl
theorem qvm {i j:Nat} (hi:i≤9218868437227405311) (hj:j≤9218868437227405311) (h:kE j<kE i∨kE j=kE i∧kM j≤kM i):kM j≤2^(kE i-kE j)*kM i:=by
 obtain ⟨a1,a2,a3,a4⟩:=Yg hi
 obtain ⟨b1,b2,b3,b4⟩:=Yg hj
 rcases h with h | ⟨h1,h2⟩
 · have hp:2^1≤2^(kE i-kE j):=Nat.pow_le_pow_right (by omega) (by omega)
   have h4:=a4 (by omega)
   have:=Nat.mul_le_mul hp h4
   omega
 · rw [h1,Nat.sub_self,Nat.pow_zero,Nat.one_mul];exact h2
theorem qvn {a b:Nat} (h:qec a b=false) (ha:bK a≤jf) (hb:bK b≤jf):kM (bK b)≤2^(kE (bK a)-kE (bK b))*kM (bK a)∧kE (bK b)≤kE (bK a):=by
 unfold qec at h
 simp only [Bool.or_eq_false_iff,Bool.and_eq_false_iff,decide_eq_false_iff_not] at h
 obtain ⟨h1,h2⟩:=h
 have hc:kE (bK b)<kE (bK a)∨kE (bK b)=kE (bK a)∧kM (bK b)≤kM (bK a):=by omega
 exact ⟨qvm ha hb hc,by omega⟩
theorem qvo {a b:Nat} (h:qec a b=true) (ha:bK a≤jf) (hb:bK b≤jf):kM (bK a)≤2^(kE (bK b)-kE (bK a))*kM (bK b)∧kE (bK a)≤kE (bK b):=by
 unfold qec at h
 simp only [Bool.or_eq_true,Bool.and_eq_true,decide_eq_true_eq] at h
 have hc:kE (bK a)<kE (bK b)∨kE (bK a)=kE (bK b)∧kM (bK a)≤kM (bK b):=by omega
 exact ⟨qvm hb ha hc,by omega⟩
theorem qvp {k:Nat} (h:k≤jf):yx k=false:=by
 unfold yx;rw [beq_dec];exact decide_eq_false (by unfold jf at h;omega)
theorem qnl {k:Nat} (h:k≤jf):qH k=false:=Ql.2 (by unfold jf at h;omega)
theorem qlH {a b:Nat} {mode:Int} (fa:bK a≤jf) (fb:bK b≤jf):SumP a b mode (YI a b mode):=by
 unfold YI
 rw [qnl fa,qnl fb,qvp fa,qvp fb]
 simp only [cond_false,Bool.false_and]
 by_cases za:bK a=0
 · rw [show Nat.beq (bK a) 0=true by rw [za];rfl]
   by_cases zb:bK b=0
   · rw [show Nat.beq (bK b) 0=true by rw [zb];rfl]
     have key:∀ r:Nat,bK r=0→SumP a b mode r:=fun r hr=>⟨.inl ⟨by rw [hr];exact Nat.zero_le _,by rw [YP hr,YP za,YP zb];rfl⟩⟩
     cases decide (bS a=bS b) with
     | true=>exact key a za
     | false =>
      refine key (sgN (decide (mode=2))) ?_
      cases decide (mode=2) <;> rfl
   · rw [qaV zb]
     exact ⟨.inl ⟨fb,by rw [YP za,Int.zero_add];rfl⟩⟩
 · rw [qaV za]
   by_cases zb:bK b=0
   · rw [show Nat.beq (bK b) 0=true by rw [zb];rfl]
     exact ⟨.inl ⟨fa,by rw [YP zb,Int.add_zero];rfl⟩⟩
   · rw [qaV zb]
     simp only [cond_false,Bool.false_and]
     cases hs:qec a b with
     | false =>
      obtain ⟨h1,h2⟩:=qvn hs fa fb
      exact qlG fa fb za h1 h2
     | true =>
      obtain ⟨h1,h2⟩:=qvo hs fa fb
      have:=(qlG (mode:=mode) fb fa zb h1 h2).got
      rw [Int.add_comm] at this
      exact ⟨this⟩
theorem qAg {a b:Nat} (fa:bK a≤jf) (fb:bK b≤jf):(bK (YI a b 1)≤jf∧fv a+fv b≤fv (YI a b 1))∨YI a b 1=9218868437227405312:=by
 rcases (qlH (mode:=1) fa fb).got with ⟨h1,h2⟩ | ⟨neg,M,E,hM,h1,h2⟩
 · exact .inl ⟨h1,by omega⟩
 · rw [h1]
   rcases qHH (neg:=neg) (E:=E) hM with ⟨h3,h4⟩ | h
   · rw [h2] at h4
     exact .inl ⟨h3,Int.le_of_mul_le_mul_right h4 qnj⟩
   · exact .inr h
theorem qAh {a b:Nat} (fa:bK a≤jf) (fb:bK b≤jf):(bK (YI a b 2)≤jf∧fv (YI a b 2)≤fv a+fv b)∨YI a b 2=18442240474082181120:=by
 rcases (qlH (mode:=2) fa fb).got with ⟨h1,h2⟩ | ⟨neg,M,E,hM,h1,h2⟩
 · exact .inl ⟨h1,by omega⟩
 · rw [h1]
   rcases qHI (neg:=neg) (E:=E) hM with ⟨h3,h4⟩ | h
   · rw [h2] at h4
     exact .inl ⟨h3,Int.le_of_mul_le_mul_right h4 qnj⟩
   · exact .inr h
theorem qdr {n:Nat} (h:n<18446744073709551616):Fw (n:Int):=⟨Int.natCast_nonneg _,by omega⟩
theorem ZG {a:Int} (h:Fw a):a.toNat<18446744073709551616:=by obtain ⟨h1,h2⟩:=h;omega
theorem qvq:Fw 0:=⟨by decide,by decide⟩
theorem YQ {a b:Int} (ha:Fw a) (hb:Fw b) (m:Int):Fw (qcg a b m):=qdr (qoP (ZG ha) (ZG hb) m)
theorem qjj {a:Int} (ha:Fw a):Fw (YJ a):=qdr (qyK (ZG ha))
theorem qFx {a:Int} (ha:Fw a):Fw (qng a):=qdr (by
 unfold qc8
 have:=qea a.toNat
 have:=ZG ha
 cases qH (bK a.toNat) <;> simp only [cond_true,cond_false] <;> omega)
theorem qCW {x y:Int} (hx:Fw x) (hy:Fw y):Fw (upI [x,y]):=YQ (YQ qvq hx 1) hy 1
theorem qvr:∀ {l:List Tm} {s:Int},Fw s→(∀ t∈l,Fw t.c)→Fw (qln l s)
 | [],s,h,_=>h
 | t::l,s,h,hl=>by
  unfold qln
  exact qvr (qCW h (qFx (hl t (List.mem_cons_self ..)))) fun u hu=>hl u (List.mem_cons_of_mem _ hu)
structure FmW (a:Fm):Prop where
 mid:Fw a.2.1
 err:Fw a.2.2.2
 tms:∀ t∈a.2.2.1,Fw t.c
theorem qnm {a:Fm} (h:FmW a):Fw (qi5 a):=by
 rw [qi6]
 cases okF a with
 | false =>
  show Fw 9218868437227405312
  exact ⟨by decide,by decide⟩
 | true=>exact qCW (qvr qvq h.tms) h.err
theorem qeV {a:Fm} (h:FmW a):SpW (yI a):=by
 unfold yI
 cases okF a with
 | false =>
  show SpW (false,(18442240474082181120,9218868437227405312))
  exact ⟨⟨by decide,by decide⟩,⟨by decide,by decide⟩⟩
 | true=>exact (jQ (s:=(false,(_,_))) ⟨YQ h.mid (qjj (qnm h)) 2,YQ h.mid (qnm h) 1⟩).w
theorem qHK {a b:Int} (ha:Fw a) (hb:Fw b):Fw (mxI a b):=qdr (qzo _ _ (ZG ha) (ZG hb))
theorem qHL {a b:Int} (ha:Fw a) (hb:Fw b):Fw (mnI a b):=qdr (by
 have h1:=ZG ha
 have h2:=ZG hb
 unfold qiL
 cases (qH (bK a.toNat)||qH (bK b.toNat)) with
 | true=>rw [cond_true];decide
 | false=>cases yN b.toNat a.toNat <;> simp only [cond_true,cond_false] <;> assumption)
theorem qvs {a b:Spn} (ha:SpW a) (hb:SpW b):SpW (Qm a b):=by
 unfold Qm
 have h1:=(jQ ha).w
 have h2:=(jQ hb).w
 cases ((qk a).1||(qk b).1) with
 | true =>
  show SpW qaB
  exact ⟨⟨by decide,by decide⟩,⟨by decide,by decide⟩⟩
 | false=>exact (jQ (s:=(false,(_,_))) ⟨qHK h1.1 h2.1,qHL h1.2 h2.2⟩).w
end
end Su
end
section
namespace Su
open Go Fly
set_option linter.unusedVariables false
noncomputable section
theorem qvt {i j:Int} (h:i<j):kyV i<kyV j:=by
 unfold kyV
 by_cases hi:i<0
 · rw [decide_eq_true hi,cond_true]
   have h1:kV 0<kV i.natAbs:=qoi (by omega)
   by_cases hj:j<0
   · rw [decide_eq_true hj,cond_true]
     have:=qoi (show j.natAbs<i.natAbs by omega)
     omega
   · rw [decide_eq_false hj,cond_false]
     omega
 · rw [decide_eq_false hi,decide_eq_false (show ¬ j<0 by omega),cond_false,cond_false]
   have:=qoi (show i.natAbs<j.natAbs by omega)
   omega
theorem qFy {i j:Int}:kyV i≤kyV j↔i≤j:=by
 constructor
 · intro h
   refine Int.le_of_not_gt fun hlt=>?_
   have:=qvt hlt
   omega
 · intro h
   by_cases e:i=j
   · rw [e];exact Int.le_refl _
   · exact Int.le_of_lt (qvt (by omega))
theorem qlI {a b:Int} (ha:fI a=true) (hb:fI b=true):fv a.toNat≤fv b.toNat↔ky a≤ky b:=by
 rw [qCR ha,qCR hb];exact qFy
theorem qnn {f:Int} (h:fI f=true) : -9218868437227405311≤ky f∧ky f≤9218868437227405311:=by
 have h1:=qdl f
 have h2:=ji.1 (show jD (bK f.toNat)=true from h)
 omega
abbrev qgs:Int:=9218868437227405312
abbrev JU:Int:=18442240474082181120
def Up (x n:Int):Prop:=(fI x=true∧n≤fv x.toNat)∨x=qgs
def Dn (x n:Int):Prop:=(fI x=true∧fv x.toNat≤n)∨x=JU
theorem jC {x:Int}:fI x=true↔bK x.toNat≤jf:=ji
theorem qjk:(qgs:Int).toNat=9218868437227405312:=rfl
theorem qvu:(JU:Int).toNat=18442240474082181120:=rfl
theorem qhy {b:Nat} {mode:Int} (h:qH (bK b)=false) (hs:yx (bK b)=true→bS b=false):YI 9218868437227405312 b mode=9218868437227405312:=by
 unfold YI
 have e1:qH (bK 9218868437227405312)=false:=rfl
 have e2:yx (bK 9218868437227405312)=true:=rfl
 have e3:bS 9218868437227405312=false:=rfl
 rw [e1,h,e2,e3]
 cases hi:yx (bK b) with
 | false=>rfl
 | true=>rw [hs hi];rfl
theorem qq8 {a:Nat} {mode:Int} (h:bK a≤jf):YI a 9218868437227405312 mode=9218868437227405312:=by
 unfold YI
 have e1:qH (bK 9218868437227405312)=false:=rfl
 have e2:yx (bK 9218868437227405312)=true:=rfl
 rw [e1,qnl h,e2,qvp h];rfl
theorem qno {a:Nat} {mode:Int} (h:bK a≤jf):YI a 18442240474082181120 mode=18442240474082181120:=by
 unfold YI
 have e1:qH (bK 18442240474082181120)=false:=rfl
 have e2:yx (bK 18442240474082181120)=true:=rfl
 rw [e1,qnl h,e2,qvp h];rfl
theorem qbe {x y n m:Int} (hx:Up x n) (hy:Up y m):Up (qcg x y 1) (n+m):=by
 unfold qcg
 rw [qcb]
 rcases hx with ⟨fx,hx⟩ | rfl
 · rcases hy with ⟨fy,hy⟩ | rfl
   · rcases qAg (jC.1 fx) (jC.1 fy) with ⟨h1,h2⟩ | h
     · left
       refine ⟨jC.2 (by rw [Int.toNat_natCast];exact h1),?_⟩
       rw [Int.toNat_natCast];omega
     · right;rw [h];rfl
   · right;rw [qjk,qq8 (jC.1 fx)];rfl
 · right
   rw [qjk]
   rcases hy with ⟨fy,hy⟩ | rfl
   · rw [qhy (qnl (jC.1 fy)) (fun h=>by rw [qvp (jC.1 fy)] at h;cases h)];rfl
   · rw [qjk,qhy rfl (fun _=>rfl)];rfl
theorem qFz {x y n m:Int} (fx:fI x=true) (hx:fv x.toNat≤n) (hy:Dn y m):Dn (qcg x y 2) (n+m):=by
 unfold qcg
 rw [qcb]
 rcases hy with ⟨fy,hy⟩ | rfl
 · rcases qAh (jC.1 fx) (jC.1 fy) with ⟨h1,h2⟩ | h
   · left
     refine ⟨jC.2 (by rw [Int.toNat_natCast];exact h1),?_⟩
     rw [Int.toNat_natCast];omega
   · right;rw [h];rfl
 · right;rw [qvu,qno (jC.1 fx)];rfl
theorem qpq {x n m:Int} (h:Up x n) (hm:m≤n):Up x m:=h.imp (fun ⟨a,b⟩=>⟨a,by omega⟩) id
theorem qjl {f:Nat} (hf:f<18446744073709551616) (h:bK f≤jf):bK (Qu f)≤jf∧fv (Qu f) = -fv f:=by
 have h1:=qD8 hf
 have h2:=qD9 hf (qnl h)
 refine ⟨by rw [h1];exact h,?_⟩
 rw [qcv (by rw [h1];exact h),h1,h2,qcv h]
 unfold sgV
 cases bS f <;> simp
theorem qFA {x n:Int} (hw:Fw x) (h:Up x n):Dn (YJ x) (-n):=by
 unfold YJ
 rcases h with ⟨fx,hx⟩ | rfl
 · left
   obtain ⟨h1,h2⟩:=qjl (ZG hw) (jC.1 fx)
   refine ⟨jC.2 (by rw [Int.toNat_natCast];exact h1),?_⟩
   rw [Int.toNat_natCast,h2];omega
 · right;rfl
theorem qeW {x:Int} (h:fI x=true):Up x (fv x.toNat):=.inl ⟨h,Int.le_refl _⟩
theorem qFB:Up 0 0:=.inl ⟨rfl,by decide⟩
theorem qAi {c:Int} (h:fI c=true):fI (qng c)=true∧fv (qng c).toNat=(avF c:Int):=by
 have h':=jC.1 h
 have e:qc8 c.toNat=bK c.toNat:=by unfold qc8;rw [qnl h'];rfl
 unfold qng avF
 rw [Int.toNat_natCast,e]
 have hk:bK (bK c.toNat)≤jf:=by rw [qpk];exact h'
 refine ⟨jC.2 (by rw [Int.toNat_natCast];exact hk),?_⟩
 rw [qcv hk,qpk,qCQ,qcv h']
 unfold sgV
 cases bS c.toNat <;> simp
theorem qgc:∀ (l:List Tm) (s:Nat),qf9 l s=s+qf9 l 0
 | [],s=>rfl
 | t::l,s=>by
  unfold qf9
  rw [qgc l (s+avF t.c),qgc l (0+avF t.c)];omega
theorem qvv:∀ {l:List Tm} {s:Int} {n:Nat},(∀ t∈l,fI t.c=true)→Up s n→Up (qln l s) ((qf9 l n:Nat):Int)
 | [],s,n,_,h=>h
 | t::l,s,n,hl,h=>by
  unfold qln qf9
  obtain ⟨h1,h2⟩:=qAi (hl t (List.mem_cons_self ..))
  refine qvv (fun u hu=>hl u (List.mem_cons_of_mem _ hu)) ?_
  have h3:Up (qng t.c) (avF t.c:Int):=by rw [← h2];exact qeW h1
  have:=qbe (qbe qFB h) h3
  rw [Int.zero_add,← Int.natCast_add] at this
  exact this
theorem qAj {a:Fm} (h:okF a=true):bS a.2.2.2.toNat=false:=by
 unfold okF at h
 simp only [Bool.not_eq_true',Bool.or_eq_false_iff,Bool.not_eq_false'] at h
 obtain ⟨h1,h2⟩:=h
 rw [qi4,h1,cond_false] at h2
 simp only [Bool.and_eq_true,decide_eq_true_eq] at h2
 have h3:Int.fdiv a.2.2.2 (2^63)=0:=h2.2.2.2.2
 generalize a.2.2.2=e at *
 refine Jf.2 ?_
 by_cases hn:0≤e
 · obtain ⟨n,rfl⟩:=Int.eq_ofNat_of_zero_le hn
   rw [Qs] at h3
   have h4:n / 2^63=0:=by omega
   rw [Int.toNat_natCast]
   have h5:=(Nat.div_eq_zero_iff_lt (Nat.two_pow_pos 63)).1 h4
   omega
 · rw [Int.toNat_of_nonpos (by omega)];omega
theorem qFC {a:Fm} (h:okF a=true):Up a.2.2.2 (avF a.2.2.2:Int):=by
 obtain ⟨_,hf⟩:=qeP h
 left
 refine ⟨hf.err,?_⟩
 unfold avF
 rw [qcv (jC.1 hf.err),qAj h]
 unfold sgV
 simp
theorem qFD {a:Fm} (h:okF a=true):Up (qi5 a) (qje a:Int):=by
 obtain ⟨_,hf⟩:=qeP h
 rw [qi6,h,cond_true]
 have h1:=qvv (l:=a.2.2.1) (s:=0) (n:=0) hf.tms qFB
 have:=qbe (qbe qFB h1) (qFC h)
 rw [Int.zero_add] at this
 refine qpq this ?_
 unfold qje
 rw [qgc]
 omega
theorem qvw {lo hi f:Int} (wl:Fw lo) (wh:Fw hi) (wf:Fw f) (hf:fI f=true) (h1:Dn lo (fv f.toNat)) (h2:Up hi (fv f.toNat)):yO (qk (false,(lo,hi))) f=true:=by
 have k:=qnn hf
 have kl:JP lo=false∧lo≠qgs∧ky lo≤ky f:=by
  rcases h1 with ⟨a,b⟩ | rfl
  · obtain ⟨n1,-⟩:=qai.1 a
    refine ⟨n1,fun e=>?_,(qlI a hf).1 b⟩
    subst e;cases a
  · exact ⟨rfl,by decide,by rw [qlq];omega⟩
 have kh:JP hi=false∧hi≠JU∧ky f≤ky hi:=by
  rcases h2 with ⟨a,b⟩ | rfl
  · obtain ⟨n1,-⟩:=qai.1 a
    refine ⟨n1,fun e=>?_,(qlI hf a).1 b⟩
    subst e;cases a
  · exact ⟨rfl,by decide,by rw [qi8];omega⟩
 have w:SpW (false,(lo,hi)):=⟨wl,wh⟩
 rw [yc wf (jQ w).w,qcl (jQ w)]
 have e:qk (false,(lo,hi))=(false,(nzI lo,nzI hi)):=by
  unfold qk
  simp only []
  rw [qaf.2 ⟨kl.1,kh.1,by omega⟩,decide_eq_false kl.2.1,decide_eq_false kh.2.1];rfl
 rw [e]
 refine ⟨hf,rfl,?_,?_⟩
 · show ky (nzI lo)≤ky f
   rw [(qhu wl kl.1).2];exact kl.2.2
 · show ky f≤ky (nzI hi)
   rw [(qhu wh kh.1).2];exact kh.2.2
theorem qvx {a:Fm} {f:Int} (wa:FmW a) (wf:Fw f) (hf:fI f=true) (h:ofS a f=true):yO (yI a) f=true:=by
 unfold yI
 cases ho:okF a with
 | false =>
  rw [cond_false]
  have k:=qnn hf
  have w:SpW (false,(JU,qgs)):=⟨⟨by decide,by decide⟩,⟨by decide,by decide⟩⟩
  refine (yc wf w).2 ?_
  have e:qk (false,(JU,qgs))=(false,(JU,qgs)):=by decide +kernel
  rw [e]
  refine ⟨hf,rfl,?_,?_⟩
  · show ky JU≤ky f
    rw [qlq];omega
  · show ky f≤ky qgs
    rw [qi8];omega
 | true =>
  rw [cond_true]
  obtain ⟨_,hfin⟩:=qeP ho
  unfold ofS at h
  rw [ho,Bool.and_eq_true] at h
  have h2:(fv f.toNat-fv a.2.1.toNat).natAbs≤qje a:=of_decide_eq_true (by simpa using h.2)
  have u:=qFD ho
  have wr:=qnm wa
  have up:Up (qcg a.2.1 (qi5 a) 1) (fv f.toNat):=qpq (qbe (qeW hfin.mid) u) (by omega)
  have dn:Dn (qcg a.2.1 (YJ (qi5 a)) 2) (fv f.toNat):=by
   have:=qFz hfin.mid (Int.le_refl _) (qFA wr u)
   exact this.imp (fun ⟨a1,b1⟩=>⟨a1,by omega⟩) id
  exact qvw (YQ wa.mid (qjj wr) 2) (YQ wa.mid wr 1) wf hf dn up
theorem qvy {a b:Spn} {f:Int} (wa:SpW a) (wb:SpW b) (wf:Fw f):yO (Qm a b) f=true↔yO a f=true∧yO b f=true:=by
 have oa:=jQ wa
 have ob:=jQ wb
 rw [yc wf (qvs wa wb),yc wf wa,yc wf wb]
 unfold Qm
 cases ea:(qk a).1 with
 | true =>
  constructor
  · rintro ⟨_,h,_⟩;cases h
  · rintro ⟨⟨_,h,_⟩,_⟩;cases h
 | false =>
  cases eb:(qk b).1 with
  | true =>
   constructor
   · rintro ⟨_,h,_⟩;cases h
   · rintro ⟨_,⟨_,h,_⟩⟩;cases h
  | false =>
   obtain ⟨a1,a2,a3,a4,a5⟩:=qa3 oa ea
   obtain ⟨b1,b2,b3,b4,b5⟩:=qa3 ob eb
   rw [Bool.or_self,cond_false]
   have hm:∀ {x y:Int},Nz x→Nz y→x≠qgs→y≠qgs→Nz (mxI x y)∧mxI x y≠qgs∧(∀ z,ky (mxI x y)≤z↔ky x≤z∧ky y≤z):=by
    intro x y hx hy h1 h2
    rw [qCL hx.w hy.w hx.n hy.n]
    by_cases h:ky x<ky y
    · rw [if_pos h];exact ⟨hy,h2,fun z=>by omega⟩
    · rw [if_neg h];exact ⟨hx,h1,fun z=>by omega⟩
   have hn:∀ {x y:Int},Nz x→Nz y→x≠JU→y≠JU→Nz (mnI x y)∧mnI x y≠JU∧(∀ z,z≤ky (mnI x y)↔z≤ky x∧z≤ky y):=by
    intro x y hx hy h1 h2
    rw [qHF hx.w hy.w hx.n hy.n]
    by_cases h:ky y<ky x
    · rw [if_pos h];exact ⟨hy,h2,fun z=>by omega⟩
    · rw [if_neg h];exact ⟨hx,h1,fun z=>by omega⟩
   obtain ⟨m1,m2,m3⟩:=hm a1 b1 a4 b4
   obtain ⟨n1,n2,n3⟩:=hn a2 b2 a5 b5
   have w:SpW (false,(mxI (qk a).2.1 (qk b).2.1,mnI (qk a).2.2 (qk b).2.2)):=⟨m1.w,n1.w⟩
   have e:qk (Qw (mxI (qk a).2.1 (qk b).2.1) (mnI (qk a).2.2 (qk b).2.2))=Qw (mxI (qk a).2.1 (qk b).2.1) (mnI (qk a).2.2 (qk b).2.2):=qcl (jQ w)
   rw [e]
   by_cases hle:ky (mxI (qk a).2.1 (qk b).2.1)≤ky (mnI (qk a).2.2 (qk b).2.2)
   · rw [qzL m1 n1 hle m2 n2]
     constructor
     · rintro ⟨h1,_,h3,h4⟩
       obtain ⟨p1,p2⟩:=(m3 _).1 h3
       obtain ⟨q1,q2⟩:=(n3 _).1 h4
       exact ⟨⟨h1,rfl,p1,q1⟩,⟨h1,rfl,p2,q2⟩⟩
     · rintro ⟨⟨h1,_,p1,q1⟩,⟨_,_,p2,q2⟩⟩
       exact ⟨h1,rfl,(m3 _).2 ⟨p1,p2⟩,(n3 _).2 ⟨q1,q2⟩⟩
   · have e2:Qw (mxI (qk a).2.1 (qk b).2.1) (mnI (qk a).2.2 (qk b).2.2)=qaB:=by
      rcases JB w with h | ⟨_,_,_,h3,_⟩
      · exact h
      · exact absurd h3 hle
     rw [e2]
     constructor
     · rintro ⟨_,h,_⟩;cases h
     · rintro ⟨⟨h1,_,p1,q1⟩,⟨_,_,p2,q2⟩⟩
       have:=(m3 _).2 ⟨p1,p2⟩
       have:=(n3 _).2 ⟨q1,q2⟩
       omega
end
end Su
end
section
namespace Su
open Go Fly
set_option linter.unusedVariables false
noncomputable section
structure Cw (t:Int) (x:Su.Ce):Prop where
 bare:qw x t=x
 some:jj x t=false
 sp:SpW x.s
 sl:Fw x.sl
theorem qq9 (x:Su.Ce) (t:Int):qw (qw x t) t=qw x t:=by
 by_cases h1:t=1
 · rw [qeQ h1,qeQ h1]
 · by_cases h2:t=2
   · rw [qeR h2,qeR h2]
   · by_cases h3:t=3
     · rw [qeS h3,qeS h3]
     · unfold qw;rw [decide_eq_false h1,decide_eq_false h2,decide_eq_false h3];rfl
theorem qvz:SpW iv0:=⟨⟨by decide,by decide⟩,⟨by decide,by decide⟩⟩
structure Ev (c:CoD) (s:StD):Prop where
 live:s.1=false
 len:s.2.2.2.2.length=c.2.1.length
 kN:ivN (stK s)=stK s
 kS:(stK s).1=false
 cell:∀ (i:Nat) (hi:i<c.2.1.length),Cw c.2.1[i].type (s.2.2.2.2[i]'(by omega))
theorem qvA {c:CoD} {s:StD} {f:Nat→Su.Cc→Su.Ce→Su.Ce} (h1:s.1=false) (h2:s.2.2.2.2.length=c.2.1.length) (h3:(ivN (stK s)).1=false)
 (hc:∀ (i:Nat) (hi:i<c.2.1.length),jj (qw (f i c.2.1[i] (s.2.2.2.2[i]'(by omega))) c.2.1[i].type) c.2.1[i].type=false) :
 ∃ P,qO c s f=mkS (ivN (stK s)) P∧P.length=c.2.1.length∧∀ (i:Nat) (hi:i<c.2.1.length),P[i]?=some (qw (f i c.2.1[i] (s.2.2.2.2[i]'(by omega))) c.2.1[i].type):=by
 have hout:∀ (i:Nat) (hi:i<c.2.1.length),jo c.2.1 s.2.2.2.2 f i=some (qw (f i c.2.1[i] (s.2.2.2.2[i]'(by omega))) c.2.1[i].type):=by
  intro i hi
  unfold jo
  rw [List.getElem?_eq_getElem hi,List.getElem?_eq_getElem (show i<s.2.2.2.2.length by omega)]
  exact qz (hc i hi)
 obtain ⟨P,hP⟩:=qa7 (out:=jo c.2.1 s.2.2.2.2 f) (n:=c.2.1.length) fun i hi=>by rw [hout i hi];simp
 refine ⟨P,?_,jB hP,fun i hi=>by rw [← YN hP i hi,hout i hi]⟩
 rw [j8 f h1 h2 (by rw [qei];exact h3),hP,qei];rfl
theorem qra {c:CoD} {s:StD} {f:Nat→Su.Cc→Su.Ce→Su.Ce} (h:(qO c s f).1=true):qO c s f=jw:=by
 revert h
 unfold qO
 cases s.1 with
 | true=>intro _;rfl
 | false =>
  cases (!decide (s.2.2.2.2.length=c.2.1.length)) with
  | true=>intro _;rfl
  | false =>
   cases (qJ [stK s]).1 with
   | true=>intro _;rfl
   | false =>
    simp only [cond_false]
    cases qX (jo c.2.1 s.2.2.2.2 f) c.2.1.length with
    | none=>intro _;rfl
    | some P=>intro h;cases h
theorem qds {c:CoD} {s:StD} {f:Nat→Su.Cc→Su.Ce→Su.Ce} (h:(qO c s f).1=false) :
 ∃ (h2:s.2.2.2.2.length=c.2.1.length) (P:List Su.Ce),s.1=false∧(ivN (stK s)).1=false∧qO c s f=mkS (ivN (stK s)) P∧P.length=c.2.1.length ∧
  ∀ (i:Nat) (hi:i<c.2.1.length),P[i]?=some (qw (f i c.2.1[i] (s.2.2.2.2[i]'(by omega))) c.2.1[i].type)∧jj (qw (f i c.2.1[i] (s.2.2.2.2[i]'(by omega))) c.2.1[i].type) c.2.1[i].type=false:=by
 have h1:s.1=false:=by
  cases h1:s.1 with
  | false=>rfl
  | true=>rw [show qO c s f=jw from qE h1] at h;cases h
 have h2:s.2.2.2.2.length=c.2.1.length:=by
  by_cases h2:s.2.2.2.2.length=c.2.1.length
  · exact h2
  · rw [show qO c s f=jw from (qz h1).trans (qE (by rw [decide_eq_false h2];rfl))] at h;cases h
 have h3:(ivN (stK s)).1=false:=by
  cases h3:(ivN (stK s)).1 with
  | false=>rfl
  | true=>rw [show qO c s f=jw from (qz h1).trans ((qz (by rw [decide_eq_true h2];rfl)).trans (qE (by rw [qei];exact h3)))] at h;cases h
 rw [j8 f h1 h2 (by rw [qei];exact h3),qei] at h
 cases hb:qX (jo c.2.1 s.2.2.2.2 f) c.2.1.length with
 | none=>rw [hb] at h;cases h
 | some P =>
  refine ⟨h2,P,h1,h3,by rw [j8 f h1 h2 (by rw [qei];exact h3),qei,hb];rfl,jB hb,fun i hi=>?_⟩
  have hg:=YN hb i hi
  unfold jo at hg
  rw [List.getElem?_eq_getElem hi,List.getElem?_eq_getElem (show i<s.2.2.2.2.length by omega)] at hg
  simp only [] at hg
  cases hn:jj (qw (f i c.2.1[i] (s.2.2.2.2[i]'(by omega))) c.2.1[i].type) c.2.1[i].type with
  | true =>
   rw [hn,cond_true] at hg
   rw [List.getElem?_eq_getElem (show i<P.length by rw [jB hb];exact hi)] at hg
   cases hg
  | false =>
   rw [hn,cond_false] at hg
   exact ⟨hg.symm,rfl⟩
theorem qAk {c:CoD} {s:StD} {f:Nat→Su.Cc→Su.Ce→Su.Ce} (h:(qO c s f).1=false)
 (hw:∀ (i:Nat) (hi:i<c.2.1.length) (hs:i<s.2.2.2.2.length),SpW (qw (f i c.2.1[i] s.2.2.2.2[i]) c.2.1[i].type).s∧Fw (qw (f i c.2.1[i] s.2.2.2.2[i]) c.2.1[i].type).sl):Ev c (qO c s f):=by
 obtain ⟨h2,P,h1,h3,e,hl,hg⟩:=qds h
 rw [e]
 refine ⟨rfl,hl,?_,h3,fun i hi=>?_⟩
 · show ivN (ivN (stK s))=ivN (stK s);exact Jj _
 · have hiP:i<P.length:=by omega
   have:=(hg i hi).1
   rw [List.getElem?_eq_getElem hiP] at this
   show Cw c.2.1[i].type P[i]
   rw [soi this]
   exact ⟨qq9 _ _,(hg i hi).2,(hw i hi (by omega)).1,(hw i hi (by omega)).2⟩
structure Pl (c:CoD) (s:StD):Prop where
 ev:Ev c s
 bad:∀ (i:Nat) (hi:i<c.2.1.length),c.2.1[i].type=3→(s.2.2.2.2[i]'(by have:=ev.len;omega)).fm=qcq
def Sw (s:StD):Prop:=∀ x∈s.2.2.2.2,SpW x.s∧Fw x.sl∧FmW x.fm
theorem qFE {x:Su.Ce} (h1:SpW x.s) (h2:Fw x.sl) (t:Int):SpW (qw x t).s∧Fw (qw x t).sl:=by
 unfold qw
 cases decide (t=1) with
 | true=>exact ⟨qvz,qvq⟩
 | false =>
  cases decide (t=2) with
  | true=>exact ⟨qvz,qvq⟩
  | false =>
   cases decide (t=3) with
   | true=>exact ⟨h1,h2⟩
   | false=>exact ⟨qvz,qvq⟩
theorem qCX {s:StD} {x:Su.Ce} (h:SpW x.s∧Fw x.sl∧FmW x.fm) (i:Nat) (d:Su.Cc):SpW (y8 s i d x).s∧Fw (y8 s i d x).sl:=by
 unfold y8
 cases decide (d.type=2) with
 | true=>exact ⟨qvs h.1 (qeV h.2.2),h.2.1⟩
 | false=>exact ⟨qvs h.1 (qeV h.2.2),h.2.1⟩
theorem qvB {c:CoD} {s:StD} (hw:Sw s) (h:(JQ c s).1=false):Ev c (JQ c s) :=
 qAk h fun i hi hs=>by
  obtain ⟨a,b⟩:=qCX (s:=s) (hw _ (List.getElem_mem hs)) i c.2.1[i]
  exact qFE a b _
end
end Su
end
