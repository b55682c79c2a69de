/-
  Bits and rounding, in plain Lean. No condition.
-/
import Derived.Test.YtfckjjffdfkelaaGreatNC26
import Derived.Test.YtfckjjffdfkelaaGreatNC14
set_option maxRecDepth 10000
section
namespace Su
open Go Fly
set_option linter.unusedVariables false
noncomputable section
def rk (neg:Bool) (mode:Int) (M E:Nat):Nat:=qco (twN neg mode) (yg M E+(upN neg mode (je M E % 2 == 1) (hfN M E) (rsN M E)).toNat)
theorem qBb {neg:Bool} {mode:Int} {M E:Nat} (hM:M≠0):RN neg mode M E false=sgN neg+rk neg mode M E:=by
 unfold RN rk
 rw [qbD hM,Bool.false_or];rfl
theorem qo3 (tw:Bool) (k:Nat):qco tw k<9223372036854775808:=by
 unfold qco jo
 cases h:Nat.ble k 9218868437227405311 with
 | true=>have:=Nat.le_of_ble_eq_true h;rw [cond_true];omega
 | false =>
  rw [cond_false]
  cases tw with
  | true=>show (9218868437227405311:Nat)<9223372036854775808;omega
  | false=>show (9218868437227405312:Nat)<9223372036854775808;omega
theorem qDu {b:Bool} {k:Nat} (h:k<9223372036854775808):bK (sgN b+k)=k∧bS (sgN b+k)=b:=by
 unfold bK sgN
 cases b with
 | true =>
  rw [cond_true]
  exact ⟨by omega,ZK.2 (by omega)⟩
 | false =>
  rw [cond_false]
  exact ⟨by omega,Yz.2 (by omega)⟩
theorem qlF {neg:Bool} {mode:Int} {M E:Nat} (hM:M≠0):bK (RN neg mode M E false)=rk neg mode M E∧bS (RN neg mode M E false)=neg:=by
 rw [qBb hM];exact qDu (qo3 _ _)
theorem qlG {tw:Bool} {k:Nat} (h:k≤jo):qco tw k=k:=by
 unfold qco;rw [Nat.ble_eq_true_of_le h,cond_true]
theorem qlH {tw:Bool} {k:Nat} (h:jo<k):qco tw k=bif tw then jo else jo+1:=by
 unfold qco
 rw [show Nat.ble k jo=false by
  cases hb:Nat.ble k jo with
  | false=>rfl
  | true=>have:=Nat.le_of_ble_eq_true hb;omega,cond_false]
@[irreducible] def PS:Nat:=2^SH
theorem qo4:PS=2^SH:=by unfold PS;rfl
theorem qnj:(0:Int)<(PS:Int):=Int.ofNat_lt.2 (by rw [qo4];exact Nat.two_pow_pos _)
theorem qBc {neg:Bool} {mode:Int} {M E:Nat} (hM:M≠0) (ha:awN neg mode=true) (ht:twN neg mode=false) :
 (rk neg mode M E≤jo∧M*2^E≤kV (rk neg mode M E)*PS)∨rk neg mode M E=jo+1:=by
 have e:rk neg mode M E=qco false (yg M E+(hfN M E||rsN M E).toNat):=by unfold rk upN;rw [ha,ht,cond_true]
 rw [qo4]
 by_cases h:yg M E+(hfN M E||rsN M E).toNat≤jo
 · left
   rw [e,qlG h]
   refine ⟨h,?_⟩
   cases hx:(hfN M E||rsN M E) with
   | true=>exact Nat.le_of_lt (qsM hM)
   | false =>
    rw [Bool.or_eq_false_iff] at hx
    rw [Bool.toNat_false,Nat.add_zero]
    exact Nat.le_of_eq ((qkV hM).2 hx)
 · right;rw [e,qlH (by omega)];rfl
theorem qBd {neg:Bool} {mode:Int} {M E:Nat} (hM:M≠0) (ha:awN neg mode=false) (ht:twN neg mode=true) :
 rk neg mode M E≤jo∧kV (rk neg mode M E)*PS≤M*2^E:=by
 have e:rk neg mode M E=qco true (yg M E):=by unfold rk upN;rw [ha,ht,cond_false,cond_true];rfl
 rw [e,qo4]
 have hf:=qsL (E:=E) hM
 by_cases h:yg M E≤jo
 · rw [qlG h];exact ⟨h,hf⟩
 · rw [qlH (by omega),cond_true]
   exact ⟨Nat.le_refl _,Nat.le_trans (Nat.mul_le_mul_right _ (qFt (by omega))) hf⟩
theorem qnk {f:Nat} (h:bK f≤jo) (hs:bS f=false):fv f=(kV (bK f):Int):=by
 unfold fv fvK;rw [jH.2 h,hs];rfl
theorem qjs {f:Nat} (h:bK f≤jo) (hs:bS f=true):fv f = -(kV (bK f):Int):=by
 unfold fv fvK;rw [jH.2 h,hs];rfl
def sgV (neg:Bool) (n:Nat):Int:=bif neg then -(n:Int) else (n:Int)
theorem qbo {f:Nat} (h:bK f≤jo):fv f=sgV (bS f) (kV (bK f)):=by
 cases hs:bS f with
 | false=>exact qnk h hs
 | true=>exact qjs h hs
theorem f_of {neg:Bool} {f:Nat} (h1:bK f=jo+1) (h2:bS f=neg) (h:f<18446744073709551616):f=sgN neg+9218868437227405312:=by
 have:=qxP h
 rw [h1,h2] at this;exact this
theorem quk {neg:Bool} {mode:Int} {M E:Nat} (hM:M≠0):RN neg mode M E false<18446744073709551616:=by
 rw [qBb hM]
 have:=qo3 (twN neg mode) (yg M E+(upN neg mode (je M E % 2 == 1) (hfN M E) (rsN M E)).toNat)
 have e:rk neg mode M E<9223372036854775808:=this
 generalize rk neg mode M E=k at *
 unfold sgN
 cases neg <;> simp only [cond_true,cond_false] <;> omega
theorem qo5 {a b p:Nat} (h:a≤b*p):(a:Int)≤(b:Int)*(p:Int):=by rw [← Int.natCast_mul];exact Int.ofNat_le.2 h
theorem qlI {a b p:Nat} (h:b*p≤a):(b:Int)*(p:Int)≤(a:Int):=by rw [← Int.natCast_mul];exact Int.ofNat_le.2 h
theorem sg_f (n:Nat):sgV false n=(n:Int):=rfl
theorem sg_t (n:Nat):sgV true n = -(n:Int):=rfl
theorem qFH {neg:Bool} {M E:Nat} (hM:M≠0):(bK (RN neg 1 M E false)≤jo∧sgV neg (M*2^E)≤fv (RN neg 1 M E false)*(PS:Int))∨RN neg 1 M E false=9218868437227405312:=by
 obtain ⟨p1,p2⟩:=qlF (neg:=neg) (mode:=1) (E:=E) hM
 have hw:=quk (neg:=neg) (mode:=1) (E:=E) hM
 have ha:=qBc (neg:=neg) (mode:=1) (E:=E) hM
 have ht:=qBd (neg:=neg) (mode:=1) (E:=E) hM
 rw [← p1] at ha ht
 generalize RN neg 1 M E false=r at *
 generalize M*2^E=V at *
 generalize PS=P at *
 cases neg with
 | false =>
  rcases ha rfl rfl with ⟨h1,h2⟩ | h
  · left
    exact ⟨h1,by rw [qnk h1 p2,sg_f];exact qo5 h2⟩
  · right;exact f_of h p2 hw
 | true =>
  obtain ⟨h1,h2⟩:=ht rfl rfl
  left
  refine ⟨h1,?_⟩
  rw [qjs h1 p2,sg_t,Int.neg_mul]
  exact Int.neg_le_neg (qlI h2)
theorem qFI {neg:Bool} {M E:Nat} (hM:M≠0):(bK (RN neg 2 M E false)≤jo∧fv (RN neg 2 M E false)*(PS:Int)≤sgV neg (M*2^E))∨RN neg 2 M E false=18442240474082181120:=by
 obtain ⟨p1,p2⟩:=qlF (neg:=neg) (mode:=2) (E:=E) hM
 have hw:=quk (neg:=neg) (mode:=2) (E:=E) hM
 have ha:=qBc (neg:=neg) (mode:=2) (E:=E) hM
 have ht:=qBd (neg:=neg) (mode:=2) (E:=E) hM
 rw [← p1] at ha ht
 generalize RN neg 2 M E false=r at *
 generalize M*2^E=V at *
 generalize PS=P at *
 cases neg with
 | true =>
  rcases ha rfl rfl with ⟨h1,h2⟩ | h
  · left
    refine ⟨h1,?_⟩
    rw [qjs h1 p2,sg_t,Int.neg_mul]
    exact Int.neg_le_neg (qo5 h2)
  · right;exact f_of h p2 hw
 | false =>
  obtain ⟨h1,h2⟩:=ht rfl rfl
  left
  exact ⟨h1,by rw [qnk h1 p2,sg_f];exact qlI h2⟩
structure SumP (a b:Nat) (mode:Int) (r:Nat):Prop where
 got:(bK r≤jo∧fv r=fv a+fv b)∨∃ neg M E,M≠0∧r=RN neg mode M E false∧sgV neg (M*2^E)=(fv a+fv b)*(PS:Int)
theorem qBe {k D e:Nat} (h:kE k=D+e):2^D*kM k*2^(e+SH)=kV k*PS:=by
 rw [qo4]
 unfold kV
 rw [h,Nat.pow_add,Nat.pow_add]
 rw [Nat.mul_comm (2^D) (kM k),Nat.mul_assoc,Nat.mul_assoc,Nat.mul_assoc]
theorem qFJ (k:Nat):((kE k:Int)-1074+6000).toNat=kE k+SH:=by rw [qAY];omega
theorem qul (b:Bool) {A B X Y P:Nat} (hx:A=X*P) (hy:B=Y*P):sgV b (A+B)=(sgV b X+sgV b Y)*(P:Int):=by
 subst hx hy
 unfold sgV
 cases b
 · simp only [cond_false];rw [Int.natCast_add,Int.natCast_mul,Int.natCast_mul,Int.add_mul]
 · simp only [cond_true];rw [Int.natCast_add,Int.natCast_mul,Int.natCast_mul,Int.add_mul,Int.neg_mul,Int.neg_mul,Int.neg_add]
theorem qum (b:Bool) {N X Y P:Nat} (h:N+Y*P=X*P):sgV b N=(sgV b X+sgV (!b) Y)*(P:Int):=by
 have hi:(N:Int)+(Y:Int)*(P:Int)=(X:Int)*(P:Int):=by rw [← Int.natCast_mul,← Int.natCast_mul,← Int.natCast_add,h]
 rw [Int.add_mul]
 unfold sgV
 generalize (Y:Int)*(P:Int)=u at *
 cases b
 · simp only [cond_false,Bool.not_false,cond_true];rw [Int.neg_mul];omega
 · simp only [cond_true,Bool.not_true,cond_false];rw [Int.neg_mul];omega
theorem qun (b c:Bool) {X:Nat}:sgV c 0=sgV b X+sgV (!b) X:=by
 unfold sgV
 cases b <;> cases c <;> simp only [cond_true,cond_false,Bool.not_true,Bool.not_false] <;> omega
theorem kV_0:kV 0=0:=rfl
theorem qlJ {x y:Nat} {mode:Int} (fx:bK x≤jo) (fy:bK y≤jo) (zx:bK x≠0) (hle:kM (bK y)≤2^(kE (bK x)-kE (bK y))*kM (bK x)) (he:kE (bK y)≤kE (bK x)):SumP x y mode (qm4 x y mode):=by
 have mx:kM (bK x)≠0:=fun h=>zx (qcE.1 h)
 have hx:=qBe (k:=bK x) (D:=kE (bK x)-kE (bK y)) (e:=kE (bK y)) (by omega)
 have hy:kM (bK y)*2^(kE (bK y)+SH)=kV (bK y)*PS:=by
  have:=qBe (k:=bK y) (D:=0) (e:=kE (bK y)) (by omega)
  rwa [Nat.pow_zero,Nat.one_mul] at this
 have hv:fv x+fv y=sgV (bS x) (kV (bK x))+sgV (bS y) (kV (bK y)):=by rw [qbo fx,qbo fy]
 have hp0:=Nat.two_pow_pos (kE (bK x)-kE (bK y))
 unfold qm4 qlk
 rw [qFJ]
 generalize 2^(kE (bK x)-kE (bK y))=D at *
 have hp:D*kM (bK x)≠0:=Nat.mul_ne_zero (by omega) mx
 by_cases hs:bS x=bS y
 · rw [if_pos hs]
   refine ⟨.inr ⟨bS x,_,_,by omega,rfl,?_⟩⟩
   rw [hv,← hs,Nat.add_mul]
   exact qul _ hx hy
 · rw [if_neg hs]
   have hs':bS y = !bS x:=by revert hs;cases bS x <;> cases bS y <;> simp
   by_cases h0:D*kM (bK x)=kM (bK y)
   · rw [if_pos h0]
     have hu:kV (bK x)=kV (bK y):=by
      have h1:kV (bK x)*PS=kV (bK y)*PS:=by rw [← hx,h0,hy]
      exact Nat.eq_of_mul_eq_mul_right (by have:=qnj;omega) h1
     have hk:bK (sgN (decide (mode=2)))=0:=by cases decide (mode=2) <;> rfl
     have hk':bK (sgN (decide (mode=2)))≤jo:=by rw [hk];exact Nat.zero_le _
     refine ⟨.inl ⟨hk',?_⟩⟩
     rw [qbo hk',hk,hv,hu,hs',kV_0]
     exact qun _ _
   · rw [if_neg h0]
     refine ⟨.inr ⟨bS x,_,_,by omega,rfl,?_⟩⟩
     rw [hv,hs']
     refine qum _ ?_
     rw [← hy,← Nat.add_mul,← hx,Nat.sub_add_cancel hle]
theorem JW {f:Nat} (h:bK f=0):fv f=0:=by
 rw [qbo (by rw [h];exact Nat.zero_le _),h]
 have k0:kV 0=0:=rfl
 rw [k0];unfold sgV;cases bS f <;> rfl
theorem qup {i j:Nat} (hi:i≤9218868437227405311) (hj:j≤9218868437227405311) (h:kE j<kE i∨kE j=kE i∧kM j≤kM i):kM j≤2^(kE i-kE j)*kM i:=by
 obtain ⟨a1,a2,a3,a4⟩:=Zn hi
 obtain ⟨b1,b2,b3,b4⟩:=Zn hj
 rcases h with h | ⟨h1,h2⟩
 · have hp:2^1≤2^(kE i-kE j):=Nat.pow_le_pow_right (by omega) (by omega)
   have h4:=a4 (by omega)
   have:=Nat.mul_le_mul hp h4
   omega
 · rw [h1,Nat.sub_self,Nat.pow_zero,Nat.one_mul];exact h2
theorem quq {a b:Nat} (h:qei a b=false) (ha:bK a≤jo) (hb:bK b≤jo):kM (bK b)≤2^(kE (bK a)-kE (bK b))*kM (bK a)∧kE (bK b)≤kE (bK a):=by
 unfold qei at h
 simp only [Bool.or_eq_false_iff,Bool.and_eq_false_iff,decide_eq_false_iff_not] at h
 obtain ⟨h1,h2⟩:=h
 have hc:kE (bK b)<kE (bK a)∨kE (bK b)=kE (bK a)∧kM (bK b)≤kM (bK a):=by omega
 exact ⟨qup ha hb hc,by omega⟩
theorem qur {a b:Nat} (h:qei a b=true) (ha:bK a≤jo) (hb:bK b≤jo):kM (bK a)≤2^(kE (bK b)-kE (bK a))*kM (bK b)∧kE (bK a)≤kE (bK b):=by
 unfold qei at h
 simp only [Bool.or_eq_true,Bool.and_eq_true,decide_eq_true_eq] at h
 have hc:kE (bK a)<kE (bK b)∨kE (bK a)=kE (bK b)∧kM (bK a)≤kM (bK b):=by omega
 exact ⟨qup hb ha hc,by omega⟩
theorem qus {k:Nat} (h:k≤jo):QF k=false:=by
 unfold QF;rw [beq_dec];exact decide_eq_false (by unfold jo at h;omega)
theorem qnl {k:Nat} (h:k≤jo):qO k=false:=YA.2 (by unfold jo at h;omega)
theorem qlK {a b:Nat} {mode:Int} (fa:bK a≤jo) (fb:bK b≤jo):SumP a b mode (YL a b mode):=by
 unfold YL
 rw [qnl fa,qnl fb,qus fa,qus fb]
 simp only [cond_false,Bool.false_and]
 by_cases za:bK a=0
 · rw [show Nat.beq (bK a) 0=true by rw [za];rfl]
   by_cases zb:bK b=0
   · rw [show Nat.beq (bK b) 0=true by rw [zb];rfl]
     have key:∀ r:Nat,bK r=0→SumP a b mode r:=fun r hr=>⟨.inl ⟨by rw [hr];exact Nat.zero_le _,by rw [JW hr,JW za,JW zb];rfl⟩⟩
     cases decide (bS a=bS b) with
     | true=>exact key a za
     | false =>
      refine key (sgN (decide (mode=2))) ?_
      cases decide (mode=2) <;> rfl
   · rw [qbD zb]
     exact ⟨.inl ⟨fb,by rw [JW za,Int.zero_add];rfl⟩⟩
 · rw [qbD za]
   by_cases zb:bK b=0
   · rw [show Nat.beq (bK b) 0=true by rw [zb];rfl]
     exact ⟨.inl ⟨fa,by rw [JW zb,Int.add_zero];rfl⟩⟩
   · rw [qbD zb]
     simp only [cond_false,Bool.false_and]
     cases hs:qei a b with
     | false =>
      obtain ⟨h1,h2⟩:=quq hs fa fb
      exact qlJ fa fb za h1 h2
     | true =>
      obtain ⟨h1,h2⟩:=qur hs fa fb
      have:=(qlJ (mode:=mode) fb fa zb h1 h2).got
      rw [Int.add_comm] at this
      exact ⟨this⟩
theorem qyT {a b:Nat} (fa:bK a≤jo) (fb:bK b≤jo):(bK (YL a b 1)≤jo∧fv a+fv b≤fv (YL a b 1))∨YL a b 1=9218868437227405312:=by
 rcases (qlK (mode:=1) fa fb).got with ⟨h1,h2⟩ | ⟨neg,M,E,hM,h1,h2⟩
 · exact .inl ⟨h1,by omega⟩
 · rw [h1]
   rcases qFH (neg:=neg) (E:=E) hM with ⟨h3,h4⟩ | h
   · rw [h2] at h4
     exact .inl ⟨h3,Int.le_of_mul_le_mul_right h4 qnj⟩
   · exact .inr h
theorem qyU {a b:Nat} (fa:bK a≤jo) (fb:bK b≤jo):(bK (YL a b 2)≤jo∧fv (YL a b 2)≤fv a+fv b)∨YL a b 2=18442240474082181120:=by
 rcases (qlK (mode:=2) fa fb).got with ⟨h1,h2⟩ | ⟨neg,M,E,hM,h1,h2⟩
 · exact .inl ⟨h1,by omega⟩
 · rw [h1]
   rcases qFI (neg:=neg) (E:=E) hM with ⟨h3,h4⟩ | h
   · rw [h2] at h4
     exact .inl ⟨h3,Int.le_of_mul_le_mul_right h4 qnj⟩
   · exact .inr h
theorem qds {n:Nat} (h:n<18446744073709551616):Fw (n:Int):=⟨Int.natCast_nonneg _,by omega⟩
theorem qem {a:Int} (h:Fw a):a.toNat<18446744073709551616:=by obtain ⟨h1,h2⟩:=h;omega
theorem qbL:Fw 0:=⟨by decide,by decide⟩
theorem yQ {a b:Int} (ha:Fw a) (hb:Fw b) (m:Int):Fw (Qq a b m):=qds (qoP (qem ha) (qem hb) m)
theorem Y5 {a:Int} (ha:Fw a):Fw (QW a):=qds (qxQ (qem ha))
theorem qDv {a:Int} (ha:Fw a):Fw (qcJ a):=qds (by
 unfold YK
 have:=qfX a.toNat
 have:=qem ha
 cases qO (bK a.toNat) <;> simp only [cond_true,cond_false] <;> omega)
theorem qo6 {x y:Int} (hx:Fw x) (hy:Fw y):Fw (upI [x,y]):=yQ (yQ qbL hx 1) hy 1
theorem qut:∀ {l:List Tm} {s:Int},Fw s→(∀ t∈l,Fw t.c)→Fw (qlv l s)
 | [],s,h,_=>h
 | t::l,s,h,hl=>by
  unfold qlv
  exact qut (qo6 h (qDv (hl t (List.mem_cons_self ..)))) fun u hu=>hl u (List.mem_cons_of_mem _ hu)
structure FmW (a:Fm):Prop where
 mid:Fw a.2.1
 err:Fw a.2.2.2
 tms:∀ t∈a.2.2.1,Fw t.c
theorem quu {a:Fm} (h:FmW a):Fw (qjh a):=by
 rw [qji]
 cases okF a with
 | false =>
  show Fw 9218868437227405312
  exact ⟨by decide,by decide⟩
 | true=>exact qo6 (qut qbL h.tms) h.err
end
end Su
end
section
namespace Su
open Go Fly
set_option linter.unusedVariables false
noncomputable section
def kyV (k:Int):Int:=bif decide (k<0) then -(kV k.natAbs:Int) else (kV k.natAbs:Int)
theorem qBf {f:Int} (h:fI f=true):fv f.toNat=kyV (ky f):=by
 have h':jK (bK f.toNat)=true:=h
 unfold fv fvK kyV
 rw [h',cond_true,qdr]
 have e:ky f=bif bS f.toNat then -(bK f.toNat:Int) else (bK f.toNat:Int):=rfl
 rw [e]
 cases bS f.toNat with
 | true =>
  by_cases h0:bK f.toNat=0
  · rw [h0];rfl
  · rw [decide_eq_true (by simp only [cond_true];omega)]
 | false=>rw [decide_eq_false (by simp only [cond_false];omega)]
theorem qbM {w:Int}:QA w.toNat = !fI w:=by
 have:=qyS w.toNat
 unfold fI;rw [this,Bool.not_not]
theorem quv {i j:Int} (h:i<j):kyV i<kyV j:=by
 unfold kyV
 by_cases hi:i<0
 · rw [decide_eq_true hi,cond_true]
   have h1:kV 0<kV i.natAbs:=qol (by omega)
   by_cases hj:j<0
   · rw [decide_eq_true hj,cond_true]
     have:=qol (show j.natAbs<i.natAbs by omega)
     omega
   · rw [decide_eq_false hj,cond_false]
     omega
 · rw [decide_eq_false hi,decide_eq_false (show ¬ j<0 by omega),cond_false,cond_false]
   have:=qol (show i.natAbs<j.natAbs by omega)
   omega
theorem qDw {i j:Int}:kyV i≤kyV j↔i≤j:=by
 constructor
 · intro h
   refine Int.le_of_not_gt fun hlt=>?_
   have:=quv hlt
   omega
 · intro h
   by_cases e:i=j
   · rw [e];exact Int.le_refl _
   · exact Int.le_of_lt (quv (by omega))
theorem qgg {a b:Int} (ha:fI a=true) (hb:fI b=true):fv a.toNat≤fv b.toNat↔ky a≤ky b:=by
 rw [qBf ha,qBf hb];exact qDw
theorem qnm {f:Int} (h:fI f=true) : -9218868437227405311≤ky f∧ky f≤9218868437227405311:=by
 have h1:=qdr f
 have h2:=jH.1 (show jK (bK f.toNat)=true from h)
 omega
abbrev qgG:Int:=9218868437227405312
abbrev Y6:Int:=18442240474082181120
def Up (x n:Int):Prop:=(fI x=true∧n≤fv x.toNat)∨x=qgG
def Dn (x n:Int):Prop:=(fI x=true∧fv x.toNat≤n)∨x=Y6
theorem jj {x:Int}:fI x=true↔bK x.toNat≤jo:=jH
theorem qjt:(qgG:Int).toNat=9218868437227405312:=rfl
theorem quw:(Y6:Int).toNat=18442240474082181120:=rfl
theorem qhD {b:Nat} {mode:Int} (h:qO (bK b)=false) (hs:QF (bK b)=true→bS b=false):YL 9218868437227405312 b mode=9218868437227405312:=by
 unfold YL
 have e1:qO (bK 9218868437227405312)=false:=rfl
 have e2:QF (bK 9218868437227405312)=true:=rfl
 have e3:bS 9218868437227405312=false:=rfl
 rw [e1,h,e2,e3]
 cases hi:QF (bK b) with
 | false=>rfl
 | true=>rw [hs hi];rfl
theorem qqK {a:Nat} {mode:Int} (h:bK a≤jo):YL a 9218868437227405312 mode=9218868437227405312:=by
 unfold YL
 have e1:qO (bK 9218868437227405312)=false:=rfl
 have e2:QF (bK 9218868437227405312)=true:=rfl
 rw [e1,qnl h,e2,qus h];rfl
theorem qnn {a:Nat} {mode:Int} (h:bK a≤jo):YL a 18442240474082181120 mode=18442240474082181120:=by
 unfold YL
 have e1:qO (bK 18442240474082181120)=false:=rfl
 have e2:QF (bK 18442240474082181120)=true:=rfl
 rw [e1,qnl h,e2,qus h];rfl
theorem Qr {x y n m:Int} (hx:Up x n) (hy:Up y m):Up (Qq x y 1) (n+m):=by
 unfold Qq
 rw [ZV]
 rcases hx with ⟨fx,hx⟩ | rfl
 · rcases hy with ⟨fy,hy⟩ | rfl
   · rcases qyT (jj.1 fx) (jj.1 fy) with ⟨h1,h2⟩ | h
     · left
       refine ⟨jj.2 (by rw [Int.toNat_natCast];exact h1),?_⟩
       rw [Int.toNat_natCast];omega
     · right;rw [h];rfl
   · right;rw [qjt,qqK (jj.1 fx)];rfl
 · right
   rw [qjt]
   rcases hy with ⟨fy,hy⟩ | rfl
   · rw [qhD (qnl (jj.1 fy)) (fun h=>by rw [qus (jj.1 fy)] at h;cases h)];rfl
   · rw [qjt,qhD rfl (fun _=>rfl)];rfl
theorem qDx {x y n m:Int} (fx:fI x=true) (hx:fv x.toNat≤n) (hy:Dn y m):Dn (Qq x y 2) (n+m):=by
 unfold Qq
 rw [ZV]
 rcases hy with ⟨fy,hy⟩ | rfl
 · rcases qyU (jj.1 fx) (jj.1 fy) with ⟨h1,h2⟩ | h
   · left
     refine ⟨jj.2 (by rw [Int.toNat_natCast];exact h1),?_⟩
     rw [Int.toNat_natCast];omega
   · right;rw [h];rfl
 · right;rw [quw,qnn (jj.1 fx)];rfl
theorem qe0 {x n m:Int} (h:Up x n) (hm:m≤n):Up x m:=h.imp (fun ⟨a,b⟩=>⟨a,by omega⟩) id
theorem qe1 {f:Nat} (hf:f<18446744073709551616) (h:bK f≤jo):bK (jU f)≤jo∧fv (jU f) = -fv f:=by
 have h1:=qCw hf
 have h2:=qCx hf (qnl h)
 refine ⟨by rw [h1];exact h,?_⟩
 rw [qbo (by rw [h1];exact h),h1,h2,qbo h]
 unfold sgV
 cases bS f <;> simp
theorem qDy {x n:Int} (hw:Fw x) (h:Up x n):Dn (QW x) (-n):=by
 unfold QW
 rcases h with ⟨fx,hx⟩ | rfl
 · left
   obtain ⟨h1,h2⟩:=qe1 (qem hw) (jj.1 fx)
   refine ⟨jj.2 (by rw [Int.toNat_natCast];exact h1),?_⟩
   rw [Int.toNat_natCast,h2];omega
 · right;rfl
theorem yV {x:Int} (h:fI x=true):Up x (fv x.toNat):=.inl ⟨h,Int.le_refl _⟩
theorem qyV:Up 0 0:=.inl ⟨rfl,by decide⟩
theorem qju {c:Int} (h:fI c=true):fI (qcJ c)=true∧fv (qcJ c).toNat=(avF c:Int):=by
 have h':=jj.1 h
 have e:YK c.toNat=bK c.toNat:=by unfold YK;rw [qnl h'];rfl
 unfold qcJ avF
 rw [Int.toNat_natCast,e]
 have hk:bK (bK c.toNat)≤jo:=by rw [qA9];exact h'
 refine ⟨jj.2 (by rw [Int.toNat_natCast];exact hk),?_⟩
 rw [qbo hk,qA9,qFG,qbo h']
 unfold sgV
 cases bS c.toNat <;> simp
theorem qgh:∀ (l:List Tm) (s:Nat),qjp l s=s+qjp l 0
 | [],s=>rfl
 | t::l,s=>by
  unfold qjp
  rw [qgh l (s+avF t.c),qgh l (0+avF t.c)];omega
theorem qux:∀ {l:List Tm} {s:Int} {n:Nat},(∀ t∈l,fI t.c=true)→Up s n→Up (qlv l s) ((qjp l n:Nat):Int)
 | [],s,n,_,h=>h
 | t::l,s,n,hl,h=>by
  unfold qlv qjp
  obtain ⟨h1,h2⟩:=qju (hl t (List.mem_cons_self ..))
  refine qux (fun u hu=>hl u (List.mem_cons_of_mem _ hu)) ?_
  have h3:Up (qcJ t.c) (avF t.c:Int):=by rw [← h2];exact yV h1
  have:=Qr (Qr qyV h) h3
  rw [Int.zero_add,← Int.natCast_add] at this
  exact this
theorem qo7 {a:Fm} (h:okF a=true):bS a.2.2.2.toNat=false:=by
 unfold okF at h
 simp only [Bool.not_eq_true',Bool.or_eq_false_iff,Bool.not_eq_false'] at h
 obtain ⟨h1,h2⟩:=h
 rw [qeX,h1,cond_false] at h2
 simp only [Bool.and_eq_true,decide_eq_true_eq] at h2
 have h3:Int.fdiv a.2.2.2 (2^63)=0:=h2.2.2.2.2
 generalize a.2.2.2=e at *
 refine Yz.2 ?_
 by_cases hn:0≤e
 · obtain ⟨n,rfl⟩:=Int.eq_ofNat_of_zero_le hn
   rw [JE] at h3
   have h4:n / 2^63=0:=by omega
   rw [Int.toNat_natCast]
   have h5:=(Nat.div_eq_zero_iff_lt (Nat.two_pow_pos 63)).1 h4
   omega
 · rw [Int.toNat_of_nonpos (by omega)];omega
theorem qDz {a:Fm} (h:okF a=true):Up a.2.2.2 (avF a.2.2.2:Int):=by
 obtain ⟨_,hf⟩:=Qm h
 left
 refine ⟨hf.err,?_⟩
 unfold avF
 rw [qbo (jj.1 hf.err),qo7 h]
 unfold sgV
 simp
theorem qDA {a:Fm} (h:okF a=true):Up (qjh a) (quj a:Int):=by
 obtain ⟨_,hf⟩:=Qm h
 rw [qji,h,cond_true]
 have h1:=qux (l:=a.2.2.1) (s:=0) (n:=0) hf.tms qyV
 have:=Qr (Qr qyV h1) (qDz h)
 rw [Int.zero_add] at this
 refine qe0 this ?_
 unfold quj
 rw [qgh]
 omega
end
end Su
end
section
namespace Su
open Go Fly
set_option linter.unusedVariables false
noncomputable section
end
end Su
end
section
namespace Su
open Go Fly
end Su
end
