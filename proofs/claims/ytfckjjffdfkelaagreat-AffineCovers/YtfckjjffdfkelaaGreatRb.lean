/-
  Bits and rounding, in plain Lean. No condition.
-/
import Derived.Test.YtfckjjffdfkelaaGreatSuSd
set_option maxRecDepth 10000
section
namespace Su
open Go Fly
def qn (n:Nat):Nat:=if n=0 then 0 else n.log2+1
theorem qxK {n k:Nat} (h0:2^k≤n) (h1:n<2^(k+1)):qn n=k+1:=by
 have hn:n≠0:=fun e=>by subst e;have:=Nat.two_pow_pos k;omega
 have a:=(Nat.le_log2 hn).2 h0
 have b:=(Nat.log2_lt hn).2 h1
 simp only [qn,hn,if_false];omega
theorem qeM {n:Nat} (hn:n≠0):2^(qn n-1)≤n:=by
 simp only [qn,hn,if_false,Nat.add_sub_cancel]
 exact (Nat.le_log2 hn).1 (Nat.le_refl _)
theorem qcl (n:Nat):n<2^qn n:=by
 by_cases hn:n=0
 · subst hn;decide
 · simp only [qn,hn,if_false]
   exact (Nat.log2_lt hn).1 (by omega)
theorem Yw {n:Nat} (hn:n≠0):0<qn n:=by simp only [qn,hn,if_false];omega
theorem j0 {n k:Nat}:qn n≤k↔n<2^k:=by
 constructor
 · intro h;exact Nat.lt_of_lt_of_le (qcl n) (Nat.pow_le_pow_right (by omega) h)
 · intro h
   by_cases hn:n=0
   · subst hn;simp [qn]
   · have h1:=qeM hn
     have:qn n-1<k:=by
      refine (Nat.pow_lt_pow_iff_right (a:=2) (by omega)).1 (Nat.lt_of_le_of_lt h1 h)
     have:=Yw hn;omega
theorem Yx {n k:Nat} (h:2^k≤n):qn n=k+qn (n / 2^k):=by
 have hp:=Nat.two_pow_pos k
 have hq:n / 2^k≠0:=by have:=Nat.div_pos h hp;omega
 have h1:=qeM hq
 have h2:=qcl (n / 2^k)
 have h3:=Yw hq
 have e:=Nat.div_add_mod n (2^k)
 have hm:=Nat.mod_lt n hp
 have a1:2^(k+(qn (n / 2^k)-1))≤n:=by
  rw [Nat.pow_add]
  calc 2^k*2^(qn (n / 2^k)-1)≤2^k*(n / 2^k):=Nat.mul_le_mul_left _ h1
   _≤n:=Nat.mul_div_le n _
 have a2:n<2^(k+(qn (n / 2^k)-1)+1):=by
  have:k+(qn (n / 2^k)-1)+1=k+qn (n / 2^k):=by omega
  rw [this,Nat.pow_add]
  have:2^k*(n / 2^k+1)≤2^k*2^qn (n / 2^k):=Nat.mul_le_mul_left _ h2
  rw [Nat.mul_add] at this
  omega
 rw [qxK a1 a2];omega
def JD (a b:Nat):Int:=if a<b then -1 else if a=b then 0 else 1
end Su
end
section
namespace Su
noncomputable section
open Go Fly
def kM (k:Nat):Nat:=if k / 4503599627370496=0 then k % 4503599627370496 else k % 4503599627370496+4503599627370496
def kE (k:Nat):Nat:=k / 4503599627370496-1
def kV (k:Nat):Nat:=kM k*2^kE k
theorem qoj {q w:Nat} (hw:w≤9007199254740992) (h:4503599627370496≤w∨q=0):kV (q*4503599627370496+w)=w*2^q:=by
 unfold kV kM kE
 by_cases h1:w<4503599627370496
 · have hq:q=0:=by omega
   subst hq
   have e1:(0*4503599627370496+w) / 4503599627370496=0:=by omega
   have e2:(0*4503599627370496+w) % 4503599627370496=w:=by omega
   rw [if_pos e1,e1,e2]
 · by_cases h2:w<9007199254740992
   · have e1:(q*4503599627370496+w) / 4503599627370496=q+1:=by omega
     have e2:(q*4503599627370496+w) % 4503599627370496=w-4503599627370496:=by omega
     rw [if_neg (by omega),e1,e2,Nat.add_sub_cancel,Nat.sub_add_cancel (by omega)]
   · have hw:w=9007199254740992:=by omega
     subst hw
     have e1:(q*4503599627370496+9007199254740992) / 4503599627370496=q+2:=by omega
     have e2:(q*4503599627370496+9007199254740992) % 4503599627370496=0:=by omega
     rw [if_neg (by omega),e1,e2,show q+2-1=q+1 from rfl,Nat.pow_succ]
     omega
theorem qsK (k:Nat):∃ q w,k=q*4503599627370496+w∧w<9007199254740992∧(4503599627370496≤w∨q=0):=by
 by_cases h:k / 4503599627370496=0
 · exact ⟨0,k,by omega,by omega,.inr rfl⟩
 · exact ⟨k / 4503599627370496-1,k % 4503599627370496+4503599627370496,by omega,by omega,by omega⟩
theorem qok (k:Nat):kV k<kV (k+1):=by
 obtain ⟨q,w,rfl,h1,h2⟩:=qsK k
 rw [Nat.add_assoc,qoj (by omega) h2,qoj (by omega) (by omega)]
 exact Nat.mul_lt_mul_of_pos_right (by omega) (Nat.two_pow_pos q)
theorem qol {i j:Nat} (h:i<j):kV i<kV j:=by
 induction j with
 | zero=>omega
 | succ j ih =>
  by_cases e:i=j
  · subst e;exact qok i
  · exact Nat.lt_trans (ih (by omega)) (qok j)
theorem qFt {i j:Nat} (h:i≤j):kV i≤kV j:=by
 by_cases e:i=j
 · subst e;exact Nat.le_refl _
 · exact Nat.le_of_lt (qol (by omega))
@[irreducible] def SH:Nat:=4926
theorem qAY:SH=4926:=by unfold SH;rfl
theorem qbD {M:Nat} (h:M≠0):Nat.beq M 0=false:=by
 cases hb:Nat.beq M 0 with
 | false=>rfl
 | true=>exact absurd (Nat.eq_of_beq_eq_true hb) h
def qN (M E:Nat):Nat:=qn M+E-53-SH
def je (M E:Nat):Nat:=M*2^(E-(qN M E+SH)) / 2^(qN M E+SH-E)
def yg (M E:Nat):Nat:=4503599627370496*qN M E+je M E
theorem Yy (M E:Nat):yg M E=qN M E*4503599627370496+je M E:=by unfold yg;rw [Nat.mul_comm]
theorem qcm (M E:Nat):je M E<9007199254740992:=by
 unfold je
 have hb:=qcl M
 rw [Nat.div_lt_iff_lt_mul (Nat.two_pow_pos _)]
 have h1:M*2^(E-(qN M E+SH))<2^qn M*2^(E-(qN M E+SH)):=Nat.mul_lt_mul_of_pos_right hb (Nat.two_pow_pos _)
 refine Nat.lt_of_lt_of_le h1 ?_
 rw [show (9007199254740992:Nat)=2^53 from rfl,← Nat.pow_add,← Nat.pow_add]
 refine Nat.pow_le_pow_right (by omega) ?_
 unfold qN;omega
theorem qcn {M E:Nat} (hM:M≠0):4503599627370496≤je M E∨qN M E=0:=by
 by_cases h:qN M E=0
 · exact .inr h
 · refine .inl ?_
   unfold je
   have hb:=qeM hM
   have hp:=Yw hM
   rw [Nat.le_div_iff_mul_le (Nat.two_pow_pos _)]
   refine Nat.le_trans ?_ (Nat.mul_le_mul_right _ hb)
   rw [show (4503599627370496:Nat)=2^52 from rfl,← Nat.pow_add,← Nat.pow_add]
   refine Nat.pow_le_pow_right (by omega) ?_
   unfold qN at *;omega
theorem qsL {M E:Nat} (hM:M≠0):kV (yg M E)*2^SH≤M*2^E:=by
 rw [Yy,qoj (Nat.le_of_lt (qcm M E)) (qcn hM)]
 unfold je
 generalize qN M E=q
 have h:=Nat.div_mul_le_self (M*2^(E-(q+SH))) (2^(q+SH-E))
 by_cases hq:q+SH≤E
 · rw [Nat.sub_eq_zero_of_le hq,Nat.pow_zero,Nat.div_one,Nat.mul_assoc,Nat.mul_assoc,← Nat.pow_add,← Nat.pow_add]
   rw [show E-(q+SH)+(q+SH)=E by omega];exact Nat.le_refl _
 · rw [Nat.sub_eq_zero_of_le (by omega:E≤q+SH),Nat.pow_zero,Nat.mul_one] at h ⊢
   have:M / 2^(q+SH-E)*2^q*2^SH=M / 2^(q+SH-E)*2^(q+SH-E)*2^E:=by
    rw [Nat.mul_assoc,Nat.mul_assoc,← Nat.pow_add,← Nat.pow_add]
    congr 2;omega
   rw [this]
   exact Nat.mul_le_mul_right _ h
theorem qsM {M E:Nat} (hM:M≠0):M*2^E<kV (yg M E+1)*2^SH:=by
 rw [Yy]
 have hk:=qcm M E
 rw [Nat.add_assoc,qoj (by omega) (by rcases qcn (E:=E) hM with h | h <;> omega)]
 unfold je
 generalize qN M E=q
 by_cases hq:q+SH≤E
 · rw [Nat.sub_eq_zero_of_le hq,Nat.pow_zero,Nat.div_one,Nat.mul_assoc,← Nat.pow_add,Nat.add_mul,Nat.mul_assoc,← Nat.pow_add]
   rw [show E-(q+SH)+(q+SH)=E by omega]
   have:=Nat.two_pow_pos (q+SH);omega
 · rw [Nat.sub_eq_zero_of_le (by omega:E≤q+SH),Nat.pow_zero,Nat.mul_one]
   have h:=Nat.lt_div_mul_add (a:=M) (b:=2^(q+SH-E)) (Nat.two_pow_pos _)
   have:(M / 2^(q+SH-E)+1)*2^q*2^SH=(M / 2^(q+SH-E)*2^(q+SH-E)+2^(q+SH-E))*2^E:=by
    rw [Nat.mul_assoc,← Nat.pow_add,← Nat.succ_mul,Nat.mul_assoc,← Nat.pow_add]
    congr 2;omega
   rw [this]
   exact Nat.mul_lt_mul_of_pos_right h (Nat.two_pow_pos _)
def dN (M E:Nat):Nat:=qN M E+SH-E
def hfN (M E:Nat):Bool:=Nat.ble 1 (dN M E)&&M / 2^(dN M E-1) % 2 == 1
def rsN (M E:Nat):Bool:=Nat.ble 1 (dN M E)&&!(M % 2^(dN M E-1) == 0)
theorem qFu {q w:Nat} (hw:w<9007199254740992) (h:4503599627370496≤w∨q=0):kM (q*4503599627370496+w)=w:=by
 unfold kM
 by_cases h1:w<4503599627370496
 · have:q=0:=by omega
   subst this;rw [if_pos (by omega)];omega
 · rw [if_neg (by omega)];omega
theorem qFv {q w:Nat} (hw:w<9007199254740992) (h:4503599627370496≤w∨q=0):kE (q*4503599627370496+w)=q:=by
 unfold kE
 by_cases h1:w<4503599627370496
 · have:q=0:=by omega
   subst this;omega
 · omega
theorem qsN {M E:Nat} (hM:M≠0):kM (yg M E)=je M E:=by rw [Yy];exact qFu (qcm M E) (qcn hM)
theorem qsO {M E:Nat} (hM:M≠0):kE (yg M E)=qN M E:=by rw [Yy];exact qFv (qcm M E) (qcn hM)
theorem qkV {M E:Nat} (hM:M≠0):M*2^E=kV (yg M E)*2^SH↔hfN M E=false∧rsN M E=false:=by
 unfold kV
 rw [qsN hM,qsO hM]
 by_cases hd:dN M E=0
 · have e1:hfN M E=false:=by unfold hfN;rw [hd];rfl
   have e4:rsN M E=false:=by unfold rsN;rw [hd];rfl
   rw [e1,e4]
   unfold dN at hd
   have e2:je M E=M*2^(E-(qN M E+SH)):=by unfold je;rw [hd];simp
   rw [e2]
   generalize qN M E=q at *
   have e3:M*2^E=M*2^(E-(q+SH))*2^q*2^SH:=by
    rw [Nat.mul_assoc,Nat.mul_assoc,← Nat.pow_add,← Nat.pow_add]
    congr 2;omega
   simp [e3]
 · obtain ⟨d,hd'⟩:∃ d,dN M E=d+1:=⟨dN M E-1,by omega⟩
   have e1:hfN M E=(M / 2^d % 2 == 1):=by unfold hfN;rw [hd'];rfl
   have e4:rsN M E = !(M % 2^d == 0):=by unfold rsN;rw [hd'];rfl
   rw [e1,e4]
   have e2:je M E=M / 2^(d+1):=by unfold je;unfold dN at hd';rw [hd'];rw [show E-(qN M E+SH)=0 by omega];simp
   rw [e2]
   have e3:∀ x,x*2^qN M E*2^SH=x*2*2^d*2^E:=fun x=>by
    rw [Nat.mul_assoc,← Nat.pow_add,Nat.mul_assoc x,← Nat.pow_succ',Nat.mul_assoc,← Nat.pow_add]
    congr 2;unfold dN at hd';omega
   rw [e3]
   have e5:M / 2^(d+1)=M / 2^d / 2:=by rw [Nat.pow_succ,Nat.div_div_eq_div_mul]
   rw [e5]
   have h1:=Nat.div_add_mod M (2^d)
   have h2:=Nat.mod_lt M (Nat.two_pow_pos d)
   have hp:=Nat.two_pow_pos E
   generalize M / 2^d=a at *
   generalize M % 2^d=r at *
   generalize 2^d=D at *
   generalize 2^E=F at *
   rw [← h1]
   have:(D*a+r)*F=a / 2*2*D*F↔D*a+r=a / 2*2*D:=⟨fun h=>Nat.eq_of_mul_eq_mul_right hp h,fun h=>by rw [h]⟩
   rw [this]
   rcases Nat.mod_two_eq_zero_or_one a with ha | ha
   · have:a / 2*2=a:=by omega
     rw [ha,this,Nat.mul_comm a D]
     simp
   · have:a=a / 2*2+1:=by omega
     rw [ha]
     have h3:D*a=a / 2*2*D+D:=by
      rw [Nat.mul_comm D a]
      calc a*D=(a / 2*2+1)*D:=by rw [← this]
       _=a / 2*2*D+D:=by rw [Nat.add_mul,Nat.one_mul]
     constructor
     · intro h;omega
     · rintro ⟨h,_⟩;cases h
def awN (neg:Bool) (mode:Int):Bool:=bif neg then decide (mode=2) else decide (mode=1)
def twN (neg:Bool) (mode:Int):Bool:=bif neg then decide (mode=1) else decide (mode=2)
def upN (neg:Bool) (mode:Int) (odd half rest:Bool):Bool:=bif awN neg mode then half||rest else bif twN neg mode then false else half&&(rest||odd)
def sgN (neg:Bool):Nat:=bif neg then 9223372036854775808 else 0
def jo:Nat:=9218868437227405311
def qco (tw:Bool) (k:Nat):Nat:=bif Nat.ble k jo then k else bif tw then jo else jo+1
def RN (neg:Bool) (mode:Int) (M E:Nat) (rest:Bool):Nat :=
 sgN neg+bif Nat.beq M 0 then 0 else qco (twN neg mode) (yg M E+(upN neg mode (je M E % 2 == 1) (hfN M E) (rest||rsN M E)).toNat)
theorem qFw {M E t:Nat} (h:M / 2^t≠0):qN (M / 2^t) (E+t)=qN M E:=by
 have hp:=Nat.two_pow_pos t
 have:2^t≤M:=by
  refine Nat.le_of_not_lt fun hlt=>h (Nat.div_eq_of_lt hlt)
 have:=Yx this
 unfold qN;omega
theorem qeg {M a b:Nat} (h:a≤b) (hM:M % 2^b=0):M % 2^a=0:=by
 have:2^a ∣ 2^b:=Nat.pow_dvd_pow 2 h
 exact Nat.mod_eq_zero_of_dvd (Nat.dvd_trans this (Nat.dvd_of_mod_eq_zero hM))
theorem qsP {neg:Bool} {mode:Int} {M E t:Nat} (h0:M / 2^t≠0) (h:54≤qn (M / 2^t)∨M % 2^t=0):RN neg mode (M / 2^t) (E+t) (!(M % 2^t == 0))=RN neg mode M E false:=by
 have hq:=qFw (E:=E) h0
 have hM:M≠0:=fun e=>h0 (by subst e;simp)
 have key:je (M / 2^t) (E+t)=je M E∧hfN (M / 2^t) (E+t)=hfN M E∧(!(M % 2^t == 0)||rsN (M / 2^t) (E+t))=rsN M E:=by
  by_cases hd:dN (M / 2^t) (E+t)=0
  · have hmod:M % 2^t=0:=by
     rcases h with h | h
     · unfold dN qN at hd;omega
     · exact h
    have e1:hfN (M / 2^t) (E+t)=false:=by unfold hfN;rw [hd];rfl
    have e4:rsN (M / 2^t) (E+t)=false:=by unfold rsN;rw [hd];rfl
    rw [e1,e4,hmod]
    have hMe:M=M / 2^t*2^t:=by have:=Nat.div_add_mod M (2^t);rw [hmod,Nat.mul_comm] at this;omega
    unfold dN at hd;rw [hq] at hd
    have k1:je (M / 2^t) (E+t)=M / 2^t*2^(E+t-(qN M E+SH)):=by unfold je;rw [hq,hd];simp
    rw [k1]
    by_cases hd2:dN M E=0
    · have e5:hfN M E=false:=by unfold hfN;rw [hd2];rfl
      have e6:rsN M E=false:=by unfold rsN;rw [hd2];rfl
      rw [e5,e6]
      refine ⟨?_,rfl,rfl⟩
      unfold dN at hd2
      unfold je
      rw [hd2,Nat.pow_zero,Nat.div_one]
      generalize qN M E=q at *
      conv=>rhs;rw [hMe]
      rw [Nat.mul_assoc,← Nat.pow_add]
      congr 2;omega
    · obtain ⟨d,hd'⟩:∃ d,dN M E=d+1:=⟨dN M E-1,by omega⟩
      have e5:hfN M E=(M / 2^d % 2 == 1):=by unfold hfN;rw [hd'];rfl
      have e6:rsN M E = !(M % 2^d == 0):=by unfold rsN;rw [hd'];rfl
      have k2:je M E=M / 2^(d+1):=by unfold je;unfold dN at hd';rw [hd'];rw [show E-(qN M E+SH)=0 by omega];simp
      unfold dN at hd'
      have m1:M % 2^d=0:=qeg (by omega) hmod
      have m2:M % 2^(d+1)=0:=qeg (by omega) hmod
      rw [e5,e6,k2,m1]
      have hv:=Nat.div_add_mod M (2^(d+1))
      rw [m2] at hv
      refine ⟨?_,?_,rfl⟩
      · refine Nat.eq_of_mul_eq_mul_right (Nat.two_pow_pos (d+1)) ?_
        rw [Nat.mul_assoc,← Nat.pow_add,show E+t-(qN M E+SH)+(d+1)=t by omega,← hMe,Nat.mul_comm]
        omega
      · have:M / 2^d=2*(M / 2^(d+1)):=by
         conv=>lhs;rw [← hv]
         rw [Nat.add_zero,Nat.pow_succ,Nat.mul_assoc,Nat.mul_div_cancel_left _ (Nat.two_pow_pos d)]
        rw [this]
        rw [Nat.mul_mod_right];rfl
  · obtain ⟨d,hd'⟩:∃ d,dN (M / 2^t) (E+t)=d+1:=⟨dN (M / 2^t) (E+t)-1,by omega⟩
    have hd2:dN M E=t+d+1:=by unfold dN at *;rw [hq] at hd';omega
    have e1:hfN (M / 2^t) (E+t)=(M / 2^t / 2^d % 2 == 1):=by unfold hfN;rw [hd'];rfl
    have e4:rsN (M / 2^t) (E+t) = !(M / 2^t % 2^d == 0):=by unfold rsN;rw [hd'];rfl
    have k1:je (M / 2^t) (E+t)=M / 2^t / 2^(d+1):=by unfold je;unfold dN at hd';rw [hd'];rw [show E+t-(qN (M / 2^t) (E+t)+SH)=0 by omega];simp
    have e5:hfN M E=(M / 2^(t+d) % 2 == 1):=by unfold hfN;rw [hd2];rfl
    have e6:rsN M E = !(M % 2^(t+d) == 0):=by unfold rsN;rw [hd2];rfl
    have k2:je M E=M / 2^(t+d+1):=by unfold je;unfold dN at hd2;rw [hd2];rw [show E-(qN M E+SH)=0 by omega];simp
    rw [e1,e4,k1,e5,e6,k2,Nat.div_div_eq_div_mul,Nat.div_div_eq_div_mul,← Nat.pow_add,← Nat.pow_add]
    refine ⟨rfl,rfl,?_⟩
    rw [Nat.pow_add,Nat.mod_mul]
    have hp:=Nat.two_pow_pos t
    generalize M % 2^t=a
    generalize M / 2^t % 2^d=b
    generalize 2^t=D at hp
    cases a with
    | zero =>
     cases b with
     | zero=>rfl
     | succ b =>
      have:0<D*(b+1):=Nat.mul_pos hp (by omega)
      have e:(0+D*(b+1) == 0)=false:=by simp;omega
      rw [e];rfl
    | succ a =>
     have e:(a+1+D*b == 0)=false:=by simp
     rw [e];rfl
 obtain ⟨k1,k2,k3⟩:=key
 have hf:yg (M / 2^t) (E+t)=yg M E:=by unfold yg;rw [hq,k1]
 have b1:Nat.beq (M / 2^t) 0=false:=qbD h0
 have b2:Nat.beq M 0=false:=qbD hM
 unfold RN
 rw [b1,b2,hf,k1,k2,k3,Bool.false_or]
def rndL:{f:Bool→Int→Nat→Int→Bool→Nat // ∀ neg mode M e rest,f neg mode M e rest=RN neg mode M (min (max e (-5000)) 5000+6000).toNat (rest&&decide (53<qn M))}:=Classical.choice ⟨⟨_,fun _ _ _ _ _=>rfl⟩⟩
def rnd (neg:Bool) (mode:Int) (M:Nat) (e:Int) (rest:Bool):Nat:=rndL.1 neg mode M e rest
theorem qfW (neg:Bool) (mode:Int) (M:Nat) (e:Int) (rest:Bool):rnd neg mode M e rest=RN neg mode M (min (max e (-5000)) 5000+6000).toNat (rest&&decide (53<qn M)):=rndL.2 neg mode M e rest
theorem qcp (neg:Bool) (mode:Int) (E:Nat) (rest:Bool):RN neg mode 0 E rest=sgN neg:=by unfold RN;rw [show Nat.beq 0 0=true from rfl,cond_true,Nat.add_zero]
end
end Su
end
section
namespace Su
open Go Fly
theorem Qz (a:Nat) (h:a<18446744073709551616):(BitVec.ofInt 64 (a:Int)).toNat=a:=by
 simp;omega
theorem qsQ (a b:Nat) (ha:a<18446744073709551616) (hb:b<18446744073709551616):qB .and .u64 (a:Int) (b:Int)=((a &&& b:Nat):Int):=by
 have h:a &&& b<2^64:=Nat.and_lt_two_pow a (by omega)
 show IntKind.u64.wrap (((BitVec.ofInt 64 (a:Int) &&& BitVec.ofInt 64 (b:Int)).toNat:Nat):Int)=_
 rw [BitVec.toNat_and,Qz a ha,Qz b hb]
 exact jZ (by omega) (by omega)
theorem qcq (a b:Nat) (ha:a<18446744073709551616) (hb:b<18446744073709551616):qB .or .u64 (a:Int) (b:Int)=((a ||| b:Nat):Int):=by
 have h:a ||| b<2^64:=Nat.or_lt_two_pow (by omega) (by omega)
 show IntKind.u64.wrap (((BitVec.ofInt 64 (a:Int) ||| BitVec.ofInt 64 (b:Int)).toNat:Nat):Int)=_
 rw [BitVec.toNat_or,Qz a ha,Qz b hb]
 exact jZ (by omega) (by omega)
theorem qsR (a b:Nat) (ha:a<18446744073709551616) (hb:b<18446744073709551616):qB .xor .u64 (a:Int) (b:Int)=((a ^^^ b:Nat):Int):=by
 have h:a ^^^ b<2^64:=Nat.xor_lt_two_pow (by omega) (by omega)
 show IntKind.u64.wrap (((BitVec.ofInt 64 (a:Int) ^^^ BitVec.ofInt 64 (b:Int)).toNat:Nat):Int)=_
 rw [BitVec.toNat_xor,Qz a ha,Qz b hb]
 exact jZ (by omega) (by omega)
theorem qkW (a b:Nat) (ha:a<18446744073709551616) (hb:b<18446744073709551616):qB .andNot .u64 (a:Int) (b:Int)=((a &&& (18446744073709551615-b):Nat):Int):=by
 have h:a &&& (18446744073709551615-b)<2^64:=Nat.and_lt_two_pow a (by omega)
 show IntKind.u64.wrap (((BitVec.ofInt 64 (a:Int) &&& ~~~(BitVec.ofInt 64 (b:Int))).toNat:Nat):Int)=_
 rw [BitVec.toNat_and,BitVec.toNat_not,Qz a ha,Qz b hb]
 have e:2^64-1-b=18446744073709551615-b:=by omega
 rw [e]
 exact jZ (by omega) (by omega)
theorem and_mask (a k:Nat):a &&& (2^k-1)=a % 2^k:=Nat.and_two_pow_sub_one_eq_mod a k
theorem qeN {x y r:Nat} (hr:x<2^r):y*2^r ||| x=y*2^r+x:=by
 rw [Nat.mul_comm,Nat.two_pow_add_eq_or_of_lt hr]
theorem qiR {x y r:Nat} (hr:x<2^r):x ||| y*2^r=y*2^r+x:=by rw [Nat.or_comm];exact qeN hr
theorem qcr (a b:Nat) (k:Nat) (hb:b=2^k-1) (ha:a<18446744073709551616) (hk:b<18446744073709551616):qB .and .u64 (a:Int) (b:Int)=((a % 2^k:Nat):Int):=by
 rw [qsQ a b ha hk,hb,and_mask]
theorem qxL (a:Nat) (ha:a<9223372036854775808):qB .or .u64 (a:Int) 9223372036854775808=((9223372036854775808+a:Nat):Int):=by
 have:=qcq a 9223372036854775808 (by omega) (by omega)
 rw [show ((9223372036854775808:Nat):Int)=9223372036854775808 from rfl] at this
 rw [this]
 have h:=qiR (x:=a) (y:=1) (r:=63) (by omega)
 rw [show (1*2^63:Nat)=9223372036854775808 from rfl] at h
 rw [h]
theorem qho (a:Nat) (ha:a<18446744073709551616):qB .andNot .u64 (a:Int) 9223372036854775808=((a % 9223372036854775808:Nat):Int):=by
 have:=qkW a 9223372036854775808 ha (by omega)
 rw [show ((9223372036854775808:Nat):Int)=9223372036854775808 from rfl] at this
 rw [this]
 have h:=and_mask a 63
 rw [show (2^63-1:Nat)=18446744073709551615-9223372036854775808 from rfl,show (2^63:Nat)=9223372036854775808 from rfl] at h
 rw [h]
theorem qxM (a:Nat) (ha:a<18446744073709551616):qB .xor .u64 (a:Int) 9223372036854775808=((if a<9223372036854775808 then 9223372036854775808+a else a % 9223372036854775808:Nat):Int):=by
 have:=qsR a 9223372036854775808 ha (by omega)
 rw [show ((9223372036854775808:Nat):Int)=9223372036854775808 from rfl] at this
 rw [this]
 congr 1
 split
 · rename_i h
   have h1:=qiR (x:=a) (y:=1) (r:=63) (by omega)
   have h2:a ^^^ 9223372036854775808=a ||| 9223372036854775808:=by
    apply Nat.eq_of_testBit_eq
    intro i
    rw [Nat.testBit_xor,Nat.testBit_or,show (9223372036854775808:Nat)=2^63 from rfl,Nat.testBit_two_pow]
    by_cases hi:63=i
    · subst hi
      have:a.testBit 63=false:=Nat.testBit_lt_two_pow (by omega)
      simp [this]
    · simp [hi]
   rw [h2,show (9223372036854775808:Nat)=1*2^63 from rfl,h1]
 · rename_i h
   have hm:a % 9223372036854775808<2^63:=Nat.mod_lt _ (by decide)
   have hb:a=9223372036854775808+a % 9223372036854775808:=by omega
   have h1:=qiR (x:=a % 9223372036854775808) (y:=1) (r:=63) hm
   generalize a % 9223372036854775808=c at *
   subst hb
   rw [show (1*2^63:Nat)=9223372036854775808 from rfl] at h1
   rw [← h1]
   apply Nat.eq_of_testBit_eq
   intro i
   rw [Nat.testBit_xor,Nat.testBit_or,show (9223372036854775808:Nat)=2^63 from rfl,Nat.testBit_two_pow]
   by_cases hi:63=i
   · subst hi
     have:c.testBit 63=false:=Nat.testBit_lt_two_pow hm
     simp [this]
   · simp [hi]
theorem JE (x k:Nat):Int.fdiv (x:Int) (2^k)=((x / 2^k:Nat):Int):=by
 have h:((2:Int)^k)=((2^k:Nat):Int):=by simp
 rw [h,Int.fdiv_eq_ediv_of_nonneg _ (Int.natCast_nonneg _)];rfl
end Su
end
section
namespace Su
open Go Fly
def bS (f:Nat):Bool:=Nat.ble 9223372036854775808 f
def bK (f:Nat):Nat:=f % 9223372036854775808
def qD (k:Nat):Nat:=bif Nat.beq k 9218868437227405312 then 3 else bif Nat.ble 9218868437227405313 k then 4 else bif Nat.beq k 0 then 0 else bif Nat.ble 4503599627370496 k then 2 else 1
def qO (k:Nat):Bool:=Nat.ble 9218868437227405313 k
def jK (k:Nat):Bool:=Nat.ble k 9218868437227405311
def spM (k:Nat):Nat:=bif jK k then kM k else 0
def spE (k:Nat):Int:=bif jK k&&!Nat.beq k 0 then (kE k:Int)-1074 else 0
def JF (f:Nat):Int:=bif bS f then -(bK f:Int) else (bK f:Int)
def qxN (a b:Int):Int:=bif decide (a<b) then -1 else bif decide (b<a) then 1 else 0
def qgA (a b:Nat):Bool:=!(qO (bK a)||qO (bK b))
def qgB (a b:Nat):Int:=bif qO (bK a)||qO (bK b) then 0 else qxN (JF a) (JF b)
def Q3 (a b:Nat):Bool:=qgA a b&&decide (qgB a b<0)
def jU (f:Nat):Nat:=bif qO (bK f) then f else bif bS f then bK f else 9223372036854775808+f
def YK (f:Nat):Nat:=bif qO (bK f) then f else bK f
theorem beq_dec (a b:Nat):Nat.beq a b=decide (a=b):=by
 cases h:Nat.beq a b with
 | true=>simp [Nat.eq_of_beq_eq_true h]
 | false=>symm;simp;intro e;subst e;simp at h
theorem qcs (a b:Nat):Nat.ble a b=decide (a≤b):=by
 cases h:Nat.ble a b with
 | true=>have:=Nat.le_of_ble_eq_true h;simp [this]
 | false=>symm;simp;exact Nat.lt_of_not_le fun e=>by rw [Nat.ble_eq_true_of_le e] at h;cases h
theorem qct {α:Type} (p:Prop) [Decidable p] (x y:α):(bif decide p then x else y)=if p then x else y:=by by_cases h:p <;> simp [h]
theorem qxO {e f:Nat} (he:e≤2047) (hf:f<4503599627370496):qD (e*4503599627370496+f)=if e=2047 then (if f=0 then 3 else 4) else if e=0 then (if f=0 then 0 else 1) else 2:=by
 unfold qD
 simp only [beq_dec,qcs,qct]
 (repeat' split) <;> omega
theorem ZK {f:Nat}:bS f=true↔9223372036854775808≤f:=by unfold bS;rw [Nat.ble_eq]
theorem Yz {f:Nat}:bS f=false↔f<9223372036854775808:=by
 cases h:bS f with
 | true=>have:=ZK.1 h;simp;omega
 | false=>simp;refine Nat.lt_of_not_le fun h'=>?_;rw [ZK.2 h'] at h;cases h
theorem qcu {k:Nat}:qO k=true↔9218868437227405313≤k:=by unfold qO;rw [Nat.ble_eq]
theorem YA {k:Nat}:qO k=false↔k≤9218868437227405312:=by
 cases h:qO k with
 | true=>have:=qcu.1 h;simp;omega
 | false=>simp;refine Nat.le_of_lt_succ (Nat.lt_of_not_le fun h'=>?_);rw [qcu.2 h'] at h;cases h
theorem jH {k:Nat}:jK k=true↔k≤9218868437227405311:=by unfold jK;rw [Nat.ble_eq]
theorem qkX {k:Nat}:jK k=false↔9218868437227405312≤k:=by
 cases h:jK k with
 | true=>have:=jH.1 h;simp;omega
 | false=>simp;refine Nat.le_of_not_lt fun h'=>?_;rw [jH.2 (by omega)] at h;cases h
theorem qfX (f:Nat):bK f<9223372036854775808:=Nat.mod_lt _ (by decide)
theorem qxP {f:Nat} (h:f<18446744073709551616):f=sgN (bS f)+bK f:=by
 unfold sgN bK
 cases hs:bS f with
 | true=>have:=ZK.1 hs;simp;omega
 | false=>have:=Yz.1 hs;simp;omega
theorem bB {b:Bool} {p:Prop} [Decidable p] (h:b=true↔p):decide p=b:=by
 cases b <;> simp_all
theorem jf {f:Int} (h:inR .u64 f=true):∃ n:Nat,f=(n:Int)∧n<18446744073709551616:=by
 have:=Qj.1 h
 exact ⟨f.toNat,by omega,by omega⟩
theorem Zi (k:Nat):qD k=if k=9218868437227405312 then 3 else if 9218868437227405313≤k then 4 else if k=0 then 0 else if 4503599627370496≤k then 2 else 1:=by
 unfold qD
 simp only [beq_dec,qcs,qct]
theorem qbE (a b:Nat):decide ((a:Int)=(b:Int))=decide (a=b):=by
 by_cases h:a=b
 · simp [h]
 · rw [decide_eq_false h,decide_eq_false];omega
theorem qsS (k c:Nat):decide (((qD k:Nat):Int)=((c:Nat):Int))=decide (qD k=c):=qbE _ _
theorem qeO (k:Nat):decide (((qD k:Nat):Int)=4)=qO k:=by
 refine bB ?_
 rw [qcu,Zi]
 (repeat' split) <;> constructor <;> intro h <;> first | omega | (exfalso;omega)
theorem qiS (k:Nat):decide (((qD k:Nat):Int)=3)=Nat.beq k 9218868437227405312:=by
 rw [beq_dec]
 refine bB ?_
 rw [decide_eq_true_iff,Zi]
 (repeat' split) <;> constructor <;> intro h <;> first | omega | (exfalso;omega)
theorem qfY (k:Nat):decide (((qD k:Nat):Int)=0)=Nat.beq k 0:=by
 rw [beq_dec]
 refine bB ?_
 rw [decide_eq_true_iff,Zi]
 (repeat' split) <;> constructor <;> intro h <;> first | omega | (exfalso;omega)
theorem qom (k:Nat):(!(decide (((qD k:Nat):Int)=3))&&!(decide (((qD k:Nat):Int)=4)))=jK k:=by
 rw [qiS,qeO]
 cases h:jK k with
 | true =>
  have:=jH.1 h
  rw [show qO k=false from YA.2 (by omega),beq_dec,decide_eq_false (by omega)];rfl
 | false =>
  have:=qkX.1 h
  by_cases e:k=9218868437227405312
  · subst e;rfl
  · rw [show qO k=true from qcu.2 (by omega)];simp
theorem qxQ {f:Nat} (h:f<18446744073709551616):jU f<18446744073709551616:=by
 have hl:=qfX f
 unfold jU
 cases qO (bK f) with
 | true=>exact h
 | false =>
  cases hs:bS f with
  | true=>rw [cond_false,cond_true];omega
  | false=>have:=Yz.1 hs;rw [cond_false,cond_false];omega
theorem qCw {f:Nat} (h:f<18446744073709551616):bK (jU f)=bK f:=by
 unfold jU
 cases qO (bK f) with
 | true=>rfl
 | false =>
  cases hs:bS f with
  | true=>rw [cond_false,cond_true];unfold bK;omega
  | false=>have:=Yz.1 hs;rw [cond_false,cond_false];unfold bK;omega
theorem qCx {f:Nat} (h:f<18446744073709551616) (hn:qO (bK f)=false):bS (jU f) = !bS f:=by
 have hl:=qfX f
 unfold jU
 rw [hn,cond_false]
 cases hs:bS f with
 | true=>rw [cond_true,Bool.not_true];exact Yz.2 hl
 | false=>have:=Yz.1 hs;rw [cond_false,Bool.not_false];exact ZK.2 (by omega)
def Zj (a b:Nat):Nat:=bif qO (bK a)||qO (bK b) then 9221120237041090560 else bif Q3 a b then b else a
def qsT (a b:Nat):Nat:=bif qO (bK a)||qO (bK b) then 9221120237041090560 else bif Q3 b a then b else a
end Su
end
