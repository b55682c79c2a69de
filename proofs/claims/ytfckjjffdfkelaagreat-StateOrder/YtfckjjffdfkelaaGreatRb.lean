/-
  Bits and rounding, in plain Lean. No condition.
-/
import Derived.Test.YtfckjjffdfkelaaGreatSuSd
set_option maxRecDepth 10000
section
namespace Su
open Go Fly
def qt (n:Nat):Nat:=if n=0 then 0 else n.log2+1
theorem qyI {n k:Nat} (h0:2^k≤n) (h1:n<2^(k+1)):qt n=k+1:=by
 have hn:n≠0:=fun e=>by subst e;have:=Nat.two_pow_pos k;omega
 have a:=(Nat.le_log2 hn).2 h0
 have b:=(Nat.log2_lt hn).2 h1
 simp only [qt,hn,if_false];omega
theorem qen {n:Nat} (hn:n≠0):2^(qt n-1)≤n:=by
 simp only [qt,hn,if_false,Nat.add_sub_cancel]
 exact (Nat.le_log2 hn).1 (Nat.le_refl _)
theorem qbI (n:Nat):n<2^qt n:=by
 by_cases hn:n=0
 · subst hn;decide
 · simp only [qt,hn,if_false]
   exact (Nat.log2_lt hn).1 (by omega)
theorem Jb {n:Nat} (hn:n≠0):0<qt n:=by simp only [qt,hn,if_false];omega
theorem jR {n k:Nat}:qt n≤k↔n<2^k:=by
 constructor
 · intro h;exact Nat.lt_of_lt_of_le (qbI n) (Nat.pow_le_pow_right (by omega) h)
 · intro h
   by_cases hn:n=0
   · subst hn;simp [qt]
   · have h1:=qen hn
     have:qt n-1<k:=by
      refine (Nat.pow_lt_pow_iff_right (a:=2) (by omega)).1 (Nat.lt_of_le_of_lt h1 h)
     have:=Jb hn;omega
theorem Jc {n k:Nat} (h:2^k≤n):qt n=k+qt (n / 2^k):=by
 have hp:=Nat.two_pow_pos k
 have hq:n / 2^k≠0:=by have:=Nat.div_pos h hp;omega
 have h1:=qen hq
 have h2:=qbI (n / 2^k)
 have h3:=Jb hq
 have e:=Nat.div_add_mod n (2^k)
 have hm:=Nat.mod_lt n hp
 have a1:2^(k+(qt (n / 2^k)-1))≤n:=by
  rw [Nat.pow_add]
  calc 2^k*2^(qt (n / 2^k)-1)≤2^k*(n / 2^k):=Nat.mul_le_mul_left _ h1
   _≤n:=Nat.mul_div_le n _
 have a2:n<2^(k+(qt (n / 2^k)-1)+1):=by
  have:k+(qt (n / 2^k)-1)+1=k+qt (n / 2^k):=by omega
  rw [this,Nat.pow_add]
  have:2^k*(n / 2^k+1)≤2^k*2^qt (n / 2^k):=Nat.mul_le_mul_left _ h2
  rw [Nat.mul_add] at this
  omega
 rw [qyI a1 a2];omega
def Qq (a b:Nat):Int:=if a<b then -1 else if a=b then 0 else 1
end Su
end
section
namespace Su
open Go Fly
def kM (k:Nat):Nat:=if k / 4503599627370496=0 then k % 4503599627370496 else k % 4503599627370496+4503599627370496
def kE (k:Nat):Nat:=k / 4503599627370496-1
def kV (k:Nat):Nat:=kM k*2^kE k
@[irreducible] def SH:Nat:=4926
theorem qHw:SH=4926:=by unfold SH;rfl
theorem qfv {M:Nat} (h:M≠0):Nat.beq M 0=false:=by
 cases hb:Nat.beq M 0 with
 | false=>rfl
 | true=>exact absurd (Nat.eq_of_beq_eq_true hb) h
def qN (M E:Nat):Nat:=qt M+E-53-SH
def jC (M E:Nat):Nat:=M*2^(E-(qN M E+SH)) / 2^(qN M E+SH-E)
def Yy (M E:Nat):Nat:=4503599627370496*qN M E+jC M E
theorem qmS (M E:Nat):Yy M E=qN M E*4503599627370496+jC M E:=by unfold Yy;rw [Nat.mul_comm]
theorem qyJ (M E:Nat):jC M E<9007199254740992:=by
 unfold jC
 have hb:=qbI M
 rw [Nat.div_lt_iff_lt_mul (Nat.two_pow_pos _)]
 have h1:M*2^(E-(qN M E+SH))<2^qt M*2^(E-(qN M E+SH)):=Nat.mul_lt_mul_of_pos_right hb (Nat.two_pow_pos _)
 refine Nat.lt_of_lt_of_le h1 ?_
 rw [show (9007199254740992:Nat)=2^53 from rfl,← Nat.pow_add,← Nat.pow_add]
 refine Nat.pow_le_pow_right (by omega) ?_
 unfold qN;omega
theorem qyK {M E:Nat} (hM:M≠0):4503599627370496≤jC M E∨qN M E=0:=by
 by_cases h:qN M E=0
 · exact .inr h
 · refine .inl ?_
   unfold jC
   have hb:=qen hM
   have hp:=Jb hM
   rw [Nat.le_div_iff_mul_le (Nat.two_pow_pos _)]
   refine Nat.le_trans ?_ (Nat.mul_le_mul_right _ hb)
   rw [show (4503599627370496:Nat)=2^52 from rfl,← Nat.pow_add,← Nat.pow_add]
   refine Nat.pow_le_pow_right (by omega) ?_
   unfold qN at *;omega
def dN (M E:Nat):Nat:=qN M E+SH-E
def hfN (M E:Nat):Bool:=Nat.ble 1 (dN M E)&&M / 2^(dN M E-1) % 2 == 1
def rsN (M E:Nat):Bool:=Nat.ble 1 (dN M E)&&!(M % 2^(dN M E-1) == 0)
def awN (neg:Bool) (mode:Int):Bool:=bif neg then decide (mode=2) else decide (mode=1)
def twN (neg:Bool) (mode:Int):Bool:=bif neg then decide (mode=1) else decide (mode=2)
def upN (neg:Bool) (mode:Int) (odd half rest:Bool):Bool:=bif awN neg mode then half||rest else bif twN neg mode then false else half&&(rest||odd)
def sgN (neg:Bool):Nat:=bif neg then 9223372036854775808 else 0
def qkV:Nat:=9218868437227405311
def qtb (tw:Bool) (k:Nat):Nat:=bif Nat.ble k qkV then k else bif tw then qkV else qkV+1
def RN (neg:Bool) (mode:Int) (M E:Nat) (rest:Bool):Nat :=
 sgN neg+bif Nat.beq M 0 then 0 else qtb (twN neg mode) (Yy M E+(upN neg mode (jC M E % 2 == 1) (hfN M E) (rest||rsN M E)).toNat)
theorem qHx {M E t:Nat} (h:M / 2^t≠0):qN (M / 2^t) (E+t)=qN M E:=by
 have hp:=Nat.two_pow_pos t
 have:2^t≤M:=by
  refine Nat.le_of_not_lt fun hlt=>h (Nat.div_eq_of_lt hlt)
 have:=Jc this
 unfold qN;omega
theorem qdW {M a b:Nat} (h:a≤b) (hM:M % 2^b=0):M % 2^a=0:=by
 have:2^a ∣ 2^b:=Nat.pow_dvd_pow 2 h
 exact Nat.mod_eq_zero_of_dvd (Nat.dvd_trans this (Nat.dvd_of_mod_eq_zero hM))
theorem qtc {neg:Bool} {mode:Int} {M E t:Nat} (h0:M / 2^t≠0) (h:54≤qt (M / 2^t)∨M % 2^t=0):RN neg mode (M / 2^t) (E+t) (!(M % 2^t == 0))=RN neg mode M E false:=by
 have hq:=qHx (E:=E) h0
 have hM:M≠0:=fun e=>h0 (by subst e;simp)
 have key:jC (M / 2^t) (E+t)=jC M E∧hfN (M / 2^t) (E+t)=hfN M E∧(!(M % 2^t == 0)||rsN (M / 2^t) (E+t))=rsN M E:=by
  by_cases hd:dN (M / 2^t) (E+t)=0
  · have hmod:M % 2^t=0:=by
     rcases h with h | h
     · unfold dN qN at hd;omega
     · exact h
    have e1:hfN (M / 2^t) (E+t)=false:=by unfold hfN;rw [hd];rfl
    have e4:rsN (M / 2^t) (E+t)=false:=by unfold rsN;rw [hd];rfl
    rw [e1,e4,hmod]
    have hMe:M=M / 2^t*2^t:=by have:=Nat.div_add_mod M (2^t);rw [hmod,Nat.mul_comm] at this;omega
    unfold dN at hd;rw [hq] at hd
    have k1:jC (M / 2^t) (E+t)=M / 2^t*2^(E+t-(qN M E+SH)):=by unfold jC;rw [hq,hd];simp
    rw [k1]
    by_cases hd2:dN M E=0
    · have e5:hfN M E=false:=by unfold hfN;rw [hd2];rfl
      have e6:rsN M E=false:=by unfold rsN;rw [hd2];rfl
      rw [e5,e6]
      refine ⟨?_,rfl,rfl⟩
      unfold dN at hd2
      unfold jC
      rw [hd2,Nat.pow_zero,Nat.div_one]
      generalize qN M E=q at *
      conv=>rhs;rw [hMe]
      rw [Nat.mul_assoc,← Nat.pow_add]
      congr 2;omega
    · obtain ⟨d,hd'⟩:∃ d,dN M E=d+1:=⟨dN M E-1,by omega⟩
      have e5:hfN M E=(M / 2^d % 2 == 1):=by unfold hfN;rw [hd'];rfl
      have e6:rsN M E = !(M % 2^d == 0):=by unfold rsN;rw [hd'];rfl
      have k2:jC M E=M / 2^(d+1):=by unfold jC;unfold dN at hd';rw [hd'];rw [show E-(qN M E+SH)=0 by omega];simp
      unfold dN at hd'
      have m1:M % 2^d=0:=qdW (by omega) hmod
      have m2:M % 2^(d+1)=0:=qdW (by omega) hmod
      rw [e5,e6,k2,m1]
      have hv:=Nat.div_add_mod M (2^(d+1))
      rw [m2] at hv
      refine ⟨?_,?_,rfl⟩
      · refine Nat.eq_of_mul_eq_mul_right (Nat.two_pow_pos (d+1)) ?_
        rw [Nat.mul_assoc,← Nat.pow_add,show E+t-(qN M E+SH)+(d+1)=t by omega,← hMe,Nat.mul_comm]
        omega
      · have:M / 2^d=2*(M / 2^(d+1)):=by
         conv=>lhs;rw [← hv]
         rw [Nat.add_zero,Nat.pow_succ,Nat.mul_assoc,Nat.mul_div_cancel_left _ (Nat.two_pow_pos d)]
        rw [this]
        rw [Nat.mul_mod_right];rfl
  · obtain ⟨d,hd'⟩:∃ d,dN (M / 2^t) (E+t)=d+1:=⟨dN (M / 2^t) (E+t)-1,by omega⟩
    have hd2:dN M E=t+d+1:=by unfold dN at *;rw [hq] at hd';omega
    have e1:hfN (M / 2^t) (E+t)=(M / 2^t / 2^d % 2 == 1):=by unfold hfN;rw [hd'];rfl
    have e4:rsN (M / 2^t) (E+t) = !(M / 2^t % 2^d == 0):=by unfold rsN;rw [hd'];rfl
    have k1:jC (M / 2^t) (E+t)=M / 2^t / 2^(d+1):=by unfold jC;unfold dN at hd';rw [hd'];rw [show E+t-(qN (M / 2^t) (E+t)+SH)=0 by omega];simp
    have e5:hfN M E=(M / 2^(t+d) % 2 == 1):=by unfold hfN;rw [hd2];rfl
    have e6:rsN M E = !(M % 2^(t+d) == 0):=by unfold rsN;rw [hd2];rfl
    have k2:jC M E=M / 2^(t+d+1):=by unfold jC;unfold dN at hd2;rw [hd2];rw [show E-(qN M E+SH)=0 by omega];simp
    rw [e1,e4,k1,e5,e6,k2,Nat.div_div_eq_div_mul,Nat.div_div_eq_div_mul,← Nat.pow_add,← Nat.pow_add]
    refine ⟨rfl,rfl,?_⟩
    rw [Nat.pow_add,Nat.mod_mul]
    have hp:=Nat.two_pow_pos t
    generalize M % 2^t=a
    generalize M / 2^t % 2^d=b
    generalize 2^t=D at hp
    cases a with
    | zero =>
     cases b with
     | zero=>rfl
     | succ b =>
      have:0<D*(b+1):=Nat.mul_pos hp (by omega)
      have e:(0+D*(b+1) == 0)=false:=by simp;omega
      rw [e];rfl
    | succ a =>
     have e:(a+1+D*b == 0)=false:=by simp
     rw [e];rfl
 obtain ⟨k1,k2,k3⟩:=key
 have hf:Yy (M / 2^t) (E+t)=Yy M E:=by unfold Yy;rw [hq,k1]
 have b1:Nat.beq (M / 2^t) 0=false:=qfv h0
 have b2:Nat.beq M 0=false:=qfv hM
 unfold RN
 rw [b1,b2,hf,k1,k2,k3,Bool.false_or]
noncomputable def rndL:{f:Bool→Int→Nat→Int→Bool→Nat // ∀ neg mode M e rest,f neg mode M e rest=RN neg mode M (min (max e (-5000)) 5000+6000).toNat (rest&&decide (53<qt M))}:=Classical.choice ⟨⟨_,fun _ _ _ _ _=>rfl⟩⟩
noncomputable def rnd (neg:Bool) (mode:Int) (M:Nat) (e:Int) (rest:Bool):Nat:=rndL.1 neg mode M e rest
theorem qfw (neg:Bool) (mode:Int) (M:Nat) (e:Int) (rest:Bool):rnd neg mode M e rest=RN neg mode M (min (max e (-5000)) 5000+6000).toNat (rest&&decide (53<qt M)):=rndL.2 neg mode M e rest
theorem qbJ (neg:Bool) (mode:Int) (E:Nat) (rest:Bool):RN neg mode 0 E rest=sgN neg:=by unfold RN;rw [show Nat.beq 0 0=true from rfl,cond_true,Nat.add_zero]
end Su
end
section
namespace Su
open Go Fly
theorem yk (a:Nat) (h:a<18446744073709551616):(BitVec.ofInt 64 (a:Int)).toNat=a:=by
 simp;omega
theorem qtd (a b:Nat) (ha:a<18446744073709551616) (hb:b<18446744073709551616):qE .and .u64 (a:Int) (b:Int)=((a &&& b:Nat):Int):=by
 have h:a &&& b<2^64:=Nat.and_lt_two_pow a (by omega)
 show IntKind.u64.wrap (((BitVec.ofInt 64 (a:Int) &&& BitVec.ofInt 64 (b:Int)).toNat:Nat):Int)=_
 rw [BitVec.toNat_and,yk a ha,yk b hb]
 exact js (by omega) (by omega)
theorem qbK (a b:Nat) (ha:a<18446744073709551616) (hb:b<18446744073709551616):qE .or .u64 (a:Int) (b:Int)=((a ||| b:Nat):Int):=by
 have h:a ||| b<2^64:=Nat.or_lt_two_pow (by omega) (by omega)
 show IntKind.u64.wrap (((BitVec.ofInt 64 (a:Int) ||| BitVec.ofInt 64 (b:Int)).toNat:Nat):Int)=_
 rw [BitVec.toNat_or,yk a ha,yk b hb]
 exact js (by omega) (by omega)
theorem qte (a b:Nat) (ha:a<18446744073709551616) (hb:b<18446744073709551616):qE .xor .u64 (a:Int) (b:Int)=((a ^^^ b:Nat):Int):=by
 have h:a ^^^ b<2^64:=Nat.xor_lt_two_pow (by omega) (by omega)
 show IntKind.u64.wrap (((BitVec.ofInt 64 (a:Int) ^^^ BitVec.ofInt 64 (b:Int)).toNat:Nat):Int)=_
 rw [BitVec.toNat_xor,yk a ha,yk b hb]
 exact js (by omega) (by omega)
theorem qkW (a b:Nat) (ha:a<18446744073709551616) (hb:b<18446744073709551616):qE .andNot .u64 (a:Int) (b:Int)=((a &&& (18446744073709551615-b):Nat):Int):=by
 have h:a &&& (18446744073709551615-b)<2^64:=Nat.and_lt_two_pow a (by omega)
 show IntKind.u64.wrap (((BitVec.ofInt 64 (a:Int) &&& ~~~(BitVec.ofInt 64 (b:Int))).toNat:Nat):Int)=_
 rw [BitVec.toNat_and,BitVec.toNat_not,yk a ha,yk b hb]
 have e:2^64-1-b=18446744073709551615-b:=by omega
 rw [e]
 exact js (by omega) (by omega)
theorem and_mask (a k:Nat):a &&& (2^k-1)=a % 2^k:=Nat.and_two_pow_sub_one_eq_mod a k
theorem qeo {x y r:Nat} (hr:x<2^r):y*2^r ||| x=y*2^r+x:=by
 rw [Nat.mul_comm,Nat.two_pow_add_eq_or_of_lt hr]
theorem qiN {x y r:Nat} (hr:x<2^r):x ||| y*2^r=y*2^r+x:=by rw [Nat.or_comm];exact qeo hr
theorem qbL (a b:Nat) (k:Nat) (hb:b=2^k-1) (ha:a<18446744073709551616) (hk:b<18446744073709551616):qE .and .u64 (a:Int) (b:Int)=((a % 2^k:Nat):Int):=by
 rw [qtd a b ha hk,hb,and_mask]
theorem qyL (a:Nat) (ha:a<9223372036854775808):qE .or .u64 (a:Int) 9223372036854775808=((9223372036854775808+a:Nat):Int):=by
 have:=qbK a 9223372036854775808 (by omega) (by omega)
 rw [show ((9223372036854775808:Nat):Int)=9223372036854775808 from rfl] at this
 rw [this]
 have h:=qiN (x:=a) (y:=1) (r:=63) (by omega)
 rw [show (1*2^63:Nat)=9223372036854775808 from rfl] at h
 rw [h]
theorem qg7 (a:Nat) (ha:a<18446744073709551616):qE .andNot .u64 (a:Int) 9223372036854775808=((a % 9223372036854775808:Nat):Int):=by
 have:=qkW a 9223372036854775808 ha (by omega)
 rw [show ((9223372036854775808:Nat):Int)=9223372036854775808 from rfl] at this
 rw [this]
 have h:=and_mask a 63
 rw [show (2^63-1:Nat)=18446744073709551615-9223372036854775808 from rfl,show (2^63:Nat)=9223372036854775808 from rfl] at h
 rw [h]
theorem qyM (a:Nat) (ha:a<18446744073709551616):qE .xor .u64 (a:Int) 9223372036854775808=((if a<9223372036854775808 then 9223372036854775808+a else a % 9223372036854775808:Nat):Int):=by
 have:=qte a 9223372036854775808 ha (by omega)
 rw [show ((9223372036854775808:Nat):Int)=9223372036854775808 from rfl] at this
 rw [this]
 congr 1
 split
 · rename_i h
   have h1:=qiN (x:=a) (y:=1) (r:=63) (by omega)
   have h2:a ^^^ 9223372036854775808=a ||| 9223372036854775808:=by
    apply Nat.eq_of_testBit_eq
    intro i
    rw [Nat.testBit_xor,Nat.testBit_or,show (9223372036854775808:Nat)=2^63 from rfl,Nat.testBit_two_pow]
    by_cases hi:63=i
    · subst hi
      have:a.testBit 63=false:=Nat.testBit_lt_two_pow (by omega)
      simp [this]
    · simp [hi]
   rw [h2,show (9223372036854775808:Nat)=1*2^63 from rfl,h1]
 · rename_i h
   have hm:a % 9223372036854775808<2^63:=Nat.mod_lt _ (by decide)
   have hb:a=9223372036854775808+a % 9223372036854775808:=by omega
   have h1:=qiN (x:=a % 9223372036854775808) (y:=1) (r:=63) hm
   generalize a % 9223372036854775808=c at *
   subst hb
   rw [show (1*2^63:Nat)=9223372036854775808 from rfl] at h1
   rw [← h1]
   apply Nat.eq_of_testBit_eq
   intro i
   rw [Nat.testBit_xor,Nat.testBit_or,show (9223372036854775808:Nat)=2^63 from rfl,Nat.testBit_two_pow]
   by_cases hi:63=i
   · subst hi
     have:c.testBit 63=false:=Nat.testBit_lt_two_pow hm
     simp [this]
   · simp [hi]
theorem Jd (x k:Nat):Int.fdiv (x:Int) (2^k)=((x / 2^k:Nat):Int):=by
 have h:((2:Int)^k)=((2^k:Nat):Int):=by simp
 rw [h,Int.fdiv_eq_ediv_of_nonneg _ (Int.natCast_nonneg _)];rfl
end Su
end
section
namespace Su
open Go Fly
def bS (f:Nat):Bool:=Nat.ble 9223372036854775808 f
def bK (f:Nat):Nat:=f % 9223372036854775808
def qF (k:Nat):Nat:=bif Nat.beq k 9218868437227405312 then 3 else bif Nat.ble 9218868437227405313 k then 4 else bif Nat.beq k 0 then 0 else bif Nat.ble 4503599627370496 k then 2 else 1
def qU (k:Nat):Bool:=Nat.ble 9218868437227405313 k
def jS (k:Nat):Bool:=Nat.ble k 9218868437227405311
def spM (k:Nat):Nat:=bif jS k then kM k else 0
def spE (k:Nat):Int:=bif jS k&&!Nat.beq k 0 then (kE k:Int)-1074 else 0
def yW (f:Nat):Int:=bif bS f then -(bK f:Int) else (bK f:Int)
def qyN (a b:Int):Int:=bif decide (a<b) then -1 else bif decide (b<a) then 1 else 0
def qgl (a b:Nat):Bool:=!(qU (bK a)||qU (bK b))
def qkX (a b:Nat):Int:=bif qU (bK a)||qU (bK b) then 0 else qyN (yW a) (yW b)
def yL (a b:Nat):Bool:=qgl a b&&decide (qkX a b<0)
def qaR (f:Nat):Nat:=bif qU (bK f) then f else bif bS f then bK f else 9223372036854775808+f
def qfx (f:Nat):Nat:=bif qU (bK f) then f else bK f
theorem beq_dec (a b:Nat):Nat.beq a b=decide (a=b):=by
 cases h:Nat.beq a b with
 | true=>simp [Nat.eq_of_beq_eq_true h]
 | false=>symm;simp;intro e;subst e;simp at h
theorem qbM (a b:Nat):Nat.ble a b=decide (a≤b):=by
 cases h:Nat.ble a b with
 | true=>have:=Nat.le_of_ble_eq_true h;simp [this]
 | false=>symm;simp;exact Nat.lt_of_not_le fun e=>by rw [Nat.ble_eq_true_of_le e] at h;cases h
theorem qbN {α:Type} (p:Prop) [Decidable p] (x y:α):(bif decide p then x else y)=if p then x else y:=by by_cases h:p <;> simp [h]
theorem qog {e f:Nat} (he:e≤2047) (hf:f<4503599627370496):qF (e*4503599627370496+f)=if e=2047 then (if f=0 then 3 else 4) else if e=0 then (if f=0 then 0 else 1) else 2:=by
 unfold qF
 simp only [beq_dec,qbM,qbN]
 (repeat' split) <;> omega
theorem qaS {f:Nat}:bS f=true↔9223372036854775808≤f:=by unfold bS;rw [Nat.ble_eq]
theorem qfy {f:Nat}:bS f=false↔f<9223372036854775808:=by
 cases h:bS f with
 | true=>have:=qaS.1 h;simp;omega
 | false=>simp;refine Nat.lt_of_not_le fun h'=>?_;rw [qaS.2 h'] at h;cases h
theorem qbO {k:Nat}:qU k=true↔9218868437227405313≤k:=by unfold qU;rw [Nat.ble_eq]
theorem J4 {k:Nat}:qU k=false↔k≤9218868437227405312:=by
 cases h:qU k with
 | true=>have:=qbO.1 h;simp;omega
 | false=>simp;refine Nat.le_of_lt_succ (Nat.lt_of_not_le fun h'=>?_);rw [qbO.2 h'] at h;cases h
theorem j9 {k:Nat}:jS k=true↔k≤9218868437227405311:=by unfold jS;rw [Nat.ble_eq]
theorem qkY {k:Nat}:jS k=false↔9218868437227405312≤k:=by
 cases h:jS k with
 | true=>have:=j9.1 h;simp;omega
 | false=>simp;refine Nat.le_of_not_lt fun h'=>?_;rw [j9.2 (by omega)] at h;cases h
theorem qfz (f:Nat):bK f<9223372036854775808:=Nat.mod_lt _ (by decide)
theorem bB {b:Bool} {p:Prop} [Decidable p] (h:b=true↔p):decide p=b:=by
 cases b <;> simp_all
theorem qO {f:Int} (h:inR .u64 f=true):∃ n:Nat,f=(n:Int)∧n<18446744073709551616:=by
 have:=Qa.1 h
 exact ⟨f.toNat,by omega,by omega⟩
theorem Zi (k:Nat):qF k=if k=9218868437227405312 then 3 else if 9218868437227405313≤k then 4 else if k=0 then 0 else if 4503599627370496≤k then 2 else 1:=by
 unfold qF
 simp only [beq_dec,qbM,qbN]
theorem JI (a b:Nat):decide ((a:Int)=(b:Int))=decide (a=b):=by
 by_cases h:a=b
 · simp [h]
 · rw [decide_eq_false h,decide_eq_false];omega
theorem qmT (k c:Nat):decide (((qF k:Nat):Int)=((c:Nat):Int))=decide (qF k=c):=JI _ _
theorem Z0 (k:Nat):decide (((qF k:Nat):Int)=4)=qU k:=by
 refine bB ?_
 rw [qbO,Zi]
 (repeat' split) <;> constructor <;> intro h <;> first | omega | (exfalso;omega)
theorem qiO (k:Nat):decide (((qF k:Nat):Int)=3)=Nat.beq k 9218868437227405312:=by
 rw [beq_dec]
 refine bB ?_
 rw [decide_eq_true_iff,Zi]
 (repeat' split) <;> constructor <;> intro h <;> first | omega | (exfalso;omega)
theorem Zj (k:Nat):decide (((qF k:Nat):Int)=0)=Nat.beq k 0:=by
 rw [beq_dec]
 refine bB ?_
 rw [decide_eq_true_iff,Zi]
 (repeat' split) <;> constructor <;> intro h <;> first | omega | (exfalso;omega)
theorem qiP (k:Nat):(!(decide (((qF k:Nat):Int)=3))&&!(decide (((qF k:Nat):Int)=4)))=jS k:=by
 rw [qiO,Z0]
 cases h:jS k with
 | true =>
  have:=j9.1 h
  rw [show qU k=false from J4.2 (by omega),beq_dec,decide_eq_false (by omega)];rfl
 | false =>
  have:=qkY.1 h
  by_cases e:k=9218868437227405312
  · subst e;rfl
  · rw [show qU k=true from qbO.2 (by omega)];simp
theorem qyO {f:Nat} (h:f<18446744073709551616):qaR f<18446744073709551616:=by
 have hl:=qfz f
 unfold qaR
 cases qU (bK f) with
 | true=>exact h
 | false =>
  cases hs:bS f with
  | true=>rw [cond_false,cond_true];omega
  | false=>have:=qfy.1 hs;rw [cond_false,cond_false];omega
def qfA (a b:Nat):Nat:=bif qU (bK a)||qU (bK b) then 9221120237041090560 else bif yL a b then b else a
def qiQ (a b:Nat):Nat:=bif qU (bK a)||qU (bK b) then 9221120237041090560 else bif yL b a then b else a
end Su
end
