/-
  Bits and rounding, in plain Lean. No condition.
-/
import Derived.Test.YtldhknmacepeiaaGreatDoorSuSd
set_option linter.unusedVariables false
set_option linter.unusedSimpArgs false
set_option maxRecDepth 10000
section
namespace Su
open Go Fly
def qj(n:Nat):Nat:=if n=0 then 0 else n.log2+1
theorem qgV{n k:Nat}(h0:2^k≤n)(h1:n<2^(k+1)):qj n=k+1:=by
 have hn:n≠0:=fun e=>by subst e;have:=zH k;omega
 have a:=(Nat.le_log2 hn).2 h0
 have b:=(Nat.log2_lt hn).2 h1
 simp only[qj,hn,WB];omega
theorem ZE{n:Nat}(hn:n≠0):2^(qj n-1)≤n:=by
 simp only[qj,hn,WB,KQ];exact(Nat.le_log2 hn).1 (zw _)
theorem yI(n:Nat):n<2^qj n:=by
 by_cases hn:n=0
 · subst hn;decide
 · simp only[qj,hn,WB]
   exact(Nat.log2_lt hn).1 (by omega)
theorem jE{n:Nat}(hn:n≠0):0<qj n:=by simp only[qj,hn,WB];omega
theorem j9{n k:Nat}:qj n≤k↔n<2^k:=by
 constructor
 · intro h;exact Kk (yI n) (Ka (by omega) h)
 · intro h
   by_cases hn:n=0
   · subst hn;simp[qj]
   · have h1:=ZE hn
     have:qj n-1<k:=by
      refine(Nat.pow_lt_pow_iff_right (a:=2) (by omega)).1 (KW h1 h)
     have:=jE hn;omega
theorem J0{n k:Nat}(h:2^k≤n):qj n=k+qj (n / 2^k):=by
 have hp:=zH k;have hq:n / 2^k≠0:=by have:=Nat.div_pos h hp;omega
 have h1:=ZE hq;have h2:=yI (n / 2^k)
 have h3:=jE hq;have e:=KG n (2^k)
 have hm:=Vf n hp;have a1:2^(k+(qj (n / 2^k)-1))≤n:=by
  rw[zP]
  calc 2^k*2^(qj (n / 2^k)-1)≤2^k*(n / 2^k):=zQ _ h1
   _≤n:=Nat.mul_div_le n _
 have a2:n<2^(k+(qj (n / 2^k)-1)+1):=by
  have:k+(qj (n / 2^k)-1)+1=k+qj (n / 2^k):=by omega
  rw[this,zP];have:2^k*(n / 2^k+1)≤2^k*2^qj (n / 2^k):=zQ _ h2
  rw[Kx]at this;omega
 rw[qgV a1 a2];omega
def jy(a b:Nat):Int:=if a<b then -1 else if a=b then 0 else 1
end Su
end
section
namespace Su
open Go Fly
def kM(k:Nat):Nat:=if k / 4503599627370496=0 then k % 4503599627370496 else k % 4503599627370496+4503599627370496
def kE(k:Nat):Nat:=k / 4503599627370496-1
def kV(k:Nat):Nat:=kM k*2^kE k
theorem qfG{q w:Nat}(hw:w≤9007199254740992)(h:4503599627370496≤w∨q=0):kV (q*4503599627370496+w)=w*2^q:=by
 unfold kV kM kE;by_cases h1:w<4503599627370496
 · have hq:q=0:=by omega
   subst hq;have e1:(0*4503599627370496+w) / 4503599627370496=0:=by omega
   have e2:(0*4503599627370496+w) % 4503599627370496=w:=by omega
   rw[zr e1,e1,e2]
 · by_cases h2:w<9007199254740992
   · have e1:(q*4503599627370496+w) / 4503599627370496=q+1:=by omega
     have e2:(q*4503599627370496+w) % 4503599627370496=w-4503599627370496:=by omega
     rw[zp (by omega),e1,e2,KQ,Nat.sub_add_cancel (by omega)]
   · have hw:w=9007199254740992:=by omega
     subst hw;have e1:(q*4503599627370496+9007199254740992) / 4503599627370496=q+2:=by omega
     have e2:(q*4503599627370496+9007199254740992) % 4503599627370496=0:=by omega
     rw[zp (by omega),e1,e2,show q+2-1=q+1 from rfl,zU];omega
theorem qis(k:Nat):∃q w,k=q*4503599627370496+w∧w<9007199254740992∧(4503599627370496≤w∨q=0):=by
 by_cases h:k / 4503599627370496=0
 · exact⟨0,k,by omega,by omega,.inr rfl⟩
 · exact⟨k / 4503599627370496-1,k % 4503599627370496+4503599627370496,by omega,by omega,by omega⟩
theorem qk9(k:Nat):kV k<kV (k+1):=by
 obtain⟨q,w,rfl,h1,h2⟩:=qis k;rw[Ku,qfG (by omega) h2,qfG (by omega) (by omega)];exact zY (by omega) (zH q)
theorem qo4{i j:Nat}(h:i<j):kV i<kV j:=by
 induction j with
 | zero=>omega
 | succ j ih=>
  by_cases e:i=j
  · subst e;exact qk9 i
  · exact Nat.lt_trans (ih (by omega)) (qk9 j)
theorem qit{i j:Nat}(h:i≤j):kV i≤kV j:=by
 by_cases e:i=j
 · subst e;exact zw _
 · exact Vm (qo4 (by omega))
@[irreducible] def SH:Nat:=4926
theorem qo5:SH=4926:=by unfold SH;rfl
theorem qo6:1≤SH:=by rw[qo5];decide
theorem qcV{M:Nat}(h:M≠0):Nat.beq M 0=false:=by
 cases hb:Nat.beq M 0 with
 | false=>rfl
 | true=>exact absurd (zh hb) h
def qN(M E:Nat):Nat:=qj M+E-53-SH
def yc(M E:Nat):Nat:=M*2^(E-(qN M E+SH)) / 2^(qN M E+SH-E)
def QA(M E:Nat):Nat:=4503599627370496*qN M E+yc M E
theorem Jp(M E:Nat):QA M E=qN M E*4503599627370496+yc M E:=by unfold QA;rw[zB]
theorem qa8(M E:Nat):yc M E<9007199254740992:=by
 unfold yc;have hb:=yI M;rw[Kw (zH _)];have h1:M*2^(E-(qN M E+SH))<2^qj M*2^(E-(qN M E+SH)):=zY hb (zH _)
 refine Kk h1 ?_
 rw[show(9007199254740992:Nat)=2^53 from rfl,← zP,← zP];refine Ka (by omega) ?_
 unfold qN;omega
theorem qa9{M E:Nat}(hM:M≠0):4503599627370496≤yc M E∨qN M E=0:=by
 by_cases h:qN M E=0
 · exact .inr h
 · refine .inl ?_
   unfold yc;have hb:=ZE hM;have hp:=jE hM;rw[V7 (zH _)];refine Ky ?_ (zu _ hb)
   rw[show(4503599627370496:Nat)=2^52 from rfl,← zP,← zP];refine Ka (by omega) ?_
   unfold qN at *;omega
theorem qo7{M E:Nat}(hM:M≠0):kV (QA M E)*2^SH≤M*2^E:=by
 rw[Jp,qfG (Vm (qa8 M E)) (qa9 hM)];unfold yc;generalize qN M E=q
 have h:=Nat.div_mul_le_self (M*2^(E-(q+SH))) (2^(q+SH-E))
 by_cases hq:q+SH≤E
 · rw[Wt hq,KS,Wm,zt,zt,← zP,← zP]
   rw[show E-(q+SH)+(q+SH)=E by omega];exact zw _
 · rw[Wt (by omega:E≤q+SH),KS,K8]at h ⊢
   have:M / 2^(q+SH-E)*2^q*2^SH=M / 2^(q+SH-E)*2^(q+SH-E)*2^E:=by
    rw[zt,zt,← zP,← zP]
    congr 2;omega
   rw[this];exact zu _ h
theorem qo8{M E:Nat}(hM:M≠0):M*2^E<kV (QA M E+1)*2^SH:=by
 rw[Jp];have hk:=qa8 M E;rw[Ku,qfG (by omega) (by rcases qa9 (E:=E) hM with h | h <;> omega)];unfold yc;generalize qN M E=q
 by_cases hq:q+SH≤E
 · rw[Wt hq,KS,Wm,zt,← zP,zR,zt,← zP]
   rw[show E-(q+SH)+(q+SH)=E by omega];have:=zH (q+SH);omega
 · rw[Wt (by omega:E≤q+SH),KS,K8]
   have h:=Nat.lt_div_mul_add (a:=M) (b:=2^(q+SH-E)) (zH _)
   have:(M / 2^(q+SH-E)+1)*2^q*2^SH=(M / 2^(q+SH-E)*2^(q+SH-E)+2^(q+SH-E))*2^E:=by
    rw[zt,← zP,← Nat.succ_mul,zt,← zP]
    congr 2;omega
   rw[this];exact zY h (zH _)
def dN(M E:Nat):Nat:=qN M E+SH-E
def hfN(M E:Nat):Bool:=Nat.ble 1 (dN M E)&&M / 2^(dN M E-1) % 2 == 1
def rsN(M E:Nat):Bool:=Nat.ble 1 (dN M E)&&!(M % 2^(dN M E-1) == 0)
theorem qBo{q w:Nat}(hw:w<9007199254740992)(h:4503599627370496≤w∨q=0):kM (q*4503599627370496+w)=w:=by
 unfold kM;by_cases h1:w<4503599627370496
 · have:q=0:=by omega
   subst this;rw[zr (by omega)];omega
 · rw[zp (by omega)];omega
theorem qwZ{q w:Nat}(hw:w<9007199254740992)(h:4503599627370496≤w∨q=0):kE (q*4503599627370496+w)=q:=by
 unfold kE;by_cases h1:w<4503599627370496
 · have:q=0:=by omega
   subst this;omega
 · omega
theorem qo9{M E:Nat}(hM:M≠0):kM (QA M E)=yc M E:=by rw[Jp];exact qBo (qa8 M E) (qa9 hM)
theorem qiu{M E:Nat}(hM:M≠0):kE (QA M E)=qN M E:=by rw[Jp];exact qwZ (qa8 M E) (qa9 hM)
theorem qum{M E:Nat}(hM:M≠0):jy (M*2^E) ((2*kM (QA M E)+1)*2^(kE (QA M E)+(SH-1)))=if hfN M E then(if rsN M E then 1 else 0)else -1:=by
 have hS:=qo6;rw[qo9 hM,qiu hM];by_cases hd:dN M E=0
 · have e1:hfN M E=false:=by unfold hfN;rw[hd];rfl
   rw[e1];unfold dN at hd;have e2:yc M E=M*2^(E-(qN M E+SH)):=by unfold yc;rw[hd];simp
   rw[e2];generalize qN M E=q at *
   have e3:M*2^E=M*2^(E-(q+SH))*2*2^(q+(SH-1)):=by
    rw[zt,zt,← Nat.pow_succ',← zP]
    congr 2;omega
   rw[e3];have hp:=zH (q+(SH-1))
   have:M*2^(E-(q+SH))*2*2^(q+(SH-1))<(2*(M*2^(E-(q+SH)))+1)*2^(q+(SH-1)):=zY (by omega) hp
   unfold jy;rw[zr this];rfl
 · obtain⟨d,hd'⟩:∃d,dN M E=d+1:=⟨dN M E-1,by omega⟩
   have e1:hfN M E=(M / 2^d % 2 == 1):=by unfold hfN;rw[hd'];rfl
   have e4:rsN M E = !(M % 2^d == 0):=by unfold rsN;rw[hd'];rfl
   rw[e1,e4];have e2:yc M E=M / 2^(d+1):=by unfold yc;unfold dN at hd';rw[hd'];rw[show E-(qN M E+SH)=0 by omega];simp
   rw[e2];have e3:2^(qN M E+(SH-1))=2^d*2^E:=by rw[← zP];congr 1;unfold dN at hd';omega
   rw[e3,← zt];have e5:M / 2^(d+1)=M / 2^d / 2:=by rw[zU,zS]
   rw[e5];have h1:=KG M (2^d)
   have h2:=Vf M (zH d)
   have hp:=zH E;generalize M / 2^d=a at *
   generalize M % 2^d=r at *
   generalize 2^d=D at *
   generalize 2^E=F at *
   have hm:∀x y:Nat,jy (x*F) (y*F)=jy x y:=fun x y=>by
    unfold jy;by_cases h:x<y
    · rw[zr h,zr (zY h hp)]
    · by_cases h':x=y
      · subst h';simp
      · rw[zp h,zp h']
        have:y*F<x*F:=zY (by omega) hp
        rw[zp (by omega),zp (by omega)]
   rw[hm,← h1];rcases V5 a with ha | ha
   · have:a=2*(a / 2):=by omega
     rw[ha];have h3:D*a+r<(2*(a / 2)+1)*D:=by
      rw[← this,zR,zB a D];omega
     unfold jy;rw[zr h3];rfl
   · have:a=2*(a / 2)+1:=by omega
     rw[ha,← this,zB a D];by_cases hr:r=0
     · subst hr;simp[jy]
     · unfold jy
       rw[zp (by omega),zp (by omega)];simp[hr]
def awN(neg:Bool)(mode:Int):Bool:=bif neg then decide (mode=2)else decide (mode=1)
def twN(neg:Bool)(mode:Int):Bool:=bif neg then decide (mode=1)else decide (mode=2)
def upN(neg:Bool)(mode:Int)(odd half rest:Bool):Bool:=bif awN neg mode then half||rest else bif twN neg mode then false else half&&(rest||odd)
def sgN(neg:Bool):Nat:=bif neg then 9223372036854775808 else 0
def yu:Nat:=9218868437227405311
def qmP(tw:Bool)(k:Nat):Nat:=bif Nat.ble k yu then k else bif tw then yu else yu+1
def RN(neg:Bool)(mode:Int)(M E:Nat)(rest:Bool):Nat :=
 sgN neg+bif Nat.beq M 0 then 0 else qmP (twN neg mode) (QA M E+(upN neg mode (yc M E % 2 == 1) (hfN M E) (rest||rsN M E)).toNat)
end Su
end
section
namespace Su
open Go Fly
theorem y9(a:Nat)(h:a<18446744073709551616):(BitVec.ofInt 64 (a:Int)).toNat=a:=by
 simp;omega
theorem qpa(a b:Nat)(ha:a<18446744073709551616)(hb:b<18446744073709551616):qB .and .u64 (a:Int) (b:Int)=((a &&& b:Nat):Int):=by
 have h:a &&& b<2^64:=Nat.and_lt_two_pow a (by omega)
 show IntKind.u64.wrap (((BitVec.ofInt 64 (a:Int) &&& BitVec.ofInt 64 (b:Int)).toNat:Nat):Int)=_
 rw[BitVec.toNat_and,y9 a ha,y9 b hb];exact jH (by omega) (by omega)
theorem qba(a b:Nat)(ha:a<18446744073709551616)(hb:b<18446744073709551616):qB .or .u64 (a:Int) (b:Int)=((a ||| b:Nat):Int):=by
 have h:a ||| b<2^64:=Nat.or_lt_two_pow (by omega) (by omega)
 show IntKind.u64.wrap (((BitVec.ofInt 64 (a:Int) ||| BitVec.ofInt 64 (b:Int)).toNat:Nat):Int)=_
 rw[BitVec.toNat_or,y9 a ha,y9 b hb];exact jH (by omega) (by omega)
theorem and_mask(a k:Nat):a &&& (2^k-1)=a % 2^k:=Nat.and_two_pow_sub_one_eq_mod a k
theorem qgW{x y r:Nat}(hr:x<2^r):y*2^r ||| x=y*2^r+x:=by
 rw[zB,Nat.two_pow_add_eq_or_of_lt hr]
theorem qpb{x y r:Nat}(hr:x<2^r):x ||| y*2^r=y*2^r+x:=by rw[Nat.or_comm];exact qgW hr
theorem qgX(a b:Nat)(k:Nat)(hb:b=2^k-1)(ha:a<18446744073709551616)(hk:b<18446744073709551616):qB .and .u64 (a:Int) (b:Int)=((a % 2^k:Nat):Int):=by
 rw[qpa a b ha hk,hb,and_mask]
theorem qun(a:Nat)(ha:a<9223372036854775808):qB .or .u64 (a:Int) 9223372036854775808=((9223372036854775808+a:Nat):Int):=by
 have:=qba a 9223372036854775808 (by omega) (by omega)
 rw[show((9223372036854775808:Nat):Int)=9223372036854775808 from rfl]at this;rw[this];have h:=qpb (x:=a) (y:=1) (r:=63) (by omega)
 rw[show(1*2^63:Nat)=9223372036854775808 from rfl]at h;rw[h]
theorem qao(x k:Nat):Int.fdiv (x:Int) (2^k)=((x / 2^k:Nat):Int):=by
 have h:((2:Int)^k)=((2^k:Nat):Int):=by simp
 rw[h,Vd _ (VN _)];rfl
end Su
end
section
namespace Su
open Go Fly
theorem beq_dec(a b:Nat):Nat.beq a b=decide (a=b):=by
 cases h:Nat.beq a b with
 | true=>simp[zh h]
 | false=>symm;simp;intro e;subst e;simp at h
theorem qgY(a b:Nat):Nat.ble a b=decide (a≤b):=by
 cases h:Nat.ble a b with
 | true=>have:=zm h;simp[this]
 | false=>symm;simp;exact VK fun e=>by rw[zo e]at h;cases h
theorem qbb{α:Type}(p:Prop)[Decidable p](x y:α):(bif decide p then x else y)=if p then x else y:=by by_cases h:p <;> simp[h]
theorem bB{b:Bool}{p:Prop}[Decidable p](h:b=true↔p):decide p=b:=by
 cases b <;> simp_all
theorem YA{f:Int}(h:inR .u64 f=true):∃n:Nat,f=(n:Int)∧n<18446744073709551616:=by
 have:=qgU.1 h
 exact⟨f.toNat,by omega,by omega⟩
theorem qpc(a b:Nat):decide ((a:Int)=(b:Int))=decide (a=b):=by
 by_cases h:a=b
 · simp[h]
 · rw[zi h,zi];omega
end Su
end
