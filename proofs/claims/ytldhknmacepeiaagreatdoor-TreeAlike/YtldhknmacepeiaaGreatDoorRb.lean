/-
  Bits and rounding, in plain Lean. No condition.
-/
import Derived.Test.YtldhknmacepeiaaGreatDoorSuSd
set_option linter.unusedVariables false
set_option linter.unusedSimpArgs false
set_option maxRecDepth 10000
section
namespace Su
open Go Fly
def qr(n:Nat):Nat:=if n=0 then 0 else n.log2+1
theorem qlE{n k:Nat}(h0:2^k≤n)(h1:n<2^(k+1)):qr n=k+1:=by
 have hn:n≠0:=fun e=>by subst e;have:=zQ k;omega
 have a:=(Nat.le_log2 hn).2 h0
 have b:=(Nat.log2_lt hn).2 h1
 simp only[qr,hn,Wy];omega
theorem Zh{n:Nat}(hn:n≠0):2^(qr n-1)≤n:=by
 simp only[qr,hn,Wy,Vr];exact(Nat.le_log2 hn).1 (zJ _)
theorem y9(n:Nat):n<2^qr n:=by
 by_cases hn:n=0
 · subst hn;decide
 · simp only[qr,hn,Wy]
   exact(Nat.log2_lt hn).1 (by omega)
theorem jY{n:Nat}(hn:n≠0):0<qr n:=by simp only[qr,hn,Wy];omega
theorem j4{n k:Nat}:qr n≤k↔n<2^k:=by
 constructor
 · intro h;exact Kw (y9 n) (Ka (by omega) h)
 · intro h
   by_cases hn:n=0
   · subst hn;simp[qr]
   · have h1:=Zh hn
     have:qr n-1<k:=by
      refine(Nat.pow_lt_pow_iff_right (a:=2) (by omega)).1 (KZ h1 h)
     have:=jY hn;omega
theorem YQ{n k:Nat}(h:2^k≤n):qr n=k+qr (n / 2^k):=by
 have hp:=zQ k;have hq:n / 2^k≠0:=by have:=Nat.div_pos h hp;omega
 have h1:=Zh hq;have h2:=y9 (n / 2^k)
 have h3:=jY hq;have e:=K8 n (2^k)
 have hm:=Va n hp;have a1:2^(k+(qr (n / 2^k)-1))≤n:=by
  rw[zS]
  calc 2^k*2^(qr (n / 2^k)-1)≤2^k*(n / 2^k):=zX _ h1
   _≤n:=Nat.mul_div_le n _
 have a2:n<2^(k+(qr (n / 2^k)-1)+1):=by
  have:k+(qr (n / 2^k)-1)+1=k+qr (n / 2^k):=by omega
  rw[this,zS];have:2^k*(n / 2^k+1)≤2^k*2^qr (n / 2^k):=zX _ h2
  rw[Ky]at this;omega
 rw[qlE a1 a2];omega
def yZ(a b:Nat):Int:=if a<b then -1 else if a=b then 0 else 1
end Su
end
section
namespace Su
open Go Fly
def kM(k:Nat):Nat:=if k / 4503599627370496=0 then k % 4503599627370496 else k % 4503599627370496+4503599627370496
def kE(k:Nat):Nat:=k / 4503599627370496-1
def kV(k:Nat):Nat:=kM k*2^kE k
theorem qga{q w:Nat}(hw:w≤9007199254740992)(h:4503599627370496≤w∨q=0):kV (q*4503599627370496+w)=w*2^q:=by
 unfold kV kM kE;by_cases h1:w<4503599627370496
 · have hq:q=0:=by omega
   subst hq;have e1:(0*4503599627370496+w) / 4503599627370496=0:=by omega
   have e2:(0*4503599627370496+w) % 4503599627370496=w:=by omega
   rw[zZ e1,e1,e2]
 · by_cases h2:w<9007199254740992
   · have e1:(q*4503599627370496+w) / 4503599627370496=q+1:=by omega
     have e2:(q*4503599627370496+w) % 4503599627370496=w-4503599627370496:=by omega
     rw[zP (by omega),e1,e2,Vr,Nat.sub_add_cancel (by omega)]
   · have hw:w=9007199254740992:=by omega
     subst hw;have e1:(q*4503599627370496+9007199254740992) / 4503599627370496=q+2:=by omega
     have e2:(q*4503599627370496+9007199254740992) % 4503599627370496=0:=by omega
     rw[zP (by omega),e1,e2,show q+2-1=q+1 from rfl,z7];omega
theorem qiS(k:Nat):∃q w,k=q*4503599627370496+w∧w<9007199254740992∧(4503599627370496≤w∨q=0):=by
 by_cases h:k / 4503599627370496=0
 · exact⟨0,k,by omega,by omega,.inr rfl⟩
 · exact⟨k / 4503599627370496-1,k % 4503599627370496+4503599627370496,by omega,by omega,by omega⟩
theorem qlF(k:Nat):kV k<kV (k+1):=by
 obtain⟨q,w,rfl,h1,h2⟩:=qiS k;rw[Kp,qga (by omega) h2,qga (by omega) (by omega)];exact z6 (by omega) (zQ q)
theorem qpt{i j:Nat}(h:i<j):kV i<kV j:=by
 induction j with
 | zero=>omega
 | succ j ih=>
  by_cases e:i=j
  · subst e;exact qlF i
  · exact Nat.lt_trans (ih (by omega)) (qlF j)
theorem qlG{i j:Nat}(h:i≤j):kV i≤kV j:=by
 by_cases e:i=j
 · subst e;exact zJ _
 · exact VZ (qpt (by omega))
@[irreducible] def SH:Nat:=4926
theorem qpu:SH=4926:=by unfold SH;rfl
theorem qpv:1≤SH:=by rw[qpu];decide
theorem qcE{M:Nat}(h:M≠0):Nat.beq M 0=false:=by
 cases hb:Nat.beq M 0 with
 | false=>rfl
 | true=>exact absurd (zb hb) h
def qN(M E:Nat):Nat:=qr M+E-53-SH
def yt(M E:Nat):Nat:=M*2^(E-(qN M E+SH)) / 2^(qN M E+SH-E)
def Q8(M E:Nat):Nat:=4503599627370496*qN M E+yt M E
theorem J2(M E:Nat):Q8 M E=qN M E*4503599627370496+yt M E:=by unfold Q8;rw[zI]
theorem qbJ(M E:Nat):yt M E<9007199254740992:=by
 unfold yt;have hb:=y9 M;rw[KB (zQ _)];have h1:M*2^(E-(qN M E+SH))<2^qr M*2^(E-(qN M E+SH)):=z6 hb (zQ _)
 refine Kw h1 ?_
 rw[show(9007199254740992:Nat)=2^53 from rfl,← zS,← zS];refine Ka (by omega) ?_
 unfold qN;omega
theorem qbK{M E:Nat}(hM:M≠0):4503599627370496≤yt M E∨qN M E=0:=by
 by_cases h:qN M E=0
 · exact .inr h
 · refine .inl ?_
   unfold yt;have hb:=Zh hM;have hp:=jY hM;rw[WH (zQ _)];refine KF ?_ (zF _ hb)
   rw[show(4503599627370496:Nat)=2^52 from rfl,← zS,← zS];refine Ka (by omega) ?_
   unfold qN at *;omega
theorem qpw{M E:Nat}(hM:M≠0):kV (Q8 M E)*2^SH≤M*2^E:=by
 rw[J2,qga (VZ (qbJ M E)) (qbK hM)];unfold yt;generalize qN M E=q
 have h:=Nat.div_mul_le_self (M*2^(E-(q+SH))) (2^(q+SH-E))
 by_cases hq:q+SH≤E
 · rw[WD hq,Vc,WQ,zy,zy,← zS,← zS]
   rw[show E-(q+SH)+(q+SH)=E by omega];exact zJ _
 · rw[WD (by omega:E≤q+SH),Vc,KW]at h ⊢
   have:M / 2^(q+SH-E)*2^q*2^SH=M / 2^(q+SH-E)*2^(q+SH-E)*2^E:=by
    rw[zy,zy,← zS,← zS]
    congr 2;omega
   rw[this];exact zF _ h
theorem qpx{M E:Nat}(hM:M≠0):M*2^E<kV (Q8 M E+1)*2^SH:=by
 rw[J2];have hk:=qbJ M E;rw[Kp,qga (by omega) (by rcases qbK (E:=E) hM with h | h <;> omega)];unfold yt;generalize qN M E=q
 by_cases hq:q+SH≤E
 · rw[WD hq,Vc,WQ,zy,← zS,zV,zy,← zS]
   rw[show E-(q+SH)+(q+SH)=E by omega];have:=zQ (q+SH);omega
 · rw[WD (by omega:E≤q+SH),Vc,KW]
   have h:=Nat.lt_div_mul_add (a:=M) (b:=2^(q+SH-E)) (zQ _)
   have:(M / 2^(q+SH-E)+1)*2^q*2^SH=(M / 2^(q+SH-E)*2^(q+SH-E)+2^(q+SH-E))*2^E:=by
    rw[zy,← zS,← Nat.succ_mul,zy,← zS]
    congr 2;omega
   rw[this];exact z6 h (zQ _)
def dN(M E:Nat):Nat:=qN M E+SH-E
def hfN(M E:Nat):Bool:=Nat.ble 1 (dN M E)&&M / 2^(dN M E-1) % 2 == 1
def rsN(M E:Nat):Bool:=Nat.ble 1 (dN M E)&&!(M % 2^(dN M E-1) == 0)
theorem qxn{q w:Nat}(hw:w<9007199254740992)(h:4503599627370496≤w∨q=0):kM (q*4503599627370496+w)=w:=by
 unfold kM;by_cases h1:w<4503599627370496
 · have:q=0:=by omega
   subst this;rw[zZ (by omega)];omega
 · rw[zP (by omega)];omega
theorem quu{q w:Nat}(hw:w<9007199254740992)(h:4503599627370496≤w∨q=0):kE (q*4503599627370496+w)=q:=by
 unfold kE;by_cases h1:w<4503599627370496
 · have:q=0:=by omega
   subst this;omega
 · omega
theorem qpy{M E:Nat}(hM:M≠0):kM (Q8 M E)=yt M E:=by rw[J2];exact qxn (qbJ M E) (qbK hM)
theorem qiT{M E:Nat}(hM:M≠0):kE (Q8 M E)=qN M E:=by rw[J2];exact quu (qbJ M E) (qbK hM)
theorem qs4{M E:Nat}(hM:M≠0):yZ (M*2^E) ((2*kM (Q8 M E)+1)*2^(kE (Q8 M E)+(SH-1)))=if hfN M E then(if rsN M E then 1 else 0)else -1:=by
 have hS:=qpv;rw[qpy hM,qiT hM];by_cases hd:dN M E=0
 · have e1:hfN M E=false:=by unfold hfN;rw[hd];rfl
   rw[e1];unfold dN at hd;have e2:yt M E=M*2^(E-(qN M E+SH)):=by unfold yt;rw[hd];simp
   rw[e2];generalize qN M E=q at *
   have e3:M*2^E=M*2^(E-(q+SH))*2*2^(q+(SH-1)):=by
    rw[zy,zy,← Nat.pow_succ',← zS]
    congr 2;omega
   rw[e3];have hp:=zQ (q+(SH-1))
   have:M*2^(E-(q+SH))*2*2^(q+(SH-1))<(2*(M*2^(E-(q+SH)))+1)*2^(q+(SH-1)):=z6 (by omega) hp
   unfold yZ;rw[zZ this];rfl
 · obtain⟨d,hd'⟩:∃d,dN M E=d+1:=⟨dN M E-1,by omega⟩
   have e1:hfN M E=(M / 2^d % 2 == 1):=by unfold hfN;rw[hd'];rfl
   have e4:rsN M E = !(M % 2^d == 0):=by unfold rsN;rw[hd'];rfl
   rw[e1,e4];have e2:yt M E=M / 2^(d+1):=by unfold yt;unfold dN at hd';rw[hd'];rw[show E-(qN M E+SH)=0 by omega];simp
   rw[e2];have e3:2^(qN M E+(SH-1))=2^d*2^E:=by rw[← zS];congr 1;unfold dN at hd';omega
   rw[e3,← zy];have e5:M / 2^(d+1)=M / 2^d / 2:=by rw[z7,Kl]
   rw[e5];have h1:=K8 M (2^d)
   have h2:=Va M (zQ d)
   have hp:=zQ E;generalize M / 2^d=a at *
   generalize M % 2^d=r at *
   generalize 2^d=D at *
   generalize 2^E=F at *
   have hm:∀x y:Nat,yZ (x*F) (y*F)=yZ x y:=fun x y=>by
    unfold yZ;by_cases h:x<y
    · rw[zZ h,zZ (z6 h hp)]
    · by_cases h':x=y
      · subst h';simp
      · rw[zP h,zP h']
        have:y*F<x*F:=z6 (by omega) hp
        rw[zP (by omega),zP (by omega)]
   rw[hm,← h1];rcases Nat.mod_two_eq_zero_or_one a with ha | ha
   · have:a=2*(a / 2):=by omega
     rw[ha];have h3:D*a+r<(2*(a / 2)+1)*D:=by
      rw[← this,zV,zI a D];omega
     unfold yZ;rw[zZ h3];rfl
   · have:a=2*(a / 2)+1:=by omega
     rw[ha,← this,zI a D];by_cases hr:r=0
     · subst hr;simp[yZ]
     · unfold yZ
       rw[zP (by omega),zP (by omega)];simp[hr]
def awN(neg:Bool)(mode:Int):Bool:=bif neg then decide (mode=2)else decide (mode=1)
def twN(neg:Bool)(mode:Int):Bool:=bif neg then decide (mode=1)else decide (mode=2)
def upN(neg:Bool)(mode:Int)(odd half rest:Bool):Bool:=bif awN neg mode then half||rest else bif twN neg mode then false else half&&(rest||odd)
def sgN(neg:Bool):Nat:=bif neg then 9223372036854775808 else 0
def yk:Nat:=9218868437227405311
def qnl(tw:Bool)(k:Nat):Nat:=bif Nat.ble k yk then k else bif tw then yk else yk+1
def RN(neg:Bool)(mode:Int)(M E:Nat)(rest:Bool):Nat :=
 sgN neg+bif Nat.beq M 0 then 0 else qnl (twN neg mode) (Q8 M E+(upN neg mode (yt M E % 2 == 1) (hfN M E) (rest||rsN M E)).toNat)
end Su
end
section
namespace Su
open Go Fly
theorem QA(a:Nat)(h:a<18446744073709551616):(BitVec.ofInt 64 (a:Int)).toNat=a:=by
 simp;omega
theorem qpz(a b:Nat)(ha:a<18446744073709551616)(hb:b<18446744073709551616):jf .and .u64 (a:Int) (b:Int)=((a &&& b:Nat):Int):=by
 have h:a &&& b<2^64:=Nat.and_lt_two_pow a (by omega)
 show IntKind.u64.wrap (((BitVec.ofInt 64 (a:Int) &&& BitVec.ofInt 64 (b:Int)).toNat:Nat):Int)=_
 rw[WN,QA a ha,QA b hb];exact yj (by omega) (by omega)
theorem qau(a b:Nat)(ha:a<18446744073709551616)(hb:b<18446744073709551616):jf .or .u64 (a:Int) (b:Int)=((a ||| b:Nat):Int):=by
 have h:a ||| b<2^64:=Nat.or_lt_two_pow (by omega) (by omega)
 show IntKind.u64.wrap (((BitVec.ofInt 64 (a:Int) ||| BitVec.ofInt 64 (b:Int)).toNat:Nat):Int)=_
 rw[BitVec.toNat_or,QA a ha,QA b hb];exact yj (by omega) (by omega)
theorem qiU(a b:Nat)(ha:a<18446744073709551616)(hb:b<18446744073709551616):jf .andNot .u64 (a:Int) (b:Int)=((a &&& (18446744073709551615-b):Nat):Int):=by
 have h:a &&& (18446744073709551615-b)<2^64:=Nat.and_lt_two_pow a (by omega)
 show IntKind.u64.wrap (((BitVec.ofInt 64 (a:Int) &&& ~~~(BitVec.ofInt 64 (b:Int))).toNat:Nat):Int)=_
 rw[WN,BitVec.toNat_not,QA a ha,QA b hb];have e:2^64-1-b=18446744073709551615-b:=by omega
 rw[e];exact yj (by omega) (by omega)
theorem and_mask(a k:Nat):a &&& (2^k-1)=a % 2^k:=Nat.and_two_pow_sub_one_eq_mod a k
theorem qdG{x y r:Nat}(hr:x<2^r):y*2^r ||| x=y*2^r+x:=by
 rw[zI,Nat.two_pow_add_eq_or_of_lt hr]
theorem qpA{x y r:Nat}(hr:x<2^r):x ||| y*2^r=y*2^r+x:=by rw[Nat.or_comm];exact qdG hr
theorem qdH(a b:Nat)(k:Nat)(hb:b=2^k-1)(ha:a<18446744073709551616)(hk:b<18446744073709551616):jf .and .u64 (a:Int) (b:Int)=((a % 2^k:Nat):Int):=by
 rw[qpz a b ha hk,hb,and_mask]
theorem qs5(a:Nat)(ha:a<9223372036854775808):jf .or .u64 (a:Int) 9223372036854775808=((9223372036854775808+a:Nat):Int):=by
 have:=qau a 9223372036854775808 (by omega) (by omega)
 rw[show((9223372036854775808:Nat):Int)=9223372036854775808 from rfl]at this;rw[this];have h:=qpA (x:=a) (y:=1) (r:=63) (by omega)
 rw[show(1*2^63:Nat)=9223372036854775808 from rfl]at h;rw[h]
theorem qnm(a:Nat)(ha:a<18446744073709551616):jf .andNot .u64 (a:Int) 9223372036854775808=((a % 9223372036854775808:Nat):Int):=by
 have:=qiU a 9223372036854775808 ha (by omega)
 rw[show((9223372036854775808:Nat):Int)=9223372036854775808 from rfl]at this;rw[this];have h:=and_mask a 63
 rw[show(2^63-1:Nat)=18446744073709551615-9223372036854775808 from rfl,show(2^63:Nat)=9223372036854775808 from rfl]at h;rw[h]
theorem qa7(x k:Nat):Int.fdiv (x:Int) (2^k)=((x / 2^k:Nat):Int):=by
 have h:((2:Int)^k)=((2^k:Nat):Int):=by simp
 rw[h,Ve _ (VN _)];rfl
end Su
end
section
namespace Su
open Go Fly
def bS(f:Nat):Bool:=Nat.ble 9223372036854775808 f
def bK(f:Nat):Nat:=f % 9223372036854775808
def yg(k:Nat):Nat:=bif Nat.beq k 9218868437227405312 then 3 else bif Nat.ble 9218868437227405313 k then 4 else bif Nat.beq k 0 then 0 else bif Nat.ble 4503599627370496 k then 2 else 1
def qfs(k:Nat):Bool:=Nat.ble 9218868437227405313 k
def qft(k:Nat):Bool:=Nat.ble k 9218868437227405311
def spM(k:Nat):Nat:=bif qft k then kM k else 0
def spE(k:Nat):Int:=bif qft k&&!Nat.beq k 0 then(kE k:Int)-1074 else 0
def qbL(f:Nat):Nat:=bif qfs (bK f)then f else bK f
theorem beq_dec(a b:Nat):Nat.beq a b=decide (a=b):=by
 cases h:Nat.beq a b with
 | true=>simp[zb h]
 | false=>symm;simp;intro e;subst e;simp at h
theorem qbM(a b:Nat):Nat.ble a b=decide (a≤b):=by
 cases h:Nat.ble a b with
 | true=>have:=zw h;simp[this]
 | false=>symm;simp;exact VB fun e=>by rw[zK e]at h;cases h
theorem YR{α:Type}(p:Prop)[Decidable p](x y:α):(bif decide p then x else y)=if p then x else y:=by by_cases h:p <;> simp[h]
theorem qs6{e f:Nat}(he:e≤2047)(hf:f<4503599627370496):yg (e*4503599627370496+f)=if e=2047 then(if f=0 then 3 else 4)else if e=0 then(if f=0 then 0 else 1)else 2:=by
 unfold yg;simp only[beq_dec,qbM,YR]
 (repeat' split) <;> omega
theorem qvL{f:Nat}:bS f=true↔9223372036854775808≤f:=by unfold bS;rw[Wa]
theorem qeH{k:Nat}:qfs k=true↔9218868437227405313≤k:=by unfold qfs;rw[Wa]
theorem qiV{k:Nat}:qfs k=false↔k≤9218868437227405312:=by
 cases h:qfs k with
 | true=>have:=qeH.1 h;simp;omega
 | false=>simp;refine Nat.le_of_lt_succ (VB fun h'=>?_);rw[qeH.2 h']at h;cases h
theorem ZY{k:Nat}:qft k=true↔k≤9218868437227405311:=by unfold qft;rw[Wa]
theorem qpB{k:Nat}:qft k=false↔9218868437227405312≤k:=by
 cases h:qft k with
 | true=>have:=ZY.1 h;simp;omega
 | false=>simp;refine V8 fun h'=>?_;rw[ZY.2 (by omega)]at h;cases h
theorem qpC(f:Nat):bK f<9223372036854775808:=Va _ (by decide)
theorem bB{b:Bool}{p:Prop}[Decidable p](h:b=true↔p):decide p=b:=by
 cases b <;> simp_all
theorem Yn{f:Int}(h:inR .u64 f=true):∃n:Nat,f=(n:Int)∧n<18446744073709551616:=by
 have:=qhp.1 h
 exact⟨f.toNat,by omega,by omega⟩
theorem ZZ(k:Nat):yg k=if k=9218868437227405312 then 3 else if 9218868437227405313≤k then 4 else if k=0 then 0 else if 4503599627370496≤k then 2 else 1:=by
 unfold yg;simp only[beq_dec,qbM,YR]
theorem qhq(a b:Nat):decide ((a:Int)=(b:Int))=decide (a=b):=by
 by_cases h:a=b
 · simp[h]
 · rw[zp h,zp];omega
theorem qpD(k c:Nat):decide (((yg k:Nat):Int)=(c:Int))=decide (yg k=c):=qhq _ _
theorem qs7(k:Nat):decide (((yg k:Nat):Int)=4)=qfs k:=by
 refine bB ?_
 rw[qeH,ZZ]
 (repeat' split) <;> constructor <;> intro h <;> first | omega | (exfalso;omega)
end Su
end
