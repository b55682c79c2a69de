/-
  Bits and rounding, in plain Lean. No condition.
-/
import Derived.Test.YtldhknmacepeiaaGreatDoorSuSd
set_option linter.unusedVariables false
set_option linter.unusedSimpArgs false
set_option maxRecDepth 10000
section
namespace Su
open Go Fly
def qf(n:Nat):Nat:=if n=0 then 0 else n.log2+1
theorem qkQ{n k:Nat}(h0:2^k≤n)(h1:n<2^(k+1)):qf n=k+1:=by
 have hn:n≠0:=fun e=>by subst e;have:=zQ k;omega
 have a:=(Nat.le_log2 hn).2 h0
 have b:=(Nat.log2_lt hn).2 h1
 simp only[qf,hn,WQ];omega
theorem YC{n:Nat}(hn:n≠0):2^(qf n-1)≤n:=by
 simp only[qf,hn,WQ,Ve];exact(Nat.le_log2 hn).1 (zI _)
theorem yY(n:Nat):n<2^qf n:=by
 by_cases hn:n=0
 · subst hn;decide
 · simp only[qf,hn,WQ]
   exact(Nat.log2_lt hn).1 (by omega)
theorem jl{n:Nat}(hn:n≠0):0<qf n:=by simp only[qf,hn,WQ];omega
theorem jM{n k:Nat}:qf n≤k↔n<2^k:=by
 constructor
 · intro h;exact Ku (yY n) (zX (by omega) h)
 · intro h
   by_cases hn:n=0
   · subst hn;simp[qf]
   · have h1:=YC hn
     have:qf n-1<k:=by
      refine(Nat.pow_lt_pow_iff_right (a:=2) (by omega)).1 (KQ h1 h)
     have:=jl hn;omega
theorem Yj{n k:Nat}(h:2^k≤n):qf n=k+qf (n / 2^k):=by
 have hp:=zQ k;have hq:n / 2^k≠0:=by have:=Nat.div_pos h hp;omega
 have h1:=YC hq;have h2:=yY (n / 2^k)
 have h3:=jl hq;have e:=Vb n (2^k)
 have hm:=K9 n hp;have a1:2^(k+(qf (n / 2^k)-1))≤n:=by
  rw[zP]
  calc 2^k*2^(qf (n / 2^k)-1)≤2^k*(n / 2^k):=zU _ h1
   _≤n:=Nat.mul_div_le n _
 have a2:n<2^(k+(qf (n / 2^k)-1)+1):=by
  have:k+(qf (n / 2^k)-1)+1=k+qf (n / 2^k):=by omega
  rw[this,zP];have:2^k*(n / 2^k+1)≤2^k*2^qf (n / 2^k):=zU _ h2
  rw[KF]at this;omega
 rw[qkQ a1 a2];omega
def yy(a b:Nat):Int:=if a<b then -1 else if a=b then 0 else 1
end Su
end
section
namespace Su
open Go Fly
def kM(k:Nat):Nat:=if k / 4503599627370496=0 then k % 4503599627370496 else k % 4503599627370496+4503599627370496
def kE(k:Nat):Nat:=k / 4503599627370496-1
def kV(k:Nat):Nat:=kM k*2^kE k
theorem qfs{q w:Nat}(hw:w≤9007199254740992)(h:4503599627370496≤w∨q=0):kV (q*4503599627370496+w)=w*2^q:=by
 unfold kV kM kE;by_cases h1:w<4503599627370496
 · have hq:q=0:=by omega
   subst hq;have e1:(0*4503599627370496+w) / 4503599627370496=0:=by omega
   have e2:(0*4503599627370496+w) % 4503599627370496=w:=by omega
   rw[zA e1,e1,e2]
 · by_cases h2:w<9007199254740992
   · have e1:(q*4503599627370496+w) / 4503599627370496=q+1:=by omega
     have e2:(q*4503599627370496+w) % 4503599627370496=w-4503599627370496:=by omega
     rw[zw (by omega),e1,e2,Ve,Nat.sub_add_cancel (by omega)]
   · have hw:w=9007199254740992:=by omega
     subst hw;have e1:(q*4503599627370496+9007199254740992) / 4503599627370496=q+2:=by omega
     have e2:(q*4503599627370496+9007199254740992) % 4503599627370496=0:=by omega
     rw[zw (by omega),e1,e2,show q+2-1=q+1 from rfl,z6];omega
theorem qh3(k:Nat):∃q w,k=q*4503599627370496+w∧w<9007199254740992∧(4503599627370496≤w∨q=0):=by
 by_cases h:k / 4503599627370496=0
 · exact⟨0,k,by omega,by omega,.inr rfl⟩
 · exact⟨k / 4503599627370496-1,k % 4503599627370496+4503599627370496,by omega,by omega,by omega⟩
theorem qkR(k:Nat):kV k<kV (k+1):=by
 obtain⟨q,w,rfl,h1,h2⟩:=qh3 k;rw[Ky,qfs (by omega) h2,qfs (by omega) (by omega)];exact zZ (by omega) (zQ q)
theorem qkS{i j:Nat}(h:i<j):kV i<kV j:=by
 induction j with
 | zero=>omega
 | succ j ih=>
  by_cases e:i=j
  · subst e;exact qkR i
  · exact Nat.lt_trans (ih (by omega)) (qkR j)
theorem qkT{i j:Nat}(h:i≤j):kV i≤kV j:=by
 by_cases e:i=j
 · subst e;exact zI _
 · exact Vg (qkS (by omega))
@[irreducible] def SH:Nat:=4926
theorem qoR:SH=4926:=by unfold SH;rfl
theorem qoS:1≤SH:=by rw[qoR];decide
theorem Z4{M:Nat}(h:M≠0):Nat.beq M 0=false:=by
 cases hb:Nat.beq M 0 with
 | false=>rfl
 | true=>exact absurd (zf hb) h
def qN(M E:Nat):Nat:=qf M+E-53-SH
def yk(M E:Nat):Nat:=M*2^(E-(qN M E+SH)) / 2^(qN M E+SH-E)
def QU(M E:Nat):Nat:=4503599627370496*qN M E+yk M E
theorem JE(M E:Nat):QU M E=qN M E*4503599627370496+yk M E:=by unfold QU;rw[zF]
theorem qbd(M E:Nat):yk M E<9007199254740992:=by
 unfold yk;have hb:=yY M;rw[KD (zQ _)];have h1:M*2^(E-(qN M E+SH))<2^qf M*2^(E-(qN M E+SH)):=zZ hb (zQ _)
 refine Ku h1 ?_
 rw[show(9007199254740992:Nat)=2^53 from rfl,← zP,← zP];refine zX (by omega) ?_
 unfold qN;omega
theorem qbe{M E:Nat}(hM:M≠0):4503599627370496≤yk M E∨qN M E=0:=by
 by_cases h:qN M E=0
 · exact .inr h
 · refine .inl ?_
   unfold yk;have hb:=YC hM;have hp:=jl hM;rw[WG (zQ _)];refine Kj ?_ (zD _ hb)
   rw[show(4503599627370496:Nat)=2^52 from rfl,← zP,← zP];refine zX (by omega) ?_
   unfold qN at *;omega
theorem qoT{M E:Nat}(hM:M≠0):kV (QU M E)*2^SH≤M*2^E:=by
 rw[JE,qfs (Vg (qbd M E)) (qbe hM)];unfold yk;generalize qN M E=q
 have h:=Nat.div_mul_le_self (M*2^(E-(q+SH))) (2^(q+SH-E))
 by_cases hq:q+SH≤E
 · rw[WF hq,K7,V9,zx,zx,← zP,← zP]
   rw[show E-(q+SH)+(q+SH)=E by omega];exact zI _
 · rw[WF (by omega:E≤q+SH),K7,Vn]at h ⊢
   have:M / 2^(q+SH-E)*2^q*2^SH=M / 2^(q+SH-E)*2^(q+SH-E)*2^E:=by
    rw[zx,zx,← zP,← zP]
    congr 2;omega
   rw[this];exact zD _ h
theorem qoU{M E:Nat}(hM:M≠0):M*2^E<kV (QU M E+1)*2^SH:=by
 rw[JE];have hk:=qbd M E;rw[Ky,qfs (by omega) (by rcases qbe (E:=E) hM with h | h <;> omega)];unfold yk;generalize qN M E=q
 by_cases hq:q+SH≤E
 · rw[WF hq,K7,V9,zx,← zP,zW,zx,← zP]
   rw[show E-(q+SH)+(q+SH)=E by omega];have:=zQ (q+SH);omega
 · rw[WF (by omega:E≤q+SH),K7,Vn]
   have h:=Nat.lt_div_mul_add (a:=M) (b:=2^(q+SH-E)) (zQ _)
   have:(M / 2^(q+SH-E)+1)*2^q*2^SH=(M / 2^(q+SH-E)*2^(q+SH-E)+2^(q+SH-E))*2^E:=by
    rw[zx,← zP,← Nat.succ_mul,zx,← zP]
    congr 2;omega
   rw[this];exact zZ h (zQ _)
def dN(M E:Nat):Nat:=qN M E+SH-E
def hfN(M E:Nat):Bool:=Nat.ble 1 (dN M E)&&M / 2^(dN M E-1) % 2 == 1
def rsN(M E:Nat):Bool:=Nat.ble 1 (dN M E)&&!(M % 2^(dN M E-1) == 0)
theorem qzE{q w:Nat}(hw:w<9007199254740992)(h:4503599627370496≤w∨q=0):kM (q*4503599627370496+w)=w:=by
 unfold kM;by_cases h1:w<4503599627370496
 · have:q=0:=by omega
   subst this;rw[zA (by omega)];omega
 · rw[zw (by omega)];omega
theorem qvx{q w:Nat}(hw:w<9007199254740992)(h:4503599627370496≤w∨q=0):kE (q*4503599627370496+w)=q:=by
 unfold kE;by_cases h1:w<4503599627370496
 · have:q=0:=by omega
   subst this;omega
 · omega
theorem qoV{M E:Nat}(hM:M≠0):kM (QU M E)=yk M E:=by rw[JE];exact qzE (qbd M E) (qbe hM)
theorem qh4{M E:Nat}(hM:M≠0):kE (QU M E)=qN M E:=by rw[JE];exact qvx (qbd M E) (qbe hM)
theorem qtt{M E:Nat}(hM:M≠0):yy (M*2^E) ((2*kM (QU M E)+1)*2^(kE (QU M E)+(SH-1)))=if hfN M E then(if rsN M E then 1 else 0)else -1:=by
 have hS:=qoS;rw[qoV hM,qh4 hM];by_cases hd:dN M E=0
 · have e1:hfN M E=false:=by unfold hfN;rw[hd];rfl
   rw[e1];unfold dN at hd;have e2:yk M E=M*2^(E-(qN M E+SH)):=by unfold yk;rw[hd];simp
   rw[e2];generalize qN M E=q at *
   have e3:M*2^E=M*2^(E-(q+SH))*2*2^(q+(SH-1)):=by
    rw[zx,zx,← Nat.pow_succ',← zP]
    congr 2;omega
   rw[e3];have hp:=zQ (q+(SH-1))
   have:M*2^(E-(q+SH))*2*2^(q+(SH-1))<(2*(M*2^(E-(q+SH)))+1)*2^(q+(SH-1)):=zZ (by omega) hp
   unfold yy;rw[zA this];rfl
 · obtain⟨d,hd'⟩:∃d,dN M E=d+1:=⟨dN M E-1,by omega⟩
   have e1:hfN M E=(M / 2^d % 2 == 1):=by unfold hfN;rw[hd'];rfl
   have e4:rsN M E = !(M % 2^d == 0):=by unfold rsN;rw[hd'];rfl
   rw[e1,e4];have e2:yk M E=M / 2^(d+1):=by unfold yk;unfold dN at hd';rw[hd'];rw[show E-(qN M E+SH)=0 by omega];simp
   rw[e2];have e3:2^(qN M E+(SH-1))=2^d*2^E:=by rw[← zP];congr 1;unfold dN at hd';omega
   rw[e3,← zx];have e5:M / 2^(d+1)=M / 2^d / 2:=by rw[z6,Km]
   rw[e5];have h1:=Vb M (2^d)
   have h2:=K9 M (zQ d)
   have hp:=zQ E;generalize M / 2^d=a at *
   generalize M % 2^d=r at *
   generalize 2^d=D at *
   generalize 2^E=F at *
   have hm:∀x y:Nat,yy (x*F) (y*F)=yy x y:=fun x y=>by
    unfold yy;by_cases h:x<y
    · rw[zA h,zA (zZ h hp)]
    · by_cases h':x=y
      · subst h';simp
      · rw[zw h,zw h']
        have:y*F<x*F:=zZ (by omega) hp
        rw[zw (by omega),zw (by omega)]
   rw[hm,← h1];rcases Nat.mod_two_eq_zero_or_one a with ha | ha
   · have:a=2*(a / 2):=by omega
     rw[ha];have h3:D*a+r<(2*(a / 2)+1)*D:=by
      rw[← this,zW,zF a D];omega
     unfold yy;rw[zA h3];rfl
   · have:a=2*(a / 2)+1:=by omega
     rw[ha,← this,zF a D];by_cases hr:r=0
     · subst hr;simp[yy]
     · unfold yy
       rw[zw (by omega),zw (by omega)];simp[hr]
def awN(neg:Bool)(mode:Int):Bool:=bif neg then decide (mode=2)else decide (mode=1)
def twN(neg:Bool)(mode:Int):Bool:=bif neg then decide (mode=1)else decide (mode=2)
def upN(neg:Bool)(mode:Int)(odd half rest:Bool):Bool:=bif awN neg mode then half||rest else bif twN neg mode then false else half&&(rest||odd)
def sgN(neg:Bool):Nat:=bif neg then 9223372036854775808 else 0
def jB:Nat:=9218868437227405311
def qmF(tw:Bool)(k:Nat):Nat:=bif Nat.ble k jB then k else bif tw then jB else jB+1
def RN(neg:Bool)(mode:Int)(M E:Nat)(rest:Bool):Nat :=
 sgN neg+bif Nat.beq M 0 then 0 else qmF (twN neg mode) (QU M E+(upN neg mode (yk M E % 2 == 1) (hfN M E) (rest||rsN M E)).toNat)
end Su
end
section
namespace Su
open Go Fly
theorem Qq(a:Nat)(h:a<18446744073709551616):(BitVec.ofInt 64 (a:Int)).toNat=a:=by
 simp;omega
theorem qoW(a b:Nat)(ha:a<18446744073709551616)(hb:b<18446744073709551616):qR .and .u64 (a:Int) (b:Int)=((a &&& b:Nat):Int):=by
 have h:a &&& b<2^64:=Nat.and_lt_two_pow a (by omega)
 show IntKind.u64.wrap (((BitVec.ofInt 64 (a:Int) &&& BitVec.ofInt 64 (b:Int)).toNat:Nat):Int)=_
 rw[WN,Qq a ha,Qq b hb];exact jX (by omega) (by omega)
theorem ZR(a b:Nat)(ha:a<18446744073709551616)(hb:b<18446744073709551616):qR .or .u64 (a:Int) (b:Int)=((a ||| b:Nat):Int):=by
 have h:a ||| b<2^64:=Nat.or_lt_two_pow (by omega) (by omega)
 show IntKind.u64.wrap (((BitVec.ofInt 64 (a:Int) ||| BitVec.ofInt 64 (b:Int)).toNat:Nat):Int)=_
 rw[BitVec.toNat_or,Qq a ha,Qq b hb];exact jX (by omega) (by omega)
theorem qh5(a b:Nat)(ha:a<18446744073709551616)(hb:b<18446744073709551616):qR .andNot .u64 (a:Int) (b:Int)=((a &&& (18446744073709551615-b):Nat):Int):=by
 have h:a &&& (18446744073709551615-b)<2^64:=Nat.and_lt_two_pow a (by omega)
 show IntKind.u64.wrap (((BitVec.ofInt 64 (a:Int) &&& ~~~(BitVec.ofInt 64 (b:Int))).toNat:Nat):Int)=_
 rw[WN,BitVec.toNat_not,Qq a ha,Qq b hb];have e:2^64-1-b=18446744073709551615-b:=by omega
 rw[e];exact jX (by omega) (by omega)
theorem and_mask(a k:Nat):a &&& (2^k-1)=a % 2^k:=Nat.and_two_pow_sub_one_eq_mod a k
theorem qc5{x y r:Nat}(hr:x<2^r):y*2^r ||| x=y*2^r+x:=by
 rw[zF,Nat.two_pow_add_eq_or_of_lt hr]
theorem qoX{x y r:Nat}(hr:x<2^r):x ||| y*2^r=y*2^r+x:=by rw[Nat.or_comm];exact qc5 hr
theorem qc6(a b:Nat)(k:Nat)(hb:b=2^k-1)(ha:a<18446744073709551616)(hk:b<18446744073709551616):qR .and .u64 (a:Int) (b:Int)=((a % 2^k:Nat):Int):=by
 rw[qoW a b ha hk,hb,and_mask]
theorem qtu(a:Nat)(ha:a<9223372036854775808):qR .or .u64 (a:Int) 9223372036854775808=((9223372036854775808+a:Nat):Int):=by
 have:=ZR a 9223372036854775808 (by omega) (by omega)
 rw[show((9223372036854775808:Nat):Int)=9223372036854775808 from rfl]at this;rw[this];have h:=qoX (x:=a) (y:=1) (r:=63) (by omega)
 rw[show(1*2^63:Nat)=9223372036854775808 from rfl]at h;rw[h]
theorem qmG(a:Nat)(ha:a<18446744073709551616):qR .andNot .u64 (a:Int) 9223372036854775808=((a % 9223372036854775808:Nat):Int):=by
 have:=qh5 a 9223372036854775808 ha (by omega)
 rw[show((9223372036854775808:Nat):Int)=9223372036854775808 from rfl]at this;rw[this];have h:=and_mask a 63
 rw[show(2^63-1:Nat)=18446744073709551615-9223372036854775808 from rfl,show(2^63:Nat)=9223372036854775808 from rfl]at h;rw[h]
theorem qay(x k:Nat):Int.fdiv (x:Int) (2^k)=((x / 2^k:Nat):Int):=by
 have h:((2:Int)^k)=((2^k:Nat):Int):=by simp
 rw[h,Vi _ (VR _)];rfl
end Su
end
section
namespace Su
open Go Fly
def bS(f:Nat):Bool:=Nat.ble 9223372036854775808 f
def bK(f:Nat):Nat:=f % 9223372036854775808
def j8(k:Nat):Nat:=bif Nat.beq k 9218868437227405312 then 3 else bif Nat.ble 9218868437227405313 k then 4 else bif Nat.beq k 0 then 0 else bif Nat.ble 4503599627370496 k then 2 else 1
def qeM(k:Nat):Bool:=Nat.ble 9218868437227405313 k
def qeN(k:Nat):Bool:=Nat.ble k 9218868437227405311
def spM(k:Nat):Nat:=bif qeN k then kM k else 0
def spE(k:Nat):Int:=bif qeN k&&!Nat.beq k 0 then(kE k:Int)-1074 else 0
def qbf(f:Nat):Nat:=bif qeM (bK f)then f else bK f
theorem beq_dec(a b:Nat):Nat.beq a b=decide (a=b):=by
 cases h:Nat.beq a b with
 | true=>simp[zf h]
 | false=>symm;simp;intro e;subst e;simp at h
theorem qbg(a b:Nat):Nat.ble a b=decide (a≤b):=by
 cases h:Nat.ble a b with
 | true=>have:=zo h;simp[this]
 | false=>symm;simp;exact VF fun e=>by rw[zp e]at h;cases h
theorem Qe{α:Type}(p:Prop)[Decidable p](x y:α):(bif decide p then x else y)=if p then x else y:=by by_cases h:p <;> simp[h]
theorem qtv{e f:Nat}(he:e≤2047)(hf:f<4503599627370496):j8 (e*4503599627370496+f)=if e=2047 then(if f=0 then 3 else 4)else if e=0 then(if f=0 then 0 else 1)else 2:=by
 unfold j8;simp only[beq_dec,qbg,Qe]
 (repeat' split) <;> omega
theorem qw0{f:Nat}:bS f=true↔9223372036854775808≤f:=by unfold bS;rw[VH]
theorem qd5{k:Nat}:qeM k=true↔9218868437227405313≤k:=by unfold qeM;rw[VH]
theorem qh6{k:Nat}:qeM k=false↔k≤9218868437227405312:=by
 cases h:qeM k with
 | true=>have:=qd5.1 h;simp;omega
 | false=>simp;refine Nat.le_of_lt_succ (VF fun h'=>?_);rw[qd5.2 h']at h;cases h
theorem Zk{k:Nat}:qeN k=true↔k≤9218868437227405311:=by unfold qeN;rw[VH]
theorem qoY{k:Nat}:qeN k=false↔9218868437227405312≤k:=by
 cases h:qeN k with
 | true=>have:=Zk.1 h;simp;omega
 | false=>simp;refine Wa fun h'=>?_;rw[Zk.2 (by omega)]at h;cases h
theorem qoZ(f:Nat):bK f<9223372036854775808:=K9 _ (by decide)
theorem bB{b:Bool}{p:Prop}[Decidable p](h:b=true↔p):decide p=b:=by
 cases b <;> simp_all
theorem JR{f:Int}(h:inR .u64 f=true):∃n:Nat,f=(n:Int)∧n<18446744073709551616:=by
 have:=qc3.1 h
 exact⟨f.toNat,by omega,by omega⟩
theorem Zl(k:Nat):j8 k=if k=9218868437227405312 then 3 else if 9218868437227405313≤k then 4 else if k=0 then 0 else if 4503599627370496≤k then 2 else 1:=by
 unfold j8;simp only[beq_dec,qbg,Qe]
theorem Qa(a b:Nat):decide ((a:Int)=(b:Int))=decide (a=b):=by
 by_cases h:a=b
 · simp[h]
 · rw[zk h,zk];omega
theorem qo0(k c:Nat):decide (((j8 k:Nat):Int)=(c:Int))=decide (j8 k=c):=Qa _ _
theorem qtw(k:Nat):decide (((j8 k:Nat):Int)=4)=qeM k:=by
 refine bB ?_
 rw[qd5,Zl]
 (repeat' split) <;> constructor <;> intro h <;> first | omega | (exfalso;omega)
end Su
end
