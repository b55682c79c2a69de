/-
  Bits and rounding, in plain Lean. No condition.
-/
import Derived.Test.YtldhknmacepeiaaGreatDoorSuSd
set_option linter.unusedVariables false
set_option linter.unusedSimpArgs false
set_option maxRecDepth 10000
section
namespace Su
open Go Fly
def qm(n:Nat):Nat:=if n=0 then 0 else n.log2+1
theorem qkk{n k:Nat}(h0:2^k≤n)(h1:n<2^(k+1)):qm n=k+1:=by
 have hn:n≠0:=fun e=>by subst e;have:=Kg k;omega
 have a:=(Nat.le_log2 hn).2 h0
 have b:=(Nat.log2_lt hn).2 h1
 simp only[qm,hn,WB];omega
theorem Zq{n:Nat}(hn:n≠0):2^(qm n-1)≤n:=by
 simp only[qm,hn,WB,Vo];exact(Nat.le_log2 hn).1 (zE _)
theorem y5(n:Nat):n<2^qm n:=by
 by_cases hn:n=0
 · subst hn;decide
 · simp only[qm,hn,WB]
   exact(Nat.log2_lt hn).1 (by omega)
theorem yj{n:Nat}(hn:n≠0):0<qm n:=by simp only[qm,hn,WB];omega
theorem yp{n k:Nat}:qm n≤k↔n<2^k:=by
 constructor
 · intro h;exact Kt (y5 n) (Kf (by omega) h)
 · intro h
   by_cases hn:n=0
   · subst hn;simp[qm]
   · have h1:=Zq hn
     have:qm n-1<k:=by
      refine(Nat.pow_lt_pow_iff_right (a:=2) (by omega)).1 (K4 h1 h)
     have:=yj hn;omega
theorem JU{n k:Nat}(h:2^k≤n):qm n=k+qm (n / 2^k):=by
 have hp:=Kg k;have hq:n / 2^k≠0:=by have:=Nat.div_pos h hp;omega
 have h1:=Zq hq;have h2:=y5 (n / 2^k)
 have h3:=yj hq;have e:=Vq n (2^k)
 have hm:=Vf n hp;have a1:2^(k+(qm (n / 2^k)-1))≤n:=by
  rw[Ks]
  calc 2^k*2^(qm (n / 2^k)-1)≤2^k*(n / 2^k):=Kk _ h1
   _≤n:=Nat.mul_div_le n _
 have a2:n<2^(k+(qm (n / 2^k)-1)+1):=by
  have:k+(qm (n / 2^k)-1)+1=k+qm (n / 2^k):=by omega
  rw[this,Ks];have:2^k*(n / 2^k+1)≤2^k*2^qm (n / 2^k):=Kk _ h2
  rw[KG]at this;omega
 rw[qkk a1 a2];omega
def ZD(a b:Nat):Int:=if a<b then -1 else if a=b then 0 else 1
end Su
end
section
namespace Su
open Go Fly
def kM(k:Nat):Nat:=if k / 4503599627370496=0 then k % 4503599627370496 else k % 4503599627370496+4503599627370496
def kE(k:Nat):Nat:=k / 4503599627370496-1
def kV(k:Nat):Nat:=kM k*2^kE k
@[irreducible] def SH:Nat:=4926
theorem qxW:SH=4926:=by unfold SH;rfl
theorem qdB{M:Nat}(h:M≠0):Nat.beq M 0=false:=by
 cases hb:Nat.beq M 0 with
 | false=>rfl
 | true=>exact absurd (zf hb) h
def qN(M E:Nat):Nat:=qm M+E-53-SH
def Jo(M E:Nat):Nat:=M*2^(E-(qN M E+SH)) / 2^(qN M E+SH-E)
def qdC(M E:Nat):Nat:=4503599627370496*qN M E+Jo M E
theorem qi7(M E:Nat):qdC M E=qN M E*4503599627370496+Jo M E:=by unfold qdC;rw[zN]
theorem qsn(M E:Nat):Jo M E<9007199254740992:=by
 unfold Jo;have hb:=y5 M;rw[KC (Kg _)];have h1:M*2^(E-(qN M E+SH))<2^qm M*2^(E-(qN M E+SH)):=Vz hb (Kg _)
 refine Kt h1 ?_
 rw[show(9007199254740992:Nat)=2^53 from rfl,← Ks,← Ks];refine Kf (by omega) ?_
 unfold qN;omega
theorem qso{M E:Nat}(hM:M≠0):4503599627370496≤Jo M E∨qN M E=0:=by
 by_cases h:qN M E=0
 · exact .inr h
 · refine .inl ?_
   unfold Jo;have hb:=Zq hM;have hp:=yj hM;rw[Wr (Kg _)];refine Kx ?_ (zG _ hb)
   rw[show(4503599627370496:Nat)=2^52 from rfl,← Ks,← Ks];refine Kf (by omega) ?_
   unfold qN at *;omega
def dN(M E:Nat):Nat:=qN M E+SH-E
def hfN(M E:Nat):Bool:=Nat.ble 1 (dN M E)&&M / 2^(dN M E-1) % 2 == 1
def rsN(M E:Nat):Bool:=Nat.ble 1 (dN M E)&&!(M % 2^(dN M E-1) == 0)
def awN(neg:Bool)(mode:Int):Bool:=bif neg then decide (mode=2)else decide (mode=1)
def twN(neg:Bool)(mode:Int):Bool:=bif neg then decide (mode=1)else decide (mode=2)
def upN(neg:Bool)(mode:Int)(odd half rest:Bool):Bool:=bif awN neg mode then half||rest else bif twN neg mode then false else half&&(rest||odd)
def sgN(neg:Bool):Nat:=bif neg then 9223372036854775808 else 0
def qhw:Nat:=9218868437227405311
def qvA(tw:Bool)(k:Nat):Nat:=bif Nat.ble k qhw then k else bif tw then qhw else qhw+1
def RN(neg:Bool)(mode:Int)(M E:Nat)(rest:Bool):Nat :=
 sgN neg+bif Nat.beq M 0 then 0 else qvA (twN neg mode) (qdC M E+(upN neg mode (Jo M E % 2 == 1) (hfN M E) (rest||rsN M E)).toNat)
end Su
end
section
namespace Su
open Go Fly
theorem Qd(a:Nat)(h:a<18446744073709551616):(BitVec.ofInt 64 (a:Int)).toNat=a:=by
 simp;omega
theorem qoc(a b:Nat)(ha:a<18446744073709551616)(hb:b<18446744073709551616):qX .and .u64 (a:Int) (b:Int)=((a &&& b:Nat):Int):=by
 have h:a &&& b<2^64:=Nat.and_lt_two_pow a (by omega)
 show IntKind.u64.wrap (((BitVec.ofInt 64 (a:Int) &&& BitVec.ofInt 64 (b:Int)).toNat:Nat):Int)=_
 rw[BitVec.toNat_and,Qd a ha,Qd b hb];exact jR (by omega) (by omega)
theorem Zr(a b:Nat)(ha:a<18446744073709551616)(hb:b<18446744073709551616):qX .or .u64 (a:Int) (b:Int)=((a ||| b:Nat):Int):=by
 have h:a ||| b<2^64:=Nat.or_lt_two_pow (by omega) (by omega)
 show IntKind.u64.wrap (((BitVec.ofInt 64 (a:Int) ||| BitVec.ofInt 64 (b:Int)).toNat:Nat):Int)=_
 rw[BitVec.toNat_or,Qd a ha,Qd b hb];exact jR (by omega) (by omega)
theorem qhx(a b:Nat)(ha:a<18446744073709551616)(hb:b<18446744073709551616):qX .andNot .u64 (a:Int) (b:Int)=((a &&& (18446744073709551615-b):Nat):Int):=by
 have h:a &&& (18446744073709551615-b)<2^64:=Nat.and_lt_two_pow a (by omega)
 show IntKind.u64.wrap (((BitVec.ofInt 64 (a:Int) &&& ~~~(BitVec.ofInt 64 (b:Int))).toNat:Nat):Int)=_
 rw[BitVec.toNat_and,BitVec.toNat_not,Qd a ha,Qd b hb];have e:2^64-1-b=18446744073709551615-b:=by omega
 rw[e];exact jR (by omega) (by omega)
theorem and_mask(a k:Nat):a &&& (2^k-1)=a % 2^k:=Nat.and_two_pow_sub_one_eq_mod a k
theorem qcz{x y r:Nat}(hr:x<2^r):y*2^r ||| x=y*2^r+x:=by
 rw[zN,Nat.two_pow_add_eq_or_of_lt hr]
theorem qod{x y r:Nat}(hr:x<2^r):x ||| y*2^r=y*2^r+x:=by rw[Nat.or_comm];exact qcz hr
theorem qcA(a b:Nat)(k:Nat)(hb:b=2^k-1)(ha:a<18446744073709551616)(hk:b<18446744073709551616):qX .and .u64 (a:Int) (b:Int)=((a % 2^k:Nat):Int):=by
 rw[qoc a b ha hk,hb,and_mask]
theorem qsp(a:Nat)(ha:a<9223372036854775808):qX .or .u64 (a:Int) 9223372036854775808=((9223372036854775808+a:Nat):Int):=by
 have:=Zr a 9223372036854775808 (by omega) (by omega)
 rw[show((9223372036854775808:Nat):Int)=9223372036854775808 from rfl]at this;rw[this];have h:=qod (x:=a) (y:=1) (r:=63) (by omega)
 rw[show(1*2^63:Nat)=9223372036854775808 from rfl]at h;rw[h]
theorem ql2(a:Nat)(ha:a<18446744073709551616):qX .andNot .u64 (a:Int) 9223372036854775808=((a % 9223372036854775808:Nat):Int):=by
 have:=qhx a 9223372036854775808 ha (by omega)
 rw[show((9223372036854775808:Nat):Int)=9223372036854775808 from rfl]at this;rw[this];have h:=and_mask a 63
 rw[show(2^63-1:Nat)=18446744073709551615-9223372036854775808 from rfl,show(2^63:Nat)=9223372036854775808 from rfl]at h;rw[h]
theorem Z4(x k:Nat):Int.fdiv (x:Int) (2^k)=((x / 2^k:Nat):Int):=by
 have h:((2:Int)^k)=((2^k:Nat):Int):=by simp
 rw[h,Va _ (VH _)];rfl
end Su
end
section
namespace Su
open Go Fly
def bS(f:Nat):Bool:=Nat.ble 9223372036854775808 f
def bK(f:Nat):Nat:=f % 9223372036854775808
def y8(k:Nat):Nat:=bif Nat.beq k 9218868437227405312 then 3 else bif Nat.ble 9218868437227405313 k then 4 else bif Nat.beq k 0 then 0 else bif Nat.ble 4503599627370496 k then 2 else 1
def qi8(k:Nat):Bool:=Nat.ble 9218868437227405313 k
def qgb(k:Nat):Bool:=Nat.ble k 9218868437227405311
def spM(k:Nat):Nat:=bif qgb k then kM k else 0
def spE(k:Nat):Int:=bif qgb k&&!Nat.beq k 0 then(kE k:Int)-1074 else 0
def qhy(f:Nat):Nat:=bif qi8 (bK f)then f else bK f
theorem beq_dec(a b:Nat):Nat.beq a b=decide (a=b):=by
 cases h:Nat.beq a b with
 | true=>simp[zf h]
 | false=>symm;simp;intro e;subst e;simp at h
theorem qaI(a b:Nat):Nat.ble a b=decide (a≤b):=by
 cases h:Nat.ble a b with
 | true=>have:=zo h;simp[this]
 | false=>symm;simp;exact VF fun e=>by rw[zr e]at h;cases h
theorem Jp{α:Type}(p:Prop)[Decidable p](x y:α):(bif decide p then x else y)=if p then x else y:=by by_cases h:p <;> simp[h]
theorem qkl{e f:Nat}(he:e≤2047)(hf:f<4503599627370496):y8 (e*4503599627370496+f)=if e=2047 then(if f=0 then 3 else 4)else if e=0 then(if f=0 then 0 else 1)else 2:=by
 unfold y8;simp only[beq_dec,qaI,Jp]
 (repeat' split) <;> omega
theorem qoe{f:Nat}:bS f=true↔9223372036854775808≤f:=by unfold bS;rw[VA]
theorem qof{k:Nat}:qi8 k=true↔9218868437227405313≤k:=by unfold qi8;rw[VA]
theorem qaJ{k:Nat}:qgb k=true↔k≤9218868437227405311:=by unfold qgb;rw[VA]
theorem qog{k:Nat}:qgb k=false↔9218868437227405312≤k:=by
 cases h:qgb k with
 | true=>have:=qaJ.1 h;simp;omega
 | false=>simp;refine Ww fun h'=>?_;rw[qaJ.2 (by omega)]at h;cases h
theorem qoh(f:Nat):bK f<9223372036854775808:=Vf _ (by decide)
theorem bB{b:Bool}{p:Prop}[Decidable p](h:b=true↔p):decide p=b:=by
 cases b <;> simp_all
theorem QY{f:Int}(h:inR .u64 f=true):∃n:Nat,f=(n:Int)∧n<18446744073709551616:=by
 have:=qga.1 h
 exact⟨f.toNat,by omega,by omega⟩
theorem qdD(k:Nat):y8 k=if k=9218868437227405312 then 3 else if 9218868437227405313≤k then 4 else if k=0 then 0 else if 4503599627370496≤k then 2 else 1:=by
 unfold y8;simp only[beq_dec,qaI,Jp]
theorem yq(a b:Nat):decide ((a:Int)=(b:Int))=decide (a=b):=by
 by_cases h:a=b
 · simp[h]
 · rw[zk h,zk];omega
theorem qoi(k c:Nat):decide (((y8 k:Nat):Int)=(c:Int))=decide (y8 k=c):=yq _ _
theorem qsq(k:Nat):decide (((y8 k:Nat):Int)=4)=qi8 k:=by
 refine bB ?_
 rw[qof,qdD]
 (repeat' split) <;> constructor <;> intro h <;> first | omega | (exfalso;omega)
end Su
end
