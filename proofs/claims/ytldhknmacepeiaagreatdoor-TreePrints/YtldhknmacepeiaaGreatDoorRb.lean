/-
  Bits and rounding, in plain Lean. No condition.
-/
import Derived.Test.YtldhknmacepeiaaGreatDoorSuSd
set_option linter.unusedVariables false
set_option linter.unusedSimpArgs false
set_option maxRecDepth 10000
section
namespace Su
open Go Fly
def qu(n:Nat):Nat:=if n=0 then 0 else n.log2+1
theorem qmb{n k:Nat}(h0:2^k≤n)(h1:n<2^(k+1)):qu n=k+1:=by
 have hn:n≠0:=fun e=>by subst e;have:=zU k;omega
 have a:=(Nat.le_log2 hn).2 h0
 have b:=(Nat.log2_lt hn).2 h1
 simp only[qu,hn,Vv];omega
theorem Zn{n:Nat}(hn:n≠0):2^(qu n-1)≤n:=by
 simp only[qu,hn,Vv,Vt];exact(Nat.le_log2 hn).1 (zI _)
theorem Qs(n:Nat):n<2^qu n:=by
 by_cases hn:n=0
 · subst hn;decide
 · simp only[qu,hn,Vv]
   exact(Nat.log2_lt hn).1 (by omega)
theorem j9{n:Nat}(hn:n≠0):0<qu n:=by simp only[qu,hn,Vv];omega
theorem ye{n k:Nat}:qu n≤k↔n<2^k:=by
 constructor
 · intro h;exact Kv (Qs n) (Kg (by omega) h)
 · intro h
   by_cases hn:n=0
   · subst hn;simp[qu]
   · have h1:=Zn hn
     have:qu n-1<k:=by
      refine(Nat.pow_lt_pow_iff_right (a:=2) (by omega)).1 (K5 h1 h)
     have:=j9 hn;omega
theorem Y0{n k:Nat}(h:2^k≤n):qu n=k+qu (n / 2^k):=by
 have hp:=zU k;have hq:n / 2^k≠0:=by have:=Nat.div_pos h hp;omega
 have h1:=Zn hq;have h2:=Qs (n / 2^k)
 have h3:=j9 hq;have e:=Vb n (2^k)
 have hm:=Vd n hp;have a1:2^(k+(qu (n / 2^k)-1))≤n:=by
  rw[zW]
  calc 2^k*2^(qu (n / 2^k)-1)≤2^k*(n / 2^k):=z8 _ h1
   _≤n:=Nat.mul_div_le n _
 have a2:n<2^(k+(qu (n / 2^k)-1)+1):=by
  have:k+(qu (n / 2^k)-1)+1=k+qu (n / 2^k):=by omega
  rw[this,zW];have:2^k*(n / 2^k+1)≤2^k*2^qu (n / 2^k):=z8 _ h2
  rw[KB]at this;omega
 rw[qmb a1 a2];omega
def Qm(a b:Nat):Int:=if a<b then -1 else if a=b then 0 else 1
end Su
end
section
namespace Su
open Go Fly
def kM(k:Nat):Nat:=if k / 4503599627370496=0 then k % 4503599627370496 else k % 4503599627370496+4503599627370496
def kE(k:Nat):Nat:=k / 4503599627370496-1
def kV(k:Nat):Nat:=kM k*2^kE k
theorem qgq{q w:Nat}(hw:w≤9007199254740992)(h:4503599627370496≤w∨q=0):kV (q*4503599627370496+w)=w*2^q:=by
 unfold kV kM kE;by_cases h1:w<4503599627370496
 · have hq:q=0:=by omega
   subst hq;have e1:(0*4503599627370496+w) / 4503599627370496=0:=by omega
   have e2:(0*4503599627370496+w) % 4503599627370496=w:=by omega
   rw[z6 e1,e1,e2]
 · by_cases h2:w<9007199254740992
   · have e1:(q*4503599627370496+w) / 4503599627370496=q+1:=by omega
     have e2:(q*4503599627370496+w) % 4503599627370496=w-4503599627370496:=by omega
     rw[zQ (by omega),e1,e2,Vt,Nat.sub_add_cancel (by omega)]
   · have hw:w=9007199254740992:=by omega
     subst hw;have e1:(q*4503599627370496+9007199254740992) / 4503599627370496=q+2:=by omega
     have e2:(q*4503599627370496+9007199254740992) % 4503599627370496=0:=by omega
     rw[zQ (by omega),e1,e2,show q+2-1=q+1 from rfl,Ke];omega
theorem qjk(k:Nat):∃q w,k=q*4503599627370496+w∧w<9007199254740992∧(4503599627370496≤w∨q=0):=by
 by_cases h:k / 4503599627370496=0
 · exact⟨0,k,by omega,by omega,.inr rfl⟩
 · exact⟨k / 4503599627370496-1,k % 4503599627370496+4503599627370496,by omega,by omega,by omega⟩
theorem qmc(k:Nat):kV k<kV (k+1):=by
 obtain⟨q,w,rfl,h1,h2⟩:=qjk k;rw[Kp,qgq (by omega) h2,qgq (by omega) (by omega)];exact Kf (by omega) (zU q)
theorem qp6{i j:Nat}(h:i<j):kV i<kV j:=by
 induction j with
 | zero=>omega
 | succ j ih=>
  by_cases e:i=j
  · subst e;exact qmc i
  · exact Nat.lt_trans (ih (by omega)) (qmc j)
theorem qmd{i j:Nat}(h:i≤j):kV i≤kV j:=by
 by_cases e:i=j
 · subst e;exact zI _
 · exact Wg (qp6 (by omega))
@[irreducible] def SH:Nat:=4926
theorem qp7:SH=4926:=by unfold SH;rfl
theorem qp8:1≤SH:=by rw[qp7];decide
theorem qcL{M:Nat}(h:M≠0):Nat.beq M 0=false:=by
 cases hb:Nat.beq M 0 with
 | false=>rfl
 | true=>exact absurd (zd hb) h
def qN(M E:Nat):Nat:=qu M+E-53-SH
def yE(M E:Nat):Nat:=M*2^(E-(qN M E+SH)) / 2^(qN M E+SH-E)
def Jg(M E:Nat):Nat:=4503599627370496*qN M E+yE M E
theorem Ya(M E:Nat):Jg M E=qN M E*4503599627370496+yE M E:=by unfold Jg;rw[zL]
theorem qbV(M E:Nat):yE M E<9007199254740992:=by
 unfold yE;have hb:=Qs M;rw[KG (zU _)];have h1:M*2^(E-(qN M E+SH))<2^qu M*2^(E-(qN M E+SH)):=Kf hb (zU _)
 refine Kv h1 ?_
 rw[show(9007199254740992:Nat)=2^53 from rfl,← zW,← zW];refine Kg (by omega) ?_
 unfold qN;omega
theorem qbW{M E:Nat}(hM:M≠0):4503599627370496≤yE M E∨qN M E=0:=by
 by_cases h:qN M E=0
 · exact .inr h
 · refine .inl ?_
   unfold yE;have hb:=Zn hM;have hp:=j9 hM;rw[WP (zU _)];refine KF ?_ (zG _ hb)
   rw[show(4503599627370496:Nat)=2^52 from rfl,← zW,← zW];refine Kg (by omega) ?_
   unfold qN at *;omega
theorem qp9{M E:Nat}(hM:M≠0):kV (Jg M E)*2^SH≤M*2^E:=by
 rw[Ya,qgq (Wg (qbV M E)) (qbW hM)];unfold yE;generalize qN M E=q
 have h:=Nat.div_mul_le_self (M*2^(E-(q+SH))) (2^(q+SH-E))
 by_cases hq:q+SH≤E
 · rw[WL hq,Vf,WY,zB,zB,← zW,← zW]
   rw[show E-(q+SH)+(q+SH)=E by omega];exact zI _
 · rw[WL (by omega:E≤q+SH),Vf,KK]at h ⊢
   have:M / 2^(q+SH-E)*2^q*2^SH=M / 2^(q+SH-E)*2^(q+SH-E)*2^E:=by
    rw[zB,zB,← zW,← zW]
    congr 2;omega
   rw[this];exact zG _ h
theorem qqa{M E:Nat}(hM:M≠0):M*2^E<kV (Jg M E+1)*2^SH:=by
 rw[Ya];have hk:=qbV M E;rw[Kp,qgq (by omega) (by rcases qbW (E:=E) hM with h|h <;> omega)];unfold yE;generalize qN M E=q
 by_cases hq:q+SH≤E
 · rw[WL hq,Vf,WY,zB,← zW,zR,zB,← zW]
   rw[show E-(q+SH)+(q+SH)=E by omega];have:=zU (q+SH);omega
 · rw[WL (by omega:E≤q+SH),Vf,KK]
   have h:=Nat.lt_div_mul_add (a:=M) (b:=2^(q+SH-E)) (zU _)
   have:(M / 2^(q+SH-E)+1)*2^q*2^SH=(M / 2^(q+SH-E)*2^(q+SH-E)+2^(q+SH-E))*2^E:=by
    rw[zB,← zW,← Nat.succ_mul,zB,← zW]
    congr 2;omega
   rw[this];exact Kf h (zU _)
def dN(M E:Nat):Nat:=qN M E+SH-E
def hfN(M E:Nat):Bool:=Nat.ble 1 (dN M E)&&M / 2^(dN M E-1) % 2 == 1
def rsN(M E:Nat):Bool:=Nat.ble 1 (dN M E)&&!(M % 2^(dN M E-1) == 0)
theorem qyx{q w:Nat}(hw:w<9007199254740992)(h:4503599627370496≤w∨q=0):kM (q*4503599627370496+w)=w:=by
 unfold kM;by_cases h1:w<4503599627370496
 · have:q=0:=by omega
   subst this;rw[z6 (by omega)];omega
 · rw[zQ (by omega)];omega
theorem qvn{q w:Nat}(hw:w<9007199254740992)(h:4503599627370496≤w∨q=0):kE (q*4503599627370496+w)=q:=by
 unfold kE;by_cases h1:w<4503599627370496
 · have:q=0:=by omega
   subst this;omega
 · omega
theorem qqb{M E:Nat}(hM:M≠0):kM (Jg M E)=yE M E:=by rw[Ya];exact qyx (qbV M E) (qbW hM)
theorem qjl{M E:Nat}(hM:M≠0):kE (Jg M E)=qN M E:=by rw[Ya];exact qvn (qbV M E) (qbW hM)
theorem qtP{M E:Nat}(hM:M≠0):Qm (M*2^E) ((2*kM (Jg M E)+1)*2^(kE (Jg M E)+(SH-1)))=if hfN M E then(if rsN M E then 1 else 0)else -1:=by
 have hS:=qp8;rw[qqb hM,qjl hM];by_cases hd:dN M E=0
 · have e1:hfN M E=false:=by unfold hfN;rw[hd];rfl
   rw[e1];unfold dN at hd;have e2:yE M E=M*2^(E-(qN M E+SH)):=by unfold yE;rw[hd];simp
   rw[e2];generalize qN M E=q at *
   have e3:M*2^E=M*2^(E-(q+SH))*2*2^(q+(SH-1)):=by
    rw[zB,zB,← Nat.pow_succ',← zW]
    congr 2;omega
   rw[e3];have hp:=zU (q+(SH-1))
   have:M*2^(E-(q+SH))*2*2^(q+(SH-1))<(2*(M*2^(E-(q+SH)))+1)*2^(q+(SH-1)):=Kf (by omega) hp
   unfold Qm;rw[z6 this];rfl
 · obtain⟨d,hd'⟩:∃d,dN M E=d+1:=⟨dN M E-1,by omega⟩
   have e1:hfN M E=(M / 2^d % 2 == 1):=by unfold hfN;rw[hd'];rfl
   have e4:rsN M E = !(M % 2^d == 0):=by unfold rsN;rw[hd'];rfl
   rw[e1,e4];have e2:yE M E=M / 2^(d+1):=by unfold yE;unfold dN at hd';rw[hd'];rw[show E-(qN M E+SH)=0 by omega];simp
   rw[e2];have e3:2^(qN M E+(SH-1))=2^d*2^E:=by rw[← zW];congr 1;unfold dN at hd';omega
   rw[e3,← zB];have e5:M / 2^(d+1)=M / 2^d / 2:=by rw[Ke,Kq]
   rw[e5];have h1:=Vb M (2^d)
   have h2:=Vd M (zU d)
   have hp:=zU E;generalize M / 2^d=a at *
   generalize M % 2^d=r at *
   generalize 2^d=D at *
   generalize 2^E=F at *
   have hm:∀x y:Nat,Qm (x*F) (y*F)=Qm x y:=fun x y=>by
    unfold Qm;by_cases h:x<y
    · rw[z6 h,z6 (Kf h hp)]
    · by_cases h':x=y
      · subst h';simp
      · rw[zQ h,zQ h']
        have:y*F<x*F:=Kf (by omega) hp
        rw[zQ (by omega),zQ (by omega)]
   rw[hm,← h1];rcases Nat.mod_two_eq_zero_or_one a with ha|ha
   · have:a=2*(a / 2):=by omega
     rw[ha];have h3:D*a+r<(2*(a / 2)+1)*D:=by
      rw[← this,zR,zL a D];omega
     unfold Qm;rw[z6 h3];rfl
   · have:a=2*(a / 2)+1:=by omega
     rw[ha,← this,zL a D];by_cases hr:r=0
     · subst hr;simp[Qm]
     · unfold Qm
       rw[zQ (by omega),zQ (by omega)];simp[hr]
def awN(neg:Bool)(mode:Int):Bool:=bif neg then decide (mode=2)else decide (mode=1)
def twN(neg:Bool)(mode:Int):Bool:=bif neg then decide (mode=1)else decide (mode=2)
def upN(neg:Bool)(mode:Int)(odd half rest:Bool):Bool:=bif awN neg mode then half||rest else bif twN neg mode then false else half&&(rest||odd)
def sgN(neg:Bool):Nat:=bif neg then 9223372036854775808 else 0
def yy:Nat:=9218868437227405311
def qnV(tw:Bool)(k:Nat):Nat:=bif Nat.ble k yy then k else bif tw then yy else yy+1
def RN(neg:Bool)(mode:Int)(M E:Nat)(rest:Bool):Nat :=
 sgN neg+bif Nat.beq M 0 then 0 else qnV (twN neg mode) (Jg M E+(upN neg mode (yE M E % 2 == 1) (hfN M E) (rest||rsN M E)).toNat)
end Su
end
section
namespace Su
open Go Fly
theorem QK(a:Nat)(h:a<18446744073709551616):(BitVec.ofInt 64 (a:Int)).toNat=a:=by
 simp;omega
theorem qqc(a b:Nat)(ha:a<18446744073709551616)(hb:b<18446744073709551616):jj .and .u64 (a:Int) (b:Int)=((a &&& b:Nat):Int):=by
 have h:a &&& b<2^64:=Nat.and_lt_two_pow a (by omega)
 show IntKind.u64.wrap (((BitVec.ofInt 64 (a:Int) &&& BitVec.ofInt 64 (b:Int)).toNat:Nat):Int)=_
 rw[WU,QK a ha,QK b hb];exact yd (by omega) (by omega)
theorem qaA(a b:Nat)(ha:a<18446744073709551616)(hb:b<18446744073709551616):jj .or .u64 (a:Int) (b:Int)=((a ||| b:Nat):Int):=by
 have h:a ||| b<2^64:=Nat.or_lt_two_pow (by omega) (by omega)
 show IntKind.u64.wrap (((BitVec.ofInt 64 (a:Int) ||| BitVec.ofInt 64 (b:Int)).toNat:Nat):Int)=_
 rw[BitVec.toNat_or,QK a ha,QK b hb];exact yd (by omega) (by omega)
theorem qjm(a b:Nat)(ha:a<18446744073709551616)(hb:b<18446744073709551616):jj .andNot .u64 (a:Int) (b:Int)=((a &&& (18446744073709551615-b):Nat):Int):=by
 have h:a &&& (18446744073709551615-b)<2^64:=Nat.and_lt_two_pow a (by omega)
 show IntKind.u64.wrap (((BitVec.ofInt 64 (a:Int) &&& ~~~(BitVec.ofInt 64 (b:Int))).toNat:Nat):Int)=_
 rw[WU,BitVec.toNat_not,QK a ha,QK b hb];have e:2^64-1-b=18446744073709551615-b:=by omega
 rw[e];exact yd (by omega) (by omega)
theorem and_mask(a k:Nat):a &&& (2^k-1)=a % 2^k:=Nat.and_two_pow_sub_one_eq_mod a k
theorem qdK{x y r:Nat}(hr:x<2^r):y*2^r ||| x=y*2^r+x:=by
 rw[zL,Nat.two_pow_add_eq_or_of_lt hr]
theorem qqd{x y r:Nat}(hr:x<2^r):x ||| y*2^r=y*2^r+x:=by rw[Nat.or_comm];exact qdK hr
theorem qdL(a b:Nat)(k:Nat)(hb:b=2^k-1)(ha:a<18446744073709551616)(hk:b<18446744073709551616):jj .and .u64 (a:Int) (b:Int)=((a % 2^k:Nat):Int):=by
 rw[qqc a b ha hk,hb,and_mask]
theorem qtQ(a:Nat)(ha:a<9223372036854775808):jj .or .u64 (a:Int) 9223372036854775808=((9223372036854775808+a:Nat):Int):=by
 have:=qaA a 9223372036854775808 (by omega) (by omega)
 rw[show((9223372036854775808:Nat):Int)=9223372036854775808 from rfl]at this;rw[this];have h:=qqd (x:=a) (y:=1) (r:=63) (by omega)
 rw[show(1*2^63:Nat)=9223372036854775808 from rfl]at h;rw[h]
theorem qnW(a:Nat)(ha:a<18446744073709551616):jj .andNot .u64 (a:Int) 9223372036854775808=((a % 9223372036854775808:Nat):Int):=by
 have:=qjm a 9223372036854775808 ha (by omega)
 rw[show((9223372036854775808:Nat):Int)=9223372036854775808 from rfl]at this;rw[this];have h:=and_mask a 63
 rw[show(2^63-1:Nat)=18446744073709551615-9223372036854775808 from rfl,show(2^63:Nat)=9223372036854775808 from rfl]at h;rw[h]
theorem qbe(x k:Nat):Int.fdiv (x:Int) (2^k)=((x / 2^k:Nat):Int):=by
 have h:((2:Int)^k)=((2^k:Nat):Int):=by simp
 rw[h,Vh _ (VW _)];rfl
end Su
end
section
namespace Su
open Go Fly
def bS(f:Nat):Bool:=Nat.ble 9223372036854775808 f
def bK(f:Nat):Nat:=f % 9223372036854775808
def yw(k:Nat):Nat:=bif Nat.beq k 9218868437227405312 then 3 else bif Nat.ble 9218868437227405313 k then 4 else bif Nat.beq k 0 then 0 else bif Nat.ble 4503599627370496 k then 2 else 1
def qfK(k:Nat):Bool:=Nat.ble 9218868437227405313 k
def qfL(k:Nat):Bool:=Nat.ble k 9218868437227405311
def spM(k:Nat):Nat:=bif qfL k then kM k else 0
def spE(k:Nat):Int:=bif qfL k&&!Nat.beq k 0 then(kE k:Int)-1074 else 0
def qbX(f:Nat):Nat:=bif qfK (bK f)then f else bK f
theorem beq_dec(a b:Nat):Nat.beq a b=decide (a=b):=by
 cases h:Nat.beq a b with
 | true=>simp[zd h]
 | false=>symm;simp;intro e;subst e;simp at h
theorem qbY(a b:Nat):Nat.ble a b=decide (a≤b):=by
 cases h:Nat.ble a b with
 | true=>have:=zx h;simp[this]
 | false=>symm;simp;exact VI fun e=>by rw[zN e]at h;cases h
theorem Y1{α:Type}(p:Prop)[Decidable p](x y:α):(bif decide p then x else y)=if p then x else y:=by by_cases h:p <;> simp[h]
theorem qtR{e f:Nat}(he:e≤2047)(hf:f<4503599627370496):yw (e*4503599627370496+f)=if e=2047 then(if f=0 then 3 else 4)else if e=0 then(if f=0 then 0 else 1)else 2:=by
 unfold yw;simp only[beq_dec,qbY,Y1]
 (repeat' split) <;> omega
theorem qwN{f:Nat}:bS f=true↔9223372036854775808≤f:=by unfold bS;rw[Wj]
theorem qeV{k:Nat}:qfK k=true↔9218868437227405313≤k:=by unfold qfK;rw[Wj]
theorem qjn{k:Nat}:qfK k=false↔k≤9218868437227405312:=by
 cases h:qfK k with
 | true=>have:=qeV.1 h;simp;omega
 | false=>simp;refine Nat.le_of_lt_succ (VI fun h'=>?_);rw[qeV.2 h']at h;cases h
theorem Z2{k:Nat}:qfL k=true↔k≤9218868437227405311:=by unfold qfL;rw[Wj]
theorem qqe{k:Nat}:qfL k=false↔9218868437227405312≤k:=by
 cases h:qfL k with
 | true=>have:=Z2.1 h;simp;omega
 | false=>simp;refine Wi fun h'=>?_;rw[Z2.2 (by omega)]at h;cases h
theorem qqf(f:Nat):bK f<9223372036854775808:=Vd _ (by decide)
theorem bB{b:Bool}{p:Prop}[Decidable p](h:b=true↔p):decide p=b:=by
 cases b <;> simp_all
theorem Yy{f:Int}(h:inR .u64 f=true):∃n:Nat,f=(n:Int)∧n<18446744073709551616:=by
 have:=qdI.1 h
 exact⟨f.toNat,by omega,by omega⟩
theorem Z3(k:Nat):yw k=if k=9218868437227405312 then 3 else if 9218868437227405313≤k then 4 else if k=0 then 0 else if 4503599627370496≤k then 2 else 1:=by
 unfold yw;simp only[beq_dec,qbY,Y1]
theorem qhO(a b:Nat):decide ((a:Int)=(b:Int))=decide (a=b):=by
 by_cases h:a=b
 · simp[h]
 · rw[zq h,zq];omega
theorem qqg(k c:Nat):decide (((yw k:Nat):Int)=(c:Int))=decide (yw k=c):=qhO _ _
theorem qtS(k:Nat):decide (((yw k:Nat):Int)=4)=qfK k:=by
 refine bB ?_
 rw[qeV,Z3]
 (repeat' split) <;> constructor <;> intro h <;> first|omega|(exfalso;omega)
end Su
end
