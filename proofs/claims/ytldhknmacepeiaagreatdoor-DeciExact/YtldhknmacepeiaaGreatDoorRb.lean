/-
  Bits and rounding, in plain Lean. No condition.
-/
import Derived.Test.YtldhknmacepeiaaGreatDoorSuSd
set_option linter.unusedVariables false
set_option linter.unusedSimpArgs false
set_option maxRecDepth 10000
section
namespace Su
open Go Fly
def blen(n:Nat):Nat:=if n=0 then 0 else n.log2+1
theorem blen_of{n k:Nat}(h0:2^k≤n)(h1:n<2^(k+1)):blen n=k+1:=by
 have hn:n≠0:=fun e=>by subst e;have:=qG k;omega
 have a:=(Nat.le_log2 hn).2 h0
 have b:=(Nat.log2_lt hn).2 h1
 simp only[blen,hn,zF];omega
theorem blen_ge{n:Nat}(hn:n≠0):2^(blen n-1)≤n:=by
 simp only[blen,hn,zF,jN];exact(Nat.le_log2 hn).1 (qB _)
theorem blen_lt(n:Nat):n<2^blen n:=by
 by_cases hn:n=0
 · subst hn;decide
 · simp only[blen,hn,zF]
   exact(Nat.log2_lt hn).1 (by omega)
theorem blen_pos{n:Nat}(hn:n≠0):0<blen n:=by simp only[blen,hn,zF];omega
theorem blen_le{n k:Nat}:blen n≤k↔n<2^k:=by
 constructor
 · intro h;exact jg (blen_lt n) (qT (by omega) h)
 · intro h
   by_cases hn:n=0
   · subst hn;simp[blen]
   · have h1:=blen_ge hn
     have:blen n-1<k:=by
      refine(Nat.pow_lt_pow_iff_right (a:=2) (by omega)).1 (jz h1 h)
     have:=blen_pos hn;omega
theorem blen_shr{n k:Nat}(h:2^k≤n):blen n=k+blen (n / 2^k):=by
 have hp:=qG k;have hq:n / 2^k≠0:=by have:=Nat.div_pos h hp;omega
 have h1:=blen_ge hq;have h2:=blen_lt (n / 2^k)
 have h3:=blen_pos hq;have e:=jU n (2^k)
 have hm:=jM n hp;have a1:2^(k+(blen (n / 2^k)-1))≤n:=by
  rw[qH]
  calc 2^k*2^(blen (n / 2^k)-1)≤2^k*(n / 2^k):=qI _ h1
   _≤n:=Nat.mul_div_le n _
 have a2:n<2^(k+(blen (n / 2^k)-1)+1):=by
  have:k+(blen (n / 2^k)-1)+1=k+blen (n / 2^k):=by omega
  rw[this,qH];have:2^k*(n / 2^k+1)≤2^k*2^blen (n / 2^k):=qI _ h2
  rw[jy]at this;omega
 rw[blen_of a1 a2];omega
def cmpI(a b:Nat):Int:=if a<b then -1 else if a=b then 0 else 1
end Su
end
section
namespace Su
open Go Fly
def kM(k:Nat):Nat:=if k / 4503599627370496=0 then k % 4503599627370496 else k % 4503599627370496+4503599627370496
def kE(k:Nat):Nat:=k / 4503599627370496-1
def kV(k:Nat):Nat:=kM k*2^kE k
theorem kV_eq{q w:Nat}(hw:w≤9007199254740992)(h:4503599627370496≤w∨q=0):kV (q*4503599627370496+w)=w*2^q:=by
 unfold kV kM kE;by_cases h1:w<4503599627370496
 · have hq:q=0:=by omega
   subst hq;have e1:(0*4503599627370496+w) / 4503599627370496=0:=by omega
   have e2:(0*4503599627370496+w) % 4503599627370496=w:=by omega
   rw[qU e1,e1,e2]
 · by_cases h2:w<9007199254740992
   · have e1:(q*4503599627370496+w) / 4503599627370496=q+1:=by omega
     have e2:(q*4503599627370496+w) % 4503599627370496=w-4503599627370496:=by omega
     rw[qM (by omega),e1,e2,jN,Nat.sub_add_cancel (by omega)]
   · have hw:w=9007199254740992:=by omega
     subst hw;have e1:(q*4503599627370496+9007199254740992) / 4503599627370496=q+2:=by omega
     have e2:(q*4503599627370496+9007199254740992) % 4503599627370496=0:=by omega
     rw[qM (by omega),e1,e2,show q+2-1=q+1 from rfl,qQ];omega
theorem key_form(k:Nat):∃q w,k=q*4503599627370496+w∧w<9007199254740992∧(4503599627370496≤w∨q=0):=by
 by_cases h:k / 4503599627370496=0
 · exact⟨0,k,by omega,by omega,.inr rfl⟩
 · exact⟨k / 4503599627370496-1,k % 4503599627370496+4503599627370496,by omega,by omega,by omega⟩
theorem kV_succ(k:Nat):kV k<kV (k+1):=by
 obtain⟨q,w,rfl,h1,h2⟩:=key_form k;rw[jl,kV_eq (by omega) h2,kV_eq (by omega) (by omega)];exact qR (by omega) (qG q)
theorem kV_lt{i j:Nat}(h:i<j):kV i<kV j:=by
 induction j with
 | zero=>omega
 | succ j ih=>
  by_cases e:i=j
  · subst e;exact kV_succ i
  · exact Nat.lt_trans (ih (by omega)) (kV_succ j)
theorem kV_le{i j:Nat}(h:i≤j):kV i≤kV j:=by
 by_cases e:i=j
 · subst e;exact qB _
 · exact yu (kV_lt (by omega))
@[irreducible] def SH:Nat:=4926
theorem SH_eq:SH=4926:=by unfold SH;rfl
theorem SH_pos:1≤SH:=by rw[SH_eq];decide
theorem beq0{M:Nat}(h:M≠0):Nat.beq M 0=false:=by
 cases hb:Nat.beq M 0 with
 | false=>rfl
 | true=>exact absurd (qd hb) h
def qN(M E:Nat):Nat:=blen M+E-53-SH
def keepN(M E:Nat):Nat:=M*2^(E-(qN M E+SH)) / 2^(qN M E+SH-E)
def floorN(M E:Nat):Nat:=4503599627370496*qN M E+keepN M E
theorem floorN_def(M E:Nat):floorN M E=qN M E*4503599627370496+keepN M E:=by unfold floorN;rw[qA]
theorem keep_lt(M E:Nat):keepN M E<9007199254740992:=by
 unfold keepN;have hb:=blen_lt M;rw[ju (qG _)];have h1:M*2^(E-(qN M E+SH))<2^blen M*2^(E-(qN M E+SH)):=qR hb (qG _)
 refine jg h1 ?_
 rw[show(9007199254740992:Nat)=2^53 from rfl,← qH,← qH];refine qT (by omega) ?_
 unfold qN;omega
theorem keep_ge{M E:Nat}(hM:M≠0):4503599627370496≤keepN M E∨qN M E=0:=by
 by_cases h:qN M E=0
 · exact .inr h
 · refine .inl ?_
   unfold keepN;have hb:=blen_ge hM;have hp:=blen_pos hM;rw[zk (qG _)];refine je ?_ (qw _ hb)
   rw[show(4503599627370496:Nat)=2^52 from rfl,← qH,← qH];refine qT (by omega) ?_
   unfold qN at *;omega
theorem floor_le{M E:Nat}(hM:M≠0):kV (floorN M E)*2^SH≤M*2^E:=by
 rw[floorN_def,kV_eq (yu (keep_lt M E)) (keep_ge hM)];unfold keepN;generalize qN M E=q
 have h:=Nat.div_mul_le_self (M*2^(E-(q+SH))) (2^(q+SH-E))
 by_cases hq:q+SH≤E
 · rw[zn hq,jL,y5,qx,qx,← qH,← qH]
   rw[show E-(q+SH)+(q+SH)=E by omega];exact qB _
 · rw[zn (by omega:E≤q+SH),jL,j8]at h ⊢
   have:M / 2^(q+SH-E)*2^q*2^SH=M / 2^(q+SH-E)*2^(q+SH-E)*2^E:=by
    rw[qx,qx,← qH,← qH]
    congr 2;omega
   rw[this];exact qw _ h
theorem floor_lt{M E:Nat}(hM:M≠0):M*2^E<kV (floorN M E+1)*2^SH:=by
 rw[floorN_def];have hk:=keep_lt M E;rw[jl,kV_eq (by omega) (by rcases keep_ge (E:=E) hM with h | h <;> omega)];unfold keepN;generalize qN M E=q
 by_cases hq:q+SH≤E
 · rw[zn hq,jL,y5,qx,← qH,qL,qx,← qH]
   rw[show E-(q+SH)+(q+SH)=E by omega];have:=qG (q+SH);omega
 · rw[zn (by omega:E≤q+SH),jL,j8]
   have h:=Nat.lt_div_mul_add (a:=M) (b:=2^(q+SH-E)) (qG _)
   have:(M / 2^(q+SH-E)+1)*2^q*2^SH=(M / 2^(q+SH-E)*2^(q+SH-E)+2^(q+SH-E))*2^E:=by
    rw[qx,← qH,← Nat.succ_mul,qx,← qH]
    congr 2;omega
   rw[this];exact qR h (qG _)
def dN(M E:Nat):Nat:=qN M E+SH-E
def hfN(M E:Nat):Bool:=Nat.ble 1 (dN M E)&&M / 2^(dN M E-1) % 2 == 1
def rsN(M E:Nat):Bool:=Nat.ble 1 (dN M E)&&!(M % 2^(dN M E-1) == 0)
theorem kM_eq{q w:Nat}(hw:w<9007199254740992)(h:4503599627370496≤w∨q=0):kM (q*4503599627370496+w)=w:=by
 unfold kM;by_cases h1:w<4503599627370496
 · have:q=0:=by omega
   subst this;rw[qU (by omega)];omega
 · rw[qM (by omega)];omega
theorem kE_eq{q w:Nat}(hw:w<9007199254740992)(h:4503599627370496≤w∨q=0):kE (q*4503599627370496+w)=q:=by
 unfold kE;by_cases h1:w<4503599627370496
 · have:q=0:=by omega
   subst this;omega
 · omega
theorem kM_floor{M E:Nat}(hM:M≠0):kM (floorN M E)=keepN M E:=by rw[floorN_def];exact kM_eq (keep_lt M E) (keep_ge hM)
theorem kE_floor{M E:Nat}(hM:M≠0):kE (floorN M E)=qN M E:=by rw[floorN_def];exact kE_eq (keep_lt M E) (keep_ge hM)
theorem cmp_mid{M E:Nat}(hM:M≠0):cmpI (M*2^E) ((2*kM (floorN M E)+1)*2^(kE (floorN M E)+(SH-1)))=if hfN M E then(if rsN M E then 1 else 0)else -1:=by
 have hS:=SH_pos;rw[kM_floor hM,kE_floor hM];by_cases hd:dN M E=0
 · have e1:hfN M E=false:=by unfold hfN;rw[hd];rfl
   rw[e1];unfold dN at hd;have e2:keepN M E=M*2^(E-(qN M E+SH)):=by unfold keepN;rw[hd];simp
   rw[e2];generalize qN M E=q at *
   have e3:M*2^E=M*2^(E-(q+SH))*2*2^(q+(SH-1)):=by
    rw[qx,qx,← Nat.pow_succ',← qH]
    congr 2;omega
   rw[e3];have hp:=qG (q+(SH-1))
   have:M*2^(E-(q+SH))*2*2^(q+(SH-1))<(2*(M*2^(E-(q+SH)))+1)*2^(q+(SH-1)):=qR (by omega) hp
   unfold cmpI;rw[qU this];rfl
 · obtain⟨d,hd'⟩:∃d,dN M E=d+1:=⟨dN M E-1,by omega⟩
   have e1:hfN M E=(M / 2^d % 2 == 1):=by unfold hfN;rw[hd'];rfl
   have e4:rsN M E = !(M % 2^d == 0):=by unfold rsN;rw[hd'];rfl
   rw[e1,e4];have e2:keepN M E=M / 2^(d+1):=by unfold keepN;unfold dN at hd';rw[hd'];rw[show E-(qN M E+SH)=0 by omega];simp
   rw[e2];have e3:2^(qN M E+(SH-1))=2^d*2^E:=by rw[← qH];congr 1;unfold dN at hd';omega
   rw[e3,← qx];have e5:M / 2^(d+1)=M / 2^d / 2:=by rw[qQ,jb]
   rw[e5];have h1:=jU M (2^d)
   have h2:=jM M (qG d)
   have hp:=qG E;generalize M / 2^d=a at *
   generalize M % 2^d=r at *
   generalize 2^d=D at *
   generalize 2^E=F at *
   have hm:∀x y:Nat,cmpI (x*F) (y*F)=cmpI x y:=fun x y=>by
    unfold cmpI;by_cases h:x<y
    · rw[qU h,qU (qR h hp)]
    · by_cases h':x=y
      · subst h';simp
      · rw[qM h,qM h']
        have:y*F<x*F:=qR (by omega) hp
        rw[qM (by omega),qM (by omega)]
   rw[hm,← h1];rcases Nat.mod_two_eq_zero_or_one a with ha | ha
   · have:a=2*(a / 2):=by omega
     rw[ha];have h3:D*a+r<(2*(a / 2)+1)*D:=by
      rw[← this,qL,qA a D];omega
     unfold cmpI;rw[qU h3];rfl
   · have:a=2*(a / 2)+1:=by omega
     rw[ha,← this,qA a D];by_cases hr:r=0
     · subst hr;simp[cmpI]
     · unfold cmpI
       rw[qM (by omega),qM (by omega)];simp[hr]
def awN(neg:Bool)(mode:Int):Bool:=bif neg then decide (mode=2)else decide (mode=1)
def twN(neg:Bool)(mode:Int):Bool:=bif neg then decide (mode=1)else decide (mode=2)
def upN(neg:Bool)(mode:Int)(odd half rest:Bool):Bool:=bif awN neg mode then half||rest else bif twN neg mode then false else half&&(rest||odd)
def sgN(neg:Bool):Nat:=bif neg then 9223372036854775808 else 0
def topN:Nat:=9218868437227405311
def finN(tw:Bool)(k:Nat):Nat:=bif Nat.ble k topN then k else bif tw then topN else topN+1
def RN(neg:Bool)(mode:Int)(M E:Nat)(rest:Bool):Nat :=
 sgN neg+bif Nat.beq M 0 then 0 else finN (twN neg mode) (floorN M E+(upN neg mode (keepN M E % 2 == 1) (hfN M E) (rest||rsN M E)).toNat)
end Su
end
section
namespace Su
open Go Fly
theorem ofInt_nat(a:Nat)(h:a<18446744073709551616):(BitVec.ofInt 64 (a:Int)).toNat=a:=by
 simp;omega
theorem bitv_and(a b:Nat)(ha:a<18446744073709551616)(hb:b<18446744073709551616):bitv .and .u64 (a:Int) (b:Int)=((a &&& b:Nat):Int):=by
 have h:a &&& b<2^64:=Nat.and_lt_two_pow a (by omega)
 show IntKind.u64.wrap (((BitVec.ofInt 64 (a:Int) &&& BitVec.ofInt 64 (b:Int)).toNat:Nat):Int)=_
 rw[BitVec.toNat_and,ofInt_nat a ha,ofInt_nat b hb];exact wu64 (by omega) (by omega)
theorem bitv_or(a b:Nat)(ha:a<18446744073709551616)(hb:b<18446744073709551616):bitv .or .u64 (a:Int) (b:Int)=((a ||| b:Nat):Int):=by
 have h:a ||| b<2^64:=Nat.or_lt_two_pow (by omega) (by omega)
 show IntKind.u64.wrap (((BitVec.ofInt 64 (a:Int) ||| BitVec.ofInt 64 (b:Int)).toNat:Nat):Int)=_
 rw[BitVec.toNat_or,ofInt_nat a ha,ofInt_nat b hb];exact wu64 (by omega) (by omega)
theorem bitv_andNot(a b:Nat)(ha:a<18446744073709551616)(hb:b<18446744073709551616):bitv .andNot .u64 (a:Int) (b:Int)=((a &&& (18446744073709551615-b):Nat):Int):=by
 have h:a &&& (18446744073709551615-b)<2^64:=Nat.and_lt_two_pow a (by omega)
 show IntKind.u64.wrap (((BitVec.ofInt 64 (a:Int) &&& ~~~(BitVec.ofInt 64 (b:Int))).toNat:Nat):Int)=_
 rw[BitVec.toNat_and,BitVec.toNat_not,ofInt_nat a ha,ofInt_nat b hb];have e:2^64-1-b=18446744073709551615-b:=by omega
 rw[e];exact wu64 (by omega) (by omega)
theorem and_mask(a k:Nat):a &&& (2^k-1)=a % 2^k:=Nat.and_two_pow_sub_one_eq_mod a k
theorem or_high{x y r:Nat}(hr:x<2^r):y*2^r ||| x=y*2^r+x:=by
 rw[qA,Nat.two_pow_add_eq_or_of_lt hr]
theorem or_low{x y r:Nat}(hr:x<2^r):x ||| y*2^r=y*2^r+x:=by rw[Nat.or_comm];exact or_high hr
theorem bv_mask(a b:Nat)(k:Nat)(hb:b=2^k-1)(ha:a<18446744073709551616)(hk:b<18446744073709551616):bitv .and .u64 (a:Int) (b:Int)=((a % 2^k:Nat):Int):=by
 rw[bitv_and a b ha hk,hb,and_mask]
theorem bv_sign(a:Nat)(ha:a<9223372036854775808):bitv .or .u64 (a:Int) 9223372036854775808=((9223372036854775808+a:Nat):Int):=by
 have:=bitv_or a 9223372036854775808 (by omega) (by omega)
 rw[show((9223372036854775808:Nat):Int)=9223372036854775808 from rfl]at this;rw[this];have h:=or_low (x:=a) (y:=1) (r:=63) (by omega)
 rw[show(1*2^63:Nat)=9223372036854775808 from rfl]at h;rw[h]
theorem bv_nosign(a:Nat)(ha:a<18446744073709551616):bitv .andNot .u64 (a:Int) 9223372036854775808=((a % 9223372036854775808:Nat):Int):=by
 have:=bitv_andNot a 9223372036854775808 ha (by omega)
 rw[show((9223372036854775808:Nat):Int)=9223372036854775808 from rfl]at this;rw[this];have h:=and_mask a 63
 rw[show(2^63-1:Nat)=18446744073709551615-9223372036854775808 from rfl,show(2^63:Nat)=9223372036854775808 from rfl]at h;rw[h]
theorem fd_pow(x k:Nat):Int.fdiv (x:Int) (2^k)=((x / 2^k:Nat):Int):=by
 have h:((2:Int)^k)=((2^k:Nat):Int):=by simp
 rw[h,jY _ (yB _)];rfl
end Su
end
section
namespace Su
open Go Fly
def bS(f:Nat):Bool:=Nat.ble 9223372036854775808 f
def bK(f:Nat):Nat:=f % 9223372036854775808
def clsK(k:Nat):Nat:=bif Nat.beq k 9218868437227405312 then 3 else bif Nat.ble 9218868437227405313 k then 4 else bif Nat.beq k 0 then 0 else bif Nat.ble 4503599627370496 k then 2 else 1
def nanK(k:Nat):Bool:=Nat.ble 9218868437227405313 k
def finK(k:Nat):Bool:=Nat.ble k 9218868437227405311
def spM(k:Nat):Nat:=bif finK k then kM k else 0
def spE(k:Nat):Int:=bif finK k&&!Nat.beq k 0 then(kE k:Int)-1074 else 0
def absF(f:Nat):Nat:=bif nanK (bK f)then f else bK f
theorem beq_dec(a b:Nat):Nat.beq a b=decide (a=b):=by
 cases h:Nat.beq a b with
 | true=>simp[qd h]
 | false=>symm;simp;intro e;subst e;simp at h
theorem ble_dec(a b:Nat):Nat.ble a b=decide (a≤b):=by
 cases h:Nat.ble a b with
 | true=>have:=qn h;simp[this]
 | false=>symm;simp;exact yz fun e=>by rw[qo e]at h;cases h
theorem cond_dec{α:Type}(p:Prop)[Decidable p](x y:α):(bif decide p then x else y)=if p then x else y:=by by_cases h:p <;> simp[h]
theorem clsK_eq{e f:Nat}(he:e≤2047)(hf:f<4503599627370496):clsK (e*4503599627370496+f)=if e=2047 then(if f=0 then 3 else 4)else if e=0 then(if f=0 then 0 else 1)else 2:=by
 unfold clsK;simp only[beq_dec,ble_dec,cond_dec]
 (repeat' split) <;> omega
theorem bS_iff{f:Nat}:bS f=true↔9223372036854775808≤f:=by unfold bS;rw[yy]
theorem nanK_iff{k:Nat}:nanK k=true↔9218868437227405313≤k:=by unfold nanK;rw[yy]
theorem finK_iff{k:Nat}:finK k=true↔k≤9218868437227405311:=by unfold finK;rw[yy]
theorem finK_not{k:Nat}:finK k=false↔9218868437227405312≤k:=by
 cases h:finK k with
 | true=>have:=finK_iff.1 h;simp;omega
 | false=>simp;refine za fun h'=>?_;rw[finK_iff.2 (by omega)]at h;cases h
theorem bK_lt(f:Nat):bK f<9223372036854775808:=jM _ (by decide)
theorem bB{b:Bool}{p:Prop}[Decidable p](h:b=true↔p):decide p=b:=by
 cases b <;> simp_all
theorem asN64{f:Int}(h:inR .u64 f=true):∃n:Nat,f=(n:Int)∧n<18446744073709551616:=by
 have:=inR_u64.1 h
 exact⟨f.toNat,by omega,by omega⟩
theorem clsK_val(k:Nat):clsK k=if k=9218868437227405312 then 3 else if 9218868437227405313≤k then 4 else if k=0 then 0 else if 4503599627370496≤k then 2 else 1:=by
 unfold clsK;simp only[beq_dec,ble_dec,cond_dec]
theorem nat_eq(a b:Nat):decide ((a:Int)=(b:Int))=decide (a=b):=by
 by_cases h:a=b
 · simp[h]
 · rw[qm h,qm];omega
theorem cls_is(k c:Nat):decide (((clsK k:Nat):Int)=(c:Int))=decide (clsK k=c):=nat_eq _ _
theorem cls_nan(k:Nat):decide (((clsK k:Nat):Int)=4)=nanK k:=by
 refine bB ?_
 rw[nanK_iff,clsK_val]
 (repeat' split) <;> constructor <;> intro h <;> first | omega | (exfalso;omega)
end Su
end
