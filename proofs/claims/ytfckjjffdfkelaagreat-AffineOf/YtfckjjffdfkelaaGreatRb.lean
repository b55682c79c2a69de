/-
  Bits and rounding, in plain Lean. No condition.
-/
import Derived.Test.YtfckjjffdfkelaaGreatSuSd
set_option linter.unusedVariables false
set_option linter.unusedSimpArgs false
set_option maxRecDepth 10000
section
namespace Su
open Go Fly
def qo(n:Nat):Nat:=if n=0 then 0 else n.log2+1
theorem qy1{n k:Nat}(h0:2^k≤n)(h1:n<2^(k+1)):qo n=k+1:=by
 have hn:n≠0:=fun e=>by subst e;have:=zK k;omega
 have a:=(Nat.le_log2 hn).2 h0
 have b:=(Nat.log2_lt hn).2 h1
 simp only[qo,hn,Xu];omega
theorem qeY{n:Nat}(hn:n≠0):2^(qo n-1)≤n:=by
 simp only[qo,hn,Xu,VM];exact(Nat.le_log2 hn).1 (zE _)
theorem qcz(n:Nat):n<2^qo n:=by
 by_cases hn:n=0
 · subst hn;decide
 · simp only[qo,hn,Xu]
   exact(Nat.log2_lt hn).1 (by omega)
theorem Yt{n:Nat}(hn:n≠0):0<qo n:=by simp only[qo,hn,Xu];omega
theorem yC{n k:Nat}:qo n≤k↔n<2^k:=by
 constructor
 · intro h;exact Ki (qcz n) (Kf (by omega) h)
 · intro h
   by_cases hn:n=0
   · subst hn;simp[qo]
   · have h1:=qeY hn
     have:qo n-1<k:=by
      refine(Nat.pow_lt_pow_iff_right (a:=2) (by omega)).1 (KX h1 h)
     have:=Yt hn;omega
theorem Yu{n k:Nat}(h:2^k≤n):qo n=k+qo (n / 2^k):=by
 have hp:=zK k;have hq:n / 2^k≠0:=by have:=Nat.div_pos h hp;omega
 have h1:=qeY hq;have h2:=qcz (n / 2^k)
 have h3:=Yt hq;have e:=Vb n (2^k)
 have hm:=Vr n hp;have a1:2^(k+(qo (n / 2^k)-1))≤n:=by
  rw[zW]
  calc 2^k*2^(qo (n / 2^k)-1)≤2^k*(n / 2^k):=KB _ h1
   _≤n:=Nat.mul_div_le n _
 have a2:n<2^(k+(qo (n / 2^k)-1)+1):=by
  have:k+(qo (n / 2^k)-1)+1=k+qo (n / 2^k):=by omega
  rw[this,zW];have:2^k*(n / 2^k+1)≤2^k*2^qo (n / 2^k):=KB _ h2
  rw[KO]at this;omega
 rw[qy1 a1 a2];omega
def JC(a b:Nat):Int:=if a<b then -1 else if a=b then 0 else 1
end Su
end
section
namespace Su
noncomputable section
open Go Fly
def kM(k:Nat):Nat:=if k / 4503599627370496=0 then k % 4503599627370496 else k % 4503599627370496+4503599627370496
def kE(k:Nat):Nat:=k / 4503599627370496-1
def kV(k:Nat):Nat:=kM k*2^kE k
theorem qpA{q w:Nat}(hw:w≤9007199254740992)(h:4503599627370496≤w∨q=0):kV (q*4503599627370496+w)=w*2^q:=by
 unfold kV kM kE;by_cases h1:w<4503599627370496
 · have hq:q=0:=by omega
   subst hq;have e1:(0*4503599627370496+w) / 4503599627370496=0:=by omega
   have e2:(0*4503599627370496+w) % 4503599627370496=w:=by omega
   rw[Kp e1,e1,e2]
 · by_cases h2:w<9007199254740992
   · have e1:(q*4503599627370496+w) / 4503599627370496=q+1:=by omega
     have e2:(q*4503599627370496+w) % 4503599627370496=w-4503599627370496:=by omega
     rw[zZ (by omega),e1,e2,VM,WQ (by omega)]
   · have hw:w=9007199254740992:=by omega
     subst hw;have e1:(q*4503599627370496+9007199254740992) / 4503599627370496=q+2:=by omega
     have e2:(q*4503599627370496+9007199254740992) % 4503599627370496=0:=by omega
     rw[zZ (by omega),e1,e2,show q+2-1=q+1 from rfl,Kx];omega
theorem qt0(k:Nat):∃q w,k=q*4503599627370496+w∧w<9007199254740992∧(4503599627370496≤w∨q=0):=by
 by_cases h:k / 4503599627370496=0
 · exact⟨0,k,by omega,by omega,.inr rfl⟩
 · exact⟨k / 4503599627370496-1,k % 4503599627370496+4503599627370496,by omega,by omega,by omega⟩
theorem qpB(k:Nat):kV k<kV (k+1):=by
 obtain⟨q,w,rfl,h1,h2⟩:=qt0 k;rw[KD,qpA (by omega) h2,qpA (by omega) (by omega)];exact K8 (by omega) (zK q)
theorem qpC{i j:Nat}(h:i<j):kV i<kV j:=by
 induction j with
 | zero=>omega
 | succ j ih=>
  by_cases e:i=j
  · subst e;exact qpB i
  · exact Nat.lt_trans (ih (by omega)) (qpB j)
theorem qGR{i j:Nat}(h:i≤j):kV i≤kV j:=by
 by_cases e:i=j
 · subst e;exact zE _
 · exact Wl (qpC (by omega))
@[irreducible] def SH:Nat:=4926
theorem qCp:SH=4926:=by unfold SH;rfl
theorem qbW{M:Nat}(h:M≠0):Nat.beq M 0=false:=by
 cases hb:Nat.beq M 0 with
 | false=>rfl
 | true=>exact absurd (zj hb) h
def qN(M E:Nat):Nat:=qo M+E-53-SH
def jj(M E:Nat):Nat:=M*2^(E-(qN M E+SH)) / 2^(qN M E+SH-E)
def yd(M E:Nat):Nat:=4503599627370496*qN M E+jj M E
theorem Yv(M E:Nat):yd M E=qN M E*4503599627370496+jj M E:=by unfold yd;rw[zL]
theorem qcA(M E:Nat):jj M E<9007199254740992:=by
 unfold jj;have hb:=qcz M;rw[KP (zK _)];have h1:M*2^(E-(qN M E+SH))<2^qo M*2^(E-(qN M E+SH)):=K8 hb (zK _)
 refine Ki h1 ?_
 rw[show(9007199254740992:Nat)=2^53 from rfl,← zW,← zW];refine Kf (by omega) ?_
 unfold qN;omega
theorem qcB{M E:Nat}(hM:M≠0):4503599627370496≤jj M E∨qN M E=0:=by
 by_cases h:qN M E=0
 · exact .inr h
 · refine .inl ?_
   unfold jj;have hb:=qeY hM;have hp:=Yt hM;rw[Xq (zK _)];refine zU ?_ (zH _ hb)
   rw[show(4503599627370496:Nat)=2^52 from rfl,← zW,← zW];refine Kf (by omega) ?_
   unfold qN at *;omega
theorem qt1{M E:Nat}(hM:M≠0):kV (yd M E)*2^SH≤M*2^E:=by
 rw[Yv,qpA (Wl (qcA M E)) (qcB hM)];unfold jj;generalize qN M E=q
 have h:=Nat.div_mul_le_self (M*2^(E-(q+SH))) (2^(q+SH-E))
 by_cases hq:q+SH≤E
 · rw[WX hq,Vp,Xv,zR,zR,← zW,← zW]
   rw[show E-(q+SH)+(q+SH)=E by omega];exact zE _
 · rw[WX (by omega:E≤q+SH),Vp,Wb]at h ⊢
   have:M / 2^(q+SH-E)*2^q*2^SH=M / 2^(q+SH-E)*2^(q+SH-E)*2^E:=by
    rw[zR,zR,← zW,← zW]
    congr 2;omega
   rw[this];exact zH _ h
theorem qt2{M E:Nat}(hM:M≠0):M*2^E<kV (yd M E+1)*2^SH:=by
 rw[Yv];have hk:=qcA M E;rw[KD,qpA (by omega) (by rcases qcB (E:=E) hM with h | h <;> omega)];unfold jj;generalize qN M E=q
 by_cases hq:q+SH≤E
 · rw[WX hq,Vp,Xv,zR,← zW,zV,zR,← zW]
   rw[show E-(q+SH)+(q+SH)=E by omega];have:=zK (q+SH);omega
 · rw[WX (by omega:E≤q+SH),Vp,Wb]
   have h:=Nat.lt_div_mul_add (a:=M) (b:=2^(q+SH-E)) (zK _)
   have:(M / 2^(q+SH-E)+1)*2^q*2^SH=(M / 2^(q+SH-E)*2^(q+SH-E)+2^(q+SH-E))*2^E:=by
    rw[zR,← zW,← Nat.succ_mul,zR,← zW]
    congr 2;omega
   rw[this];exact K8 h (zK _)
def dN(M E:Nat):Nat:=qN M E+SH-E
def hfN(M E:Nat):Bool:=Nat.ble 1 (dN M E)&&M / 2^(dN M E-1) % 2 == 1
def rsN(M E:Nat):Bool:=Nat.ble 1 (dN M E)&&!(M % 2^(dN M E-1) == 0)
theorem qGS{q w:Nat}(hw:w<9007199254740992)(h:4503599627370496≤w∨q=0):kM (q*4503599627370496+w)=w:=by
 unfold kM;by_cases h1:w<4503599627370496
 · have:q=0:=by omega
   subst this;rw[Kp (by omega)];omega
 · rw[zZ (by omega)];omega
theorem qGT{q w:Nat}(hw:w<9007199254740992)(h:4503599627370496≤w∨q=0):kE (q*4503599627370496+w)=q:=by
 unfold kE;by_cases h1:w<4503599627370496
 · have:q=0:=by omega
   subst this;omega
 · omega
theorem qt3{M E:Nat}(hM:M≠0):kM (yd M E)=jj M E:=by rw[Yv];exact qGS (qcA M E) (qcB hM)
theorem qt4{M E:Nat}(hM:M≠0):kE (yd M E)=qN M E:=by rw[Yv];exact qGT (qcA M E) (qcB hM)
theorem qlS{M E:Nat}(hM:M≠0):M*2^E=kV (yd M E)*2^SH↔hfN M E=false∧rsN M E=false:=by
 unfold kV;rw[qt3 hM,qt4 hM];by_cases hd:dN M E=0
 · have e1:hfN M E=false:=by unfold hfN;rw[hd];rfl
   have e4:rsN M E=false:=by unfold rsN;rw[hd];rfl
   rw[e1,e4];unfold dN at hd;have e2:jj M E=M*2^(E-(qN M E+SH)):=by unfold jj;rw[hd];simp
   rw[e2];generalize qN M E=q at *
   have e3:M*2^E=M*2^(E-(q+SH))*2^q*2^SH:=by
    rw[zR,zR,← zW,← zW]
    congr 2;omega
   simp[e3]
 · obtain⟨d,hd'⟩:∃d,dN M E=d+1:=⟨dN M E-1,by omega⟩
   have e1:hfN M E=(M / 2^d % 2 == 1):=by unfold hfN;rw[hd'];rfl
   have e4:rsN M E = !(M % 2^d == 0):=by unfold rsN;rw[hd'];rfl
   rw[e1,e4];have e2:jj M E=M / 2^(d+1):=by unfold jj;unfold dN at hd';rw[hd'];rw[show E-(qN M E+SH)=0 by omega];simp
   rw[e2];have e3:∀x,x*2^qN M E*2^SH=x*2*2^d*2^E:=fun x=>by
    rw[zR,← zW,zR x,← Nat.pow_succ',zR,← zW]
    congr 2;unfold dN at hd';omega
   rw[e3];have e5:M / 2^(d+1)=M / 2^d / 2:=by rw[Kx,Kv]
   rw[e5];have h1:=Vb M (2^d)
   have h2:=Vr M (zK d)
   have hp:=zK E;generalize M / 2^d=a at *
   generalize M % 2^d=r at *
   generalize 2^d=D at *
   generalize 2^E=F at *
   rw[← h1];have:(D*a+r)*F=a / 2*2*D*F↔D*a+r=a / 2*2*D:=⟨fun h=>W8 hp h,fun h=>by rw[h]⟩
   rw[this];rcases Nat.mod_two_eq_zero_or_one a with ha | ha
   · have:a / 2*2=a:=by omega
     rw[ha,this,zL a D];simp
   · have:a=a / 2*2+1:=by omega
     rw[ha];have h3:D*a=a / 2*2*D+D:=by
      rw[zL D a]
      calc a*D=(a / 2*2+1)*D:=by rw[← this]
       _=a / 2*2*D+D:=by rw[zV,KU]
     constructor
     · intro h;omega
     · rintro⟨h,_⟩;cases h
def awN(neg:Bool)(mode:Int):Bool:=bif neg then decide (mode=2)else decide (mode=1)
def twN(neg:Bool)(mode:Int):Bool:=bif neg then decide (mode=1)else decide (mode=2)
def upN(neg:Bool)(mode:Int)(odd half rest:Bool):Bool:=bif awN neg mode then half||rest else bif twN neg mode then false else half&&(rest||odd)
def sgN(neg:Bool):Nat:=bif neg then 9223372036854775808 else 0
def js:Nat:=9218868437227405311
def qcC(tw:Bool)(k:Nat):Nat:=bif Nat.ble k js then k else bif tw then js else js+1
def RN(neg:Bool)(mode:Int)(M E:Nat)(rest:Bool):Nat :=
 sgN neg+bif Nat.beq M 0 then 0 else qcC (twN neg mode) (yd M E+(upN neg mode (jj M E % 2 == 1) (hfN M E) (rest||rsN M E)).toNat)
theorem qGU{M E t:Nat}(h:M / 2^t≠0):qN (M / 2^t) (E+t)=qN M E:=by
 have hp:=zK t;have:2^t≤M:=by
  refine Wg fun hlt=>h (Vu hlt)
 have:=Yu this
 unfold qN;omega
theorem qev{M a b:Nat}(h:a≤b)(hM:M % 2^b=0):M % 2^a=0:=by
 have:2^a ∣ 2^b:=Nat.pow_dvd_pow 2 h
 exact Nat.mod_eq_zero_of_dvd (Nat.dvd_trans this (Nat.dvd_of_mod_eq_zero hM))
theorem qt5{neg:Bool}{mode:Int}{M E t:Nat}(h0:M / 2^t≠0)(h:54≤qo (M / 2^t)∨M % 2^t=0):RN neg mode (M / 2^t) (E+t) (!(M % 2^t == 0))=RN neg mode M E false:=by
 have hq:=qGU (E:=E) h0
 have hM:M≠0:=fun e=>h0 (by subst e;simp)
 have key:jj (M / 2^t) (E+t)=jj M E∧hfN (M / 2^t) (E+t)=hfN M E∧(!(M % 2^t == 0)||rsN (M / 2^t) (E+t))=rsN M E:=by
  by_cases hd:dN (M / 2^t) (E+t)=0
  · have hmod:M % 2^t=0:=by
     rcases h with h | h
     · unfold dN qN at hd;omega
     · exact h
    have e1:hfN (M / 2^t) (E+t)=false:=by unfold hfN;rw[hd];rfl
    have e4:rsN (M / 2^t) (E+t)=false:=by unfold rsN;rw[hd];rfl
    rw[e1,e4,hmod];have hMe:M=M / 2^t*2^t:=by have:=Vb M (2^t);rw[hmod,zL]at this;omega
    unfold dN at hd;rw[hq]at hd;have k1:jj (M / 2^t) (E+t)=M / 2^t*2^(E+t-(qN M E+SH)):=by unfold jj;rw[hq,hd];simp
    rw[k1];by_cases hd2:dN M E=0
    · have e5:hfN M E=false:=by unfold hfN;rw[hd2];rfl
      have e6:rsN M E=false:=by unfold rsN;rw[hd2];rfl
      rw[e5,e6];refine⟨?_,rfl,rfl⟩
      unfold dN at hd2;unfold jj;rw[hd2,Vp,Xv];generalize qN M E=q at *
      conv=>rhs;rw[hMe]
      rw[zR,← zW]
      congr 2;omega
    · obtain⟨d,hd'⟩:∃d,dN M E=d+1:=⟨dN M E-1,by omega⟩
      have e5:hfN M E=(M / 2^d % 2 == 1):=by unfold hfN;rw[hd'];rfl
      have e6:rsN M E = !(M % 2^d == 0):=by unfold rsN;rw[hd'];rfl
      have k2:jj M E=M / 2^(d+1):=by unfold jj;unfold dN at hd';rw[hd'];rw[show E-(qN M E+SH)=0 by omega];simp
      unfold dN at hd';have m1:M % 2^d=0:=qev (by omega) hmod
      have m2:M % 2^(d+1)=0:=qev (by omega) hmod
      rw[e5,e6,k2,m1];have hv:=Vb M (2^(d+1))
      rw[m2]at hv;refine⟨?_,?_,rfl⟩
      · refine W8 (zK (d+1)) ?_
        rw[zR,← zW,show E+t-(qN M E+SH)+(d+1)=t by omega,← hMe,zL];omega
      · have:M / 2^d=2*(M / 2^(d+1)):=by
         conv=>lhs;rw[← hv]
         rw[Kr,Kx,zR,WI _ (zK d)]
        rw[this];rw[Xm];rfl
  · obtain⟨d,hd'⟩:∃d,dN (M / 2^t) (E+t)=d+1:=⟨dN (M / 2^t) (E+t)-1,by omega⟩
    have hd2:dN M E=t+d+1:=by unfold dN at *;rw[hq]at hd';omega
    have e1:hfN (M / 2^t) (E+t)=(M / 2^t / 2^d % 2 == 1):=by unfold hfN;rw[hd'];rfl
    have e4:rsN (M / 2^t) (E+t) = !(M / 2^t % 2^d == 0):=by unfold rsN;rw[hd'];rfl
    have k1:jj (M / 2^t) (E+t)=M / 2^t / 2^(d+1):=by unfold jj;unfold dN at hd';rw[hd'];rw[show E+t-(qN (M / 2^t) (E+t)+SH)=0 by omega];simp
    have e5:hfN M E=(M / 2^(t+d) % 2 == 1):=by unfold hfN;rw[hd2];rfl
    have e6:rsN M E = !(M % 2^(t+d) == 0):=by unfold rsN;rw[hd2];rfl
    have k2:jj M E=M / 2^(t+d+1):=by unfold jj;unfold dN at hd2;rw[hd2];rw[show E-(qN M E+SH)=0 by omega];simp
    rw[e1,e4,k1,e5,e6,k2,Kv,Kv,← zW,← zW];refine⟨rfl,rfl,?_⟩
    rw[zW,Nat.mod_mul];have hp:=zK t;generalize M % 2^t=a
    generalize M / 2^t % 2^d=b
    generalize 2^t=D at hp
    cases a with
    | zero=>
     cases b with
     | zero=>rfl
     | succ b=>
      have:0<D*(b+1):=Xx hp (by omega)
      have e:(0+D*(b+1) == 0)=false:=by simp;omega
      rw[e];rfl
    | succ a=>
     have e:(a+1+D*b == 0)=false:=by simp
     rw[e];rfl
 obtain⟨k1,k2,k3⟩:=key;have hf:yd (M / 2^t) (E+t)=yd M E:=by unfold yd;rw[hq,k1]
 have b1:Nat.beq (M / 2^t) 0=false:=qbW h0
 have b2:Nat.beq M 0=false:=qbW hM
 unfold RN;rw[b1,b2,hf,k1,k2,k3,VL]
def rndL:{f:Bool→Int→Nat→Int→Bool→Nat // ∀neg mode M e rest,f neg mode M e rest=RN neg mode M (min (max e (-5000)) 5000+6000).toNat (rest&&decide (53<qo M))}:=Classical.choice ⟨⟨_,fun _ _ _ _ _=>rfl⟩⟩
def rnd(neg:Bool)(mode:Int)(M:Nat)(e:Int)(rest:Bool):Nat:=rndL.1 neg mode M e rest
theorem qgc(neg:Bool)(mode:Int)(M:Nat)(e:Int)(rest:Bool):rnd neg mode M e rest=RN neg mode M (min (max e (-5000)) 5000+6000).toNat (rest&&decide (53<qo M)):=rndL.2 neg mode M e rest
theorem qcD(neg:Bool)(mode:Int)(E:Nat)(rest:Bool):RN neg mode 0 E rest=sgN neg:=by unfold RN;rw[show Nat.beq 0 0=true from rfl,zd,Kr]
end
end Su
end
section
namespace Su
open Go Fly
theorem Qo(a:Nat)(h:a<18446744073709551616):(BitVec.ofInt 64 (a:Int)).toNat=a:=by
 simp;omega
theorem qt6(a b:Nat)(ha:a<18446744073709551616)(hb:b<18446744073709551616):qD .and .u64 (a:Int) (b:Int)=((a &&& b:Nat):Int):=by
 have h:a &&& b<2^64:=Nat.and_lt_two_pow a (by omega)
 show IntKind.u64.wrap (((BitVec.ofInt 64 (a:Int) &&& BitVec.ofInt 64 (b:Int)).toNat:Nat):Int)=_
 rw[XP,Qo a ha,Qo b hb];exact jS (by omega) (by omega)
theorem qcE(a b:Nat)(ha:a<18446744073709551616)(hb:b<18446744073709551616):qD .or .u64 (a:Int) (b:Int)=((a ||| b:Nat):Int):=by
 have h:a ||| b<2^64:=Nat.or_lt_two_pow (by omega) (by omega)
 show IntKind.u64.wrap (((BitVec.ofInt 64 (a:Int) ||| BitVec.ofInt 64 (b:Int)).toNat:Nat):Int)=_
 rw[BitVec.toNat_or,Qo a ha,Qo b hb];exact jS (by omega) (by omega)
theorem qt7(a b:Nat)(ha:a<18446744073709551616)(hb:b<18446744073709551616):qD .xor .u64 (a:Int) (b:Int)=((a ^^^ b:Nat):Int):=by
 have h:a ^^^ b<2^64:=Nat.xor_lt_two_pow (by omega) (by omega)
 show IntKind.u64.wrap (((BitVec.ofInt 64 (a:Int) ^^^ BitVec.ofInt 64 (b:Int)).toNat:Nat):Int)=_
 rw[BitVec.toNat_xor,Qo a ha,Qo b hb];exact jS (by omega) (by omega)
theorem qlT(a b:Nat)(ha:a<18446744073709551616)(hb:b<18446744073709551616):qD .andNot .u64 (a:Int) (b:Int)=((a &&& (18446744073709551615-b):Nat):Int):=by
 have h:a &&& (18446744073709551615-b)<2^64:=Nat.and_lt_two_pow a (by omega)
 show IntKind.u64.wrap (((BitVec.ofInt 64 (a:Int) &&& ~~~(BitVec.ofInt 64 (b:Int))).toNat:Nat):Int)=_
 rw[XP,BitVec.toNat_not,Qo a ha,Qo b hb];have e:2^64-1-b=18446744073709551615-b:=by omega
 rw[e];exact jS (by omega) (by omega)
theorem and_mask(a k:Nat):a &&& (2^k-1)=a % 2^k:=WK a k
theorem qeZ{x y r:Nat}(hr:x<2^r):y*2^r ||| x=y*2^r+x:=by
 rw[zL,WZ hr]
theorem qjy{x y r:Nat}(hr:x<2^r):x ||| y*2^r=y*2^r+x:=by rw[Xw];exact qeZ hr
theorem qcF(a b:Nat)(k:Nat)(hb:b=2^k-1)(ha:a<18446744073709551616)(hk:b<18446744073709551616):qD .and .u64 (a:Int) (b:Int)=((a % 2^k:Nat):Int):=by
 rw[qt6 a b ha hk,hb,and_mask]
theorem qy2(a:Nat)(ha:a<9223372036854775808):qD .or .u64 (a:Int) 9223372036854775808=((9223372036854775808+a:Nat):Int):=by
 have:=qcE a 9223372036854775808 (by omega) (by omega)
 rw[show((9223372036854775808:Nat):Int)=9223372036854775808 from rfl]at this;rw[this];have h:=qjy (x:=a) (y:=1) (r:=63) (by omega)
 rw[show(1*2^63:Nat)=9223372036854775808 from rfl]at h;rw[h]
theorem qhN(a:Nat)(ha:a<18446744073709551616):qD .andNot .u64 (a:Int) 9223372036854775808=((a % 9223372036854775808:Nat):Int):=by
 have:=qlT a 9223372036854775808 ha (by omega)
 rw[show((9223372036854775808:Nat):Int)=9223372036854775808 from rfl]at this;rw[this];have h:=and_mask a 63
 rw[show(2^63-1:Nat)=18446744073709551615-9223372036854775808 from rfl,show(2^63:Nat)=9223372036854775808 from rfl]at h;rw[h]
theorem qy3(a:Nat)(ha:a<18446744073709551616):qD .xor .u64 (a:Int) 9223372036854775808=((if a<9223372036854775808 then 9223372036854775808+a else a % 9223372036854775808:Nat):Int):=by
 have:=qt7 a 9223372036854775808 ha (by omega)
 rw[show((9223372036854775808:Nat):Int)=9223372036854775808 from rfl]at this;rw[this]
 congr 1
 split
 · rename_i h
   have h1:=qjy (x:=a) (y:=1) (r:=63) (by omega)
   have h2:a ^^^ 9223372036854775808=a ||| 9223372036854775808:=by
    apply Nat.eq_of_testBit_eq
    intro i;rw[Nat.testBit_xor,X9,show(9223372036854775808:Nat)=2^63 from rfl,Xz];by_cases hi:63=i
    · subst hi
      have:a.testBit 63=false:=XS (by omega)
      simp[this]
    · simp[hi]
   rw[h2,show(9223372036854775808:Nat)=1*2^63 from rfl,h1]
 · rename_i h
   have hm:a % 9223372036854775808<2^63:=Vr _ (by decide)
   have hb:a=9223372036854775808+a % 9223372036854775808:=by omega
   have h1:=qjy (x:=a % 9223372036854775808) (y:=1) (r:=63) hm
   generalize a % 9223372036854775808=c at *
   subst hb;rw[show(1*2^63:Nat)=9223372036854775808 from rfl]at h1;rw[← h1];apply Nat.eq_of_testBit_eq
   intro i;rw[Nat.testBit_xor,X9,show(9223372036854775808:Nat)=2^63 from rfl,Xz];by_cases hi:63=i
   · subst hi
     have:c.testBit 63=false:=XS hm
     simp[this]
   · simp[hi]
theorem JD(x k:Nat):Int.fdiv (x:Int) (2^k)=((x / 2^k:Nat):Int):=by
 have h:((2:Int)^k)=((2^k:Nat):Int):=by simp
 rw[h,Vs _ (VN _)];rfl
end Su
end
section
namespace Su
open Go Fly
def bS(f:Nat):Bool:=Nat.ble 9223372036854775808 f
def bK(f:Nat):Nat:=f % 9223372036854775808
def qE(k:Nat):Nat:=bif Nat.beq k 9218868437227405312 then 3 else bif Nat.ble 9218868437227405313 k then 4 else bif Nat.beq k 0 then 0 else bif Nat.ble 4503599627370496 k then 2 else 1
def qP(k:Nat):Bool:=Nat.ble 9218868437227405313 k
def jT(k:Nat):Bool:=Nat.ble k 9218868437227405311
def spM(k:Nat):Nat:=bif jT k then kM k else 0
def spE(k:Nat):Int:=bif jT k&&!Nat.beq k 0 then(kE k:Int)-1074 else 0
def Q7(f:Nat):Int:=bif bS f then -(bK f:Int)else(bK f:Int)
def qt8(a b:Int):Int:=bif decide (a<b)then -1 else bif decide (b<a)then 1 else 0
def qgW(a b:Nat):Bool:=!(qP (bK a)||qP (bK b))
def qcG(a b:Nat):Int:=bif qP (bK a)||qP (bK b)then 0 else qt8 (Q7 a) (Q7 b)
def QX(a b:Nat):Bool:=qgW a b&&decide (qcG a b<0)
def QS(f:Nat):Nat:=bif qP (bK f)then f else bif bS f then bK f else 9223372036854775808+f
def yE(f:Nat):Nat:=bif qP (bK f)then f else bK f
theorem beq_dec(a b:Nat):Nat.beq a b=decide (a=b):=by
 cases h:Nat.beq a b with
 | true=>simp[zj h]
 | false=>symm;simp;intro e;subst e;simp at h
theorem qcH(a b:Nat):Nat.ble a b=decide (a≤b):=by
 cases h:Nat.ble a b with
 | true=>have:=zo h;simp[this]
 | false=>symm;simp;exact Vx fun e=>by rw[zn e]at h;cases h
theorem qcI{α:Type}(p:Prop)[Decidable p](x y:α):(bif decide p then x else y)=if p then x else y:=by by_cases h:p <;> simp[h]
theorem qy4{e f:Nat}(he:e≤2047)(hf:f<4503599627370496):qE (e*4503599627370496+f)=if e=2047 then(if f=0 then 3 else 4)else if e=0 then(if f=0 then 0 else 1)else 2:=by
 unfold qE;simp only[beq_dec,qcH,qcI]
 (repeat' split) <;> omega
theorem ZW{f:Nat}:bS f=true↔9223372036854775808≤f:=by unfold bS;rw[VW]
theorem Yw{f:Nat}:bS f=false↔f<9223372036854775808:=by
 cases h:bS f with
 | true=>have:=ZW.1 h;simp;omega
 | false=>simp;refine Vx fun h'=>?_;rw[ZW.2 h']at h;cases h
theorem qcJ{k:Nat}:qP k=true↔9218868437227405313≤k:=by unfold qP;rw[VW]
theorem y9{k:Nat}:qP k=false↔k≤9218868437227405312:=by
 cases h:qP k with
 | true=>have:=qcJ.1 h;simp;omega
 | false=>simp;refine Nat.le_of_lt_succ (Vx fun h'=>?_);rw[qcJ.2 h']at h;cases h
theorem qZ{k:Nat}:jT k=true↔k≤9218868437227405311:=by unfold jT;rw[VW]
theorem qlU{k:Nat}:jT k=false↔9218868437227405312≤k:=by
 cases h:jT k with
 | true=>have:=qZ.1 h;simp;omega
 | false=>simp;refine Wg fun h'=>?_;rw[qZ.2 (by omega)]at h;cases h
theorem qgd(f:Nat):bK f<9223372036854775808:=Vr _ (by decide)
theorem qy5{f:Nat}(h:f<18446744073709551616):f=sgN (bS f)+bK f:=by
 unfold sgN bK;cases hs:bS f with
 | true=>have:=ZW.1 hs;simp;omega
 | false=>have:=Yw.1 hs;simp;omega
theorem bB{b:Bool}{p:Prop}[Decidable p](h:b=true↔p):decide p=b:=by
 cases b <;> simp_all
theorem q9{f:Int}(h:inR .u64 f=true):∃n:Nat,f=(n:Int)∧n<18446744073709551616:=by
 have:=QJ.1 h
 exact⟨f.toNat,by omega,by omega⟩
theorem Zs(k:Nat):qE k=if k=9218868437227405312 then 3 else if 9218868437227405313≤k then 4 else if k=0 then 0 else if 4503599627370496≤k then 2 else 1:=by
 unfold qE;simp only[beq_dec,qcH,qcI]
theorem qdu(a b:Nat):decide ((a:Int)=(b:Int))=decide (a=b):=by
 by_cases h:a=b
 · simp[h]
 · rw[zk h,zk];omega
theorem qn2(k c:Nat):decide (((qE k:Nat):Int)=(c:Int))=decide (qE k=c):=qdu _ _
theorem qe0(k:Nat):decide (((qE k:Nat):Int)=4)=qP k:=by
 refine bB ?_
 rw[qcJ,Zs]
 (repeat' split) <;> constructor <;> intro h <;> first | omega | (exfalso;omega)
theorem qjz(k:Nat):decide (((qE k:Nat):Int)=3)=Nat.beq k 9218868437227405312:=by
 rw[beq_dec];refine bB ?_
 rw[decide_eq_true_iff,Zs]
 (repeat' split) <;> constructor <;> intro h <;> first | omega | (exfalso;omega)
theorem qge(k:Nat):decide (((qE k:Nat):Int)=0)=Nat.beq k 0:=by
 rw[beq_dec];refine bB ?_
 rw[decide_eq_true_iff,Zs]
 (repeat' split) <;> constructor <;> intro h <;> first | omega | (exfalso;omega)
theorem qpD(k:Nat):(!(decide (((qE k:Nat):Int)=3))&&!(decide (((qE k:Nat):Int)=4)))=jT k:=by
 rw[qjz,qe0];cases h:jT k with
 | true=>
  have:=qZ.1 h
  rw[show qP k=false from y9.2 (by omega),beq_dec,zk (by omega)];rfl
 | false=>
  have:=qlU.1 h
  by_cases e:k=9218868437227405312
  · subst e;rfl
  · rw[show qP k=true from qcJ.2 (by omega)];simp
theorem qy6{f:Nat}(h:f<18446744073709551616):QS f<18446744073709551616:=by
 have hl:=qgd f;unfold QS;cases qP (bK f)with
 | true=>exact h
 | false=>
  cases hs:bS f with
  | true=>rw[zh,zd];omega
  | false=>have:=Yw.1 hs;rw[zh,zh];omega
theorem qDM{f:Nat}(h:f<18446744073709551616):bK (QS f)=bK f:=by
 unfold QS;cases qP (bK f)with
 | true=>rfl
 | false=>
  cases hs:bS f with
  | true=>rw[zh,zd];unfold bK;omega
  | false=>have:=Yw.1 hs;rw[zh,zh];unfold bK;omega
theorem qDN{f:Nat}(h:f<18446744073709551616)(hn:qP (bK f)=false):bS (QS f) = !bS f:=by
 have hl:=qgd f;unfold QS;rw[hn,zh];cases hs:bS f with
 | true=>rw[zd,Kh];exact Yw.2 hl
 | false=>have:=Yw.1 hs;rw[zh,Kl];exact ZW.2 (by omega)
def qlV(a b:Nat):Nat:=bif qP (bK a)||qP (bK b)then 9221120237041090560 else bif QX a b then b else a
def minN(a b:Nat):Nat:=bif qP (bK a)||qP (bK b)then 9221120237041090560 else bif QX b a then b else a
end Su
end
