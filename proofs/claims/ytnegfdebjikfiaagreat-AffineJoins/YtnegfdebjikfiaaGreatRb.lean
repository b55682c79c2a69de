/-
  Bits and rounding, in plain Lean. No condition.
-/
import Derived.Test.YtnegfdebjikfiaaGreatSuSd
set_option linter.unusedVariables false
set_option linter.unusedSimpArgs false
set_option maxRecDepth 10000
section
namespace Su
open Go Fly
def qn(n:Nat):Nat:=if n=0 then 0 else n.log2+1
theorem qgC:qn 0=0:=rfl
theorem qnl{n k:Nat}(h0:2^k≤n)(h1:n<2^(k+1)):qn n=k+1:=by
 have hn:n≠0:=fun e=>by subst e;have:=zJ k;omega
 have a:=(Nat.le_log2 hn).2 h0
 have b:=(Nat.log2_lt hn).2 h1
 simp only[qn,hn,if_false];omega
theorem qij{n:Nat}(hn:n≠0):2^(qn n-1)≤n:=by
 simp only[qn,hn,if_false,Vz];exact(Nat.le_log2 hn).1 (zE _)
theorem qbw(n:Nat):n<2^qn n:=by
 by_cases hn:n=0
 · subst hn;decide
 · simp only[qn,hn,if_false]
   exact(Nat.log2_lt hn).1 (by omega)
theorem Jm{n:Nat}(hn:n≠0):0<qn n:=by simp only[qn,hn,if_false];omega
theorem Qn{n k:Nat}:qn n≤k↔n<2^k:=by
 constructor
 · intro h;exact K9 (qbw n) (KK (by omega) h)
 · intro h
   by_cases hn:n=0
   · subst hn;simp[qn]
   · have h1:=qij hn
     have:qn n-1<k:=by
      refine(Nat.pow_lt_pow_iff_right (a:=2) (by omega)).1 (VA h1 h)
     have:=Jm hn;omega
theorem qe3{n k:Nat}(h:2^k≤n):qn n=k+qn (n / 2^k):=by
 have hp:=zJ k;have hq:n / 2^k≠0:=by have:=Nat.div_pos h hp;omega
 have h1:=qij hq;have h2:=qbw (n / 2^k)
 have h3:=Jm hq;have e:=K6 n (2^k)
 have hm:=Vo n hp;have a1:2^(k+(qn (n / 2^k)-1))≤n:=by
  rw[Kg]
  calc 2^k*2^(qn (n / 2^k)-1)≤2^k*(n / 2^k):=We _ h1
   _≤n:=Nat.mul_div_le n _
 have a2:n<2^(k+(qn (n / 2^k)-1)+1):=by
  have:k+(qn (n / 2^k)-1)+1=k+qn (n / 2^k):=by omega
  rw[this,Kg];have:2^k*(n / 2^k+1)≤2^k*2^qn (n / 2^k):=We _ h2
  rw[Ws]at this;omega
 rw[qnl a1 a2];omega
def jN(a b:Nat):Int:=if a<b then -1 else if a=b then 0 else 1
end Su
end
section
namespace Su
noncomputable section
open Go Fly
def kM(k:Nat):Nat:=if k / 4503599627370496=0 then k % 4503599627370496 else k % 4503599627370496+4503599627370496
def kE(k:Nat):Nat:=k / 4503599627370496-1
def kV(k:Nat):Nat:=kM k*2^kE k
theorem qjW{q w:Nat}(hw:w≤9007199254740992)(h:4503599627370496≤w∨q=0):kV (q*4503599627370496+w)=w*2^q:=by
 unfold kV kM kE;by_cases h1:w<4503599627370496
 · have hq:q=0:=by omega
   subst hq;have e1:(0*4503599627370496+w) / 4503599627370496=0:=by omega
   have e2:(0*4503599627370496+w) % 4503599627370496=w:=by omega
   rw[zR e1,e1,e2]
 · by_cases h2:w<9007199254740992
   · have e1:(q*4503599627370496+w) / 4503599627370496=q+1:=by omega
     have e2:(q*4503599627370496+w) % 4503599627370496=w-4503599627370496:=by omega
     rw[zP (by omega),e1,e2,Vz,Nat.sub_add_cancel (by omega)]
   · have hw:w=9007199254740992:=by omega
     subst hw;have e1:(q*4503599627370496+9007199254740992) / 4503599627370496=q+2:=by omega
     have e2:(q*4503599627370496+9007199254740992) % 4503599627370496=0:=by omega
     rw[zP (by omega),e1,e2,show q+2-1=q+1 from rfl,VG];omega
theorem qjX(k:Nat):∃q w,k=q*4503599627370496+w∧w<9007199254740992∧(4503599627370496≤w∨q=0):=by
 by_cases h:k / 4503599627370496=0
 · exact⟨0,k,by omega,by omega,.inr rfl⟩
 · exact⟨k / 4503599627370496-1,k % 4503599627370496+4503599627370496,by omega,by omega,by omega⟩
theorem qnm(k:Nat):kV k<kV (k+1):=by
 obtain⟨q,w,rfl,h1,h2⟩:=qjX k;rw[KD,qjW (by omega) h2,qjW (by omega) (by omega)];exact KS (by omega) (zJ q)
theorem qnn{i j:Nat}(h:i<j):kV i<kV j:=by
 induction j with
 | zero=>omega
 | succ j ih=>
  by_cases e:i=j
  · subst e;exact qnm i
  · exact Nat.lt_trans (ih (by omega)) (qnm j)
theorem qrt{i j:Nat}(h:i≤j):kV i≤kV j:=by
 by_cases e:i=j
 · subst e;exact zE _
 · exact Nat.le_of_lt (qnn (by omega))
@[irreducible] def SH:Nat:=4926
theorem qbx:SH=4926:=by unfold SH;rfl
theorem qBg:1≤SH:=by rw[qbx];decide
theorem Qy{M:Nat}(h:M≠0):Nat.beq M 0=false:=by
 cases hb:Nat.beq M 0 with
 | false=>rfl
 | true=>exact absurd (zk hb) h
def qN(M E:Nat):Nat:=qn M+E-53-SH
def qO(M E:Nat):Nat:=M*2^(E-(qN M E+SH)) / 2^(qN M E+SH-E)
def qp(M E:Nat):Nat:=4503599627370496*qN M E+qO M E
theorem Qd(M E:Nat):qp M E=qN M E*4503599627370496+qO M E:=by unfold qp;rw[Kw]
theorem qby(M E:Nat):qO M E<9007199254740992:=by
 unfold qO;have hb:=qbw M;rw[Vs (zJ _)];have h1:M*2^(E-(qN M E+SH))<2^qn M*2^(E-(qN M E+SH)):=KS hb (zJ _)
 refine K9 h1 ?_
 rw[show(9007199254740992:Nat)=2^53 from rfl,← Kg,← Kg];refine KK (by omega) ?_
 unfold qN;omega
theorem qbz{M E:Nat}(hM:M≠0):4503599627370496≤qO M E∨qN M E=0:=by
 by_cases h:qN M E=0
 · exact .inr h
 · refine .inl ?_
   unfold qO;have hb:=qij hM;have hp:=Jm hM;rw[Nat.le_div_iff_mul_le (zJ _)];refine KV ?_ (Ks _ hb)
   rw[show(4503599627370496:Nat)=2^52 from rfl,← Kg,← Kg];refine KK (by omega) ?_
   unfold qN at *;omega
theorem qjY{M E:Nat}(hM:M≠0):kV (qp M E)*2^SH≤M*2^E:=by
 rw[Qd,qjW (Nat.le_of_lt (qby M E)) (qbz hM)];unfold qO;generalize qN M E=q
 have h:=Nat.div_mul_le_self (M*2^(E-(q+SH))) (2^(q+SH-E))
 by_cases hq:q+SH≤E
 · rw[Wz hq,KH,Wq,zZ,zZ,← Kg,← Kg]
   rw[show E-(q+SH)+(q+SH)=E by omega];exact zE _
 · rw[Wz (by omega:E≤q+SH),KH,Wo]at h ⊢
   have:M / 2^(q+SH-E)*2^q*2^SH=M / 2^(q+SH-E)*2^(q+SH-E)*2^E:=by
    rw[zZ,zZ,← Kg,← Kg]
    congr 2;omega
   rw[this];exact Ks _ h
theorem qjZ{M E:Nat}(hM:M≠0):M*2^E<kV (qp M E+1)*2^SH:=by
 rw[Qd];have hk:=qby M E;rw[KD,qjW (by omega) (by rcases qbz (E:=E) hM with h | h <;> omega)];unfold qO;generalize qN M E=q
 by_cases hq:q+SH≤E
 · rw[Wz hq,KH,Wq,zZ,← Kg,Kp,zZ,← Kg]
   rw[show E-(q+SH)+(q+SH)=E by omega];have:=zJ (q+SH);omega
 · rw[Wz (by omega:E≤q+SH),KH,Wo]
   have h:=Nat.lt_div_mul_add (a:=M) (b:=2^(q+SH-E)) (zJ _)
   have:(M / 2^(q+SH-E)+1)*2^q*2^SH=(M / 2^(q+SH-E)*2^(q+SH-E)+2^(q+SH-E))*2^E:=by
    rw[zZ,← Kg,← Nat.succ_mul,zZ,← Kg]
    congr 2;omega
   rw[this];exact KS h (zJ _)
theorem qru{M E k:Nat}(hM:M≠0):kV k*2^SH≤M*2^E↔k≤qp M E:=by
 constructor
 · intro h
   refine V6 fun hlt=>?_
   have h1:=qrt (Nat.succ_le_of_lt hlt)
   have h2:=qjZ (E:=E) hM
   have h3:kV (qp M E+1)*2^SH≤kV k*2^SH:=Ks _ h1
   exact absurd (K9 h2 (KV h3 h)) (Nat.lt_irrefl _)
 · intro h
   exact KV (Ks _ (qrt h)) (qjY hM)
def dN(M E:Nat):Nat:=qN M E+SH-E
def hfN(M E:Nat):Bool:=Nat.ble 1 (dN M E)&&M / 2^(dN M E-1) % 2 == 1
def rsN(M E:Nat):Bool:=Nat.ble 1 (dN M E)&&!(M % 2^(dN M E-1) == 0)
theorem qzR{q w:Nat}(hw:w<9007199254740992)(h:4503599627370496≤w∨q=0):kM (q*4503599627370496+w)=w:=by
 unfold kM;by_cases h1:w<4503599627370496
 · have:q=0:=by omega
   subst this;rw[zR (by omega)];omega
 · rw[zP (by omega)];omega
theorem qzS{q w:Nat}(hw:w<9007199254740992)(h:4503599627370496≤w∨q=0):kE (q*4503599627370496+w)=q:=by
 unfold kE;by_cases h1:w<4503599627370496
 · have:q=0:=by omega
   subst this;omega
 · omega
theorem qj0{M E:Nat}(hM:M≠0):kM (qp M E)=qO M E:=by rw[Qd];exact qzR (qby M E) (qbz hM)
theorem qj1{M E:Nat}(hM:M≠0):kE (qp M E)=qN M E:=by rw[Qd];exact qzS (qby M E) (qbz hM)
theorem qxa{M E:Nat}(hM:M≠0):jN (M*2^E) ((2*kM (qp M E)+1)*2^(kE (qp M E)+(SH-1)))=if hfN M E then(if rsN M E then 1 else 0)else -1:=by
 have hS:=qBg;rw[qj0 hM,qj1 hM];by_cases hd:dN M E=0
 · have e1:hfN M E=false:=by unfold hfN;rw[hd];rfl
   rw[e1];unfold dN at hd;have e2:qO M E=M*2^(E-(qN M E+SH)):=by unfold qO;rw[hd];simp
   rw[e2];generalize qN M E=q at *
   have e3:M*2^E=M*2^(E-(q+SH))*2*2^(q+(SH-1)):=by
    rw[zZ,zZ,← Nat.pow_succ',← Kg]
    congr 2;omega
   rw[e3];have hp:=zJ (q+(SH-1))
   have:M*2^(E-(q+SH))*2*2^(q+(SH-1))<(2*(M*2^(E-(q+SH)))+1)*2^(q+(SH-1)):=KS (by omega) hp
   unfold jN;rw[zR this];rfl
 · obtain⟨d,hd'⟩:∃d,dN M E=d+1:=⟨dN M E-1,by omega⟩
   have e1:hfN M E=(M / 2^d % 2 == 1):=by unfold hfN;rw[hd'];rfl
   have e4:rsN M E = !(M % 2^d == 0):=by unfold rsN;rw[hd'];rfl
   rw[e1,e4];have e2:qO M E=M / 2^(d+1):=by unfold qO;unfold dN at hd';rw[hd'];rw[show E-(qN M E+SH)=0 by omega];simp
   rw[e2];have e3:2^(qN M E+(SH-1))=2^d*2^E:=by rw[← Kg];congr 1;unfold dN at hd';omega
   rw[e3,← zZ];have e5:M / 2^(d+1)=M / 2^d / 2:=by rw[VG,zQ]
   rw[e5];have h1:=K6 M (2^d)
   have h2:=Vo M (zJ d)
   have hp:=zJ E;generalize M / 2^d=a at *
   generalize M % 2^d=r at *
   generalize 2^d=D at *
   generalize 2^E=F at *
   have hm:∀x y:Nat,jN (x*F) (y*F)=jN x y:=fun x y=>by
    unfold jN;by_cases h:x<y
    · rw[zR h,zR (KS h hp)]
    · by_cases h':x=y
      · subst h';simp
      · rw[zP h,zP h']
        have:y*F<x*F:=KS (by omega) hp
        rw[zP (by omega),zP (by omega)]
   rw[hm,← h1];rcases Vj a with ha | ha
   · have:a=2*(a / 2):=by omega
     rw[ha];have h3:D*a+r<(2*(a / 2)+1)*D:=by
      rw[← this,Kp,Kw a D];omega
     unfold jN;rw[zR h3];rfl
   · have:a=2*(a / 2)+1:=by omega
     rw[ha,← this,Kw a D];by_cases hr:r=0
     · subst hr;simp[jN]
     · unfold jN
       rw[zP (by omega),zP (by omega)];simp[hr]
theorem qdt{M E:Nat}(hM:M≠0):M*2^E=kV (qp M E)*2^SH↔hfN M E=false∧rsN M E=false:=by
 unfold kV;rw[qj0 hM,qj1 hM];by_cases hd:dN M E=0
 · have e1:hfN M E=false:=by unfold hfN;rw[hd];rfl
   have e4:rsN M E=false:=by unfold rsN;rw[hd];rfl
   rw[e1,e4];unfold dN at hd;have e2:qO M E=M*2^(E-(qN M E+SH)):=by unfold qO;rw[hd];simp
   rw[e2];generalize qN M E=q at *
   have e3:M*2^E=M*2^(E-(q+SH))*2^q*2^SH:=by
    rw[zZ,zZ,← Kg,← Kg]
    congr 2;omega
   simp[e3]
 · obtain⟨d,hd'⟩:∃d,dN M E=d+1:=⟨dN M E-1,by omega⟩
   have e1:hfN M E=(M / 2^d % 2 == 1):=by unfold hfN;rw[hd'];rfl
   have e4:rsN M E = !(M % 2^d == 0):=by unfold rsN;rw[hd'];rfl
   rw[e1,e4];have e2:qO M E=M / 2^(d+1):=by unfold qO;unfold dN at hd';rw[hd'];rw[show E-(qN M E+SH)=0 by omega];simp
   rw[e2];have e3:∀x,x*2^qN M E*2^SH=x*2*2^d*2^E:=fun x=>by
    rw[zZ,← Kg,zZ x,← Nat.pow_succ',zZ,← Kg]
    congr 2;unfold dN at hd';omega
   rw[e3];have e5:M / 2^(d+1)=M / 2^d / 2:=by rw[VG,zQ]
   rw[e5];have h1:=K6 M (2^d)
   have h2:=Vo M (zJ d)
   have hp:=zJ E;generalize M / 2^d=a at *
   generalize M % 2^d=r at *
   generalize 2^d=D at *
   generalize 2^E=F at *
   rw[← h1];have:(D*a+r)*F=a / 2*2*D*F↔D*a+r=a / 2*2*D:=⟨fun h=>Nat.eq_of_mul_eq_mul_right hp h,fun h=>by rw[h]⟩
   rw[this];rcases Vj a with ha | ha
   · have:a / 2*2=a:=by omega
     rw[ha,this,Kw a D];simp
   · have:a=a / 2*2+1:=by omega
     rw[ha];have h3:D*a=a / 2*2*D+D:=by
      rw[Kw D a]
      calc a*D=(a / 2*2+1)*D:=by rw[← this]
       _=a / 2*2*D+D:=by rw[Kp,Vq]
     constructor
     · intro h;omega
     · rintro⟨h,_⟩;cases h
def awN(neg:Bool)(mode:Int):Bool:=bif neg then decide (mode=2)else decide (mode=1)
def twN(neg:Bool)(mode:Int):Bool:=bif neg then decide (mode=1)else decide (mode=2)
def upN(neg:Bool)(mode:Int)(odd half rest:Bool):Bool:=bif awN neg mode then half||rest else bif twN neg mode then false else half&&(rest||odd)
def sgN(neg:Bool):Nat:=bif neg then 9223372036854775808 else 0
def qU:Nat:=9218868437227405311
def Jn(tw:Bool)(k:Nat):Nat:=bif Nat.ble k qU then k else bif tw then qU else qU+1
def RN(neg:Bool)(mode:Int)(M E:Nat)(rest:Bool):Nat :=
 sgN neg+bif Nat.beq M 0 then 0 else Jn (twN neg mode) (qp M E+(upN neg mode (qO M E % 2 == 1) (hfN M E) (rest||rsN M E)).toNat)
theorem qEf{M E t:Nat}(h:M / 2^t≠0):qN (M / 2^t) (E+t)=qN M E:=by
 have hp:=zJ t;have:2^t≤M:=by
  refine V6 fun hlt=>h (VP hlt)
 have:=qe3 this
 unfold qN;omega
theorem qdu{M a b:Nat}(h:a≤b)(hM:M % 2^b=0):M % 2^a=0:=by
 have:2^a ∣ 2^b:=Nat.pow_dvd_pow 2 h
 exact Nat.mod_eq_zero_of_dvd (Nat.dvd_trans this (Nat.dvd_of_mod_eq_zero hM))
theorem qrv{neg:Bool}{mode:Int}{M E t:Nat}(h0:M / 2^t≠0)(h:54≤qn (M / 2^t)∨M % 2^t=0):RN neg mode (M / 2^t) (E+t) (!(M % 2^t == 0))=RN neg mode M E false:=by
 have hq:=qEf (E:=E) h0
 have hM:M≠0:=fun e=>h0 (by subst e;simp)
 have key:qO (M / 2^t) (E+t)=qO M E∧hfN (M / 2^t) (E+t)=hfN M E∧(!(M % 2^t == 0)||rsN (M / 2^t) (E+t))=rsN M E:=by
  by_cases hd:dN (M / 2^t) (E+t)=0
  · have hmod:M % 2^t=0:=by
     rcases h with h | h
     · unfold dN qN at hd;omega
     · exact h
    have e1:hfN (M / 2^t) (E+t)=false:=by unfold hfN;rw[hd];rfl
    have e4:rsN (M / 2^t) (E+t)=false:=by unfold rsN;rw[hd];rfl
    rw[e1,e4,hmod];have hMe:M=M / 2^t*2^t:=by have:=K6 M (2^t);rw[hmod,Kw]at this;omega
    unfold dN at hd;rw[hq]at hd;have k1:qO (M / 2^t) (E+t)=M / 2^t*2^(E+t-(qN M E+SH)):=by unfold qO;rw[hq,hd];simp
    rw[k1];by_cases hd2:dN M E=0
    · have e5:hfN M E=false:=by unfold hfN;rw[hd2];rfl
      have e6:rsN M E=false:=by unfold rsN;rw[hd2];rfl
      rw[e5,e6];refine⟨?_,rfl,rfl⟩
      unfold dN at hd2;unfold qO;rw[hd2,KH,Wq];generalize qN M E=q at *
      conv=>rhs;rw[hMe]
      rw[zZ,← Kg]
      congr 2;omega
    · obtain⟨d,hd'⟩:∃d,dN M E=d+1:=⟨dN M E-1,by omega⟩
      have e5:hfN M E=(M / 2^d % 2 == 1):=by unfold hfN;rw[hd'];rfl
      have e6:rsN M E = !(M % 2^d == 0):=by unfold rsN;rw[hd'];rfl
      have k2:qO M E=M / 2^(d+1):=by unfold qO;unfold dN at hd';rw[hd'];rw[show E-(qN M E+SH)=0 by omega];simp
      unfold dN at hd';have m1:M % 2^d=0:=qdu (by omega) hmod
      have m2:M % 2^(d+1)=0:=qdu (by omega) hmod
      rw[e5,e6,k2,m1];have hv:=K6 M (2^(d+1))
      rw[m2]at hv;refine⟨?_,?_,rfl⟩
      · refine Nat.eq_of_mul_eq_mul_right (zJ (d+1)) ?_
        rw[zZ,← Kg,show E+t-(qN M E+SH)+(d+1)=t by omega,← hMe,Kw];omega
      · have:M / 2^d=2*(M / 2^(d+1)):=by
         conv=>lhs;rw[← hv]
         rw[Kr,VG,zZ,Wi _ (zJ d)]
        rw[this];rw[Nat.mul_mod_right];rfl
  · obtain⟨d,hd'⟩:∃d,dN (M / 2^t) (E+t)=d+1:=⟨dN (M / 2^t) (E+t)-1,by omega⟩
    have hd2:dN M E=t+d+1:=by unfold dN at *;rw[hq]at hd';omega
    have e1:hfN (M / 2^t) (E+t)=(M / 2^t / 2^d % 2 == 1):=by unfold hfN;rw[hd'];rfl
    have e4:rsN (M / 2^t) (E+t) = !(M / 2^t % 2^d == 0):=by unfold rsN;rw[hd'];rfl
    have k1:qO (M / 2^t) (E+t)=M / 2^t / 2^(d+1):=by unfold qO;unfold dN at hd';rw[hd'];rw[show E+t-(qN (M / 2^t) (E+t)+SH)=0 by omega];simp
    have e5:hfN M E=(M / 2^(t+d) % 2 == 1):=by unfold hfN;rw[hd2];rfl
    have e6:rsN M E = !(M % 2^(t+d) == 0):=by unfold rsN;rw[hd2];rfl
    have k2:qO M E=M / 2^(t+d+1):=by unfold qO;unfold dN at hd2;rw[hd2];rw[show E-(qN M E+SH)=0 by omega];simp
    rw[e1,e4,k1,e5,e6,k2,zQ,zQ,← Kg,← Kg];refine⟨rfl,rfl,?_⟩
    rw[Kg,Nat.mod_mul];have hp:=zJ t;generalize M % 2^t=a
    generalize M / 2^t % 2^d=b
    generalize 2^t=D at hp
    cases a with
    | zero=>
     cases b with
     | zero=>rfl
     | succ b=>
      have:0<D*(b+1):=Nat.mul_pos hp (by omega)
      have e:(0+D*(b+1) == 0)=false:=by simp;omega
      rw[e];rfl
    | succ a=>
     have e:(a+1+D*b == 0)=false:=by simp
     rw[e];rfl
 obtain⟨k1,k2,k3⟩:=key;have hf:qp (M / 2^t) (E+t)=qp M E:=by unfold qp;rw[hq,k1]
 have b1:Nat.beq (M / 2^t) 0=false:=Qy h0
 have b2:Nat.beq M 0=false:=Qy hM
 unfold RN;rw[b1,b2,hf,k1,k2,k3,VE]
theorem qxb{neg:Bool}{mode:Int}{k:Nat}(hk:k≤qU):RN neg mode (kM k) (kE k+SH) false=sgN neg+k:=by
 obtain⟨q,w,rfl,h1,h2⟩:=qjX k;rw[qzR h1 h2,qzS h1 h2];by_cases hw:w=0
 · subst hw
   have:q=0:=by omega
   subst this;unfold RN;rw[show Nat.beq 0 0=true from rfl,zf,Vg]
 · have hb:qn w≤53:=Qn.2 h1
   have hq:qN w (q+SH)=q:=by
    unfold qN;rcases h2 with h2 | h2
    · have:qn w=53:=by
       refine Nat.le_antisymm hb ?_
       refine V6 fun h=>?_
       have:=Qn.1 (by omega:qn w≤52)
       omega
      omega
    · omega
   have hd:dN w (q+SH)=0:=by unfold dN;rw[hq];omega
   have e1:hfN w (q+SH)=false:=by unfold hfN;rw[hd];rfl
   have e4:rsN w (q+SH)=false:=by unfold rsN;rw[hd];rfl
   have e2:qO w (q+SH)=w:=by unfold qO;rw[hq];simp
   have hf:qp w (q+SH)=q*4503599627370496+w:=by rw[Qd,hq,e2]
   have b2:Nat.beq w 0=false:=Qy hw
   unfold RN;rw[b2,e1,e4,e2,hf];obtain⟨K,hK⟩:∃K,K=q*4503599627370496+w:=⟨_,rfl⟩
   rw[← hK]at hk ⊢;have h3:upN neg mode (w % 2 == 1) false (false||false)=false:=by unfold upN;cases awN neg mode <;> cases twN neg mode <;> rfl
   have h4:Nat.ble K qU=true:=by rw[KX];exact hk
   unfold Jn;rw[h3,zi,WF,Kr,h4,zf]
def rndL:{f:Bool→Int→Nat→Int→Bool→Nat // ∀neg mode M e rest,f neg mode M e rest=RN neg mode M (min (max e (-5000)) 5000+6000).toNat (rest&&decide (53<qn M))}:=Classical.choice ⟨⟨_,fun _ _ _ _ _=>rfl⟩⟩
def rnd(neg:Bool)(mode:Int)(M:Nat)(e:Int)(rest:Bool):Nat:=rndL.1 neg mode M e rest
theorem Zw(neg:Bool)(mode:Int)(M:Nat)(e:Int)(rest:Bool):rnd neg mode M e rest=RN neg mode M (min (max e (-5000)) 5000+6000).toNat (rest&&decide (53<qn M)):=rndL.2 neg mode M e rest
theorem Qo(neg:Bool)(mode:Int)(E:Nat)(rest:Bool):RN neg mode 0 E rest=sgN neg:=by unfold RN;rw[show Nat.beq 0 0=true from rfl,zf,Kr]
end
end Su
end
section
namespace Su
open Go Fly
theorem jR(a:Nat)(h:a<18446744073709551616):(BitVec.ofInt 64 (a:Int)).toNat=a:=by
 simp;omega
theorem qrw(a b:Nat)(ha:a<18446744073709551616)(hb:b<18446744073709551616):qz .and .u64 (a:Int) (b:Int)=((a &&& b:Nat):Int):=by
 have h:a &&& b<2^64:=Nat.and_lt_two_pow a (by omega)
 show IntKind.u64.wrap (((BitVec.ofInt 64 (a:Int) &&& BitVec.ofInt 64 (b:Int)).toNat:Nat):Int)=_
 rw[BitVec.toNat_and,jR a ha,jR b hb];exact Jv (by omega) (by omega)
theorem qbA(a b:Nat)(ha:a<18446744073709551616)(hb:b<18446744073709551616):qz .or .u64 (a:Int) (b:Int)=((a ||| b:Nat):Int):=by
 have h:a ||| b<2^64:=Nat.or_lt_two_pow (by omega) (by omega)
 show IntKind.u64.wrap (((BitVec.ofInt 64 (a:Int) ||| BitVec.ofInt 64 (b:Int)).toNat:Nat):Int)=_
 rw[BitVec.toNat_or,jR a ha,jR b hb];exact Jv (by omega) (by omega)
theorem qrx(a b:Nat)(ha:a<18446744073709551616)(hb:b<18446744073709551616):qz .xor .u64 (a:Int) (b:Int)=((a ^^^ b:Nat):Int):=by
 have h:a ^^^ b<2^64:=Nat.xor_lt_two_pow (by omega) (by omega)
 show IntKind.u64.wrap (((BitVec.ofInt 64 (a:Int) ^^^ BitVec.ofInt 64 (b:Int)).toNat:Nat):Int)=_
 rw[BitVec.toNat_xor,jR a ha,jR b hb];exact Jv (by omega) (by omega)
theorem qj2(a b:Nat)(ha:a<18446744073709551616)(hb:b<18446744073709551616):qz .andNot .u64 (a:Int) (b:Int)=((a &&& (18446744073709551615-b):Nat):Int):=by
 have h:a &&& (18446744073709551615-b)<2^64:=Nat.and_lt_two_pow a (by omega)
 show IntKind.u64.wrap (((BitVec.ofInt 64 (a:Int) &&& ~~~(BitVec.ofInt 64 (b:Int))).toNat:Nat):Int)=_
 rw[BitVec.toNat_and,BitVec.toNat_not,jR a ha,jR b hb];have e:2^64-1-b=18446744073709551615-b:=by omega
 rw[e];exact Jv (by omega) (by omega)
theorem and_mask(a k:Nat):a &&& (2^k-1)=a % 2^k:=Nat.and_two_pow_sub_one_eq_mod a k
theorem qdW{x y r:Nat}(hr:x<2^r):y*2^r ||| x=y*2^r+x:=by
 rw[Kw,Nat.two_pow_add_eq_or_of_lt hr]
theorem qik{x y r:Nat}(hr:x<2^r):x ||| y*2^r=y*2^r+x:=by rw[Nat.or_comm];exact qdW hr
theorem YG(a b:Nat)(k:Nat)(hb:b=2^k-1)(ha:a<18446744073709551616)(hk:b<18446744073709551616):qz .and .u64 (a:Int) (b:Int)=((a % 2^k:Nat):Int):=by
 rw[qrw a b ha hk,hb,and_mask]
theorem qxc(a:Nat)(ha:a<9223372036854775808):qz .or .u64 (a:Int) 9223372036854775808=((9223372036854775808+a:Nat):Int):=by
 have:=qbA a 9223372036854775808 (by omega) (by omega)
 rw[show((9223372036854775808:Nat):Int)=9223372036854775808 from rfl]at this;rw[this];have h:=qik (x:=a) (y:=1) (r:=63) (by omega)
 rw[show(1*2^63:Nat)=9223372036854775808 from rfl]at h;rw[h]
theorem qgD(a:Nat)(ha:a<18446744073709551616):qz .andNot .u64 (a:Int) 9223372036854775808=((a % 9223372036854775808:Nat):Int):=by
 have:=qj2 a 9223372036854775808 ha (by omega)
 rw[show((9223372036854775808:Nat):Int)=9223372036854775808 from rfl]at this;rw[this];have h:=and_mask a 63
 rw[show(2^63-1:Nat)=18446744073709551615-9223372036854775808 from rfl,show(2^63:Nat)=9223372036854775808 from rfl]at h;rw[h]
theorem qno(a:Nat)(ha:a<18446744073709551616):qz .xor .u64 (a:Int) 9223372036854775808=((if a<9223372036854775808 then 9223372036854775808+a else a % 9223372036854775808:Nat):Int):=by
 have:=qrx a 9223372036854775808 ha (by omega)
 rw[show((9223372036854775808:Nat):Int)=9223372036854775808 from rfl]at this;rw[this]
 congr 1
 split
 · rename_i h
   have h1:=qik (x:=a) (y:=1) (r:=63) (by omega)
   have h2:a ^^^ 9223372036854775808=a ||| 9223372036854775808:=by
    apply Nat.eq_of_testBit_eq
    intro i;rw[Nat.testBit_xor,Nat.testBit_or,show(9223372036854775808:Nat)=2^63 from rfl,Nat.testBit_two_pow];by_cases hi:63=i
    · subst hi
      have:a.testBit 63=false:=Nat.testBit_lt_two_pow (by omega)
      simp[this]
    · simp[hi]
   rw[h2,show(9223372036854775808:Nat)=1*2^63 from rfl,h1]
 · rename_i h
   have hm:a % 9223372036854775808<2^63:=Vo _ (by decide)
   have hb:a=9223372036854775808+a % 9223372036854775808:=by omega
   have h1:=qik (x:=a % 9223372036854775808) (y:=1) (r:=63) hm
   generalize a % 9223372036854775808=c at *
   subst hb;rw[show(1*2^63:Nat)=9223372036854775808 from rfl]at h1;rw[← h1];apply Nat.eq_of_testBit_eq
   intro i;rw[Nat.testBit_xor,Nat.testBit_or,show(9223372036854775808:Nat)=2^63 from rfl,Nat.testBit_two_pow];by_cases hi:63=i
   · subst hi
     have:c.testBit 63=false:=Nat.testBit_lt_two_pow hm
     simp[this]
   · simp[hi]
theorem yQ(x k:Nat):Int.fdiv (x:Int) (2^k)=((x / 2^k:Nat):Int):=by
 have h:((2:Int)^k)=((2^k:Nat):Int):=by simp
 rw[h,Int.fdiv_eq_ediv_of_nonneg _ (Int.natCast_nonneg _)];rfl
end Su
end
section
namespace Su
open Go Fly
def bS(f:Nat):Bool:=Nat.ble 9223372036854775808 f
def bK(f:Nat):Nat:=f % 9223372036854775808
def qA(k:Nat):Nat:=bif Nat.beq k 9218868437227405312 then 3 else bif Nat.ble 9218868437227405313 k then 4 else bif Nat.beq k 0 then 0 else bif Nat.ble 4503599627370496 k then 2 else 1
def qB(k:Nat):Bool:=Nat.ble 9218868437227405313 k
def jo(k:Nat):Bool:=Nat.ble k 9218868437227405311
def spM(k:Nat):Nat:=bif jo k then kM k else 0
def spE(k:Nat):Int:=bif jo k&&!Nat.beq k 0 then(kE k:Int)-1074 else 0
def yf(f:Nat):Int:=bif bS f then -(bK f:Int)else(bK f:Int)
def qdC(a b:Int):Int:=bif decide (a<b)then -1 else bif decide (b<a)then 1 else 0
def qcO(a b:Nat):Bool:=!(qB (bK a)||qB (bK b))
def jZ(a b:Nat):Int:=bif qB (bK a)||qB (bK b)then 0 else qdC (yf a) (yf b)
def jV(a b:Nat):Bool:=qcO a b&&decide (jZ a b<0)
def yG(f:Nat):Nat:=bif qB (bK f)then f else bif bS f then bK f else 9223372036854775808+f
def jT(f:Nat):Nat:=bif qB (bK f)then f else bK f
theorem beq_dec(a b:Nat):Nat.beq a b=decide (a=b):=by
 cases h:Nat.beq a b with
 | true=>simp[zk h]
 | false=>symm;simp;intro e;subst e;simp at h
theorem qbB(a b:Nat):Nat.ble a b=decide (a≤b):=by
 cases h:Nat.ble a b with
 | true=>have:=zr h;simp[this]
 | false=>symm;simp;exact Vd fun e=>by rw[zB e]at h;cases h
theorem qbC{α:Type}(p:Prop)[Decidable p](x y:α):(bif decide p then x else y)=if p then x else y:=by by_cases h:p <;> simp[h]
theorem qnp{e f:Nat}(he:e≤2047)(hf:f<4503599627370496):qA (e*4503599627370496+f)=if e=2047 then(if f=0 then 3 else 4)else if e=0 then(if f=0 then 0 else 1)else 2:=by
 unfold qA;simp only[beq_dec,qbB,qbC]
 (repeat' split) <;> omega
theorem JU{f:Nat}:bS f=true↔9223372036854775808≤f:=by unfold bS;rw[KX]
theorem Jo{f:Nat}:bS f=false↔f<9223372036854775808:=by
 cases h:bS f with
 | true=>have:=JU.1 h;simp;omega
 | false=>simp;refine Vd fun h'=>?_;rw[JU.2 h']at h;cases h
theorem qbD{k:Nat}:qB k=true↔9218868437227405313≤k:=by unfold qB;rw[KX]
theorem qE{k:Nat}:qB k=false↔k≤9218868437227405312:=by
 cases h:qB k with
 | true=>have:=qbD.1 h;simp;omega
 | false=>simp;refine Nat.le_of_lt_succ (Vd fun h'=>?_);rw[qbD.2 h']at h;cases h
theorem qT{k:Nat}:jo k=true↔k≤9218868437227405311:=by unfold jo;rw[KX]
theorem qe4{k:Nat}:jo k=false↔9218868437227405312≤k:=by
 cases h:jo k with
 | true=>have:=qT.1 h;simp;omega
 | false=>simp;refine V6 fun h'=>?_;rw[qT.2 (by omega)]at h;cases h
theorem qaw(f:Nat):bK f<9223372036854775808:=Vo _ (by decide)
theorem qil{f:Nat}(h:f<18446744073709551616):f=sgN (bS f)+bK f:=by
 unfold sgN bK;cases hs:bS f with
 | true=>have:=JU.1 hs;simp;omega
 | false=>have:=Jo.1 hs;simp;omega
theorem bB{b:Bool}{p:Prop}[Decidable p](h:b=true↔p):decide p=b:=by
 cases b <;> simp_all
theorem qG{f:Int}(h:inR .u64 f=true):∃n:Nat,f=(n:Int)∧n<18446744073709551616:=by
 have:=qnj.1 h
 exact⟨f.toNat,by omega,by omega⟩
theorem Jp(k:Nat):qA k=if k=9218868437227405312 then 3 else if 9218868437227405313≤k then 4 else if k=0 then 0 else if 4503599627370496≤k then 2 else 1:=by
 unfold qA;simp only[beq_dec,qbB,qbC]
theorem Jq(a b:Nat):decide ((a:Int)=(b:Int))=decide (a=b):=by
 by_cases h:a=b
 · simp[h]
 · rw[zh h,zh];omega
theorem qim(k c:Nat):decide (((qA k:Nat):Int)=(c:Int))=decide (qA k=c):=Jq _ _
theorem JB(k:Nat):decide (((qA k:Nat):Int)=4)=qB k:=by
 refine bB ?_
 rw[qbD,Jp]
 (repeat' split) <;> constructor <;> intro h <;> first | omega | (exfalso;omega)
theorem qbE(k:Nat):decide (((qA k:Nat):Int)=3)=Nat.beq k 9218868437227405312:=by
 rw[beq_dec];refine bB ?_
 rw[decide_eq_true_iff,Jp]
 (repeat' split) <;> constructor <;> intro h <;> first | omega | (exfalso;omega)
theorem Ya(k:Nat):decide (((qA k:Nat):Int)=0)=Nat.beq k 0:=by
 rw[beq_dec];refine bB ?_
 rw[decide_eq_true_iff,Jp]
 (repeat' split) <;> constructor <;> intro h <;> first | omega | (exfalso;omega)
theorem qnq(k:Nat):(!(decide (((qA k:Nat):Int)=3))&&!(decide (((qA k:Nat):Int)=4)))=jo k:=by
 rw[qbE,JB];cases h:jo k with
 | true=>
  have:=qT.1 h
  rw[show qB k=false from qE.2 (by omega),beq_dec,zh (by omega)];rfl
 | false=>
  have:=qe4.1 h
  by_cases e:k=9218868437227405312
  · subst e;rfl
  · rw[show qB k=true from qbD.2 (by omega)];simp
theorem qnr{f:Nat}(h:f<18446744073709551616):yG f<18446744073709551616:=by
 have hl:=qaw f;unfold yG;cases qB (bK f)with
 | true=>exact h
 | false=>
  cases hs:bS f with
  | true=>rw[zi,zf];omega
  | false=>have:=Jo.1 hs;rw[zi,zi];omega
theorem qBh{f:Nat}(h:f<18446744073709551616):bK (yG f)=bK f:=by
 unfold yG;cases qB (bK f)with
 | true=>rfl
 | false=>
  cases hs:bS f with
  | true=>rw[zi,zf];unfold bK;omega
  | false=>have:=Jo.1 hs;rw[zi,zi];unfold bK;omega
theorem qBi{f:Nat}(h:f<18446744073709551616)(hn:qB (bK f)=false):bS (yG f) = !bS f:=by
 have hl:=qaw f;unfold yG;rw[hn,zi];cases hs:bS f with
 | true=>rw[zf,Kf];exact Jo.2 hl
 | false=>have:=Jo.1 hs;rw[zi,zX];exact JU.2 (by omega)
def qaq(a b:Nat):Nat:=bif qB (bK a)||qB (bK b)then 9221120237041090560 else bif jV a b then b else a
def minN(a b:Nat):Nat:=bif qB (bK a)||qB (bK b)then 9221120237041090560 else bif jV b a then b else a
end Su
end
