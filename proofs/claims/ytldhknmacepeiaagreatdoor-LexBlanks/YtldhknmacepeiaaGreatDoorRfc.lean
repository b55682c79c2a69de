/-
  Bits and rounding, in plain Lean. No condition.
-/
import Derived.Test.YtldhknmacepeiaaGreatDoorNT04
import Derived.Test.YtldhknmacepeiaaGreatDoorSuXl
import Derived.Test.YtldhknmacepeiaaGreatDoorSuSd
set_option linter.unusedVariables false
set_option linter.unusedSimpArgs false
set_option maxRecDepth 10000
section
namespace Su
noncomputable section
open Go Fly
def p75L:{n:Nat // n=2^1075}:=Classical.choice ⟨⟨_,rfl⟩⟩
def P75:Nat:=p75L.1
theorem qgX:P75=2^1075:=p75L.2
theorem qek(k:Nat):kV (k+1)=kV k+2^kE k:=by
 obtain⟨q,w,rfl,hw,h⟩:=qh3 k;rw[qvx hw h];have h1:=qfs (q:=q) (w:=w) (by omega) h
 have h2:=qfs (q:=q) (w:=w+1) (by omega) (by rcases h with h | h <;> omega)
 rw[← Ky]at h2;rw[h1,h2,zW,KO]
def jh(k:Nat):Nat:=kV k+kV (k+1)
theorem qgY(k:Nat):jh k=(2*kM k+1)*2^kE k:=by
 unfold jh;rw[qek];unfold kV;rw[zW,KO,zx];omega
theorem qlo{i j:Nat}(h:i<j):jh i<2*kV j:=by
 have h1:=qkS h;have h2:=qkT (show i+1≤j by omega)
 unfold jh;omega
theorem qlp{i j:Nat}(h:j≤i):2*kV j<jh i:=by
 have h1:=qkT h;have h2:=qkS (show i<i+1 by omega)
 unfold jh;omega
theorem qtW(k:Nat):kE k≤kE (k+1):=by unfold kE;omega
def Nr(N D k:Nat):Prop :=
 (k=0∨D*jh (k-1)<N*P75∨D*jh (k-1)=N*P75∧k % 2=0)∧(k≤jB→N*P75<D*jh k∨N*P75=D*jh k∧k % 2=0)∧k≤jB+1
theorem qlq{N D N' D' k k':Nat}(h:Nr N D k)(h':Nr N' D' k')(e:N*D'=N'*D)(hD:0<D)(hD':0<D'):k=k':=by
 have key:∀ {N D N' D' k k':Nat},Nr N D k→Nr N' D' k'→N*D'=N'*D→0<D→0<D'→¬k<k':=by
  intro N D N' D' k k' h h' e hD hD' hlt;obtain⟨_,h2,_⟩:=h;obtain⟨h1,_,h3⟩:=h';have h2:=h2 (by omega)
  have hm:jh k≤jh (k'-1):=by
   have a:=qkT (show k≤k'-1 by omega)
   have b:=qkT (show k+1≤k'-1+1 by omega)
   unfold jh;omega
  have u1:N*P75≤D*jh k:=by rcases h2 with h | h <;> omega
  have u2:D'*jh (k'-1)≤N'*P75:=by rcases h1 with h | h | h <;> omega
  have v1:D'*(N*P75)≤D'*(D*jh k):=zU _ u1
  have v2:D*(D'*jh (k'-1))≤D*(N'*P75):=zU _ u2
  have e1:D'*(N*P75)=D*(N'*P75):=by
   rw[← zx,← zx,zF D' N,e,zF N' D]
  have e2:D'*(D*jh k)=D*(D'*jh k):=KN ..
  have v3:D*(D'*jh k)≤D*(D'*jh (k'-1)):=zU _ (zU _ hm)
  have q1:D'*(N*P75)=D'*(D*jh k):=by omega
  have q2:D*(D'*jh (k'-1))=D*(N'*P75):=by omega
  have q3:D*(D'*jh k)=D*(D'*jh (k'-1)):=by omega
  have r1:N*P75=D*jh k:=Vz hD' q1
  have r2:D'*jh (k'-1)=N'*P75:=Vz hD q2
  have r3:jh k=jh (k'-1):=Vz hD' (Vz hD q3)
  have p1:k % 2=0:=by rcases h2 with h | h <;> omega
  have p2:k' % 2=0:=by rcases h1 with h | h | h <;> omega
  have hk:k=k'-1:=by
   rcases VT k (k'-1)with hl | hl
   · have a:=qlo hl
     have b:=qlp (zI (k'-1))
     omega
   · omega
  omega
 rcases WH k k' with hl | hl | hl
 · exact absurd hl (key h h' e hD hD')
 · exact hl
 · exact absurd hl (key h' h e.symm hD' hD)
theorem arr5(B x S:Nat):B*(2*x*S)=B*(x*S)*2:=by rw[zx 2,KN B 2,zF 2]
theorem qpN{a b:Nat}(h:yy a b = -1):a<b:=by
 unfold yy at h;by_cases h1:a<b
 · exact h1
 · rw[zw h1]at h
   split at h <;> exact absurd h (by decide)
theorem qir{a b:Nat}(h:yy a b=0):a=b:=by
 unfold yy at h;by_cases h1:a<b
 · rw[zA h1]at h;exact absurd h (by decide)
 · rw[zw h1]at h
   by_cases h2:a=b
   · exact h2
   · rw[zw h2]at h;exact absurd h (by decide)
theorem qtX{a b:Nat}(h:yy a b=1):b<a:=by
 unfold yy at h;by_cases h1:a<b
 · rw[zA h1]at h;exact absurd h (by decide)
 · rw[zw h1]at h
   by_cases h2:a=b
   · rw[zA h2]at h;exact absurd h (by decide)
   · omega
theorem qtY{A B M E:Nat}{rest:Bool}(hB:0<B)(hM:M=A / B)(hr:rest=true↔A % B≠0)(h54:54≤qf M){k:Nat}(hk:k=RN false 0 M E rest) :
 (k=0∨B*(jh (k-1)*2^SH)<A*2^(E+1)∨B*(jh (k-1)*2^SH)=A*2^(E+1)∧k % 2=0)∧(k≤jB→A*2^(E+1)<B*(jh k*2^SH)∨A*2^(E+1)=B*(jh k*2^SH)∧k % 2=0)∧k≤jB+1:=by
 have hM0:M≠0:=fun e=>by rw[e]at h54;exact absurd h54 (by decide)
 have hA:A=B*M+A % B:=by rw[hM];exact(Vb A B).symm
 have hA2:A % B<B:=K9 _ hB
 have hSH:=qoS;obtain⟨f,hf⟩:∃f,f=QU M E:=⟨_,rfl⟩
 have f1:=qoT (E:=E) hM0
 have f2:=qoU (E:=E) hM0
 have cm:=qtt (E:=E) hM0
 have hkE:kE f=qN M E:=by rw[hf];exact qh4 hM0
 rw[← hf]at f1 f2 cm
 -- the grid: E is far below
 have hE:E+1≤kE f+SH:=by rw[hkE];unfold qN;omega
 obtain⟨d,hd⟩:∃d,kE f+(SH-1)=E+d:=⟨kE f+(SH-1)-E,by omega⟩
 have mid_e:jh f*2^SH=(2*kM f+1)*2^(kE f+(SH-1))*2:=by
  rw[qgY,zx,zx,← zP,← z6]
  congr 2;omega
 have mid_d:(2*kM f+1)*2^(kE f+(SH-1))=(2*kM f+1)*2^d*2^E:=by
  rw[hd,zP,zF (2^E),zx]
 have pE:=zQ E;have pS:=zQ SH;have hpow:A*2^(E+1)=A*2^E*2:=by rw[z6,zx]
 -- what comes of a strict bound on M
 have below:∀Z:Nat,M*2^E<Z*2^E→A*2^E<B*(Z*2^E):=fun Z h=>by
  have h1:M<Z:=Wb h
  have h2:A<B*Z:=by
   have:B*(M+1)≤B*Z:=zU _ h1
   rw[KF,Vn]at this;omega
  rw[← zx];exact zZ h2 pE
 have above:∀Y:Nat,Y<M*2^E→B*Y<A*2^E:=fun Y h=>by
  have h1:B*Y<B*(M*2^E):=VJ h hB
  have h2:B*(M*2^E)≤A*2^E:=by rw[← zx];exact zD _ (by omega)
  omega
 have aboveE:∀Y:Nat,Y≤M*2^E→B*Y≤A*2^E:=fun Y h=>by
  have h1:B*Y≤B*(M*2^E):=zU _ h
  have h2:B*(M*2^E)≤A*2^E:=by rw[← zx];exact zD _ (by omega)
  omega
 have next:A*2^E<B*(kV (f+1)*2^SH):=by
  have e:kV (f+1)*2^SH=kM f*2^d*2*2^E+2^d*2*2^E:=by
   have g:2^kE f*2^SH=2^d*2*2^E:=by
    rw[← zP,← z6,← zP];congr 1;omega
   rw[qek,zW,g];unfold kV;rw[zx (kM f),g,zx (kM f*2^d),zx (kM f),zx (2^d)]
  rw[e,← zW]at f2 ⊢;exact below _ f2
 -- below the middle before f
 have lo_of:∀j,j<f→B*(jh j*2^SH)<A*2^(E+1):=fun j hj=>by
  have h1:=qlo hj;have h2:jh j*2^SH<2*kV f*2^SH:=zZ h1 pS
  have h3:=aboveE _ f1;have h4:B*(jh j*2^SH)<B*(2*kV f*2^SH):=VJ h2 hB
  rw[arr5]at h4;rw[hpow];omega
 have lof:f=0∨B*(jh (f-1)*2^SH)<A*2^(E+1):=by
  rcases Nat.eq_zero_or_pos f with h0 | h0
  · exact .inl h0
  · exact .inr (lo_of _ (by omega))
 -- the next one
 have hif:A*2^(E+1)<B*(jh (f+1)*2^SH):=by
  have h1:=qlp (zI (f+1))
  have h2:2*kV (f+1)*2^SH<jh (f+1)*2^SH:=zZ h1 pS
  have h4:B*(2*kV (f+1)*2^SH)<B*(jh (f+1)*2^SH):=VJ h2 hB
  rw[arr5]at h4;rw[hpow];omega
 have par:f % 2=yk M E % 2:=by rw[hf];unfold QU;omega
 have top_odd:jB % 2=1:=by decide
 have hk2:k=qmF false (f+(upN false 0 (yk M E % 2 == 1) (hfN M E) (rest||rsN M E)).toNat):=by
  rw[hk,hf];unfold RN;rw[Z4 hM0,zm,show sgN false=0 from rfl,zG];rfl
 have hup:upN false 0 (yk M E % 2 == 1) (hfN M E) (rest||rsN M E)=(hfN M E&&((rest||rsN M E)||(yk M E % 2 == 1))):=rfl
 rw[hup]at hk2;have big:f > jB→k=jB+1→(k=0∨B*(jh (k-1)*2^SH)<A*2^(E+1)∨B*(jh (k-1)*2^SH)=A*2^(E+1)∧k % 2=0)∧(k≤jB→A*2^(E+1)<B*(jh k*2^SH)∨A*2^(E+1)=B*(jh k*2^SH)∧k % 2=0)∧k≤jB+1:=fun h e=>by
  refine⟨.inr (.inl ?_),fun h=>by omega,by omega⟩
  rw[e,Ve];exact lo_of _ h
 have fin:∀j,qmF false j=if j≤jB then j else jB+1:=fun j=>by
  unfold qmF;by_cases h:j≤jB
  · rw[zp h,zA h];rfl
  · have:Nat.ble j jB=false:=by
     cases hb:Nat.ble j jB with
     | false=>rfl
     | true=>exact absurd (zo hb) h
    rw[this,zw h];rfl
 rw[fin]at hk2;have stay:(hi:A*2^(E+1)<B*(jh f*2^SH)∨A*2^(E+1)=B*(jh f*2^SH)∧f % 2=0)→k=(if f≤jB then f else jB+1)→(k=0∨B*(jh (k-1)*2^SH)<A*2^(E+1)∨B*(jh (k-1)*2^SH)=A*2^(E+1)∧k % 2=0)∧(k≤jB→A*2^(E+1)<B*(jh k*2^SH)∨A*2^(E+1)=B*(jh k*2^SH)∧k % 2=0)∧k≤jB+1:=fun hi e=>by
  by_cases h:f≤jB
  · rw[zA h]at e
    subst e;exact⟨lof.imp id .inl,fun _=>hi,by omega⟩
  · rw[zw h]at e
    exact big (by omega) e
 have go:(lo:B*(jh f*2^SH)<A*2^(E+1)∨B*(jh f*2^SH)=A*2^(E+1)∧(f+1) % 2=0)→k=(if f+1≤jB then f+1 else jB+1)→(k=0∨B*(jh (k-1)*2^SH)<A*2^(E+1)∨B*(jh (k-1)*2^SH)=A*2^(E+1)∧k % 2=0)∧(k≤jB→A*2^(E+1)<B*(jh k*2^SH)∨A*2^(E+1)=B*(jh k*2^SH)∧k % 2=0)∧k≤jB+1:=fun lo e=>by
  by_cases h:f≤jB
  · have e2:k=f+1:=by
     by_cases h1:f+1≤jB
     · rw[zA h1]at e;exact e
     · rw[zw h1]at e;omega
    refine⟨.inr ?_,fun _=>.inl ?_,by omega⟩
    · rw[e2,Ve];exact lo
    · rw[e2];exact hif
  · exact big (by omega) (by rw[e,zw (by omega)])
 cases hh:hfN M E with
 | false=>
  rw[hh,WK]at hk2;rw[hh,zw (by decide)]at cm;have hlt:=qpN cm;refine stay (.inl ?_) hk2
  rw[mid_d]at hlt;have:=below _ hlt
  rw[← mid_d]at this;rw[mid_e,hpow,← zx];omega
 | true=>
  rw[hh,Kw]at hk2;rw[hh,zA rfl]at cm;cases hs:rest||rsN M E with
  | true=>
   rw[hs,Bool.true_or]at hk2;refine go (.inl ?_) hk2
   have hgt:B*((2*kM f+1)*2^(kE f+(SH-1)))<A*2^E:=by
    cases hr2:rsN M E with
    | true=>
     rw[hr2,zA rfl]at cm;exact above _ (qtX cm)
    | false=>
     rw[hr2,zw (by decide)]at cm;rw[hr2,Bool.or_false]at hs;have hx:=hr.1 hs;have heq:=qir cm;rw[← heq,← zx];exact zZ (by omega) pE
   rw[mid_e,hpow,← zx];omega
  | false=>
   rw[hs,Wp]at hk2;rw[Bool.or_eq_false_iff]at hs;rw[hs.2,zw (by decide)]at cm;have heq:=qir cm;have h0:A % B=0:=by
    by_cases h:A % B=0
    · exact h
    · rw[hr.2 h]at hs;exact absurd hs.1 (by decide)
   have hAM:A=B*M:=by omega
   have e:B*(jh f*2^SH)=A*2^(E+1):=by
    rw[mid_e,hpow,hAM,zx B M,heq,← zx B]
   cases ho:yk M E % 2 == 1 with
   | true=>
    rw[ho]at hk2;have:yk M E % 2=1:=by simpa using ho
    exact go (.inr ⟨e,by omega⟩) hk2
   | false=>
    rw[ho]at hk2;have:yk M E % 2≠1:=by simpa using ho
    exact stay (.inr ⟨e.symm,by omega⟩) hk2
end
end Su
end
section
namespace Su
open Go Fly
theorem qxx{N D:Nat}(h1 : -4000≤jd N D)(h2:jd N D≤4000):(-jd N D).toNat+(jd N D+6000).toNat=(jd N D).toNat+6000:=by omega
theorem qmS{N D:Nat}:qcE N D=true↔YR N D % Ym N D≠0:=by
 unfold qcE;rw[zO];constructor
 · intro h e
   rw[e]at h;exact absurd h (by decide)
 · intro h
   have:=jl h
   omega
theorem qxy{M:Nat}(h:4611686018427387904≤M):54≤qf M:=by
 refine Wa fun hlt=>?_
 have:=jM.1 (show qf M≤53 by omega)
 omega
set_option exponentiation.threshold 1200 in
theorem ZV{N D:Nat}(hN:N≠0)(hD:D≠0)(h1 : -4000≤jd N D)(h2:jd N D≤4000):Nr N D (Qg false 0 N D):=by
 have hM:=qiq hN hD;have hB:=ZU (N:=N) hD
 obtain⟨a,ha⟩:∃a,a=(-jd N D).toNat:=⟨_,rfl⟩
 obtain⟨b,hb⟩:∃b,b=(jd N D).toNat:=⟨_,rfl⟩
 obtain⟨E,hE⟩:∃E,E=(jd N D+6000).toNat:=⟨_,rfl⟩
 have hs:=qxx h1 h2;rw[← ha,← hb,← hE]at hs;have q:=qtY (A:=YR N D) (B:=Ym N D) (M:=Yn N D) (E:=E) (rest:=qcE N D) hB rfl qmS (qxy hM) (k:=Qg false 0 N D) (by rw[qeg,hE])
 have eA:YR N D*2^(E+1)=2^b*2^SH*(N*P75):=by
  unfold YR;rw[qgX,← ha,zx,← zP,KN,← zP,← zP,qoR]
  congr 2;omega
 have eB:∀m,Ym N D*(m*2^SH)=2^b*2^SH*(D*m):=fun m=>by
  unfold Ym;rw[← hb,zF D,zx,zx,KN (2^SH) D,zF (2^SH) m]
 have pos:0<2^b*2^SH:=Wm (zQ _) (zQ _)
 rw[eA]at q;simp only[eB]at q;obtain⟨q1,q2,q3⟩:=q;refine⟨?_,fun h=>?_,q3⟩
 · rcases q1 with h | h | ⟨h,h'⟩
   · exact .inl h
   · exact .inr (.inl (Wi h))
   · exact .inr (.inr ⟨Vz pos h,h'⟩)
 · rcases q2 h with h | ⟨h,h'⟩
   · exact .inl (Wi h)
   · exact .inr ⟨Vz pos h,h'⟩
theorem qtZ{n T U k:Nat}(hk:k≤jB)(hk0:k≠0)(hU:0<U)(hT:T*P75<U*2^kE k)
 (hn:2*(n*T*P75)≤4*(U*kV k)+T*P75) (hn2:4*(U*kV k)≤2*(n*T*P75)+T*P75):Nr (n*T) U k:=by
 have e1:jh k=2*kV k+2^kE k:=by unfold jh;rw[qek];omega
 have e2:2*kV k≤jh (k-1)+2^kE k:=by
  have h:=qek (k-1)
  rw[show k-1+1=k by omega]at h;have hm:=qtW (k-1)
  rw[show k-1+1=k by omega]at hm;have:=zX (show 0<2 by omega) hm
  unfold jh;rw[show k-1+1=k by omega];omega
 have e3:2*(jh (k-1))+2^kE k≤4*kV k:=by
  have h:=qek (k-1)
  rw[show k-1+1=k by omega]at h;have hm:kE k≤kE (k-1)+1:=by unfold kE;omega
  have:=zX (show 0<2 by omega) hm
  rw[z6]at this;unfold jh;rw[show k-1+1=k by omega];omega
 have m1:U*jh k=2*(U*kV k)+U*2^kE k:=by rw[e1,KF,KN]
 have m2:2*(U*jh (k-1))+U*2^kE k≤4*(U*kV k):=by
  have:=zU U e3
  rw[KF,KN,KN U 4]at this;exact this
 exact⟨.inr (.inl (by omega)),fun _=>.inl (by omega),by omega⟩
end Su
namespace Su
open Go Fly
def pT(q:Int):Nat:=10^q.toNat
def pU(q:Int):Nat:=10^(-q).toNat
theorem J3(q:Int):0<pT q:=Nat.pow_pos (by decide)
theorem yV(q:Int):0<pU q:=Nat.pow_pos (by decide)
theorem qpO(p:Int):pT (p-17)*pU p*10^17=pT p*pU (p-17):=by
 unfold pT pU;rw[← zP,← zP,← zP]
 congr 1;omega
theorem qt0(k:Nat):kV k<9007199254740992*2^kE k:=by
 unfold kV;refine zZ ?_ (zQ _)
 unfold kM;split <;> omega
theorem fit{k:Nat}{p:Int}(h:pT p*P75≤2*kV k*pU p):pT (p-17)*P75<pU (p-17)*2^kE k:=by
 have h1:=qt0 k;have h2:pT p*P75<18014398509481984*2^kE k*pU p:=by
  have:2*kV k*pU p<18014398509481984*2^kE k*pU p:=zZ (by omega) (yV p)
  omega
 have h3:pU (p-17)*(pT p*P75)<pU (p-17)*(18014398509481984*2^kE k*pU p):=VJ h2 (yV _)
 have e1:pU (p-17)*(pT p*P75)=pT (p-17)*P75*10^17*pU p:=by
  rw[← zx,zF (pU (p-17)),← qpO,Kz _ (10^17),Kz _ (pU p),Kz _ (pU p)]
 have e2:pU (p-17)*(18014398509481984*2^kE k*pU p)=pU (p-17)*2^kE k*18014398509481984*pU p:=by
  rw[← zx,zF 18014398509481984,← zx]
 rw[e1,e2]at h3;have h4:pT (p-17)*P75*10^17<pU (p-17)*2^kE k*18014398509481984:=Wb h3
 generalize pT (p-17)*P75=x at *
 generalize pU (p-17)*2^kE k=y at *
 omega
def nrN(A B:Nat):Nat:=if B<2*(A % B)∨2*(A % B)=B∧A / B % 2=1 then A / B+1 else A / B
theorem qxz{A B:Nat}(hB:0<B):2*(nrN A B*B)≤2*A+B∧2*A≤2*(nrN A B*B)+B:=by
 have h1:=Vb A B;have h2:=K9 A hB;have h3:B*(A / B)=A / B*B:=zF ..
 unfold nrN;split
 · rename_i h
   rw[zW,KO];rcases h with h | ⟨h,_⟩ <;> omega
 · rename_i h
   have:2*(A % B)≤B:=by
    refine Wa fun hlt=>h (.inl hlt)
   omega
theorem qpP{k N D:Nat}{q:Int}(hk:k≤jB)(hk0:k≠0)(hD:0<D)(hv:N*P75=2*(D*kV k))(hT:pT q*P75<pU q*2^kE k) :
 Nr (nrN (N*pU q) (D*pT q)*pT q) (pU q) k:=by
 have hB:0<D*pT q:=Wm hD (J3 q)
 obtain⟨h1,h2⟩:=qxz (A:=N*pU q) hB
 generalize nrN (N*pU q) (D*pT q)=n at *
 have a1:=zD P75 h1;have a2:=zD P75 h2;have e1:2*(n*(D*pT q))*P75=D*(2*(n*pT q*P75)):=by
  rw[KN n D,KN 2 D,zx D,zx 2,zx n]
 have e2:2*(N*pU q)*P75=D*(4*(pU q*kV k)):=by
  have:2*(N*pU q)*P75=2*pU q*(N*P75):=by
   rw[zF N,← zx 2,zx (2*pU q)]
  rw[this,hv];have:2*pU q*(2*(D*kV k))=D*(4*(pU q*kV k)):=by
   rw[KN D 4,KN D (pU q),zx 2,KN (pU q) 2,← zx 2 2]
  exact this
 have e3:D*pT q*P75=D*(pT q*P75):=zx ..
 rw[zW,e1,e2,e3,← KF]at a1;rw[zW,e1,e2,e3,← KF]at a2;exact qtZ hk hk0 (yV q) hT (Nat.le_of_mul_le_mul_left a1 hD) (Nat.le_of_mul_le_mul_left a2 hD)
end Su
end
section
namespace Su
open Go Fly
noncomputable section
def dOf  (f:Int):Option ((List Int)×List Int) :=
 (qeb ((ofN (qa [(IntKind.wrap .u32 (((spM (bK f.toNat)):Nat):Int)),(IntKind.wrap .u32 (Int.fdiv (((spM (bK f.toNat)):Nat):Int) (2^32)))])),(spE (bK f.toNat)))).bind fun x0=>
 (qeb ((ofN 1),(IntKind.wrap .i64 (0-(spE (bK f.toNat)))))).bind fun x1=>
 some (x0.1,x1.1)
def qis  (v:((List Int)×List Int))(q:Int):Option ((List Int)×List Int) :=
 (ju (IntKind.wrap .i64 (0-q))).bind fun x0=>
 (ye (v.1,x0)).bind fun x1=>
 (ju q).bind fun x2=>
 (ye (v.2,x2)).bind fun x3=>
 (YP (x1,x3)).bind fun x4=>
 (qcC (x4.1,(ofN 1))).bind fun x5=>
 (qcC (x4.2.1,x4.2.1)).bind fun x6=>
 (ju q).bind fun x7=>
 (ye (v.2,x7)).bind fun x8=>
 (bif(decide (0<(yy (qa x6) (qa x8))))then
 some (x5,x4.1)
 else
  (bif(decide ((yy (qa x6) (qa x8))=0))then
  (Bit x4.1 0).bind fun x9=>
  (bif(decide (x9=1))then
  some (x5,x4.1)
 else
  some (x4.1,x5))
 else
  some (x4.1,x5)))
def ofA(k:Nat):Nat:=kM k*2^(((kE k:Nat):Int)-1074).toNat
def ofB(k:Nat):Nat:=2^(1074-((kE k:Nat):Int)).toNat
theorem qt1(k:Nat):0<ofB k:=zQ _
set_option exponentiation.threshold 1200 in
theorem qxA(k:Nat):ofA k*P75=2*(ofB k*kV k):=by
 unfold ofA ofB kV;rw[qgX,zx,← zP,KN (2^_) (kM k),← zP,KN 2 (kM k),← Nat.pow_succ']
 congr 2;omega
theorem qlr(k:Nat):kM k<9007199254740992:=by unfold kM;split <;> omega
theorem qpQ{k:Nat}(h:k≠0):kM k≠0:=by unfold kM;split <;> omega
theorem qvG{k:Nat}(h:k≤jB):kE k≤2046:=by unfold jB at h;unfold kE;omega
theorem qt2{k:Nat}(h:k≤jB):qeN k=true:=Zk.2 (by unfold jB at h;omega)
theorem bOfA{k:Nat}(h:k≤jB):qf (ofA k)≤1100:=by
 have h1:=qvG h;have h2:=yt (kM k) (2^(((kE k:Nat):Int)-1074).toNat)
 have h3:qf (kM k)≤53:=jM.2 (by have:=qlr k;omega)
 rw[QV]at h2;unfold ofA;omega
theorem bOfB(k:Nat):qf (ofB k)≤1100:=by unfold ofB;rw[QV];omega
theorem qt3{f:Int}{k:Nat}(hk:bK f.toNat=k)(ht:k≤jB)(h0:k≠0):dOf f=some (ofN (ofA k),ofN (ofB k)):=by
 unfold dOf;have hf:=qt2 ht;have e1:spM k=kM k:=by unfold spM;rw[hf];rfl
 have e2:spE k=((kE k:Nat):Int)-1074:=by unfold spE;rw[hf,Z4 h0];rfl
 have hE:=qvG ht;have hM:=qlr k;have hb:qf (kM k)≤53:=jM.2 (by omega)
 rw[hk,e1,e2,qpD (by omega)];have w:IntKind.i64.wrap (0-(((kE k:Nat):Int)-1074))=1074-((kE k:Nat):Int):=by rw[w64 (n:=0-(((kE k:Nat):Int)-1074)) (by omega) (by omega)];omega
 have b1:qf 1=1:=by decide
 rw[w];refine obs (qpA (qpQ h0) (by omega)) (obs (qpA (by omega) (by omega)) ?_)
 rw[KO];rfl
theorem qpR{x:Nat}(h:x<4294967296):Fly.qR .and .u32 (x:Int) 1=((x % 2:Nat):Int):=by
 show IntKind.u32.wrap (((BitVec.ofInt 32 (x:Int) &&& BitVec.ofInt 32 ((1:Nat):Int)).toNat:Nat):Int)=_
 have hm:=and_mask x 1
 rw[show 2^1-1=1 from rfl,show 2^1=2 from rfl]at hm;have e1:(BitVec.ofInt 32 (x:Int)).toNat=x:=by simp;omega
 have e2:(BitVec.ofInt 32 ((1:Nat):Int)).toNat=1:=by decide
 rw[WN,e1,e2,hm];exact qgG (by omega) (by omega)
theorem qzM{v:Nat}(hb:qf v≤100000):Bit (ofN v) 0=some ((v % 2:Nat):Int):=by
 unfold Bit;by_cases h0:v=0
 · subst h0;rfl
 · have hp:=qln h0
   have hl:=Zr v;have w:IntKind.i64.wrap (32*(((ofN v).length:Nat):Int))=32*(((ofN v).length:Nat):Int):=w64 (by omega) (by omega)
   have hi:idx (ofN v) (IntKind.i64.wrap (Int.tdiv 0 32))=some ((v % 4294967296:Nat):Int):=by
    rw[show IntKind.i64.wrap (Int.tdiv 0 32)=((0:Nat):Int) by decide,QX,qbi h0];rfl
   have em:min (Int.toNat (Int.tmod 0 32)) 32=0:=by decide
   have ef:Int.fdiv ((v % 4294967296:Nat):Int) (2^0)=((v % 4294967296:Nat):Int):=by rw[JH,K7,V9]
   rw[w,zk (show¬((0:Int)<0) by omega),zm,zk (show¬32*(((ofN v).length:Nat):Int)≤0 by omega),zm];refine obs hi ?_
   rw[em,ef,qpR (by omega),jX (by omega) (by omega)];rw[show decide ((0:Int)≤Int.tmod 0 32)=true by decide,zg]
   congr 2;omega
theorem bT{q:Int}(h:q≤2000):qf (pT q)≤8001:=by have:=Qf q.toNat;unfold pT;omega
theorem bU{q:Int}(h : -2000≤q):qf (pU q)≤8001:=by have:=Qf (-q).toNat;unfold pU;omega
def nrO(A B:Nat):Nat:=if B<2*(A % B)∨2*(A % B)=B∧A / B % 2=1 then A / B else A / B+1
theorem qmT{N D:Nat}{q:Int}(hN:qf N≤2000)(hD:qf D≤2000)(h0:0<D)(h1 : -2000≤q)(h2:q≤2000) :
 qis (ofN N,ofN D) q=some (ofN (nrN (N*pU q) (D*pT q)),ofN (nrO (N*pU q) (D*pT q))):=by
 have w:IntKind.i64.wrap (0-q) = -q:=by rw[w64 (n:=0-q) (by omega) (by omega)];omega
 have bt:=bT h2;have bu:=bU h1;have t1:ju (-q)=some (ofN (pU q)):=by unfold ju;rw[zb (by omega)];rfl
 have t2:ju q=some (ofN (pT q)):=by unfold ju;rw[zb (by omega)];rfl
 have bA:=yt N (pU q)
 have bB:=yt D (pT q)
 have m1:=qab (u:=N) (v:=pU q) (by omega) (by omega)
 have m2:=qab (u:=D) (v:=pT q) (by omega) (by omega)
 have hB:0<D*pT q:=Wm h0 (J3 q)
 generalize hA':N*pU q=A at *
 generalize hB':D*pT q=B at *
 have dv:=qvB (u:=A) (v:=B) (by omega) (by omega) (by omega)
 have bl:qf (A / B)≤qf A:=Yo (VB ..)
 have br:qf (A % B)≤qf A:=Yo (Nat.mod_le ..)
 have b1:qf 1=1:=by decide
 have a1:=qpz (u:=A / B) (v:=1) (by omega) (by omega)
 have a2:=qpz (u:=A % B) (v:=A % B) (by omega) (by omega)
 have bt0:=qzM (v:=A / B) (by omega)
 have key:qis (ofN N,ofN D) q=(bif decide (0<yy (A % B+A % B) B)then some (ofN (A / B+1),ofN (A / B))else bif decide (yy (A % B+A % B) B=0)then(bif decide (((A / B % 2:Nat):Int)=1)then some (ofN (A / B+1),ofN (A / B))else some (ofN (A / B),ofN (A / B+1)))else some (ofN (A / B),ofN (A / B+1))):=by
  unfold qis;rw[w];refine obs t1 (obs m1 (obs t2 (obs m2 (obs dv (obs a1 (obs a2 (obs t2 (obs m2 ?_))))))))
  simp only[valN_ofN,bt0,zh]
 rw[key];unfold nrN nrO yy;by_cases c1:A % B+A % B<B
 · rw[zA c1,zw (by omega),zw (by omega)];rfl
 · rw[zw c1]
   by_cases c2:A % B+A % B=B
   · rw[zA c2]
     by_cases c3:A / B % 2=1
     · rw[zA (by omega),zA (by omega),zb (show((A / B % 2:Nat):Int)=1 by omega)];rfl
     · rw[zw (by omega),zw (by omega),zk (show¬((A / B % 2:Nat):Int)=1 by omega)];rfl
   · rw[zw c2,zA (by omega),zA (by omega)];rfl
end
end Su
end
section
namespace Su
open Go Fly
theorem qmU{p q:Int}(h:q≤p):pT q*pU p*10^(p-q).toNat=pT p*pU q:=by
 unfold pT pU;rw[← zP,← zP,← zP]
 congr 1;omega
def p0(d:Int):Int:=Int.tdiv (d*30103) 100000-2
theorem qxB:((List.range 2300).all fun i=>Nat.ble (10^(p0 ((i:Int)-1150)).toNat*2^(-((i:Int)-1150)).toNat) (2^((i:Int)-1150).toNat*10^(-(p0 ((i:Int)-1150))).toNat))=true:=by decide +kernel
theorem qxC:((List.range 2300).all fun i=>decide (-380≤p0 ((i:Int)-1150))&&decide (p0 ((i:Int)-1150)≤380))=true:=by decide +kernel
theorem qzN{d:Int}(h1 : -1150≤d)(h2:d<1150):pT (p0 d)*2^(-d).toNat≤2^d.toNat*pU (p0 d):=by
 have h:=Ke.1 qxB (d+1150).toNat (Wv.2 (by omega))
 have e:(((d+1150).toNat:Nat):Int)-1150=d:=by omega
 rw[e]at h;exact zo h
theorem qzO{d:Int}(h1 : -1150≤d)(h2:d<1150) : -380≤p0 d∧p0 d≤380:=by
 have h:=Ke.1 qxC (d+1150).toNat (Wv.2 (by omega))
 have e:(((d+1150).toNat:Nat):Int)-1150=d:=by omega
 rw[e]at h;simp only[zn,zO]at h;exact h
theorem qzP{N e:Nat}(hN:N≠0)(h1:qf N≤1100)(h2:e≤1099):pT (p0 ((qf N:Int)-((e+1:Nat):Int)))*2^e≤N*pU (p0 ((qf N:Int)-((e+1:Nat):Int))):=by
 have hp:=jl hN;have hg:=YC hN;have h:=qzN (d:=(qf N:Int)-((e+1:Nat):Int)) (by omega) (by omega)
 generalize hb:qf N=b at *
 obtain⟨x,hx⟩:∃x,x=(-((b:Int)-((e+1:Nat):Int))).toNat:=⟨_,rfl⟩
 obtain⟨y,hy⟩:∃y,y=((b:Int)-((e+1:Nat):Int)).toNat:=⟨_,rfl⟩
 rw[← hx,← hy]at h;generalize p0 ((b:Int)-((e+1:Nat):Int))=p at *
 have hs:b-1+x=e+y:=by omega
 refine Kj ?_ (zD _ hg)
 refine Nat.le_of_mul_le_mul_right (c:=2^x) ?_ (zQ _)
 have e1:pT p*2^e*2^x=pT p*2^x*2^e:=Kz ..
 have e2:2^(b-1)*pU p*2^x=2^y*pU p*2^e:=by
  rw[Kz,← zP,hs,zP,zF (2^e),Kz]
 rw[e1,e2];exact zD _ h
theorem qpS{N D:Nat}{p q:Int}(hD:0<D)(hq:q≤p)(h:N*pU p<pT p*D):N*pU q / (D*pT q)+1≤10^(p-q).toNat:=by
 have hB:0<D*pT q:=Wm hD (J3 q)
 refine Nat.succ_le_of_lt ((KD hB).2 ?_)
 refine Wb (a:=pU p) ?_
 have h1:N*pU p*pU q<pT p*D*pU q:=zZ h (yV q)
 have e1:N*pU q*pU p=N*pU p*pU q:=Kz ..
 have e2:10^(p-q).toNat*(D*pT q)*pU p=pT p*D*pU q:=by
  have:=qmU hq
  rw[zF (10^_),zx D,zx D,Kz (pT q),this,zF D,Kz]
 rw[e1,e2];exact h1
theorem qpT(A B:Nat):nrN A B≤A / B+1:=by unfold nrN;split <;> omega
def IsD(k n:Nat)(q:Int):Prop:=n≠0∧n≤10^18∧-400≤q∧q≤400∧Qg false 0 (n*pT q) (pU q)=k
def Ji(n:Nat)(q:Int):ByteArray×Int:=(bs (jL 48 (dg n)),q+(((dg n).length:Nat):Int)-(((jL 48 (dg n)).length:Nat):Int))
end Su
end
section
namespace Su
open Go Fly
noncomputable section
def yK{S R:Type}(K:Nat)(F:S→Option (S ⊕ R))(s:S)(r:R):Prop:=∀m,K≤m→itP m F s=some r
theorem yK.next{S R:Type}{K:Nat}{F:S→Option (S ⊕ R)}{s s':S}{r:R}(h:F s=some (.inl s'))(hn:yK K F s' r):yK (K+1) F s r:=fun m hm=>by
 obtain⟨j,rfl⟩:∃j,m=j+1:=⟨m-1,by omega⟩
 rw[jr,h];exact hn j (by omega)
theorem yK.stop{S R:Type}{K:Nat}{F:S→Option (S ⊕ R)}{s:S}{r:R}(h:F s=some (.inr r)):yK (K+1) F s r:=fun m hm=>by
 obtain⟨j,rfl⟩:∃j,m=j+1:=⟨m-1,by omega⟩
 rw[jr,h];rfl
theorem yK.up{S R:Type}{K K':Nat}{F:S→Option (S ⊕ R)}{s:S}{r:R}(h:yK K F s r)(hk:K≤K'):yK K' F s r:=fun m hm=>h m (by omega)
theorem w1{i n:Nat}(h:i<n)(hn:n≤maxLen):IntKind.i64.wrap ((i:Int)+1)=((i+1:Nat):Int):=by
 rw[yG]at hn;rw[w64 (by omega) (by omega)];rfl
end
end Su
end
