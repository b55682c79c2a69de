/-
  Bits and rounding, in plain Lean. No condition.
-/
import Derived.Test.YtldhknmacepeiaaGreatDoorNT04
import Derived.Test.YtldhknmacepeiaaGreatDoorSuXl
import Derived.Test.YtldhknmacepeiaaGreatDoorSuSd
set_option linter.unusedVariables false
set_option linter.unusedSimpArgs false
set_option maxRecDepth 10000
section
namespace Su
noncomputable section
open Go Fly
def p75L:{n:Nat // n=2^1075}:=Classical.choice ⟨⟨_,rfl⟩⟩
def P75:Nat:=p75L.1
theorem qer:P75=2^1075:=p75L.2
theorem qpM(k:Nat):kV (k+1)=kV k+2^kE k:=by
 obtain⟨q,w,rfl,hw,h⟩:=qis k;rw[qwZ hw h];have h1:=qfG (q:=q) (w:=w) (by omega) h
 have h2:=qfG (q:=q) (w:=w+1) (by omega) (by rcases h with h | h <;> omega)
 rw[← Ku]at h2;rw[h1,h2,zR,KC]
def jf(k:Nat):Nat:=kV k+kV (k+1)
theorem qbl(k:Nat):jf k=(2*kM k+1)*2^kE k:=by
 unfold jf;rw[qpM];unfold kV;rw[zR,KC,zt];omega
theorem qhc{i j:Nat}(h:i<j):jf i<2*kV j:=by
 have h1:=qo4 h;have h2:=qit (show i+1≤j by omega)
 unfold jf;omega
theorem qhd{i j:Nat}(h:j≤i):2*kV j<jf i:=by
 have h1:=qit h;have h2:=qo4 (show i<i+1 by omega)
 unfold jf;omega
def Nr(N D k:Nat):Prop :=
 (k=0∨D*jf (k-1)<N*P75∨D*jf (k-1)=N*P75∧k % 2=0)∧(k≤yu→N*P75<D*jf k∨N*P75=D*jf k∧k % 2=0)∧k≤yu+1
theorem qhe{N D N' D' k k':Nat}(h:Nr N D k)(h':Nr N' D' k')(e:N*D'=N'*D)(hD:0<D)(hD':0<D'):k=k':=by
 have key:∀ {N D N' D' k k':Nat},Nr N D k→Nr N' D' k'→N*D'=N'*D→0<D→0<D'→¬k<k':=by
  intro N D N' D' k k' h h' e hD hD' hlt;obtain⟨_,h2,_⟩:=h;obtain⟨h1,_,h3⟩:=h';have h2:=h2 (by omega)
  have hm:jf k≤jf (k'-1):=by
   have a:=qit (show k≤k'-1 by omega)
   have b:=qit (show k+1≤k'-1+1 by omega)
   unfold jf;omega
  have u1:N*P75≤D*jf k:=by rcases h2 with h | h <;> omega
  have u2:D'*jf (k'-1)≤N'*P75:=by rcases h1 with h | h | h <;> omega
  have v1:D'*(N*P75)≤D'*(D*jf k):=zQ _ u1
  have v2:D*(D'*jf (k'-1))≤D*(N'*P75):=zQ _ u2
  have e1:D'*(N*P75)=D*(N'*P75):=by
   rw[← zt,← zt,zB D' N,e,zB N' D]
  have e2:D'*(D*jf k)=D*(D'*jf k):=Vx ..
  have v3:D*(D'*jf k)≤D*(D'*jf (k'-1)):=zQ _ (zQ _ hm)
  have q1:D'*(N*P75)=D'*(D*jf k):=by omega
  have q2:D*(D'*jf (k'-1))=D*(N'*P75):=by omega
  have q3:D*(D'*jf k)=D*(D'*jf (k'-1)):=by omega
  have r1:N*P75=D*jf k:=Vv hD' q1
  have r2:D'*jf (k'-1)=N'*P75:=Vv hD q2
  have r3:jf k=jf (k'-1):=Vv hD' (Vv hD q3)
  have p1:k % 2=0:=by rcases h2 with h | h <;> omega
  have p2:k' % 2=0:=by rcases h1 with h | h | h <;> omega
  have hk:k=k'-1:=by
   rcases VO k (k'-1)with hl | hl
   · have a:=qhc hl
     have b:=qhd (zw (k'-1))
     omega
   · omega
  omega
 rcases Wu k k' with hl | hl | hl
 · exact absurd hl (key h h' e hD hD')
 · exact hl
 · exact absurd hl (key h' h e.symm hD' hD)
theorem arr5(B x S:Nat):B*(2*x*S)=B*(x*S)*2:=by rw[zt 2,Vx B 2,zB 2]
theorem qpN{a b:Nat}(h:jy a b = -1):a<b:=by
 unfold jy at h;by_cases h1:a<b
 · exact h1
 · rw[zp h1]at h
   split at h <;> exact absurd h (by decide)
theorem qiL{a b:Nat}(h:jy a b=0):a=b:=by
 unfold jy at h;by_cases h1:a<b
 · rw[zr h1]at h;exact absurd h (by decide)
 · rw[zp h1]at h
   by_cases h2:a=b
   · exact h2
   · rw[zp h2]at h;exact absurd h (by decide)
theorem quO{a b:Nat}(h:jy a b=1):b<a:=by
 unfold jy at h;by_cases h1:a<b
 · rw[zr h1]at h;exact absurd h (by decide)
 · rw[zp h1]at h
   by_cases h2:a=b
   · rw[zr h2]at h;exact absurd h (by decide)
   · omega
theorem quP{A B M E:Nat}{rest:Bool}(hB:0<B)(hM:M=A / B)(hr:rest=true↔A % B≠0)(h54:54≤qj M){k:Nat}(hk:k=RN false 0 M E rest) :
 (k=0∨B*(jf (k-1)*2^SH)<A*2^(E+1)∨B*(jf (k-1)*2^SH)=A*2^(E+1)∧k % 2=0)∧(k≤yu→A*2^(E+1)<B*(jf k*2^SH)∨A*2^(E+1)=B*(jf k*2^SH)∧k % 2=0)∧k≤yu+1:=by
 have hM0:M≠0:=fun e=>by rw[e]at h54;exact absurd h54 (by decide)
 have hA:A=B*M+A % B:=by rw[hM];exact(KG A B).symm
 have hA2:A % B<B:=Vf _ hB
 have hSH:=qo6;obtain⟨f,hf⟩:∃f,f=QA M E:=⟨_,rfl⟩
 have f1:=qo7 (E:=E) hM0
 have f2:=qo8 (E:=E) hM0
 have cm:=qum (E:=E) hM0
 have hkE:kE f=qN M E:=by rw[hf];exact qiu hM0
 rw[← hf]at f1 f2 cm
 -- the grid: E is far below
 have hE:E+1≤kE f+SH:=by rw[hkE];unfold qN;omega
 obtain⟨d,hd⟩:∃d,kE f+(SH-1)=E+d:=⟨kE f+(SH-1)-E,by omega⟩
 have mid_e:jf f*2^SH=(2*kM f+1)*2^(kE f+(SH-1))*2:=by
  rw[qbl,zt,zt,← zP,← zU]
  congr 2;omega
 have mid_d:(2*kM f+1)*2^(kE f+(SH-1))=(2*kM f+1)*2^d*2^E:=by
  rw[hd,zP,zB (2^E),zt]
 have pE:=zH E;have pS:=zH SH;have hpow:A*2^(E+1)=A*2^E*2:=by rw[zU,zt]
 -- what comes of a strict bound on M
 have below:∀Z:Nat,M*2^E<Z*2^E→A*2^E<B*(Z*2^E):=fun Z h=>by
  have h1:M<Z:=Nat.lt_of_mul_lt_mul_right h
  have h2:A<B*Z:=by
   have:B*(M+1)≤B*Z:=zQ _ h1
   rw[Kx,K8]at this;omega
  rw[← zt];exact zY h2 pE
 have above:∀Y:Nat,Y<M*2^E→B*Y<A*2^E:=fun Y h=>by
  have h1:B*Y<B*(M*2^E):=Vr h hB
  have h2:B*(M*2^E)≤A*2^E:=by rw[← zt];exact zu _ (by omega)
  omega
 have aboveE:∀Y:Nat,Y≤M*2^E→B*Y≤A*2^E:=fun Y h=>by
  have h1:B*Y≤B*(M*2^E):=zQ _ h
  have h2:B*(M*2^E)≤A*2^E:=by rw[← zt];exact zu _ (by omega)
  omega
 have next:A*2^E<B*(kV (f+1)*2^SH):=by
  have e:kV (f+1)*2^SH=kM f*2^d*2*2^E+2^d*2*2^E:=by
   have g:2^kE f*2^SH=2^d*2*2^E:=by
    rw[← zP,← zU,← zP];congr 1;omega
   rw[qpM,zR,g];unfold kV;rw[zt (kM f),g,zt (kM f*2^d),zt (kM f),zt (2^d)]
  rw[e,← zR]at f2 ⊢;exact below _ f2
 -- below the middle before f
 have lo_of:∀j,j<f→B*(jf j*2^SH)<A*2^(E+1):=fun j hj=>by
  have h1:=qhc hj;have h2:jf j*2^SH<2*kV f*2^SH:=zY h1 pS
  have h3:=aboveE _ f1;have h4:B*(jf j*2^SH)<B*(2*kV f*2^SH):=Vr h2 hB
  rw[arr5]at h4;rw[hpow];omega
 have lof:f=0∨B*(jf (f-1)*2^SH)<A*2^(E+1):=by
  rcases Nat.eq_zero_or_pos f with h0 | h0
  · exact .inl h0
  · exact .inr (lo_of _ (by omega))
 -- the next one
 have hif:A*2^(E+1)<B*(jf (f+1)*2^SH):=by
  have h1:=qhd (zw (f+1))
  have h2:2*kV (f+1)*2^SH<jf (f+1)*2^SH:=zY h1 pS
  have h4:B*(2*kV (f+1)*2^SH)<B*(jf (f+1)*2^SH):=Vr h2 hB
  rw[arr5]at h4;rw[hpow];omega
 have par:f % 2=yc M E % 2:=by rw[hf];unfold QA;omega
 have top_odd:yu % 2=1:=by decide
 have hk2:k=qmP false (f+(upN false 0 (yc M E % 2 == 1) (hfN M E) (rest||rsN M E)).toNat):=by
  rw[hk,hf];unfold RN;rw[qcV hM0,zj,show sgN false=0 from rfl,zF];rfl
 have hup:upN false 0 (yc M E % 2 == 1) (hfN M E) (rest||rsN M E)=(hfN M E&&((rest||rsN M E)||(yc M E % 2 == 1))):=rfl
 rw[hup]at hk2;have big:f > yu→k=yu+1→(k=0∨B*(jf (k-1)*2^SH)<A*2^(E+1)∨B*(jf (k-1)*2^SH)=A*2^(E+1)∧k % 2=0)∧(k≤yu→A*2^(E+1)<B*(jf k*2^SH)∨A*2^(E+1)=B*(jf k*2^SH)∧k % 2=0)∧k≤yu+1:=fun h e=>by
  refine⟨.inr (.inl ?_),fun h=>by omega,by omega⟩
  rw[e,KQ];exact lo_of _ h
 have fin:∀j,qmP false j=if j≤yu then j else yu+1:=fun j=>by
  unfold qmP;by_cases h:j≤yu
  · rw[zo h,zr h];rfl
  · have:Nat.ble j yu=false:=by
     cases hb:Nat.ble j yu with
     | false=>rfl
     | true=>exact absurd (zm hb) h
    rw[this,zp h];rfl
 rw[fin]at hk2;have stay:(hi:A*2^(E+1)<B*(jf f*2^SH)∨A*2^(E+1)=B*(jf f*2^SH)∧f % 2=0)→k=(if f≤yu then f else yu+1)→(k=0∨B*(jf (k-1)*2^SH)<A*2^(E+1)∨B*(jf (k-1)*2^SH)=A*2^(E+1)∧k % 2=0)∧(k≤yu→A*2^(E+1)<B*(jf k*2^SH)∨A*2^(E+1)=B*(jf k*2^SH)∧k % 2=0)∧k≤yu+1:=fun hi e=>by
  by_cases h:f≤yu
  · rw[zr h]at e
    subst e;exact⟨lof.imp id .inl,fun _=>hi,by omega⟩
  · rw[zp h]at e
    exact big (by omega) e
 have go:(lo:B*(jf f*2^SH)<A*2^(E+1)∨B*(jf f*2^SH)=A*2^(E+1)∧(f+1) % 2=0)→k=(if f+1≤yu then f+1 else yu+1)→(k=0∨B*(jf (k-1)*2^SH)<A*2^(E+1)∨B*(jf (k-1)*2^SH)=A*2^(E+1)∧k % 2=0)∧(k≤yu→A*2^(E+1)<B*(jf k*2^SH)∨A*2^(E+1)=B*(jf k*2^SH)∧k % 2=0)∧k≤yu+1:=fun lo e=>by
  by_cases h:f≤yu
  · have e2:k=f+1:=by
     by_cases h1:f+1≤yu
     · rw[zr h1]at e;exact e
     · rw[zp h1]at e;omega
    refine⟨.inr ?_,fun _=>.inl ?_,by omega⟩
    · rw[e2,KQ];exact lo
    · rw[e2];exact hif
  · exact big (by omega) (by rw[e,zp (by omega)])
 cases hh:hfN M E with
 | false=>
  rw[hh,V6]at hk2;rw[hh,zp (by decide)]at cm;have hlt:=qpN cm;refine stay (.inl ?_) hk2
  rw[mid_d]at hlt;have:=below _ hlt
  rw[← mid_d]at this;rw[mid_e,hpow,← zt];omega
 | true=>
  rw[hh,z7]at hk2;rw[hh,zr rfl]at cm;cases hs:rest||rsN M E with
  | true=>
   rw[hs,Bool.true_or]at hk2;refine go (.inl ?_) hk2
   have hgt:B*((2*kM f+1)*2^(kE f+(SH-1)))<A*2^E:=by
    cases hr2:rsN M E with
    | true=>
     rw[hr2,zr rfl]at cm;exact above _ (quO cm)
    | false=>
     rw[hr2,zp (by decide)]at cm;rw[hr2,Bool.or_false]at hs;have hx:=hr.1 hs;have heq:=qiL cm;rw[← heq,← zt];exact zY (by omega) pE
   rw[mid_e,hpow,← zt];omega
  | false=>
   rw[hs,VP]at hk2;rw[Bool.or_eq_false_iff]at hs;rw[hs.2,zp (by decide)]at cm;have heq:=qiL cm;have h0:A % B=0:=by
    by_cases h:A % B=0
    · exact h
    · rw[hr.2 h]at hs;exact absurd hs.1 (by decide)
   have hAM:A=B*M:=by omega
   have e:B*(jf f*2^SH)=A*2^(E+1):=by
    rw[mid_e,hpow,hAM,zt B M,heq,← zt B]
   cases ho:yc M E % 2 == 1 with
   | true=>
    rw[ho]at hk2;have:yc M E % 2=1:=by simpa using ho
    exact go (.inr ⟨e,by omega⟩) hk2
   | false=>
    rw[ho]at hk2;have:yc M E % 2≠1:=by simpa using ho
    exact stay (.inr ⟨e.symm,by omega⟩) hk2
end
end Su
end
section
namespace Su
open Go Fly
theorem qyT{N D:Nat}(h1 : -4000≤jm N D)(h2:jm N D≤4000):(-jm N D).toNat+(jm N D+6000).toNat=(jm N D).toNat+6000:=by omega
theorem qmX{N D:Nat}:qcP N D=true↔YB N D % J3 N D≠0:=by
 unfold qcP;rw[zD];constructor
 · intro h e
   rw[e]at h;exact absurd h (by decide)
 · intro h
   have:=jE h
   omega
theorem qyU{M:Nat}(h:4611686018427387904≤M):54≤qj M:=by
 refine WA fun hlt=>?_
 have:=j9.1 (show qj M≤53 by omega)
 omega
set_option exponentiation.threshold 1200 in
theorem qmY{N D:Nat}(hN:N≠0)(hD:D≠0)(h1 : -4000≤jm N D)(h2:jm N D≤4000):Nr N D (qbk false 0 N D):=by
 have hM:=qiK hN hD;have hB:=ZJ (N:=N) hD
 obtain⟨a,ha⟩:∃a,a=(-jm N D).toNat:=⟨_,rfl⟩
 obtain⟨b,hb⟩:∃b,b=(jm N D).toNat:=⟨_,rfl⟩
 obtain⟨E,hE⟩:∃E,E=(jm N D+6000).toNat:=⟨_,rfl⟩
 have hs:=qyT h1 h2;rw[← ha,← hb,← hE]at hs;have q:=quP (A:=YB N D) (B:=J3 N D) (M:=J4 N D) (E:=E) (rest:=qcP N D) hB rfl qmX (qyU hM) (k:=qbk false 0 N D) (by rw[qeo,hE])
 have eA:YB N D*2^(E+1)=2^b*2^SH*(N*P75):=by
  unfold YB;rw[qer,← ha,zt,← zP,Vx,← zP,← zP,qo5]
  congr 2;omega
 have eB:∀m,J3 N D*(m*2^SH)=2^b*2^SH*(D*m):=fun m=>by
  unfold J3;rw[← hb,zB D,zt,zt,Vx (2^SH) D,zB (2^SH) m]
 have pos:0<2^b*2^SH:=WF (zH _) (zH _)
 rw[eA]at q;simp only[eB]at q;obtain⟨q1,q2,q3⟩:=q;refine⟨?_,fun h=>?_,q3⟩
 · rcases q1 with h | h | ⟨h,h'⟩
   · exact .inl h
   · exact .inr (.inl (Wa h))
   · exact .inr (.inr ⟨Vv pos h,h'⟩)
 · rcases q2 h with h | ⟨h,h'⟩
   · exact .inl (Wa h)
   · exact .inr ⟨Vv pos h,h'⟩
end Su
namespace Su
open Go Fly
def pT(q:Int):Nat:=10^q.toNat
def pU(q:Int):Nat:=10^(-q).toNat
theorem qpO(q:Int):0<pT q:=Nat.pow_pos (by decide)
theorem qj6(q:Int):0<pU q:=Nat.pow_pos (by decide)
end Su
end
section
namespace Su
open Go Fly
noncomputable section
end
end Su
end
section
namespace Su
open Go Fly
def p0(d:Int):Int:=Int.tdiv (d*30103) 100000-2
end Su
end
section
namespace Su
open Go Fly
noncomputable section
def je{S R:Type}(K:Nat)(F:S→Option (S ⊕ R))(s:S)(r:R):Prop:=∀m,K≤m→itP m F s=some r
theorem je.next{S R:Type}{K:Nat}{F:S→Option (S ⊕ R)}{s s':S}{r:R}(h:F s=some (.inl s'))(hn:je K F s' r):je (K+1) F s r:=fun m hm=>by
 obtain⟨j,rfl⟩:∃j,m=j+1:=⟨m-1,by omega⟩
 rw[jD,h];exact hn j (by omega)
theorem je.stop{S R:Type}{K:Nat}{F:S→Option (S ⊕ R)}{s:S}{r:R}(h:F s=some (.inr r)):je (K+1) F s r:=fun m hm=>by
 obtain⟨j,rfl⟩:∃j,m=j+1:=⟨m-1,by omega⟩
 rw[jD,h];rfl
theorem je.up{S R:Type}{K K':Nat}{F:S→Option (S ⊕ R)}{s:S}{r:R}(h:je K F s r)(hk:K≤K'):je K' F s r:=fun m hm=>h m (by omega)
theorem w1{i n:Nat}(h:i<n)(hn:n≤maxLen):IntKind.i64.wrap ((i:Int)+1)=((i+1:Nat):Int):=by
 rw[jU]at hn;rw[w64 (by omega) (by omega)];rfl
end
end Su
end
