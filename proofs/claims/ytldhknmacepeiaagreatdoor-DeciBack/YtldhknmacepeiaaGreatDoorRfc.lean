/-
  Bits and rounding, in plain Lean. No condition.
-/
import Derived.Test.YtldhknmacepeiaaGreatDoorNT04
import Derived.Test.YtldhknmacepeiaaGreatDoorSuXl
import Derived.Test.YtldhknmacepeiaaGreatDoorSuSd
set_option linter.unusedVariables false
set_option linter.unusedSimpArgs false
set_option maxRecDepth 10000
section
namespace Su
noncomputable section
open Go Fly
def p75L:{n:Nat // n=2^1075}:=Classical.choice ⟨⟨_,rfl⟩⟩
def P75:Nat:=p75L.1
theorem P75_eq:P75=2^1075:=p75L.2
theorem kV_add(k:Nat):kV (k+1)=kV k+2^kE k:=by
 obtain⟨q,w,rfl,hw,h⟩:=key_form k;rw[kE_eq hw h];have h1:=kV_eq (q:=q) (w:=w) (by omega) h
 have h2:=kV_eq (q:=q) (w:=w+1) (by omega) (by rcases h with h | h <;> omega)
 rw[← jl]at h2;rw[h1,h2,qM,jC]
def mid2(k:Nat):Nat:=kV k+kV (k+1)
theorem mid2_eq(k:Nat):mid2 k=(2*kM k+1)*2^kE k:=by
 unfold mid2;rw[kV_add];unfold kV;rw[qM,jC,qo];omega
theorem mid2_lt{i j:Nat}(h:i<j):mid2 i<2*kV j:=by
 have h1:=kV_lt h;have h2:=kV_le (show i+1≤j by omega)
 unfold mid2;omega
theorem mid2_gt{i j:Nat}(h:j≤i):2*kV j<mid2 i:=by
 have h1:=kV_le h;have h2:=kV_lt (show i<i+1 by omega)
 unfold mid2;omega
theorem kE_mono(k:Nat):kE k≤kE (k+1):=by unfold kE;omega
def Nr(N D k:Nat):Prop :=
 (k=0∨D*mid2 (k-1)<N*P75∨D*mid2 (k-1)=N*P75∧k % 2=0)∧(k≤topN→N*P75<D*mid2 k∨N*P75=D*mid2 k∧k % 2=0)∧k≤topN+1
theorem nr_uniq{N D N' D' k k':Nat}(h:Nr N D k)(h':Nr N' D' k')(e:N*D'=N'*D)(hD:0<D)(hD':0<D'):k=k':=by
 have key:∀ {N D N' D' k k':Nat},Nr N D k→Nr N' D' k'→N*D'=N'*D→0<D→0<D'→¬k<k':=by
  intro N D N' D' k k' h h' e hD hD' hlt;obtain⟨_,h2,_⟩:=h;obtain⟨h1,_,h3⟩:=h';have h2:=h2 (by omega)
  have hm:mid2 k≤mid2 (k'-1):=by
   have a:=kV_le (show k≤k'-1 by omega)
   have b:=kV_le (show k+1≤k'-1+1 by omega)
   unfold mid2;omega
  have u1:N*P75≤D*mid2 k:=by rcases h2 with h | h <;> omega
  have u2:D'*mid2 (k'-1)≤N'*P75:=by rcases h1 with h | h | h <;> omega
  have v1:D'*(N*P75)≤D'*(D*mid2 k):=qJ _ u1
  have v2:D*(D'*mid2 (k'-1))≤D*(N'*P75):=qJ _ u2
  have e1:D'*(N*P75)=D*(N'*P75):=by
   rw[← qo,← qo,qz D' N,e,qz N' D]
  have e2:D'*(D*mid2 k)=D*(D'*mid2 k):=jz ..
  have v3:D*(D'*mid2 k)≤D*(D'*mid2 (k'-1)):=qJ _ (qJ _ hm)
  have q1:D'*(N*P75)=D'*(D*mid2 k):=by omega
  have q2:D*(D'*mid2 (k'-1))=D*(N'*P75):=by omega
  have q3:D*(D'*mid2 k)=D*(D'*mid2 (k'-1)):=by omega
  have r1:N*P75=D*mid2 k:=yn hD' q1
  have r2:D'*mid2 (k'-1)=N'*P75:=yn hD q2
  have r3:mid2 k=mid2 (k'-1):=yn hD' (yn hD q3)
  have p1:k % 2=0:=by rcases h2 with h | h <;> omega
  have p2:k' % 2=0:=by rcases h1 with h | h | h <;> omega
  have hk:k=k'-1:=by
   rcases yL k (k'-1)with hl | hl
   · have a:=mid2_lt hl
     have b:=mid2_gt (qC (k'-1))
     omega
   · omega
  omega
 rcases zw k k' with hl | hl | hl
 · exact absurd hl (key h h' e hD hD')
 · exact hl
 · exact absurd hl (key h' h e.symm hD' hD)
theorem arr5(B x S:Nat):B*(2*x*S)=B*(x*S)*2:=by rw[qo 2,jz B 2,qz 2]
theorem cmpI_lt1{a b:Nat}(h:cmpI a b = -1):a<b:=by
 unfold cmpI at h;by_cases h1:a<b
 · exact h1
 · rw[qI h1]at h
   split at h <;> exact absurd h (by decide)
theorem cmpI_eq0{a b:Nat}(h:cmpI a b=0):a=b:=by
 unfold cmpI at h;by_cases h1:a<b
 · rw[qT h1]at h;exact absurd h (by decide)
 · rw[qI h1]at h
   by_cases h2:a=b
   · exact h2
   · rw[qI h2]at h;exact absurd h (by decide)
theorem cmpI_gt{a b:Nat}(h:cmpI a b=1):b<a:=by
 unfold cmpI at h;by_cases h1:a<b
 · rw[qT h1]at h;exact absurd h (by decide)
 · rw[qI h1]at h
   by_cases h2:a=b
   · rw[qT h2]at h;exact absurd h (by decide)
   · omega
theorem RN_near{A B M E:Nat}{rest:Bool}(hB:0<B)(hM:M=A / B)(hr:rest=true↔A % B≠0)(h54:54≤blen M){k:Nat}(hk:k=RN false 0 M E rest) :
 (k=0∨B*(mid2 (k-1)*2^SH)<A*2^(E+1)∨B*(mid2 (k-1)*2^SH)=A*2^(E+1)∧k % 2=0)∧(k≤topN→A*2^(E+1)<B*(mid2 k*2^SH)∨A*2^(E+1)=B*(mid2 k*2^SH)∧k % 2=0)∧k≤topN+1:=by
 have hM0:M≠0:=fun e=>by rw[e]at h54;exact absurd h54 (by decide)
 have hA:A=B*M+A % B:=by rw[hM];exact(jR A B).symm
 have hA2:A % B<B:=jP _ hB
 have hSH:=SH_pos;obtain⟨f,hf⟩:∃f,f=floorN M E:=⟨_,rfl⟩
 have f1:=floor_le (E:=E) hM0
 have f2:=floor_lt (E:=E) hM0
 have cm:=cmp_mid (E:=E) hM0
 have hkE:kE f=qN M E:=by rw[hf];exact kE_floor hM0
 rw[← hf]at f1 f2 cm
 -- the grid: E is far below
 have hE:E+1≤kE f+SH:=by rw[hkE];unfold qN;omega
 obtain⟨d,hd⟩:∃d,kE f+(SH-1)=E+d:=⟨kE f+(SH-1)-E,by omega⟩
 have mid_e:mid2 f*2^SH=(2*kM f+1)*2^(kE f+(SH-1))*2:=by
  rw[mid2_eq,qo,qo,← qD,← qS]
  congr 2;omega
 have mid_d:(2*kM f+1)*2^(kE f+(SH-1))=(2*kM f+1)*2^d*2^E:=by
  rw[hd,qD,qz (2^E),qo]
 have pE:=qE E;have pS:=qE SH;have hpow:A*2^(E+1)=A*2^E*2:=by rw[qS,qo]
 -- what comes of a strict bound on M
 have below:∀Z:Nat,M*2^E<Z*2^E→A*2^E<B*(Z*2^E):=fun Z h=>by
  have h1:M<Z:=yU h
  have h2:A<B*Z:=by
   have:B*(M+1)≤B*Z:=qJ _ h1
   rw[jt,yd]at this;omega
  rw[← qo];exact qP h2 pE
 have above:∀Y:Nat,Y<M*2^E→B*Y<A*2^E:=fun Y h=>by
  have h1:B*Y<B*(M*2^E):=yz h hB
  have h2:B*(M*2^E)≤A*2^E:=by rw[← qo];exact qt _ (by omega)
  omega
 have aboveE:∀Y:Nat,Y≤M*2^E→B*Y≤A*2^E:=fun Y h=>by
  have h1:B*Y≤B*(M*2^E):=qJ _ h
  have h2:B*(M*2^E)≤A*2^E:=by rw[← qo];exact qt _ (by omega)
  omega
 have next:A*2^E<B*(kV (f+1)*2^SH):=by
  have e:kV (f+1)*2^SH=kM f*2^d*2*2^E+2^d*2*2^E:=by
   have g:2^kE f*2^SH=2^d*2*2^E:=by
    rw[← qD,← qS,← qD];congr 1;omega
   rw[kV_add,qM,g];unfold kV;rw[qo (kM f),g,qo (kM f*2^d),qo (kM f),qo (2^d)]
  rw[e,← qM]at f2 ⊢;exact below _ f2
 -- below the middle before f
 have lo_of:∀j,j<f→B*(mid2 j*2^SH)<A*2^(E+1):=fun j hj=>by
  have h1:=mid2_lt hj;have h2:mid2 j*2^SH<2*kV f*2^SH:=qP h1 pS
  have h3:=aboveE _ f1;have h4:B*(mid2 j*2^SH)<B*(2*kV f*2^SH):=yz h2 hB
  rw[arr5]at h4;rw[hpow];omega
 have lof:f=0∨B*(mid2 (f-1)*2^SH)<A*2^(E+1):=by
  rcases Nat.eq_zero_or_pos f with h0 | h0
  · exact .inl h0
  · exact .inr (lo_of _ (by omega))
 -- the next one
 have hif:A*2^(E+1)<B*(mid2 (f+1)*2^SH):=by
  have h1:=mid2_gt (qC (f+1))
  have h2:2*kV (f+1)*2^SH<mid2 (f+1)*2^SH:=qP h1 pS
  have h4:B*(2*kV (f+1)*2^SH)<B*(mid2 (f+1)*2^SH):=yz h2 hB
  rw[arr5]at h4;rw[hpow];omega
 have par:f % 2=keepN M E % 2:=by rw[hf];unfold floorN;omega
 have top_odd:topN % 2=1:=by decide
 have hk2:k=finN false (f+(upN false 0 (keepN M E % 2 == 1) (hfN M E) (rest||rsN M E)).toNat):=by
  rw[hk,hf];unfold RN;rw[beq0 hM0,qh,show sgN false=0 from rfl,qK];rfl
 have hup:upN false 0 (keepN M E % 2 == 1) (hfN M E) (rest||rsN M E)=(hfN M E&&((rest||rsN M E)||(keepN M E % 2 == 1))):=rfl
 rw[hup]at hk2;have big:f > topN→k=topN+1→(k=0∨B*(mid2 (k-1)*2^SH)<A*2^(E+1)∨B*(mid2 (k-1)*2^SH)=A*2^(E+1)∧k % 2=0)∧(k≤topN→A*2^(E+1)<B*(mid2 k*2^SH)∨A*2^(E+1)=B*(mid2 k*2^SH)∧k % 2=0)∧k≤topN+1:=fun h e=>by
  refine⟨.inr (.inl ?_),fun h=>by omega,by omega⟩
  rw[e,jU];exact lo_of _ h
 have fin:∀j,finN false j=if j≤topN then j else topN+1:=fun j=>by
  unfold finN;by_cases h:j≤topN
  · rw[qq h,qT h];rfl
  · have:Nat.ble j topN=false:=by
     cases hb:Nat.ble j topN with
     | false=>rfl
     | true=>exact absurd (qn hb) h
    rw[this,qI h];rfl
 rw[fin]at hk2;have stay:(hi:A*2^(E+1)<B*(mid2 f*2^SH)∨A*2^(E+1)=B*(mid2 f*2^SH)∧f % 2=0)→k=(if f≤topN then f else topN+1)→(k=0∨B*(mid2 (k-1)*2^SH)<A*2^(E+1)∨B*(mid2 (k-1)*2^SH)=A*2^(E+1)∧k % 2=0)∧(k≤topN→A*2^(E+1)<B*(mid2 k*2^SH)∨A*2^(E+1)=B*(mid2 k*2^SH)∧k % 2=0)∧k≤topN+1:=fun hi e=>by
  by_cases h:f≤topN
  · rw[qT h]at e
    subst e;exact⟨lof.imp id .inl,fun _=>hi,by omega⟩
  · rw[qI h]at e
    exact big (by omega) e
 have go:(lo:B*(mid2 f*2^SH)<A*2^(E+1)∨B*(mid2 f*2^SH)=A*2^(E+1)∧(f+1) % 2=0)→k=(if f+1≤topN then f+1 else topN+1)→(k=0∨B*(mid2 (k-1)*2^SH)<A*2^(E+1)∨B*(mid2 (k-1)*2^SH)=A*2^(E+1)∧k % 2=0)∧(k≤topN→A*2^(E+1)<B*(mid2 k*2^SH)∨A*2^(E+1)=B*(mid2 k*2^SH)∧k % 2=0)∧k≤topN+1:=fun lo e=>by
  by_cases h:f≤topN
  · have e2:k=f+1:=by
     by_cases h1:f+1≤topN
     · rw[qT h1]at e;exact e
     · rw[qI h1]at e;omega
    refine⟨.inr ?_,fun _=>.inl ?_,by omega⟩
    · rw[e2,jU];exact lo
    · rw[e2];exact hif
  · exact big (by omega) (by rw[e,qI (by omega)])
 cases hh:hfN M E with
 | false=>
  rw[hh,zy]at hk2;rw[hh,qI (by decide)]at cm;have hlt:=cmpI_lt1 cm;refine stay (.inl ?_) hk2
  rw[mid_d]at hlt;have:=below _ hlt
  rw[← mid_d]at this;rw[mid_e,hpow,← qo];omega
 | true=>
  rw[hh,j7]at hk2;rw[hh,qT rfl]at cm;cases hs:rest||rsN M E with
  | true=>
   rw[hs,Bool.true_or]at hk2;refine go (.inl ?_) hk2
   have hgt:B*((2*kM f+1)*2^(kE f+(SH-1)))<A*2^E:=by
    cases hr2:rsN M E with
    | true=>
     rw[hr2,qT rfl]at cm;exact above _ (cmpI_gt cm)
    | false=>
     rw[hr2,qI (by decide)]at cm;rw[hr2,Bool.or_false]at hs;have hx:=hr.1 hs;have heq:=cmpI_eq0 cm;rw[← heq,← qo];exact qP (by omega) pE
   rw[mid_e,hpow,← qo];omega
  | false=>
   rw[hs,zG]at hk2;rw[Bool.or_eq_false_iff]at hs;rw[hs.2,qI (by decide)]at cm;have heq:=cmpI_eq0 cm;have h0:A % B=0:=by
    by_cases h:A % B=0
    · exact h
    · rw[hr.2 h]at hs;exact absurd hs.1 (by decide)
   have hAM:A=B*M:=by omega
   have e:B*(mid2 f*2^SH)=A*2^(E+1):=by
    rw[mid_e,hpow,hAM,qo B M,heq,← qo B]
   cases ho:keepN M E % 2 == 1 with
   | true=>
    rw[ho]at hk2;have:keepN M E % 2=1:=by simpa using ho
    exact go (.inr ⟨e,by omega⟩) hk2
   | false=>
    rw[ho]at hk2;have:keepN M E % 2≠1:=by simpa using ho
    exact stay (.inr ⟨e.symm,by omega⟩) hk2
end
end Su
end
section
namespace Su
open Go Fly
theorem frac_E{N D:Nat}(h1 : -4000≤fracE N D)(h2:fracE N D≤4000):(-fracE N D).toNat+(fracE N D+6000).toNat=(fracE N D).toNat+6000:=by omega
theorem fracR_iff{N D:Nat}:fracR N D=true↔fracA N D % fracB N D≠0:=by
 unfold fracR;rw[qF];constructor
 · intro h e
   rw[e]at h;exact absurd h (by decide)
 · intro h
   have:=blen_pos h
   omega
theorem blen62{M:Nat}(h:4611686018427387904≤M):54≤blen M:=by
 refine yT fun hlt=>?_
 have:=blen_le.1 (show blen M≤53 by omega)
 omega
set_option exponentiation.threshold 1200 in
theorem frac_near{N D:Nat}(hN:N≠0)(hD:D≠0)(h1 : -4000≤fracE N D)(h2:fracE N D≤4000):Nr N D (fracV false 0 N D):=by
 have hM:=fracM_ge hN hD;have hB:=fracB_pos (N:=N) hD
 obtain⟨a,ha⟩:∃a,a=(-fracE N D).toNat:=⟨_,rfl⟩
 obtain⟨b,hb⟩:∃b,b=(fracE N D).toNat:=⟨_,rfl⟩
 obtain⟨E,hE⟩:∃E,E=(fracE N D+6000).toNat:=⟨_,rfl⟩
 have hs:=frac_E h1 h2;rw[← ha,← hb,← hE]at hs;have q:=RN_near (A:=fracA N D) (B:=fracB N D) (M:=fracM N D) (E:=E) (rest:=fracR N D) hB rfl fracR_iff (blen62 hM) (k:=fracV false 0 N D) (by rw[fracV_eq,hE])
 have eA:fracA N D*2^(E+1)=2^b*2^SH*(N*P75):=by
  unfold fracA;rw[P75_eq,← ha,qo,← qD,jz,← qD,← qD,SH_eq]
  congr 2;omega
 have eB:∀m,fracB N D*(m*2^SH)=2^b*2^SH*(D*m):=fun m=>by
  unfold fracB;rw[← hb,qz D,qo,qo,jz (2^SH) D,qz (2^SH) m]
 have pos:0<2^b*2^SH:=y7 (qE _) (qE _)
 rw[eA]at q;simp only[eB]at q;obtain⟨q1,q2,q3⟩:=q;refine⟨?_,fun h=>?_,q3⟩
 · rcases q1 with h | h | ⟨h,h'⟩
   · exact .inl h
   · exact .inr (.inl (yZ h))
   · exact .inr (.inr ⟨yn pos h,h'⟩)
 · rcases q2 h with h | ⟨h,h'⟩
   · exact .inl (yZ h)
   · exact .inr ⟨yn pos h,h'⟩
theorem near_of{n T U k:Nat}(hk:k≤topN)(hk0:k≠0)(hU:0<U)(hT:T*P75<U*2^kE k)
 (hn:2*(n*T*P75)≤4*(U*kV k)+T*P75) (hn2:4*(U*kV k)≤2*(n*T*P75)+T*P75):Nr (n*T) U k:=by
 have e1:mid2 k=2*kV k+2^kE k:=by unfold mid2;rw[kV_add];omega
 have e2:2*kV k≤mid2 (k-1)+2^kE k:=by
  have h:=kV_add (k-1)
  rw[show k-1+1=k by omega]at h;have hm:=kE_mono (k-1)
  rw[show k-1+1=k by omega]at hm;have:=qL (show 0<2 by omega) hm
  unfold mid2;rw[show k-1+1=k by omega];omega
 have e3:2*(mid2 (k-1))+2^kE k≤4*kV k:=by
  have h:=kV_add (k-1)
  rw[show k-1+1=k by omega]at h;have hm:kE k≤kE (k-1)+1:=by unfold kE;omega
  have:=qL (show 0<2 by omega) hm
  rw[qS]at this;unfold mid2;rw[show k-1+1=k by omega];omega
 have m1:U*mid2 k=2*(U*kV k)+U*2^kE k:=by rw[e1,jt,jz]
 have m2:2*(U*mid2 (k-1))+U*2^kE k≤4*(U*kV k):=by
  have:=qJ U e3
  rw[jt,jz,jz U 4]at this;exact this
 exact⟨.inr (.inl (by omega)),fun _=>.inl (by omega),by omega⟩
end Su
namespace Su
open Go Fly
def pT(q:Int):Nat:=10^q.toNat
def pU(q:Int):Nat:=10^(-q).toNat
theorem pT_pos(q:Int):0<pT q:=Nat.pow_pos (by decide)
theorem pU_pos(q:Int):0<pU q:=Nat.pow_pos (by decide)
theorem pw_shift(p:Int):pT (p-17)*pU p*10^17=pT p*pU (p-17):=by
 unfold pT pU;rw[← qD,← qD,← qD]
 congr 1;omega
theorem kV_lt53(k:Nat):kV k<9007199254740992*2^kE k:=by
 unfold kV;refine qP ?_ (qE _)
 unfold kM;split <;> omega
theorem fit{k:Nat}{p:Int}(h:pT p*P75≤2*kV k*pU p):pT (p-17)*P75<pU (p-17)*2^kE k:=by
 have h1:=kV_lt53 k;have h2:pT p*P75<18014398509481984*2^kE k*pU p:=by
  have:2*kV k*pU p<18014398509481984*2^kE k*pU p:=qP (by omega) (pU_pos p)
  omega
 have h3:pU (p-17)*(pT p*P75)<pU (p-17)*(18014398509481984*2^kE k*pU p):=yz h2 (pU_pos _)
 have e1:pU (p-17)*(pT p*P75)=pT (p-17)*P75*10^17*pU p:=by
  rw[← qo,qz (pU (p-17)),← pw_shift,jo _ (10^17),jo _ (pU p),jo _ (pU p)]
 have e2:pU (p-17)*(18014398509481984*2^kE k*pU p)=pU (p-17)*2^kE k*18014398509481984*pU p:=by
  rw[← qo,qz 18014398509481984,← qo]
 rw[e1,e2]at h3;have h4:pT (p-17)*P75*10^17<pU (p-17)*2^kE k*18014398509481984:=yU h3
 generalize pT (p-17)*P75=x at *
 generalize pU (p-17)*2^kE k=y at *
 omega
def nrN(A B:Nat):Nat:=if B<2*(A % B)∨2*(A % B)=B∧A / B % 2=1 then A / B+1 else A / B
theorem nrN_ok{A B:Nat}(hB:0<B):2*(nrN A B*B)≤2*A+B∧2*A≤2*(nrN A B*B)+B:=by
 have h1:=jR A B;have h2:=jP A hB;have h3:B*(A / B)=A / B*B:=qz ..
 unfold nrN;split
 · rename_i h
   rw[qM,jC];rcases h with h | ⟨h,_⟩ <;> omega
 · rename_i h
   have:2*(A % B)≤B:=by
    refine yT fun hlt=>h (.inl hlt)
   omega
theorem nrN_near{k N D:Nat}{q:Int}(hk:k≤topN)(hk0:k≠0)(hD:0<D)(hv:N*P75=2*(D*kV k))(hT:pT q*P75<pU q*2^kE k) :
 Nr (nrN (N*pU q) (D*pT q)*pT q) (pU q) k:=by
 have hB:0<D*pT q:=y7 hD (pT_pos q)
 obtain⟨h1,h2⟩:=nrN_ok (A:=N*pU q) hB
 generalize nrN (N*pU q) (D*pT q)=n at *
 have a1:=qt P75 h1;have a2:=qt P75 h2;have e1:2*(n*(D*pT q))*P75=D*(2*(n*pT q*P75)):=by
  rw[jz n D,jz 2 D,qo D,qo 2,qo n]
 have e2:2*(N*pU q)*P75=D*(4*(pU q*kV k)):=by
  have:2*(N*pU q)*P75=2*pU q*(N*P75):=by
   rw[qz N,← qo 2,qo (2*pU q)]
  rw[this,hv];have:2*pU q*(2*(D*kV k))=D*(4*(pU q*kV k)):=by
   rw[jz D 4,jz D (pU q),qo 2,jz (pU q) 2,← qo 2 2]
  exact this
 have e3:D*pT q*P75=D*(pT q*P75):=qo ..
 rw[qM,e1,e2,e3,← jt]at a1;rw[qM,e1,e2,e3,← jt]at a2;exact near_of hk hk0 (pU_pos q) hT (Nat.le_of_mul_le_mul_left a1 hD) (Nat.le_of_mul_le_mul_left a2 hD)
end Su
end
section
namespace Su
open Go Fly
noncomputable section
def dOf  (f:Int):Option ((List Int)×List Int) :=
 (Shl_s ((ofN (valN [(IntKind.wrap .u32 (((spM (bK f.toNat)):Nat):Int)),(IntKind.wrap .u32 (Int.fdiv (((spM (bK f.toNat)):Nat):Int) (2^32)))])),(spE (bK f.toNat)))).bind fun x0=>
 (Shl_s ((ofN 1),(IntKind.wrap .i64 (0-(spE (bK f.toNat)))))).bind fun x1=>
 some (x0.1,x1.1)
def dNear  (v:((List Int)×List Int))(q:Int):Option ((List Int)×List Int) :=
 (dTen_s (IntKind.wrap .i64 (0-q))).bind fun x0=>
 (Mul_s (v.1,x0)).bind fun x1=>
 (dTen_s q).bind fun x2=>
 (Mul_s (v.2,x2)).bind fun x3=>
 (Div_s (x1,x3)).bind fun x4=>
 (Add_s (x4.1,(ofN 1))).bind fun x5=>
 (Add_s (x4.2.1,x4.2.1)).bind fun x6=>
 (dTen_s q).bind fun x7=>
 (Mul_s (v.2,x7)).bind fun x8=>
 (bif(decide (0<(cmpI (valN x6) (valN x8))))then
 some (x5,x4.1)
 else
  (bif(decide ((cmpI (valN x6) (valN x8))=0))then
  (Bit x4.1 0).bind fun x9=>
  (bif(decide (x9=1))then
  some (x5,x4.1)
 else
  some (x4.1,x5))
 else
  some (x4.1,x5)))
def ofA(k:Nat):Nat:=kM k*2^(((kE k:Nat):Int)-1074).toNat
def ofB(k:Nat):Nat:=2^(1074-((kE k:Nat):Int)).toNat
theorem ofB_pos(k:Nat):0<ofB k:=qE _
set_option exponentiation.threshold 1200 in
theorem of_val(k:Nat):ofA k*P75=2*(ofB k*kV k):=by
 unfold ofA ofB kV;rw[P75_eq,qo,← qD,jz (2^_) (kM k),← qD,jz 2 (kM k),← Nat.pow_succ']
 congr 2;omega
theorem kM_lt53(k:Nat):kM k<9007199254740992:=by unfold kM;split <;> omega
theorem kM_pos{k:Nat}(h:k≠0):kM k≠0:=by unfold kM;split <;> omega
theorem kE_le{k:Nat}(h:k≤topN):kE k≤2046:=by unfold topN at h;unfold kE;omega
theorem fin_top{k:Nat}(h:k≤topN):finK k=true:=finK_iff.2 (by unfold topN at h;omega)
theorem bOfA{k:Nat}(h:k≤topN):blen (ofA k)≤1100:=by
 have h1:=kE_le h;have h2:=blen_mul (kM k) (2^(((kE k:Nat):Int)-1074).toNat)
 have h3:blen (kM k)≤53:=blen_le.2 (by have:=kM_lt53 k;omega)
 rw[blen_pow2]at h2;unfold ofA;omega
theorem bOfB(k:Nat):blen (ofB k)≤1100:=by unfold ofB;rw[blen_pow2];omega
theorem dOf_val{f:Int}{k:Nat}(hk:bK f.toNat=k)(ht:k≤topN)(h0:k≠0):dOf f=some (ofN (ofA k),ofN (ofB k)):=by
 unfold dOf;have hf:=fin_top ht;have e1:spM k=kM k:=by unfold spM;rw[hf];rfl
 have e2:spE k=((kE k:Nat):Int)-1074:=by unfold spE;rw[hf,beq0 h0];rfl
 have hE:=kE_le ht;have hM:=kM_lt53 k;have hb:blen (kM k)≤53:=blen_le.2 (by omega)
 rw[hk,e1,e2,new_v (by omega)];have w:IntKind.i64.wrap (0-(((kE k:Nat):Int)-1074))=1074-((kE k:Nat):Int):=by rw[w64 (n:=0-(((kE k:Nat):Int)-1074)) (by omega) (by omega)];omega
 have b1:blen 1=1:=by decide
 rw[w];refine obs (shl_b (kM_pos h0) (by omega)) (obs (shl_b (by omega) (by omega)) ?_)
 rw[jC];rfl
theorem bv_and32{x:Nat}(h:x<4294967296):Fly.bitv .and .u32 (x:Int) 1=((x % 2:Nat):Int):=by
 show IntKind.u32.wrap (((BitVec.ofInt 32 (x:Int) &&& BitVec.ofInt 32 ((1:Nat):Int)).toNat:Nat):Int)=_
 have hm:=and_mask x 1
 rw[show 2^1-1=1 from rfl,show 2^1=2 from rfl]at hm;have e1:(BitVec.ofInt 32 (x:Int)).toNat=x:=by simp;omega
 have e2:(BitVec.ofInt 32 ((1:Nat):Int)).toNat=1:=by decide
 rw[zB,e1,e2,hm];exact wu32 (by omega) (by omega)
theorem bit_0{v:Nat}(hb:blen v≤100000):Bit (ofN v) 0=some ((v % 2:Nat):Int):=by
 unfold Bit;by_cases h0:v=0
 · subst h0;rfl
 · have hp:=ofN_pos h0
   have hl:=len_b v;have w:IntKind.i64.wrap (32*(((ofN v).length:Nat):Int))=32*(((ofN v).length:Nat):Int):=w64 (by omega) (by omega)
   have hi:idx (ofN v) (IntKind.i64.wrap (Int.tdiv 0 32))=some ((v % 4294967296:Nat):Int):=by
    rw[show IntKind.i64.wrap (Int.tdiv 0 32)=((0:Nat):Int) by decide,idx_nat,ofN_step h0];rfl
   have em:min (Int.toNat (Int.tmod 0 32)) 32=0:=by decide
   have ef:Int.fdiv ((v % 4294967296:Nat):Int) (2^0)=((v % 4294967296:Nat):Int):=by rw[fd_nat,jO,zJ]
   rw[w,qm (show¬((0:Int)<0) by omega),qh,qm (show¬32*(((ofN v).length:Nat):Int)≤0 by omega),qh];refine obs hi ?_
   rw[em,ef,bv_and32 (by omega),wu64 (by omega) (by omega)];rw[show decide ((0:Int)≤Int.tmod 0 32)=true by decide,qe]
   congr 2;omega
theorem bT{q:Int}(h:q≤2000):blen (pT q)≤8001:=by have:=blen_ten q.toNat;unfold pT;omega
theorem bU{q:Int}(h : -2000≤q):blen (pU q)≤8001:=by have:=blen_ten (-q).toNat;unfold pU;omega
def nrO(A B:Nat):Nat:=if B<2*(A % B)∨2*(A % B)=B∧A / B % 2=1 then A / B else A / B+1
theorem dNear_val{N D:Nat}{q:Int}(hN:blen N≤2000)(hD:blen D≤2000)(h0:0<D)(h1 : -2000≤q)(h2:q≤2000) :
 dNear (ofN N,ofN D) q=some (ofN (nrN (N*pU q) (D*pT q)),ofN (nrO (N*pU q) (D*pT q))):=by
 have w:IntKind.i64.wrap (0-q) = -q:=by rw[w64 (n:=0-q) (by omega) (by omega)];omega
 have bt:=bT h2;have bu:=bU h1;have t1:dTen_s (-q)=some (ofN (pU q)):=by unfold dTen_s;rw[qc (by omega)];rfl
 have t2:dTen_s q=some (ofN (pT q)):=by unfold dTen_s;rw[qc (by omega)];rfl
 have bA:=blen_mul N (pU q)
 have bB:=blen_mul D (pT q)
 have m1:=mul_b (u:=N) (v:=pU q) (by omega) (by omega)
 have m2:=mul_b (u:=D) (v:=pT q) (by omega) (by omega)
 have hB:0<D*pT q:=y7 h0 (pT_pos q)
 generalize hA':N*pU q=A at *
 generalize hB':D*pT q=B at *
 have dv:=div_b (u:=A) (v:=B) (by omega) (by omega) (by omega)
 have bl:blen (A / B)≤blen A:=blen_mono (yu ..)
 have br:blen (A % B)≤blen A:=blen_mono (Nat.mod_le ..)
 have b1:blen 1=1:=by decide
 have a1:=add_b (u:=A / B) (v:=1) (by omega) (by omega)
 have a2:=add_b (u:=A % B) (v:=A % B) (by omega) (by omega)
 have bt0:=bit_0 (v:=A / B) (by omega)
 have key:dNear (ofN N,ofN D) q=(bif decide (0<cmpI (A % B+A % B) B)then some (ofN (A / B+1),ofN (A / B))else bif decide (cmpI (A % B+A % B) B=0)then(bif decide (((A / B % 2:Nat):Int)=1)then some (ofN (A / B+1),ofN (A / B))else some (ofN (A / B),ofN (A / B+1)))else some (ofN (A / B),ofN (A / B+1))):=by
  unfold dNear;rw[w];refine obs t1 (obs m1 (obs t2 (obs m2 (obs dv (obs a1 (obs a2 (obs t2 (obs m2 ?_))))))))
  simp only[valN_ofN,bt0,qf]
 rw[key];unfold nrN nrO cmpI;by_cases c1:A % B+A % B<B
 · rw[qT c1,qI (by omega),qI (by omega)];rfl
 · rw[qI c1]
   by_cases c2:A % B+A % B=B
   · rw[qT c2]
     by_cases c3:A / B % 2=1
     · rw[qT (by omega),qT (by omega),qc (show((A / B % 2:Nat):Int)=1 by omega)];rfl
     · rw[qI (by omega),qI (by omega),qm (show¬((A / B % 2:Nat):Int)=1 by omega)];rfl
   · rw[qI c2,qT (by omega),qT (by omega)];rfl
end
end Su
end
section
namespace Su
open Go Fly
theorem pw_shiftG{p q:Int}(h:q≤p):pT q*pU p*10^(p-q).toNat=pT p*pU q:=by
 unfold pT pU;rw[← qD,← qD,← qD]
 congr 1;omega
def p0(d:Int):Int:=Int.tdiv (d*30103) 100000-2
theorem p0_all:((List.range 2300).all fun i=>Nat.ble (10^(p0 ((i:Int)-1150)).toNat*2^(-((i:Int)-1150)).toNat) (2^((i:Int)-1150).toNat*10^(-(p0 ((i:Int)-1150))).toNat))=true:=by decide +kernel
theorem p0_rng:((List.range 2300).all fun i=>decide (-380≤p0 ((i:Int)-1150))&&decide (p0 ((i:Int)-1150)≤380))=true:=by decide +kernel
theorem p0_of{d:Int}(h1 : -1150≤d)(h2:d<1150):pT (p0 d)*2^(-d).toNat≤2^d.toNat*pU (p0 d):=by
 have h:=jh.1 p0_all (d+1150).toNat (List.mem_range.2 (by omega))
 have e:(((d+1150).toNat:Nat):Int)-1150=d:=by omega
 rw[e]at h;exact qn h
theorem p0_in{d:Int}(h1 : -1150≤d)(h2:d<1150) : -380≤p0 d∧p0 d≤380:=by
 have h:=jh.1 p0_rng (d+1150).toNat (List.mem_range.2 (by omega))
 have e:(((d+1150).toNat:Nat):Int)-1150=d:=by omega
 rw[e]at h;simp only[qk,qF]at h;exact h
theorem p0_le{N e:Nat}(hN:N≠0)(h1:blen N≤1100)(h2:e≤1099):pT (p0 ((blen N:Int)-((e+1:Nat):Int)))*2^e≤N*pU (p0 ((blen N:Int)-((e+1:Nat):Int))):=by
 have hp:=blen_pos hN;have hg:=blen_ge hN;have h:=p0_of (d:=(blen N:Int)-((e+1:Nat):Int)) (by omega) (by omega)
 generalize hb:blen N=b at *
 obtain⟨x,hx⟩:∃x,x=(-((b:Int)-((e+1:Nat):Int))).toNat:=⟨_,rfl⟩
 obtain⟨y,hy⟩:∃y,y=((b:Int)-((e+1:Nat):Int)).toNat:=⟨_,rfl⟩
 rw[← hx,← hy]at h;generalize p0 ((b:Int)-((e+1:Nat):Int))=p at *
 have hs:b-1+x=e+y:=by omega
 refine je ?_ (qt _ hg)
 refine Nat.le_of_mul_le_mul_right (c:=2^x) ?_ (qE _)
 have e1:pT p*2^e*2^x=pT p*2^x*2^e:=jo ..
 have e2:2^(b-1)*pU p*2^x=2^y*pU p*2^e:=by
  rw[jo,← qD,hs,qD,qz (2^e),jo]
 rw[e1,e2];exact qt _ h
theorem low_le{N D:Nat}{p q:Int}(hD:0<D)(hq:q≤p)(h:N*pU p<pT p*D):N*pU q / (D*pT q)+1≤10^(p-q).toNat:=by
 have hB:0<D*pT q:=y7 hD (pT_pos q)
 refine Nat.succ_le_of_lt ((js hB).2 ?_)
 refine yU (a:=pU p) ?_
 have h1:N*pU p*pU q<pT p*D*pU q:=qP h (pU_pos q)
 have e1:N*pU q*pU p=N*pU p*pU q:=jo ..
 have e2:10^(p-q).toNat*(D*pT q)*pU p=pT p*D*pU q:=by
  have:=pw_shiftG hq
  rw[qz (10^_),qo D,qo D,jo (pT q),this,qz D,jo]
 rw[e1,e2];exact h1
theorem nrN_le(A B:Nat):nrN A B≤A / B+1:=by unfold nrN;split <;> omega
def IsD(k n:Nat)(q:Int):Prop:=n≠0∧n≤10^18∧-400≤q∧q≤400∧fracV false 0 (n*pT q) (pU q)=k
def ansD(n:Nat)(q:Int):ByteArray×Int:=(bs (trimR 48 (dg n)),q+(((dg n).length:Nat):Int)-(((trimR 48 (dg n)).length:Nat):Int))
end Su
end
section
namespace Su
open Go Fly
noncomputable section
def Runs{S R:Type}(K:Nat)(F:S→Option (S ⊕ R))(s:S)(r:R):Prop:=∀m,K≤m→itP m F s=some r
theorem Runs.next{S R:Type}{K:Nat}{F:S→Option (S ⊕ R)}{s s':S}{r:R}(h:F s=some (.inl s'))(hn:Runs K F s' r):Runs (K+1) F s r:=fun m hm=>by
 obtain⟨j,rfl⟩:∃j,m=j+1:=⟨m-1,by omega⟩
 rw[itP_s,h];exact hn j (by omega)
theorem Runs.stop{S R:Type}{K:Nat}{F:S→Option (S ⊕ R)}{s:S}{r:R}(h:F s=some (.inr r)):Runs (K+1) F s r:=fun m hm=>by
 obtain⟨j,rfl⟩:∃j,m=j+1:=⟨m-1,by omega⟩
 rw[itP_s,h];rfl
theorem Runs.up{S R:Type}{K K':Nat}{F:S→Option (S ⊕ R)}{s:S}{r:R}(h:Runs K F s r)(hk:K≤K'):Runs K' F s r:=fun m hm=>h m (by omega)
theorem w1{i n:Nat}(h:i<n)(hn:n≤maxLen):IntKind.i64.wrap ((i:Int)+1)=((i+1:Nat):Int):=by
 rw[maxLen_eq]at hn;rw[w64 (by omega) (by omega)];rfl
end
end Su
end
