/-
  Bits and rounding, in plain Lean. No condition.
-/
import Derived.Test.YtldhknmacepeiaaGreatDoorNT04
import Derived.Test.YtldhknmacepeiaaGreatDoorSuXl
import Derived.Test.YtldhknmacepeiaaGreatDoorSuSd
set_option linter.unusedVariables false
set_option linter.unusedSimpArgs false
set_option maxRecDepth 10000
section
namespace Su
noncomputable section
open Go Fly
def p75L:{n:Nat // n=2^1075}:=Classical.choice ⟨⟨_,rfl⟩⟩
def P75:Nat:=p75L.1
theorem P75_eq:P75=2^1075:=p75L.2
theorem kV_add(k:Nat):kV (k+1)=kV k+2^kE k:=by
 obtain⟨q,w,rfl,hw,h⟩:=key_form k;rw[kE_eq hw h];have h1:=kV_eq (q:=q) (w:=w) (by omega) h
 have h2:=kV_eq (q:=q) (w:=w+1) (by omega) (by rcases h with h | h <;> omega)
 rw[← jl]at h2;rw[h1,h2,qL,jF]
def mid2(k:Nat):Nat:=kV k+kV (k+1)
theorem mid2_eq(k:Nat):mid2 k=(2*kM k+1)*2^kE k:=by
 unfold mid2;rw[kV_add];unfold kV;rw[qL,jF,qx];omega
theorem mid2_lt{i j:Nat}(h:i<j):mid2 i<2*kV j:=by
 have h1:=kV_lt h;have h2:=kV_le (show i+1≤j by omega)
 unfold mid2;omega
theorem mid2_gt{i j:Nat}(h:j≤i):2*kV j<mid2 i:=by
 have h1:=kV_le h;have h2:=kV_lt (show i<i+1 by omega)
 unfold mid2;omega
def Nr(N D k:Nat):Prop :=
 (k=0∨D*mid2 (k-1)<N*P75∨D*mid2 (k-1)=N*P75∧k % 2=0)∧(k≤topN→N*P75<D*mid2 k∨N*P75=D*mid2 k∧k % 2=0)∧k≤topN+1
theorem nr_uniq{N D N' D' k k':Nat}(h:Nr N D k)(h':Nr N' D' k')(e:N*D'=N'*D)(hD:0<D)(hD':0<D'):k=k':=by
 have key:∀ {N D N' D' k k':Nat},Nr N D k→Nr N' D' k'→N*D'=N'*D→0<D→0<D'→¬k<k':=by
  intro N D N' D' k k' h h' e hD hD' hlt;obtain⟨_,h2,_⟩:=h;obtain⟨h1,_,h3⟩:=h';have h2:=h2 (by omega)
  have hm:mid2 k≤mid2 (k'-1):=by
   have a:=kV_le (show k≤k'-1 by omega)
   have b:=kV_le (show k+1≤k'-1+1 by omega)
   unfold mid2;omega
  have u1:N*P75≤D*mid2 k:=by rcases h2 with h | h <;> omega
  have u2:D'*mid2 (k'-1)≤N'*P75:=by rcases h1 with h | h | h <;> omega
  have v1:D'*(N*P75)≤D'*(D*mid2 k):=qI _ u1
  have v2:D*(D'*mid2 (k'-1))≤D*(N'*P75):=qI _ u2
  have e1:D'*(N*P75)=D*(N'*P75):=by
   rw[← qx,← qx,qA D' N,e,qA N' D]
  have e2:D'*(D*mid2 k)=D*(D'*mid2 k):=yL ..
  have v3:D*(D'*mid2 k)≤D*(D'*mid2 (k'-1)):=qI _ (qI _ hm)
  have q1:D'*(N*P75)=D'*(D*mid2 k):=by omega
  have q2:D*(D'*mid2 (k'-1))=D*(N'*P75):=by omega
  have q3:D*(D'*mid2 k)=D*(D'*mid2 (k'-1)):=by omega
  have r1:N*P75=D*mid2 k:=yl hD' q1
  have r2:D'*mid2 (k'-1)=N'*P75:=yl hD q2
  have r3:mid2 k=mid2 (k'-1):=yl hD' (yl hD q3)
  have p1:k % 2=0:=by rcases h2 with h | h <;> omega
  have p2:k' % 2=0:=by rcases h1 with h | h | h <;> omega
  have hk:k=k'-1:=by
   rcases yE k (k'-1)with hl | hl
   · have a:=mid2_lt hl
     have b:=mid2_gt (qB (k'-1))
     omega
   · omega
  omega
 rcases zq k k' with hl | hl | hl
 · exact absurd hl (key h h' e hD hD')
 · exact hl
 · exact absurd hl (key h' h e.symm hD' hD)
theorem arr5(B x S:Nat):B*(2*x*S)=B*(x*S)*2:=by rw[qx 2,yL B 2,qA 2]
theorem cmpI_lt1{a b:Nat}(h:cmpI a b = -1):a<b:=by
 unfold cmpI at h;by_cases h1:a<b
 · exact h1
 · rw[qM h1]at h
   split at h <;> exact absurd h (by decide)
theorem cmpI_eq0{a b:Nat}(h:cmpI a b=0):a=b:=by
 unfold cmpI at h;by_cases h1:a<b
 · rw[qU h1]at h;exact absurd h (by decide)
 · rw[qM h1]at h
   by_cases h2:a=b
   · exact h2
   · rw[qM h2]at h;exact absurd h (by decide)
theorem cmpI_gt{a b:Nat}(h:cmpI a b=1):b<a:=by
 unfold cmpI at h;by_cases h1:a<b
 · rw[qU h1]at h;exact absurd h (by decide)
 · rw[qM h1]at h
   by_cases h2:a=b
   · rw[qU h2]at h;exact absurd h (by decide)
   · omega
theorem RN_near{A B M E:Nat}{rest:Bool}(hB:0<B)(hM:M=A / B)(hr:rest=true↔A % B≠0)(h54:54≤blen M){k:Nat}(hk:k=RN false 0 M E rest) :
 (k=0∨B*(mid2 (k-1)*2^SH)<A*2^(E+1)∨B*(mid2 (k-1)*2^SH)=A*2^(E+1)∧k % 2=0)∧(k≤topN→A*2^(E+1)<B*(mid2 k*2^SH)∨A*2^(E+1)=B*(mid2 k*2^SH)∧k % 2=0)∧k≤topN+1:=by
 have hM0:M≠0:=fun e=>by rw[e]at h54;exact absurd h54 (by decide)
 have hA:A=B*M+A % B:=by rw[hM];exact(jU A B).symm
 have hA2:A % B<B:=jM _ hB
 have hSH:=SH_pos;obtain⟨f,hf⟩:∃f,f=floorN M E:=⟨_,rfl⟩
 have f1:=floor_le (E:=E) hM0
 have f2:=floor_lt (E:=E) hM0
 have cm:=cmp_mid (E:=E) hM0
 have hkE:kE f=qN M E:=by rw[hf];exact kE_floor hM0
 rw[← hf]at f1 f2 cm
 -- the grid: E is far below
 have hE:E+1≤kE f+SH:=by rw[hkE];unfold qN;omega
 obtain⟨d,hd⟩:∃d,kE f+(SH-1)=E+d:=⟨kE f+(SH-1)-E,by omega⟩
 have mid_e:mid2 f*2^SH=(2*kM f+1)*2^(kE f+(SH-1))*2:=by
  rw[mid2_eq,qx,qx,← qH,← qQ]
  congr 2;omega
 have mid_d:(2*kM f+1)*2^(kE f+(SH-1))=(2*kM f+1)*2^d*2^E:=by
  rw[hd,qH,qA (2^E),qx]
 have pE:=qG E;have pS:=qG SH;have hpow:A*2^(E+1)=A*2^E*2:=by rw[qQ,qx]
 -- what comes of a strict bound on M
 have below:∀Z:Nat,M*2^E<Z*2^E→A*2^E<B*(Z*2^E):=fun Z h=>by
  have h1:M<Z:=Nat.lt_of_mul_lt_mul_right h
  have h2:A<B*Z:=by
   have:B*(M+1)≤B*Z:=qI _ h1
   rw[jy,j8]at this;omega
  rw[← qx];exact qR h2 pE
 have above:∀Y:Nat,Y<M*2^E→B*Y<A*2^E:=fun Y h=>by
  have h1:B*Y<B*(M*2^E):=yT h hB
  have h2:B*(M*2^E)≤A*2^E:=by rw[← qx];exact qw _ (by omega)
  omega
 have aboveE:∀Y:Nat,Y≤M*2^E→B*Y≤A*2^E:=fun Y h=>by
  have h1:B*Y≤B*(M*2^E):=qI _ h
  have h2:B*(M*2^E)≤A*2^E:=by rw[← qx];exact qw _ (by omega)
  omega
 have next:A*2^E<B*(kV (f+1)*2^SH):=by
  have e:kV (f+1)*2^SH=kM f*2^d*2*2^E+2^d*2*2^E:=by
   have g:2^kE f*2^SH=2^d*2*2^E:=by
    rw[← qH,← qQ,← qH];congr 1;omega
   rw[kV_add,qL,g];unfold kV;rw[qx (kM f),g,qx (kM f*2^d),qx (kM f),qx (2^d)]
  rw[e,← qL]at f2 ⊢;exact below _ f2
 -- below the middle before f
 have lo_of:∀j,j<f→B*(mid2 j*2^SH)<A*2^(E+1):=fun j hj=>by
  have h1:=mid2_lt hj;have h2:mid2 j*2^SH<2*kV f*2^SH:=qR h1 pS
  have h3:=aboveE _ f1;have h4:B*(mid2 j*2^SH)<B*(2*kV f*2^SH):=yT h2 hB
  rw[arr5]at h4;rw[hpow];omega
 have lof:f=0∨B*(mid2 (f-1)*2^SH)<A*2^(E+1):=by
  rcases Nat.eq_zero_or_pos f with h0 | h0
  · exact .inl h0
  · exact .inr (lo_of _ (by omega))
 -- the next one
 have hif:A*2^(E+1)<B*(mid2 (f+1)*2^SH):=by
  have h1:=mid2_gt (qB (f+1))
  have h2:2*kV (f+1)*2^SH<mid2 (f+1)*2^SH:=qR h1 pS
  have h4:B*(2*kV (f+1)*2^SH)<B*(mid2 (f+1)*2^SH):=yT h2 hB
  rw[arr5]at h4;rw[hpow];omega
 have par:f % 2=keepN M E % 2:=by rw[hf];unfold floorN;omega
 have top_odd:topN % 2=1:=by decide
 have hk2:k=finN false (f+(upN false 0 (keepN M E % 2 == 1) (hfN M E) (rest||rsN M E)).toNat):=by
  rw[hk,hf];unfold RN;rw[beq0 hM0,qh,show sgN false=0 from rfl,qF];rfl
 have hup:upN false 0 (keepN M E % 2 == 1) (hfN M E) (rest||rsN M E)=(hfN M E&&((rest||rsN M E)||(keepN M E % 2 == 1))):=rfl
 rw[hup]at hk2;have big:f > topN→k=topN+1→(k=0∨B*(mid2 (k-1)*2^SH)<A*2^(E+1)∨B*(mid2 (k-1)*2^SH)=A*2^(E+1)∧k % 2=0)∧(k≤topN→A*2^(E+1)<B*(mid2 k*2^SH)∨A*2^(E+1)=B*(mid2 k*2^SH)∧k % 2=0)∧k≤topN+1:=fun h e=>by
  refine⟨.inr (.inl ?_),fun h=>by omega,by omega⟩
  rw[e,jN];exact lo_of _ h
 have fin:∀j,finN false j=if j≤topN then j else topN+1:=fun j=>by
  unfold finN;by_cases h:j≤topN
  · rw[qo h,qU h];rfl
  · have:Nat.ble j topN=false:=by
     cases hb:Nat.ble j topN with
     | false=>rfl
     | true=>exact absurd (qn hb) h
    rw[this,qM h];rfl
 rw[fin]at hk2;have stay:(hi:A*2^(E+1)<B*(mid2 f*2^SH)∨A*2^(E+1)=B*(mid2 f*2^SH)∧f % 2=0)→k=(if f≤topN then f else topN+1)→(k=0∨B*(mid2 (k-1)*2^SH)<A*2^(E+1)∨B*(mid2 (k-1)*2^SH)=A*2^(E+1)∧k % 2=0)∧(k≤topN→A*2^(E+1)<B*(mid2 k*2^SH)∨A*2^(E+1)=B*(mid2 k*2^SH)∧k % 2=0)∧k≤topN+1:=fun hi e=>by
  by_cases h:f≤topN
  · rw[qU h]at e
    subst e;exact⟨lof.imp id .inl,fun _=>hi,by omega⟩
  · rw[qM h]at e
    exact big (by omega) e
 have go:(lo:B*(mid2 f*2^SH)<A*2^(E+1)∨B*(mid2 f*2^SH)=A*2^(E+1)∧(f+1) % 2=0)→k=(if f+1≤topN then f+1 else topN+1)→(k=0∨B*(mid2 (k-1)*2^SH)<A*2^(E+1)∨B*(mid2 (k-1)*2^SH)=A*2^(E+1)∧k % 2=0)∧(k≤topN→A*2^(E+1)<B*(mid2 k*2^SH)∨A*2^(E+1)=B*(mid2 k*2^SH)∧k % 2=0)∧k≤topN+1:=fun lo e=>by
  by_cases h:f≤topN
  · have e2:k=f+1:=by
     by_cases h1:f+1≤topN
     · rw[qU h1]at e;exact e
     · rw[qM h1]at e;omega
    refine⟨.inr ?_,fun _=>.inl ?_,by omega⟩
    · rw[e2,jN];exact lo
    · rw[e2];exact hif
  · exact big (by omega) (by rw[e,qM (by omega)])
 cases hh:hfN M E with
 | false=>
  rw[hh,zu]at hk2;rw[hh,qM (by decide)]at cm;have hlt:=cmpI_lt1 cm;refine stay (.inl ?_) hk2
  rw[mid_d]at hlt;have:=below _ hlt
  rw[← mid_d]at this;rw[mid_e,hpow,← qx];omega
 | true=>
  rw[hh,j7]at hk2;rw[hh,qU rfl]at cm;cases hs:rest||rsN M E with
  | true=>
   rw[hs,Bool.true_or]at hk2;refine go (.inl ?_) hk2
   have hgt:B*((2*kM f+1)*2^(kE f+(SH-1)))<A*2^E:=by
    cases hr2:rsN M E with
    | true=>
     rw[hr2,qU rfl]at cm;exact above _ (cmpI_gt cm)
    | false=>
     rw[hr2,qM (by decide)]at cm;rw[hr2,Bool.or_false]at hs;have hx:=hr.1 hs;have heq:=cmpI_eq0 cm;rw[← heq,← qx];exact qR (by omega) pE
   rw[mid_e,hpow,← qx];omega
  | false=>
   rw[hs,zx]at hk2;rw[Bool.or_eq_false_iff]at hs;rw[hs.2,qM (by decide)]at cm;have heq:=cmpI_eq0 cm;have h0:A % B=0:=by
    by_cases h:A % B=0
    · exact h
    · rw[hr.2 h]at hs;exact absurd hs.1 (by decide)
   have hAM:A=B*M:=by omega
   have e:B*(mid2 f*2^SH)=A*2^(E+1):=by
    rw[mid_e,hpow,hAM,qx B M,heq,← qx B]
   cases ho:keepN M E % 2 == 1 with
   | true=>
    rw[ho]at hk2;have:keepN M E % 2=1:=by simpa using ho
    exact go (.inr ⟨e,by omega⟩) hk2
   | false=>
    rw[ho]at hk2;have:keepN M E % 2≠1:=by simpa using ho
    exact stay (.inr ⟨e.symm,by omega⟩) hk2
end
end Su
end
section
namespace Su
open Go Fly
theorem frac_E{N D:Nat}(h1 : -4000≤fracE N D)(h2:fracE N D≤4000):(-fracE N D).toNat+(fracE N D+6000).toNat=(fracE N D).toNat+6000:=by omega
theorem fracR_iff{N D:Nat}:fracR N D=true↔fracA N D % fracB N D≠0:=by
 unfold fracR;rw[qE];constructor
 · intro h e
   rw[e]at h;exact absurd h (by decide)
 · intro h
   have:=blen_pos h
   omega
theorem blen62{M:Nat}(h:4611686018427387904≤M):54≤blen M:=by
 refine za fun hlt=>?_
 have:=blen_le.1 (show blen M≤53 by omega)
 omega
set_option exponentiation.threshold 1200 in
theorem frac_near{N D:Nat}(hN:N≠0)(hD:D≠0)(h1 : -4000≤fracE N D)(h2:fracE N D≤4000):Nr N D (fracV false 0 N D):=by
 have hM:=fracM_ge hN hD;have hB:=fracB_pos (N:=N) hD
 obtain⟨a,ha⟩:∃a,a=(-fracE N D).toNat:=⟨_,rfl⟩
 obtain⟨b,hb⟩:∃b,b=(fracE N D).toNat:=⟨_,rfl⟩
 obtain⟨E,hE⟩:∃E,E=(fracE N D+6000).toNat:=⟨_,rfl⟩
 have hs:=frac_E h1 h2;rw[← ha,← hb,← hE]at hs;have q:=RN_near (A:=fracA N D) (B:=fracB N D) (M:=fracM N D) (E:=E) (rest:=fracR N D) hB rfl fracR_iff (blen62 hM) (k:=fracV false 0 N D) (by rw[fracV_eq,hE])
 have eA:fracA N D*2^(E+1)=2^b*2^SH*(N*P75):=by
  unfold fracA;rw[P75_eq,← ha,qx,← qH,yL,← qH,← qH,SH_eq]
  congr 2;omega
 have eB:∀m,fracB N D*(m*2^SH)=2^b*2^SH*(D*m):=fun m=>by
  unfold fracB;rw[← hb,qA D,qx,qx,yL (2^SH) D,qA (2^SH) m]
 have pos:0<2^b*2^SH:=Nat.mul_pos (qG _) (qG _)
 rw[eA]at q;simp only[eB]at q;obtain⟨q1,q2,q3⟩:=q;refine⟨?_,fun h=>?_,q3⟩
 · rcases q1 with h | h | ⟨h,h'⟩
   · exact .inl h
   · exact .inr (.inl (yW h))
   · exact .inr (.inr ⟨yl pos h,h'⟩)
 · rcases q2 h with h | ⟨h,h'⟩
   · exact .inl (yW h)
   · exact .inr ⟨yl pos h,h'⟩
end Su
namespace Su
open Go Fly
def pT(q:Int):Nat:=10^q.toNat
def pU(q:Int):Nat:=10^(-q).toNat
theorem pT_pos(q:Int):0<pT q:=Nat.pow_pos (by decide)
theorem pU_pos(q:Int):0<pU q:=Nat.pow_pos (by decide)
end Su
end
section
namespace Su
open Go Fly
noncomputable section
def dOf  (f:Int):Option ((List Int)×List Int) :=
 (Shl_s ((ofN (valN [(IntKind.wrap .u32 (((spM (bK f.toNat)):Nat):Int)),(IntKind.wrap .u32 (Int.fdiv (((spM (bK f.toNat)):Nat):Int) (2^32)))])),(spE (bK f.toNat)))).bind fun x0=>
 (Shl_s ((ofN 1),(IntKind.wrap .i64 (0-(spE (bK f.toNat)))))).bind fun x1=>
 some (x0.1,x1.1)
def dNear  (v:((List Int)×List Int))(q:Int):Option ((List Int)×List Int) :=
 (dTen_s (IntKind.wrap .i64 (0-q))).bind fun x0=>
 (Mul_s (v.1,x0)).bind fun x1=>
 (dTen_s q).bind fun x2=>
 (Mul_s (v.2,x2)).bind fun x3=>
 (Div_s (x1,x3)).bind fun x4=>
 (Add_s (x4.1,(ofN 1))).bind fun x5=>
 (Add_s (x4.2.1,x4.2.1)).bind fun x6=>
 (dTen_s q).bind fun x7=>
 (Mul_s (v.2,x7)).bind fun x8=>
 (bif(decide (0<(cmpI (valN x6) (valN x8))))then
 some (x5,x4.1)
 else
  (bif(decide ((cmpI (valN x6) (valN x8))=0))then
  (Bit x4.1 0).bind fun x9=>
  (bif(decide (x9=1))then
  some (x5,x4.1)
 else
  some (x4.1,x5))
 else
  some (x4.1,x5)))
set_option exponentiation.threshold 1200 in
end
end Su
end
section
namespace Su
open Go Fly
def p0(d:Int):Int:=Int.tdiv (d*30103) 100000-2
def IsD(k n:Nat)(q:Int):Prop:=n≠0∧n≤10^18∧-400≤q∧q≤400∧fracV false 0 (n*pT q) (pU q)=k
def ansD(n:Nat)(q:Int):ByteArray×Int:=(bs (trimR 48 (dg n)),q+(((dg n).length:Nat):Int)-(((trimR 48 (dg n)).length:Nat):Int))
end Su
end
section
namespace Su
open Go Fly
noncomputable section
def Runs{S R:Type}(K:Nat)(F:S→Option (S ⊕ R))(s:S)(r:R):Prop:=∀m,K≤m→itP m F s=some r
theorem Runs.next{S R:Type}{K:Nat}{F:S→Option (S ⊕ R)}{s s':S}{r:R}(h:F s=some (.inl s'))(hn:Runs K F s' r):Runs (K+1) F s r:=fun m hm=>by
 obtain⟨j,rfl⟩:∃j,m=j+1:=⟨m-1,by omega⟩
 rw[itP_s,h];exact hn j (by omega)
theorem Runs.stop{S R:Type}{K:Nat}{F:S→Option (S ⊕ R)}{s:S}{r:R}(h:F s=some (.inr r)):Runs (K+1) F s r:=fun m hm=>by
 obtain⟨j,rfl⟩:∃j,m=j+1:=⟨m-1,by omega⟩
 rw[itP_s,h];rfl
theorem Runs.up{S R:Type}{K K':Nat}{F:S→Option (S ⊕ R)}{s:S}{r:R}(h:Runs K F s r)(hk:K≤K'):Runs K' F s r:=fun m hm=>h m (by omega)
theorem w1{i n:Nat}(h:i<n)(hn:n≤maxLen):IntKind.i64.wrap ((i:Int)+1)=((i+1:Nat):Int):=by
 rw[maxLen_eq]at hn;rw[w64 (by omega) (by omega)];rfl
end
end Su
end
