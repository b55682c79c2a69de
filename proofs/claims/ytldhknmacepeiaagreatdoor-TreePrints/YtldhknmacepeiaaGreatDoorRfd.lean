/-
  Bits and rounding, in plain Lean. No condition.
-/
import Derived.Test.YtldhknmacepeiaaGreatDoorNT05
set_option linter.unusedVariables false
set_option linter.unusedSimpArgs false
set_option maxRecDepth 10000
section
namespace Su
open Go Fly
theorem qxs{N D:Nat}(h1 : -4000≤jD N D)(h2:jD N D≤4000):(-jD N D).toNat+(jD N D+6000).toNat=(jD N D).toNat+6000:=by omega
theorem qoi{N D:Nat}:qfj N D=true↔ZE N D % Y6 N D≠0:=by
 unfold qfj;rw[zY];constructor
 · intro h e
   rw[e]at h;exact absurd h (by decide)
 · intro h
   have:=j9 h
   omega
theorem qxt{M:Nat}(h:4611686018427387904≤M):54≤qu M:=by
 refine Wi fun hlt=>?_
 have:=ye.1 (show qu M≤53 by omega)
 omega
set_option exponentiation.threshold 1200 in
theorem qoj{N D:Nat}(hN:N≠0)(hD:D≠0)(h1 : -4000≤jD N D)(h2:jD N D≤4000):Nr N D (Yl false 0 N D):=by
 have hM:=qjM hN hD;have hB:=qaD (N:=N) hD
 obtain⟨a,ha⟩:∃a,a=(-jD N D).toNat:=⟨_,rfl⟩
 obtain⟨b,hb⟩:∃b,b=(jD N D).toNat:=⟨_,rfl⟩
 obtain⟨E,hE⟩:∃E,E=(jD N D+6000).toNat:=⟨_,rfl⟩
 have hs:=qxs h1 h2;rw[← ha,← hb,← hE]at hs;have q:=qut (A:=ZE N D) (B:=Y6 N D) (M:=ZF N D) (E:=E) (rest:=qfj N D) hB rfl qoi (qxt hM) (k:=Yl false 0 N D) (by rw[qjL,hE])
 have eA:ZE N D*2^(E+1)=2^b*2^SH*(N*P75):=by
  unfold ZE;rw[qrd,← ha,zB,← zW,KN,← zW,← zW,qp7]
  congr 2;omega
 have eB:∀m,Y6 N D*(m*2^SH)=2^b*2^SH*(D*m):=fun m=>by
  unfold Y6;rw[← hb,zL D,zB,zB,KN (2^SH) D,zL (2^SH) m]
 have pos:0<2^b*2^SH:=Wx (zU _) (zU _)
 rw[eA]at q;simp only[eB]at q;obtain⟨q1,q2,q3⟩:=q;refine⟨?_,fun h=>?_,q3⟩
 · rcases q1 with h|h|⟨h,h'⟩
   · exact .inl h
   · exact .inr (.inl (Wu h))
   · exact .inr (.inr ⟨VA pos h,h'⟩)
 · rcases q2 h with h|⟨h,h'⟩
   · exact .inl (Wu h)
   · exact .inr ⟨VA pos h,h'⟩
theorem quu{n T U k:Nat}(hk:k≤yy)(hk0:k≠0)(hU:0<U)(hT:T*P75<U*2^kE k)
 (hn:2*(n*T*P75)≤4*(U*kV k)+T*P75) (hn2:4*(U*kV k)≤2*(n*T*P75)+T*P75):Nr (n*T) U k:=by
 have e1:jy k=2*kV k+2^kE k:=by unfold jy;rw[qfl];omega
 have e2:2*kV k≤jy (k-1)+2^kE k:=by
  have h:=qfl (k-1)
  rw[show k-1+1=k by omega]at h;have hm:=quq (k-1)
  rw[show k-1+1=k by omega]at hm;have:=Kg (show 0<2 by omega) hm
  unfold jy;rw[show k-1+1=k by omega];omega
 have e3:2*(jy (k-1))+2^kE k≤4*kV k:=by
  have h:=qfl (k-1)
  rw[show k-1+1=k by omega]at h;have hm:kE k≤kE (k-1)+1:=by unfold kE;omega
  have:=Kg (show 0<2 by omega) hm
  rw[Ke]at this;unfold jy;rw[show k-1+1=k by omega];omega
 have m1:U*jy k=2*(U*kV k)+U*2^kE k:=by rw[e1,KB,KN]
 have m2:2*(U*jy (k-1))+U*2^kE k≤4*(U*kV k):=by
  have:=z8 U e3
  rw[KB,KN,KN U 4]at this;exact this
 exact⟨.inr (.inl (by omega)),fun _=>.inl (by omega),by omega⟩
end Su
namespace Su
open Go Fly
def pT(q:Int):Nat:=10^q.toNat
def pU(q:Int):Nat:=10^(-q).toNat
theorem qfm(q:Int):0<pT q:=Nat.pow_pos (by decide)
theorem YN(q:Int):0<pU q:=Nat.pow_pos (by decide)
theorem qrf(p:Int):pT (p-17)*pU p*10^17=pT p*pU (p-17):=by
 unfold pT pU;rw[← zW,← zW,← zW]
 congr 1;omega
theorem quv(k:Nat):kV k<9007199254740992*2^kE k:=by
 unfold kV;refine Kf ?_ (zU _)
 unfold kM;split <;> omega
theorem fit{k:Nat}{p:Int}(h:pT p*P75≤2*kV k*pU p):pT (p-17)*P75<pU (p-17)*2^kE k:=by
 have h1:=quv k;have h2:pT p*P75<18014398509481984*2^kE k*pU p:=by
  have:2*kV k*pU p<18014398509481984*2^kE k*pU p:=Kf (by omega) (YN p)
  omega
 have h3:pU (p-17)*(pT p*P75)<pU (p-17)*(18014398509481984*2^kE k*pU p):=Wm h2 (YN _)
 have e1:pU (p-17)*(pT p*P75)=pT (p-17)*P75*10^17*pU p:=by
  rw[← zB,zL (pU (p-17)),← qrf,KC _ (10^17),KC _ (pU p),KC _ (pU p)]
 have e2:pU (p-17)*(18014398509481984*2^kE k*pU p)=pU (p-17)*2^kE k*18014398509481984*pU p:=by
  rw[← zB,zL 18014398509481984,← zB]
 rw[e1,e2]at h3;have h4:pT (p-17)*P75*10^17<pU (p-17)*2^kE k*18014398509481984:=VP h3
 generalize pT (p-17)*P75=x at *
 generalize pU (p-17)*2^kE k=y at *
 omega
def nrN(A B:Nat):Nat:=if B<2*(A % B)∨2*(A % B)=B∧A / B % 2=1 then A / B+1 else A / B
theorem qxu{A B:Nat}(hB:0<B):2*(nrN A B*B)≤2*A+B∧2*A≤2*(nrN A B*B)+B:=by
 have h1:=Vb A B;have h2:=Vd A hB;have h3:B*(A / B)=A / B*B:=zL ..
 unfold nrN;split
 · rename_i h
   rw[zR,KR];rcases h with h|⟨h,_⟩ <;> omega
 · rename_i h
   have:2*(A % B)≤B:=by
    refine Wi fun hlt=>h (.inl hlt)
   omega
theorem qrg{k N D:Nat}{q:Int}(hk:k≤yy)(hk0:k≠0)(hD:0<D)(hv:N*P75=2*(D*kV k))(hT:pT q*P75<pU q*2^kE k) :
 Nr (nrN (N*pU q) (D*pT q)*pT q) (pU q) k:=by
 have hB:0<D*pT q:=Wx hD (qfm q)
 obtain⟨h1,h2⟩:=qxu (A:=N*pU q) hB
 generalize nrN (N*pU q) (D*pT q)=n at *
 have a1:=zG P75 h1;have a2:=zG P75 h2;have e1:2*(n*(D*pT q))*P75=D*(2*(n*pT q*P75)):=by
  rw[KN n D,KN 2 D,zB D,zB 2,zB n]
 have e2:2*(N*pU q)*P75=D*(4*(pU q*kV k)):=by
  have:2*(N*pU q)*P75=2*pU q*(N*P75):=by
   rw[zL N,← zB 2,zB (2*pU q)]
  rw[this,hv];have:2*pU q*(2*(D*kV k))=D*(4*(pU q*kV k)):=by
   rw[KN D 4,KN D (pU q),zB 2,KN (pU q) 2,← zB 2 2]
  exact this
 have e3:D*pT q*P75=D*(pT q*P75):=zB ..
 rw[zR,e1,e2,e3,← KB]at a1;rw[zR,e1,e2,e3,← KB]at a2;exact quu hk hk0 (YN q) hT (Nat.le_of_mul_le_mul_left a1 hD) (Nat.le_of_mul_le_mul_left a2 hD)
end Su
end
section
namespace Su
open Go Fly
noncomputable section
def dOf  (f:Int):Option ((List Int)×List Int) :=
 (qfc ((ofN (qk [(IntKind.wrap .u32 (((spM (bK f.toNat)):Nat):Int)),(IntKind.wrap .u32 (Int.fdiv (((spM (bK f.toNat)):Nat):Int) (2^32)))])),(spE (bK f.toNat)))).bind fun x0=>
 (qfc ((ofN 1),(IntKind.wrap .i64 (0-(spE (bK f.toNat)))))).bind fun x1=>
 some (x0.1,x1.1)
def qjO  (v:((List Int)×List Int))(q:Int):Option ((List Int)×List Int) :=
 (yu (IntKind.wrap .i64 (0-q))).bind fun x0=>
 (Qo (v.1,x0)).bind fun x1=>
 (yu q).bind fun x2=>
 (Qo (v.2,x2)).bind fun x3=>
 (qfg (x1,x3)).bind fun x4=>
 (qgA (x4.1,(ofN 1))).bind fun x5=>
 (qgA (x4.2.1,x4.2.1)).bind fun x6=>
 (yu q).bind fun x7=>
 (Qo (v.2,x7)).bind fun x8=>
 (bif(decide (0<(Qm (qk x6) (qk x8))))then
 some (x5,x4.1)
 else
  (bif(decide ((Qm (qk x6) (qk x8))=0))then
  (Bit x4.1 0).bind fun x9=>
  (bif(decide (x9=1))then
  some (x5,x4.1)
 else
  some (x4.1,x5))
 else
  some (x4.1,x5)))
def ofA(k:Nat):Nat:=kM k*2^(((kE k:Nat):Int)-1074).toNat
def ofB(k:Nat):Nat:=2^(1074-((kE k:Nat):Int)).toNat
theorem quw(k:Nat):0<ofB k:=zU _
set_option exponentiation.threshold 1200 in
theorem qxv(k:Nat):ofA k*P75=2*(ofB k*kV k):=by
 unfold ofA ofB kV;rw[qrd,zB,← zW,KN (2^_) (kM k),← zW,KN 2 (kM k),← Nat.pow_succ']
 congr 2;omega
theorem qmO(k:Nat):kM k<9007199254740992:=by unfold kM;split <;> omega
theorem qrh{k:Nat}(h:k≠0):kM k≠0:=by unfold kM;split <;> omega
theorem qvA{k:Nat}(h:k≤yy):kE k≤2046:=by unfold yy at h;unfold kE;omega
theorem qux{k:Nat}(h:k≤yy):qfL k=true:=Z2.2 (by unfold yy at h;omega)
theorem bOfA{k:Nat}(h:k≤yy):qu (ofA k)≤1100:=by
 have h1:=qvA h;have h2:=Jz (kM k) (2^(((kE k:Nat):Int)-1074).toNat)
 have h3:qu (kM k)≤53:=ye.2 (by have:=qmO k;omega)
 rw[Jj]at h2;unfold ofA;omega
theorem bOfB(k:Nat):qu (ofB k)≤1100:=by unfold ofB;rw[Jj];omega
theorem quy{f:Int}{k:Nat}(hk:bK f.toNat=k)(ht:k≤yy)(h0:k≠0):dOf f=some (ofN (ofA k),ofN (ofB k)):=by
 unfold dOf;have hf:=qux ht;have e1:spM k=kM k:=by unfold spM;rw[hf];rfl
 have e2:spE k=((kE k:Nat):Int)-1074:=by unfold spE;rw[hf,qcL h0];rfl
 have hE:=qvA ht;have hM:=qmO k;have hb:qu (kM k)≤53:=ye.2 (by omega)
 rw[hk,e1,e2,qyQ (by omega)];have w:IntKind.i64.wrap (0-(((kE k:Nat):Int)-1074))=1074-((kE k:Nat):Int):=by rw[w64 (n:=0-(((kE k:Nat):Int)-1074)) (by omega) (by omega)];omega
 have b1:qu 1=1:=by decide
 rw[w];refine obs (qq1 (qrh h0) (by omega)) (obs (qq1 (by omega) (by omega)) ?_)
 rw[KR];rfl
theorem qri{x:Nat}(h:x<4294967296):Fly.jj .and .u32 (x:Int) 1=((x % 2:Nat):Int):=by
 show IntKind.u32.wrap (((BitVec.ofInt 32 (x:Int) &&& BitVec.ofInt 32 ((1:Nat):Int)).toNat:Nat):Int)=_
 have hm:=and_mask x 1
 rw[show 2^1-1=1 from rfl,show 2^1=2 from rfl]at hm;have e1:(BitVec.ofInt 32 (x:Int)).toNat=x:=by simp;omega
 have e2:(BitVec.ofInt 32 ((1:Nat):Int)).toNat=1:=by decide
 rw[WU,e1,e2,hm];exact qjj (by omega) (by omega)
theorem qyR{v:Nat}(hb:qu v≤100000):Bit (ofN v) 0=some ((v % 2:Nat):Int):=by
 unfold Bit;by_cases h0:v=0
 · subst h0;rfl
 · have hp:=qmK h0
   have hl:=qab v;have w:IntKind.i64.wrap (32*(((ofN v).length:Nat):Int))=32*(((ofN v).length:Nat):Int):=w64 (by omega) (by omega)
   have hi:idx (ofN v) (IntKind.i64.wrap (Int.tdiv 0 32))=some ((v % 4294967296:Nat):Int):=by
    rw[show IntKind.i64.wrap (Int.tdiv 0 32)=((0:Nat):Int) by decide,JN,qb4 h0];rfl
   have em:min (Int.toNat (Int.tmod 0 32)) 32=0:=by decide
   have ef:Int.fdiv ((v % 4294967296:Nat):Int) (2^0)=((v % 4294967296:Nat):Int):=by rw[Zu,Vf,WY]
   rw[w,zq (show¬((0:Int)<0) by omega),zo,zq (show¬32*(((ofN v).length:Nat):Int)≤0 by omega),zo];refine obs hi ?_
   rw[em,ef,qri (by omega),yd (by omega) (by omega)];rw[show decide ((0:Int)≤Int.tmod 0 32)=true by decide,zg]
   congr 2;omega
theorem bT{q:Int}(h:q≤2000):qu (pT q)≤8001:=by have:=Yk q.toNat;unfold pT;omega
theorem bU{q:Int}(h : -2000≤q):qu (pU q)≤8001:=by have:=Yk (-q).toNat;unfold pU;omega
def nrO(A B:Nat):Nat:=if B<2*(A % B)∨2*(A % B)=B∧A / B % 2=1 then A / B else A / B+1
theorem qok{N D:Nat}{q:Int}(hN:qu N≤2000)(hD:qu D≤2000)(h0:0<D)(h1 : -2000≤q)(h2:q≤2000) :
 qjO (ofN N,ofN D) q=some (ofN (nrN (N*pU q) (D*pT q)),ofN (nrO (N*pU q) (D*pT q))):=by
 have w:IntKind.i64.wrap (0-q) = -q:=by rw[w64 (n:=0-q) (by omega) (by omega)];omega
 have bt:=bT h2;have bu:=bU h1;have t1:yu (-q)=some (ofN (pU q)):=by unfold yu;rw[zh (by omega)];rfl
 have t2:yu q=some (ofN (pT q)):=by unfold yu;rw[zh (by omega)];rfl
 have bA:=Jz N (pU q)
 have bB:=Jz D (pT q)
 have m1:=qdg (u:=N) (v:=pU q) (by omega) (by omega)
 have m2:=qdg (u:=D) (v:=pT q) (by omega) (by omega)
 have hB:0<D*pT q:=Wx h0 (qfm q)
 generalize hA':N*pU q=A at *
 generalize hB':D*pT q=B at *
 have dv:=qvv (u:=A) (v:=B) (by omega) (by omega) (by omega)
 have bl:qu (A / B)≤qu A:=qaE (VF ..)
 have br:qu (A % B)≤qu A:=qaE (Nat.mod_le ..)
 have b1:qu 1=1:=by decide
 have a1:=qvu (u:=A / B) (v:=1) (by omega) (by omega)
 have a2:=qvu (u:=A % B) (v:=A % B) (by omega) (by omega)
 have bt0:=qyR (v:=A / B) (by omega)
 have key:qjO (ofN N,ofN D) q=(bif decide (0<Qm (A % B+A % B) B)then some (ofN (A / B+1),ofN (A / B))else bif decide (Qm (A % B+A % B) B=0)then(bif decide (((A / B % 2:Nat):Int)=1)then some (ofN (A / B+1),ofN (A / B))else some (ofN (A / B),ofN (A / B+1)))else some (ofN (A / B),ofN (A / B+1))):=by
  unfold qjO;rw[w];refine obs t1 (obs m1 (obs t2 (obs m2 (obs dv (obs a1 (obs a2 (obs t2 (obs m2 ?_))))))))
  simp only[valN_ofN,bt0,zm]
 rw[key];unfold nrN nrO Qm;by_cases c1:A % B+A % B<B
 · rw[z6 c1,zQ (by omega),zQ (by omega)];rfl
 · rw[zQ c1]
   by_cases c2:A % B+A % B=B
   · rw[z6 c2]
     by_cases c3:A / B % 2=1
     · rw[z6 (by omega),z6 (by omega),zh (show((A / B % 2:Nat):Int)=1 by omega)];rfl
     · rw[zQ (by omega),zQ (by omega),zq (show¬((A / B % 2:Nat):Int)=1 by omega)];rfl
   · rw[zQ c2,z6 (by omega),z6 (by omega)];rfl
end
end Su
end
section
namespace Su
open Go Fly
theorem qol{p q:Int}(h:q≤p):pT q*pU p*10^(p-q).toNat=pT p*pU q:=by
 unfold pT pU;rw[← zW,← zW,← zW]
 congr 1;omega
def p0(d:Int):Int:=Int.tdiv (d*30103) 100000-2
theorem qxw:((List.range 2300).all fun i=>Nat.ble (10^(p0 ((i:Int)-1150)).toNat*2^(-((i:Int)-1150)).toNat) (2^((i:Int)-1150).toNat*10^(-(p0 ((i:Int)-1150))).toNat))=true:=by decide +kernel
theorem qxx:((List.range 2300).all fun i=>decide (-380≤p0 ((i:Int)-1150))&&decide (p0 ((i:Int)-1150)≤380))=true:=by decide +kernel
theorem qyS{d:Int}(h1 : -1150≤d)(h2:d<1150):pT (p0 d)*2^(-d).toNat≤2^d.toNat*pU (p0 d):=by
 have h:=Ko.1 qxw (d+1150).toNat (WT.2 (by omega))
 have e:(((d+1150).toNat:Nat):Int)-1150=d:=by omega
 rw[e]at h;exact zx h
theorem qyT{d:Int}(h1 : -1150≤d)(h2:d<1150) : -380≤p0 d∧p0 d≤380:=by
 have h:=Ko.1 qxx (d+1150).toNat (WT.2 (by omega))
 have e:(((d+1150).toNat:Nat):Int)-1150=d:=by omega
 rw[e]at h;simp only[zp,zY]at h;exact h
theorem qyU{N e:Nat}(hN:N≠0)(h1:qu N≤1100)(h2:e≤1099):pT (p0 ((qu N:Int)-((e+1:Nat):Int)))*2^e≤N*pU (p0 ((qu N:Int)-((e+1:Nat):Int))):=by
 have hp:=j9 hN;have hg:=Zn hN;have h:=qyS (d:=(qu N:Int)-((e+1:Nat):Int)) (by omega) (by omega)
 generalize hb:qu N=b at *
 obtain⟨x,hx⟩:∃x,x=(-((b:Int)-((e+1:Nat):Int))).toNat:=⟨_,rfl⟩
 obtain⟨y,hy⟩:∃y,y=((b:Int)-((e+1:Nat):Int)).toNat:=⟨_,rfl⟩
 rw[← hx,← hy]at h;generalize p0 ((b:Int)-((e+1:Nat):Int))=p at *
 have hs:b-1+x=e+y:=by omega
 refine KF ?_ (zG _ hg)
 refine Nat.le_of_mul_le_mul_right (c:=2^x) ?_ (zU _)
 have e1:pT p*2^e*2^x=pT p*2^x*2^e:=KC ..
 have e2:2^(b-1)*pU p*2^x=2^y*pU p*2^e:=by
  rw[KC,← zW,hs,zW,zL (2^e),KC]
 rw[e1,e2];exact zG _ h
theorem qrj{N D:Nat}{p q:Int}(hD:0<D)(hq:q≤p)(h:N*pU p<pT p*D):N*pU q / (D*pT q)+1≤10^(p-q).toNat:=by
 have hB:0<D*pT q:=Wx hD (qfm q)
 refine Nat.succ_le_of_lt ((KG hB).2 ?_)
 refine VP (a:=pU p) ?_
 have h1:N*pU p*pU q<pT p*D*pU q:=Kf h (YN q)
 have e1:N*pU q*pU p=N*pU p*pU q:=KC ..
 have e2:10^(p-q).toNat*(D*pT q)*pU p=pT p*D*pU q:=by
  have:=qol hq
  rw[zL (10^_),zB D,zB D,KC (pT q),this,zL D,KC]
 rw[e1,e2];exact h1
theorem qrk(A B:Nat):nrN A B≤A / B+1:=by unfold nrN;split <;> omega
def IsD(k n:Nat)(q:Int):Prop:=n≠0∧n≤10^18∧-400≤q∧q≤400∧Yl false 0 (n*pT q) (pU q)=k
def qae(n:Nat)(q:Int):ByteArray×Int:=(bs (yG 48 (dg n)),q+(((dg n).length:Nat):Int)-(((yG 48 (dg n)).length:Nat):Int))
end Su
end
section
namespace Su
open Go Fly
noncomputable section
def Yr{S R:Type}(K:Nat)(F:S→Option (S ⊕ R))(s:S)(r:R):Prop:=∀m,K≤m→itP m F s=some r
theorem Yr.next{S R:Type}{K:Nat}{F:S→Option (S ⊕ R)}{s s':S}{r:R}(h:F s=some (.inl s'))(hn:Yr K F s' r):Yr (K+1) F s r:=fun m hm=>by
 obtain⟨j,rfl⟩:∃j,m=j+1:=⟨m-1,by omega⟩
 rw[jR,h];exact hn j (by omega)
theorem Yr.stop{S R:Type}{K:Nat}{F:S→Option (S ⊕ R)}{s:S}{r:R}(h:F s=some (.inr r)):Yr (K+1) F s r:=fun m hm=>by
 obtain⟨j,rfl⟩:∃j,m=j+1:=⟨m-1,by omega⟩
 rw[jR,h];rfl
theorem Yr.up{S R:Type}{K K':Nat}{F:S→Option (S ⊕ R)}{s:S}{r:R}(h:Yr K F s r)(hk:K≤K'):Yr K' F s r:=fun m hm=>h m (by omega)
theorem w1{i n:Nat}(h:i<n)(hn:n≤maxLen):IntKind.i64.wrap ((i:Int)+1)=((i+1:Nat):Int):=by
 rw[Jf]at hn;rw[w64 (by omega) (by omega)];rfl
end
end Su
end
section
namespace Su
open Go Fly
noncomputable section
def qaF:Stp (Int×(List Int)×(List Int)×Unit):=fun p3=>(yu (IntKind.wrap .i64 (p3.1+1))).bind fun x4=>
 (Qo (x4,p3.2.2.1)).bind fun x5=>
 (yu (IntKind.wrap .i64 ((IntKind.wrap .i64 (0-p3.1))-1))).bind fun x6=>
 (Qo (p3.2.1,x6)).bind fun x7=>
 (bif(decide ((Qm (qk x5) (qk x7))≤0))then
 some (.inl ((IntKind.wrap .i64 (p3.1+1)),p3.2.1,p3.2.2.1,()))
 else
  some (.inr (p3.1,p3.2.1,p3.2.2.1,())))
abbrev qcO:=(Int×(List Int)×(List Int)×Int×Int×(List Int)×(List Int)×Unit)
def JR:qcO→Option (qcO ⊕ (Lp qcO ((Int×Int×(List Int)×(List Int)×Unit) ⊕ (Lp (Int×Int×(List Int)×(List Int)×Unit) (ByteArray×Int))))):=fun p11=>(bif(decide (p11.2.2.2.1<2))then
 (bif((decide (0≤p11.2.2.2.1))&&(decide (p11.2.2.2.1<2)))then
 (bif(decide (p11.2.2.2.1=0))then
 (yu p11.1).bind fun x12=>
 (Qo (p11.2.1,x12)).bind fun x13=>
 (yu (IntKind.wrap .i64 (0-p11.1))).bind fun x14=>
 (JQ (false,x13,x14,(0:Int))).bind fun x15=>
 (bif(decide (x15.1=p11.2.2.2.2.1))then
 (YC p11.2.1).bind fun x16=>
 (qcd (x16,p11.1)).bind fun x17=>
 some (.inr (.ret (.inr (.ret x17))))
 else
  some (.inl (p11.1,p11.2.1,p11.2.2.1,(IntKind.wrap .i64 (p11.2.2.2.1+1)),p11.2.2.2.2.1,p11.2.2.2.2.2.1,p11.2.2.2.2.2.2.1,())))
 else
  (bif(decide (p11.2.2.2.1=((1:Nat):Int)))then
  (yu p11.1).bind fun x18=>
  (Qo (p11.2.2.1,x18)).bind fun x19=>
  (yu (IntKind.wrap .i64 (0-p11.1))).bind fun x20=>
  (JQ (false,x19,x20,(0:Int))).bind fun x21=>
  (bif(decide (x21.1=p11.2.2.2.2.1))then
  (YC p11.2.2.1).bind fun x22=>
  (qcd (x22,p11.1)).bind fun x23=>
  some (.inr (.ret (.inr (.ret x23))))
 else
  some (.inl (p11.1,p11.2.1,p11.2.2.1,(IntKind.wrap .i64 (p11.2.2.2.1+1)),p11.2.2.2.2.1,p11.2.2.2.2.2.1,p11.2.2.2.2.2.2.1,())))
 else none))
 else none)
 else
  some (.inr (.exit 2 (p11.1,p11.2.1,p11.2.2.1,p11.2.2.2.1,p11.2.2.2.2.1,p11.2.2.2.2.2.1,p11.2.2.2.2.2.2.1,()))))
def YD(fu:Nat):(Int×Int×(List Int)×(List Int)×Unit)→Option ((Int×Int×(List Int)×(List Int)×Unit) ⊕ (Lp (Int×Int×(List Int)×(List Int)×Unit) (ByteArray×Int))):=fun p9=>(qjO (p9.2.2.1,p9.2.2.2.1) p9.1).bind fun x10=>
 (itP fu (JR) (p9.1,x10.1,x10.2,(0:Int),p9.2.1,p9.2.2.1,p9.2.2.2.1,())).bind fun x24=>
 (match x24 with
 | .exit i25 p26=>(bif(Nat.beq i25 2)then
  some (.inl ((IntKind.wrap .i64 (p26.1-1)),p26.2.2.2.2.1,p26.2.2.2.2.2.1,p26.2.2.2.2.2.2.1,()))
 else
  (bif(Nat.beq i25 1)then
  some (.inl ((IntKind.wrap .i64 (p26.1-1)),p26.2.2.2.2.1,p26.2.2.2.2.2.1,p26.2.2.2.2.2.2.1,()))
 else
  some (.inr (.exit i25 (p26.1,p26.2.2.2.2.1,p26.2.2.2.2.2.1,p26.2.2.2.2.2.2.1,())))))
 | .ret o27=>some o27)
def qle  (fu:Nat)(f:Int):Option (ByteArray×Int) :=
 (bif(!(decide ((((yw (bK (Int.toNat (qbX f.toNat:Int)))):Nat):Int)=2)))then
 (bif(!(decide ((((yw (bK (Int.toNat (qbX f.toNat:Int)))):Nat):Int)=1)))then
 some ((ByteArray.mk (List.toArray [])),(0:Int))
 else
  (dOf (qbX f.toNat:Int)).bind fun x0=>
  (Len x0.1).bind fun x1=>
  (Len x0.2).bind fun x2=>
  (itP fu (qaF) ((IntKind.wrap .i64 ((IntKind.wrap .i64 (Int.tdiv (IntKind.wrap .i64 ((IntKind.wrap .i64 (x1-x2))*30103)) 100000))-2)),x0.1,x0.2,())).bind fun x8=>
  (itP fu (YD fu) (x8.1,(qbX f.toNat:Int),x0.1,x0.2,())).bind fun x28=>
  (match x28 with
 | .exit i29 p30=>(bif(Nat.beq i29 0)then
  none
 else none)
 | .ret o31=>some o31))
 else
  (dOf (qbX f.toNat:Int)).bind fun x32=>
  (Len x32.1).bind fun x33=>
  (Len x32.2).bind fun x34=>
  (itP fu (qaF) ((IntKind.wrap .i64 ((IntKind.wrap .i64 (Int.tdiv (IntKind.wrap .i64 ((IntKind.wrap .i64 (x33-x34))*30103)) 100000))-2)),x32.1,x32.2,())).bind fun x40=>
  (itP fu (YD fu) (x40.1,(qbX f.toNat:Int),x32.1,x32.2,())).bind fun x60=>
  (match x60 with
 | .exit i61 p62=>(bif(Nat.beq i61 0)then
  none
 else none)
 | .ret o63=>some o63))
abbrev AhS:=Int×((List Int)×(List Int)×Unit)
abbrev ahS(N D:Nat)(p:Int):AhS:=(p,ofN N,ofN D,())
theorem quz(a b:Nat):decide (Qm a b≤0)=decide (a≤b):=by
 unfold Qm;by_cases h1:a<b
 · rw[z6 h1];simp;omega
 · rw[zQ h1]
   by_cases h2:a=b
   · rw[z6 h2];simp;omega
   · rw[zQ h2];simp;omega
theorem qrl{q:Int}(h:q≤2000):yu q=some (ofN (pT q)):=by unfold yu;rw[zh (by omega)];rfl
theorem qrm{q:Int}(h : -2000≤q):yu (-q)=some (ofN (pU q)):=by unfold yu;rw[zh (by omega)];rfl
theorem quA{N D:Nat}{p:Int}(hN:qu N≤2000)(hD:qu D≤2000)(h1 : -1000≤p)(h2:p≤1000) :
 qaF (ahS N D p)=if pT (p+1)*D≤N*pU (p+1)then some (.inl (ahS N D (p+1)))else some (.inr (ahS N D p)):=by
 have w1:IntKind.i64.wrap (p+1)=p+1:=w64 (by omega) (by omega)
 have w2:IntKind.i64.wrap (IntKind.i64.wrap (0-p)-1) = -(p+1):=by rw[w64 (n:=0-p) (by omega) (by omega),w64 (by omega) (by omega)];omega
 have bt:=bT (q:=p+1) (by omega)
 have bu:=bU (q:=p+1) (by omega)
 have m1:=qdg (u:=pT (p+1)) (v:=D) (by omega) (by omega)
 have m2:=qdg (u:=N) (v:=pU (p+1)) (by omega) (by omega)
 unfold qaF;simp only[w1,w2];refine obs (qrl (by omega)) (obs m1 (obs (qrm (by omega)) (obs m2 ?_)))
 simp only[valN_ofN];rw[quz,Y1]
set_option exponentiation.threshold 1200 in
theorem qrn{N D:Nat}(hN:qu N≤1100)(hD:qu D≤1100)(hD0:0<D):∀(j:Nat) (p:Int),-400≤p→p+j=400→pT p*D≤N*pU p →
 ∃p',Yr (j+1) qaF (ahS N D p) (ahS N D p')∧p≤p'∧p'≤400∧pT p'*D≤N*pU p'∧N*pU (p'+1)<pT (p'+1)*D
 | 0,p,h1,h2,h3=>by
  exfalso;have:p=400:=by omega
  subst this;have e1:pT 400=10^400:=rfl
  have e2:pU 400=1:=rfl
  rw[e2,KK]at h3;have hl:=Qs N;have h4:2^qu N≤2^1100:=Kg (by decide) hN
  have h5:(2:Nat)^1100≤10^400:=by decide +kernel
  have h6:pT 400*1≤pT 400*D:=z8 _ hD0
  rw[e1]at h6 h3;omega
 | j+1,p,h1,h2,h3=>by
  have st:=quA (N:=N) (D:=D) (p:=p) (by omega) (by omega) (by omega) (by omega)
  by_cases h:pT (p+1)*D≤N*pU (p+1)
  · rw[z6 h]at st
    obtain⟨p',g1,g2,g3,g4,g5⟩:=qrn hN hD hD0 j (p+1) (by omega) (by omega) h
    exact⟨p',Yr.next st g1,by omega,g3,g4,g5⟩
  · rw[zQ h]at st
    exact⟨p,(Yr.stop (K:=j+1) st).up (by omega),by omega,by omega,h3,by omega⟩
abbrev InS:=Int×((List Int)×(List Int)×Int×Int×(List Int)×(List Int)×Unit)
abbrev inS(N D k n0 n1:Nat)(q j:Int):InS:=(q,ofN n0,ofN n1,j,(k:Int),ofN N,ofN D,())
abbrev OuS:=Int×(Int×(List Int)×(List Int)×Unit)
abbrev ouS(N D k:Nat)(q:Int):OuS:=(q,(k:Int),ofN N,ofN D,())
def gV(n:Nat)(q:Int):Nat:=if n=0 then 0 else Yl false 0 (n*pT q) (pU q)
theorem qmP(v:Nat)(h:qu v≤40000):Nat.ble (ofN v).length 100000=true:=zN (by have:=qab v;omega)
theorem qro{n:Nat}(h:n≤10^18):qu n≤60:=ye.2 (K5 h (by decide))
theorem quB{q:Int}(h:q≤420):qu (pT q)≤1681:=by have:=Yk q.toNat;unfold pT;omega
theorem bl_u{q:Int}(h : -420≤q):qu (pU q)≤1681:=by have:=Yk (-q).toNat;unfold pU;omega
theorem fr_v{n:Nat}{q:Int}(hn:n≤10^18)(h1 : -420≤q)(h2:q≤420):∃z,JQ (false,ofN (n*pT q),ofN (pU q),(0:Int))=some (((gV n q:Nat):Int),z):=by
 have bn:=qro hn;have bt:=quB h2;have bu:=bl_u h1;have bp:=Jz n (pT q)
 unfold JQ;simp only[valN_ofN];by_cases h0:n=0
 · subst h0
   rw[Ve];refine⟨0,?_⟩
   rw[show Nat.beq 0 0=true from rfl,Bool.true_or,zg,show qu 0=0 by decide,show Nat.ble 0 100000=true from rfl,zN (show qu (pU q)≤100000 by omega)];rfl
 · have hm:n*pT q≠0:=Nat.mul_ne_zero h0 (by have:=qfm q;omega)
   have hu:pU q≠0:=by have:=YN q;omega
   have p1:=j9 hm;have p2:=j9 hu;rw[qcL hm,qcL hu,qmP _ (by omega),qmP _ (by omega),zN (show qu (n*pT q)≤40000 by omega),zN (show qu (pU q)≤40000 by omega),zh (show -4000≤jD (n*pT q) (pU q) by unfold jD;omega),zh (show jD (n*pT q) (pU q)≤4000 by unfold jD;omega)];exact⟨qq2 false 0 (n*pT q) (pU q),by unfold gV;rw[zQ h0];rfl⟩
theorem qjP{n:Nat}(h:n≤10^18):(dg n).length≤20:=by
 have key:∀(j n:Nat),n<10^(j+1)→(dg n).length≤j+1:=fun j=>by
  induction j with
  | zero=>intro n h;rw[ZD (by omega)];simp
  | succ j ih=>
   intro n h;by_cases h1:n<10
   · rw[ZD h1];simp
   · rw[qb1 (by omega),zb]
     have:=ih (n / 10) (by rw[Ke]at h;omega)
     simp only[VU];omega
 exact KF (key 18 n (K5 h (by decide))) (by decide)
theorem tx_v{n:Nat}(h:n≤10^18):YC (ofN n)=some (bs (dg n)):=by
 unfold YC;rw[valN_ofN,zN (by have:=qro h;omega)];rfl
theorem tr_v{n:Nat}{q:Int}(h:n≤10^18)(h1 : -420≤q)(h2:q≤420):qcd (bs (dg n),q)=some (qae n q):=by
 have hl:=qjP h;unfold qcd;simp only[qgv];rw[zN (by omega),zh (by omega),zh (by omega)];rfl
theorem qh6{k n:Nat}{q:Int}(hk:k≠0):((gV n q:Nat):Int)=(k:Int)↔n≠0∧Yl false 0 (n*pT q) (pU q)=k:=by
 unfold gV;by_cases h0:n=0
 · rw[z6 h0];constructor
   · intro h;omega
   · rintro⟨h,_⟩;exact absurd h0 h
 · rw[zQ h0];constructor
   · intro h;exact⟨h0,by omega⟩
   · rintro⟨_,h⟩;omega
theorem in_0{N D k n0 n1:Nat}{q:Int}(hk:k≠0)(hn:n0≤10^18)(h1 : -420≤q)(h2:q≤420) :
 JR (inS N D k n0 n1 q 0)=if n0≠0∧Yl false 0 (n0*pT q) (pU q)=k then some (.inr (.ret (.inr (.ret (qae n0 q)))))else some (.inl (inS N D k n0 n1 q 1)):=by
 obtain⟨z,hz⟩:=fr_v hn h1 h2;have bn:=qro hn;have bt:=quB h2;have m1:=qdg (u:=n0) (v:=pT q) (by omega) (by omega)
 have w:IntKind.i64.wrap (0-q) = -q:=by rw[w64 (n:=0-q) (by omega) (by omega)];omega
 have key:JR (inS N D k n0 n1 q 0)=(bif decide (((gV n0 q:Nat):Int)=(k:Int))then some (.inr (.ret (.inr (.ret (qae n0 q)))))else some (.inl (inS N D k n0 n1 q 1))):=by
  have e1:JR (inS N D k n0 n1 q 0)=((yu q).bind fun x12=>(Qo (ofN n0,x12)).bind fun x13=>(yu (IntKind.i64.wrap (0-q))).bind fun x14=>(JQ (false,x13,x14,(0:Int))).bind fun x15=>(bif(decide (x15.1=(k:Int)))then((YC (ofN n0)).bind fun x16=>(qcd (x16,q)).bind fun x17=>some (.inr (.ret (.inr (.ret x17)))))else some (.inl (inS N D k n0 n1 q 1)))):=rfl
  rw[e1,w];refine obs (qrl (by omega)) (obs m1 (obs (qrm (by omega)) (obs hz ?_)))
  rw[tx_v hn,zm,tr_v hn h1 h2,zm]
 rw[key,Y1];by_cases h:((gV n0 q:Nat):Int)=(k:Int)
 · rw[z6 h,z6 ((qh6 hk).1 h)]
 · rw[zQ h,zQ (fun h'=>h ((qh6 hk).2 h'))]
theorem in_1{N D k n0 n1:Nat}{q:Int}(hk:k≠0)(hn:n1≤10^18)(h1 : -420≤q)(h2:q≤420) :
 JR (inS N D k n0 n1 q 1)=if n1≠0∧Yl false 0 (n1*pT q) (pU q)=k then some (.inr (.ret (.inr (.ret (qae n1 q)))))else some (.inl (inS N D k n0 n1 q 2)):=by
 obtain⟨z,hz⟩:=fr_v hn h1 h2;have bn:=qro hn;have bt:=quB h2;have m1:=qdg (u:=n1) (v:=pT q) (by omega) (by omega)
 have w:IntKind.i64.wrap (0-q) = -q:=by rw[w64 (n:=0-q) (by omega) (by omega)];omega
 have key:JR (inS N D k n0 n1 q 1)=(bif decide (((gV n1 q:Nat):Int)=(k:Int))then some (.inr (.ret (.inr (.ret (qae n1 q)))))else some (.inl (inS N D k n0 n1 q 2))):=by
  have e1:JR (inS N D k n0 n1 q 1)=((yu q).bind fun x12=>(Qo (ofN n1,x12)).bind fun x13=>(yu (IntKind.i64.wrap (0-q))).bind fun x14=>(JQ (false,x13,x14,(0:Int))).bind fun x15=>(bif(decide (x15.1=(k:Int)))then((YC (ofN n1)).bind fun x16=>(qcd (x16,q)).bind fun x17=>some (.inr (.ret (.inr (.ret x17)))))else some (.inl (inS N D k n0 n1 q 2)))):=rfl
  rw[e1,w];refine obs (qrl (by omega)) (obs m1 (obs (qrm (by omega)) (obs hz ?_)))
  rw[tx_v hn,zm,tr_v hn h1 h2,zm]
 rw[key,Y1];by_cases h:((gV n1 q:Nat):Int)=(k:Int)
 · rw[z6 h,z6 ((qh6 hk).1 h)]
 · rw[zQ h,zQ (fun h'=>h ((qh6 hk).2 h'))]
theorem in_2(N D k n0 n1:Nat)(q:Int):JR (inS N D k n0 n1 q 2)=some (.inr (.exit 2 (inS N D k n0 n1 q 2))):=rfl
theorem qxy(A B:Nat):nrO A B≤A / B+1:=by unfold nrO;split <;> omega
def ouK(r:Lp InS (OuS ⊕ (Lp OuS (ByteArray×Int)))):Option (OuS ⊕ (Lp OuS (ByteArray×Int))) :=
 match r with
 | .exit i25 p26=>(bif(Nat.beq i25 2)then some (.inl ((IntKind.wrap .i64 (p26.1-1)),p26.2.2.2.2.1,p26.2.2.2.2.2.1,p26.2.2.2.2.2.2.1,()))
  else(bif(Nat.beq i25 1)then some (.inl ((IntKind.wrap .i64 (p26.1-1)),p26.2.2.2.2.1,p26.2.2.2.2.2.1,p26.2.2.2.2.2.2.1,()))else
   some (.inr (.exit i25 (p26.1,p26.2.2.2.2.1,p26.2.2.2.2.2.1,p26.2.2.2.2.2.2.1,())))))
 | .ret o27=>some o27
theorem qmQ{N D k:Nat}{p q:Int}(hN:qu N≤1100)(hD:qu D≤1100)(hD0:0<D)(hk:k≠0)(h1 : -400≤q)(h2:q≤400)(hq:q≤p)(hp:p-17≤q)(hv:N*pU (p+1)<pT (p+1)*D) :
 (∃n,IsD k n q∧∀fu,3≤fu→YD fu (ouS N D k q)=some (.inr (.ret (qae n q)))) ∨
 (¬(nrN (N*pU q) (D*pT q)≠0∧Yl false 0 (nrN (N*pU q) (D*pT q)*pT q) (pU q)=k)∧∀fu,3≤fu→YD fu (ouS N D k q)=some (.inl (ouS N D k (q-1)))):=by
 have dn:=qok (N:=N) (D:=D) (q:=q) (by omega) (by omega) hD0 (by omega) (by omega)
 have ll:=qrj (q:=q) hD0 (by omega) hv
 have l18:10^(p+1-q).toNat≤10^18:=Kg (by decide) (by omega)
 have g0:=qrk (N*pU q) (D*pT q)
 have g1:=qxy (N*pU q) (D*pT q)
 generalize N*pU q / (D*pT q)=L at *
 generalize nrN (N*pU q) (D*pT q)=n0 at *
 generalize nrO (N*pU q) (D*pT q)=n1 at *
 have w:IntKind.i64.wrap (q-1)=q-1:=w64 (by omega) (by omega)
 have s0:=in_0 (N:=N) (D:=D) (k:=k) (n0:=n0) (n1:=n1) (q:=q) hk (by omega) (by omega) (by omega)
 have s1:=in_1 (N:=N) (D:=D) (k:=k) (n0:=n0) (n1:=n1) (q:=q) hk (by omega) (by omega) (by omega)
 have s2:=in_2 N D k n0 n1 q;have fin:∀r,Yr 3 JR (inS N D k n0 n1 q 0) r→∀fu,3≤fu→YD fu (ouS N D k q)=ouK r:=fun r hr fu hfu=>by
  unfold YD;exact obs dn (obs (hr fu hfu) rfl)
 by_cases c0:n0≠0∧Yl false 0 (n0*pT q) (pU q)=k
 · rw[z6 c0]at s0
   exact .inl ⟨n0,⟨c0.1,by omega,h1,h2,c0.2⟩,fin _ ((Yr.stop (K:=0) s0).up (by omega))⟩
 · rw[zQ c0]at s0
   by_cases c1:n1≠0∧Yl false 0 (n1*pT q) (pU q)=k
   · rw[z6 c1]at s1
     exact .inl ⟨n1,⟨c1.1,by omega,h1,h2,c1.2⟩,fin _ ((Yr.next s0 (Yr.stop (K:=0) s1)).up (by omega))⟩
   · rw[zQ c1]at s1
     refine .inr ⟨c0,fun fu hfu=>?_⟩
     refine(fin _ (Yr.next s0 (Yr.next s1 (Yr.stop (K:=0) s2))) fu hfu).trans ?_
     show(some (Sum.inl (IntKind.i64.wrap (q-1),(k:Int),ofN N,ofN D,())):Option (OuS ⊕ (Lp OuS (ByteArray×Int))))=_
     rw[w]
theorem qrp{N D k:Nat}{p:Int}(hN:qu N≤1100)(hD:qu D≤1100)(hD0:0<D)(hk:k≠0)(ht:k≤yy)(hp:p≤400)(hp' : -380≤p)(hv:N*pU (p+1)<pT (p+1)*D)
 (hlast:nrN (N*pU (p-17)) (D*pT (p-17))≠0∧Yl false 0 (nrN (N*pU (p-17)) (D*pT (p-17))*pT (p-17)) (pU (p-17))=k) :
 ∀(j:Nat) (q:Int),q=p-17+j→q≤p→∃n q',IsD k n q'∧∀fu,3≤fu→Yr (j+1) (YD fu) (ouS N D k q) (.ret (qae n q'))
 | 0,q,h,hq=>by
  have:q=p-17:=by omega
  subst this;rcases qmQ hN hD hD0 hk (by omega) (by omega) hq (by omega) hv with⟨n,g1,g2⟩|⟨g,_⟩
  · exact⟨n,_,g1,fun fu hfu=>Yr.stop (g2 fu hfu)⟩
  · exact absurd hlast g
 | j+1,q,h,hq=>by
  rcases qmQ hN hD hD0 hk (q:=q) (by omega) (by omega) hq (by omega) hv with⟨n,g1,g2⟩|⟨_,g⟩
  · exact⟨n,_,g1,fun fu hfu=>(Yr.stop (K:=j+1) (g2 fu hfu)).up (by omega)⟩
  · obtain⟨n,q',e1,e2⟩:=qrp hN hD hD0 hk ht hp hp' hv hlast j (q-1) (by omega) (by omega)
    exact⟨n,q',e1,fun fu hfu=>Yr.next (g fu hfu) (e2 fu hfu)⟩
def DgP(f:Int)(y:ByteArray×Int):Prop :=
 (yw (bK f.toNat)≠2∧yw (bK f.toNat)≠1∧y=(bs [],0)) ∨
 ((yw (bK f.toNat)=2∨yw (bK f.toNat)=1)∧∃n q,IsD (bK f.toNat) n q∧y=qae n q)
theorem qrq{k:Nat}(h:yw k=2∨yw k=1):k≤yy∧k≠0:=by
 rw[Z3]at h;unfold yy;revert h
 (repeat' split) <;> omega
theorem qmR{k:Nat}(h:k<9223372036854775808):bK k=k:=KT h
theorem clsA{f:Int}(hf:inR .u64 f=true):yw (bK (Int.toNat ((qbX f.toNat:Nat):Int)))=yw (bK f.toNat):=by
 rw[zn];unfold qbX;cases qfK (bK f.toNat)with
 | true=>rfl
 | false=>rw[zo,qmR (qqf _)]
theorem qjQ{f:Int}{k:Nat}(hk:k=bK f.toNat)(hc:yw k=2∨yw k=1):∃n q,IsD k n q∧∀fu,2000≤fu →
 ((dOf (k:Int)).bind fun x0=>(Len x0.1).bind fun x1=>(Len x0.2).bind fun x2=>
   (itP fu (qaF) ((IntKind.wrap .i64 ((IntKind.wrap .i64 (Int.tdiv (IntKind.wrap .i64 ((IntKind.wrap .i64 (x1-x2))*30103)) 100000))-2)),x0.1,x0.2,())).bind fun x8=>
   (itP fu (YD fu) (x8.1,(k:Int),x0.1,x0.2,())).bind fun x28=>
   (match x28 with
     | .exit i29 p30=>(bif(Nat.beq i29 0)then none else none)
     | .ret o31=>some o31))=some (qae n q):=by
 obtain⟨ht,h0⟩:=qrq hc;have of:=quy (f:=(k:Int)) (k:=k) (by rw[zn,qmR (by unfold yy at ht;omega)]) ht h0
 have bA:=bOfA ht;have bB:=bOfB k;have hD0:=quw k;have hv:=qxv k;have hA0:ofA k≠0:=Nat.mul_ne_zero (qrh h0) (by have:=zU (((kE k:Nat):Int)-1074).toNat;omega)
 obtain⟨e,he⟩:∃e,e=(1074-((kE k:Nat):Int)).toNat:=⟨_,rfl⟩
 have eB:ofB k=2^e:=by unfold ofB;rw[he]
 have e1:e≤1099:=by omega
 have lB:qu (ofB k)=e+1:=by rw[eB];exact Jj e
 have p0l:=qyU hA0 bA e1;have pin:=qyT (d:=(qu (ofA k):Int)-((e+1:Nat):Int)) (by omega) (by have:=j9 hA0;omega)
 rw[← eB]at p0l;obtain⟨p,hp⟩:∃p,p=p0 ((qu (ofA k):Int)-((e+1:Nat):Int)):=⟨_,rfl⟩
 rw[← hp]at p0l pin;obtain⟨p',g1,g2,g3,g4,g5⟩:=qrn bA bB hD0 (400-p).toNat p (by omega) (by omega) p0l
 have hfit:pT p'*P75≤2*kV k*pU p':=by
  refine Nat.le_of_mul_le_mul_left (c:=ofB k) ?_ hD0
  have h1:=zG P75 g4;have e1:pT p'*ofB k*P75=ofB k*(pT p'*P75):=by rw[zL (pT p'),zB]
  have e2:ofA k*pU p'*P75=ofB k*(2*kV k*pU p'):=by
   rw[KC,hv,← zB 2,zL 2 (ofB k),zB (ofB k*2) (kV k),zB (ofB k) 2,zB 2 (kV k)]
  rw[e1,e2]at h1;exact h1
 have hT:=fit hfit;have nn:=qrg (q:=p'-17) ht h0 hD0 hv hT
 have hlast:nrN (ofA k*pU (p'-17)) (ofB k*pT (p'-17))≠0∧Yl false 0 (nrN (ofA k*pU (p'-17)) (ofB k*pT (p'-17))*pT (p'-17)) (pU (p'-17))=k:=by
  have ll:=qrj (q:=p'-17) hD0 (by omega) g5
  have l18:10^(p'+1-(p'-17)).toNat≤10^18:=Kg (by decide) (by omega)
  have g0:=qrk (ofA k*pU (p'-17)) (ofB k*pT (p'-17))
  generalize ofA k*pU (p'-17) / (ofB k*pT (p'-17))=L at *
  generalize nrN (ofA k*pU (p'-17)) (ofB k*pT (p'-17))=n at *
  have hn:n≠0:=fun h=>by
   subst h;rw[Ve]at nn;obtain⟨h1,_,_⟩:=nn;have:=YN (p'-17)
   rcases h1 with h|h|⟨h,_⟩
   · exact h0 h
   · omega
   · have m:=qmL (k-1)
     have:0<jy (k-1):=by rw[m];exact Wx (by omega) (zU _)
     have:=Wx (YN (p'-17)) this
     omega
  refine⟨hn,?_⟩
  have hm:n*pT (p'-17)≠0:=Nat.mul_ne_zero hn (by have:=qfm (p'-17);omega)
  have hu:pU (p'-17)≠0:=by have:=YN (p'-17);omega
  have bn:=qro (n:=n) (by omega)
  have bt:=quB (q:=p'-17) (by omega)
  have bu:=bl_u (q:=p'-17) (by omega)
  have bp:=Jz n (pT (p'-17))
  exact qur (qoj hm hu (by unfold jD;omega) (by unfold jD;omega)) nn rfl (YN _) (YN _)
 obtain⟨n,q,i1,i2⟩:=qrp bA bB hD0 h0 ht (by omega) (by omega) g5 hlast 17 p' (by omega) (by omega)
 refine⟨n,q,i1,fun fu hfu=>?_⟩
 have L1:=qfi (v:=ofA k) (by omega)
 have L2:=qfi (v:=ofB k) (by omega)
 have w1:IntKind.i64.wrap (((qu (ofA k):Nat):Int)-((qu (ofB k):Nat):Int))=((qu (ofA k):Nat):Int)-((qu (ofB k):Nat):Int):=w64 (by omega) (by omega)
 have w2:IntKind.i64.wrap (IntKind.i64.wrap (Int.tdiv (IntKind.i64.wrap (IntKind.i64.wrap (((qu (ofA k):Nat):Int)-((qu (ofB k):Nat):Int))*30103)) 100000)-2)=p:=by
  have pe:p=Int.tdiv ((((qu (ofA k):Nat):Int)-((qu (ofB k):Nat):Int))*30103) 100000-2:=by rw[hp,lB];rfl
  rw[w1,w64 (n:=(((qu (ofA k):Nat):Int)-((qu (ofB k):Nat):Int))*30103) (by omega) (by omega)];generalize Int.tdiv ((((qu (ofA k):Nat):Int)-((qu (ofB k):Nat):Int))*30103) 100000=t at *
  rw[w64 (n:=t) (by omega) (by omega),w64 (by omega) (by omega)];exact pe.symm
 refine obs of (obs L1 (obs L2 ?_))
 rw[w2];refine obs (g1 fu (by omega)) (obs (i2 fu (by omega) fu (by omega)) rfl)
theorem qxz(f:Int)(hf:inR .u64 f=true):∃y,(∃m,qle m f=some y)∧DgP f y:=by
 have cA:=clsA hf;by_cases c2:yw (bK f.toNat)=2
 · obtain⟨ht,_⟩:=qrq (.inl c2)
   have ab:qbX f.toNat=bK f.toNat:=by unfold qbX;rw[qjn.2 (by unfold yy at ht;omega)];rfl
   obtain⟨n,q,h1,h2⟩:=qjQ (f:=f) rfl (.inl c2)
   refine⟨_,⟨2000,?_⟩,.inr ⟨.inl c2,n,q,h1,rfl⟩⟩
   unfold qle;rw[cA,zh (show((yw (bK f.toNat):Nat):Int)=2 by omega),Bool.not_true,zo,ab];exact h2 2000 (zI _)
 · by_cases c1:yw (bK f.toNat)=1
   · obtain⟨ht,_⟩:=qrq (.inr c1)
     have ab:qbX f.toNat=bK f.toNat:=by unfold qbX;rw[qjn.2 (by unfold yy at ht;omega)];rfl
     obtain⟨n,q,h1,h2⟩:=qjQ (f:=f) rfl (.inr c1)
     refine⟨_,⟨2000,?_⟩,.inr ⟨.inr c1,n,q,h1,rfl⟩⟩
     unfold qle;rw[cA,zq (show¬((yw (bK f.toNat):Nat):Int)=2 by omega),VD,zg,zh (show((yw (bK f.toNat):Nat):Int)=1 by omega),Bool.not_true,zo,ab];exact h2 2000 (zI _)
   · refine⟨(bs [],0),⟨0,?_⟩,.inl ⟨c2,c1,rfl⟩⟩
     unfold qle;rw[cA,zq (show¬((yw (bK f.toNat):Nat):Int)=2 by omega),VD,zg,zq (show¬((yw (bK f.toNat):Nat):Int)=1 by omega),VD,zg];rfl
open Classical in
noncomputable def Ym(f:Int):Option (ByteArray×Int):=if h:∃y,(∃m,qle m f=some y)∧DgP f y then some (choose h)else none
theorem quC(f:Int)(y:ByteArray×Int)(hg:(d1 (cI .u64)).good f)(h:Ym f=some y):∃n,qle n f=some y:=by
 unfold Ym at h;split at h
 · rename_i hx
   have:=soi h;subst this
   exact(Classical.choose_spec hx).1
 · cases h
theorem qrr{f:Int}(hf:inR .u64 f=true):∃y,Ym f=some y∧DgP f y:=by
 have hx:=qxz f hf;refine⟨Classical.choose hx,?_,(Classical.choose_spec hx).2⟩
 unfold Ym;rw[dif_pos hx]
end
end Su
end
section
namespace Su
open Go Fly
noncomputable section
end
end Su
end
