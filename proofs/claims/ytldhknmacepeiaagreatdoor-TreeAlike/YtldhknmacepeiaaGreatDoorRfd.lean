/-
  Bits and rounding, in plain Lean. No condition.
-/
import Derived.Test.YtldhknmacepeiaaGreatDoorNT05
import Derived.Test.YtldhknmacepeiaaGreatDoorTra
import Derived.Test.YtldhknmacepeiaaGreatDoorSuSd
set_option linter.unusedVariables false
set_option linter.unusedSimpArgs false
set_option maxRecDepth 10000
section
namespace Su
open Go Fly
theorem qwm{N D:Nat}(h1 : -4000≤jw N D)(h2:jw N D≤4000):(-jw N D).toNat+(jw N D+6000).toNat=(jw N D).toNat+6000:=by omega
theorem qnE{N D:Nat}:qe0 N D=true↔Zw N D % YY N D≠0:=by
 unfold qe0;rw[zM];constructor
 · intro h e
   rw[e]at h;exact absurd h (by decide)
 · intro h
   have:=jY h
   omega
theorem qwn{M:Nat}(h:4611686018427387904≤M):54≤qr M:=by
 refine V8 fun hlt=>?_
 have:=j4.1 (show qr M≤53 by omega)
 omega
set_option exponentiation.threshold 1200 in
theorem qnF{N D:Nat}(hN:N≠0)(hD:D≠0)(h1 : -4000≤jw N D)(h2:jw N D≤4000):Nr N D (J9 false 0 N D):=by
 have hM:=qjk hN hD;have hB:=qax (N:=N) hD
 obtain⟨a,ha⟩:∃a,a=(-jw N D).toNat:=⟨_,rfl⟩
 obtain⟨b,hb⟩:∃b,b=(jw N D).toNat:=⟨_,rfl⟩
 obtain⟨E,hE⟩:∃E,E=(jw N D+6000).toNat:=⟨_,rfl⟩
 have hs:=qwm h1 h2;rw[← ha,← hb,← hE]at hs;have q:=qtC (A:=Zw N D) (B:=YY N D) (M:=Zx N D) (E:=E) (rest:=qe0 N D) hB rfl qnE (qwn hM) (k:=J9 false 0 N D) (by rw[qjj,hE])
 have eA:Zw N D*2^(E+1)=2^b*2^SH*(N*P75):=by
  unfold Zw;rw[qqy,← ha,zy,← zS,KJ,← zS,← zS,qpu]
  congr 2;omega
 have eB:∀m,YY N D*(m*2^SH)=2^b*2^SH*(D*m):=fun m=>by
  unfold YY;rw[← hb,zI D,zy,zy,KJ (2^SH) D,zI (2^SH) m]
 have pos:0<2^b*2^SH:=Wp (zQ _) (zQ _)
 rw[eA]at q;simp only[eB]at q;obtain⟨q1,q2,q3⟩:=q;refine⟨?_,fun h=>?_,q3⟩
 · rcases q1 with h | h | ⟨h,h'⟩
   · exact .inl h
   · exact .inr (.inl (Wj h))
   · exact .inr (.inr ⟨Vw pos h,h'⟩)
 · rcases q2 h with h | ⟨h,h'⟩
   · exact .inl (Wj h)
   · exact .inr ⟨Vw pos h,h'⟩
theorem qtD{n T U k:Nat}(hk:k≤yk)(hk0:k≠0)(hU:0<U)(hT:T*P75<U*2^kE k)
 (hn:2*(n*T*P75)≤4*(U*kV k)+T*P75) (hn2:4*(U*kV k)≤2*(n*T*P75)+T*P75):Nr (n*T) U k:=by
 have e1:js k=2*kV k+2^kE k:=by unfold js;rw[qe2];omega
 have e2:2*kV k≤js (k-1)+2^kE k:=by
  have h:=qe2 (k-1)
  rw[show k-1+1=k by omega]at h;have hm:=qtz (k-1)
  rw[show k-1+1=k by omega]at hm;have:=Ka (show 0<2 by omega) hm
  unfold js;rw[show k-1+1=k by omega];omega
 have e3:2*(js (k-1))+2^kE k≤4*kV k:=by
  have h:=qe2 (k-1)
  rw[show k-1+1=k by omega]at h;have hm:kE k≤kE (k-1)+1:=by unfold kE;omega
  have:=Ka (show 0<2 by omega) hm
  rw[z7]at this;unfold js;rw[show k-1+1=k by omega];omega
 have m1:U*js k=2*(U*kV k)+U*2^kE k:=by rw[e1,Ky,KJ]
 have m2:2*(U*js (k-1))+U*2^kE k≤4*(U*kV k):=by
  have:=zX U e3
  rw[Ky,KJ,KJ U 4]at this;exact this
 exact⟨.inr (.inl (by omega)),fun _=>.inl (by omega),by omega⟩
end Su
namespace Su
open Go Fly
def pT(q:Int):Nat:=10^q.toNat
def pU(q:Int):Nat:=10^(-q).toNat
theorem qe3(q:Int):0<pT q:=Nat.pow_pos (by decide)
theorem YE(q:Int):0<pU q:=Nat.pow_pos (by decide)
theorem qqA(p:Int):pT (p-17)*pU p*10^17=pT p*pU (p-17):=by
 unfold pT pU;rw[← zS,← zS,← zS]
 congr 1;omega
theorem qtE(k:Nat):kV k<9007199254740992*2^kE k:=by
 unfold kV;refine z6 ?_ (zQ _)
 unfold kM;split <;> omega
theorem fit{k:Nat}{p:Int}(h:pT p*P75≤2*kV k*pU p):pT (p-17)*P75<pU (p-17)*2^kE k:=by
 have h1:=qtE k;have h2:pT p*P75<18014398509481984*2^kE k*pU p:=by
  have:2*kV k*pU p<18014398509481984*2^kE k*pU p:=z6 (by omega) (YE p)
  omega
 have h3:pU (p-17)*(pT p*P75)<pU (p-17)*(18014398509481984*2^kE k*pU p):=Wb h2 (YE _)
 have e1:pU (p-17)*(pT p*P75)=pT (p-17)*P75*10^17*pU p:=by
  rw[← zy,zI (pU (p-17)),← qqA,Kz _ (10^17),Kz _ (pU p),Kz _ (pU p)]
 have e2:pU (p-17)*(18014398509481984*2^kE k*pU p)=pU (p-17)*2^kE k*18014398509481984*pU p:=by
  rw[← zy,zI 18014398509481984,← zy]
 rw[e1,e2]at h3;have h4:pT (p-17)*P75*10^17<pU (p-17)*2^kE k*18014398509481984:=VD h3
 generalize pT (p-17)*P75=x at *
 generalize pU (p-17)*2^kE k=y at *
 omega
def nrN(A B:Nat):Nat:=if B<2*(A % B)∨2*(A % B)=B∧A / B % 2=1 then A / B+1 else A / B
theorem qwo{A B:Nat}(hB:0<B):2*(nrN A B*B)≤2*A+B∧2*A≤2*(nrN A B*B)+B:=by
 have h1:=K8 A B;have h2:=Va A hB;have h3:B*(A / B)=A / B*B:=zI ..
 unfold nrN;split
 · rename_i h
   rw[zV,KO];rcases h with h | ⟨h,_⟩ <;> omega
 · rename_i h
   have:2*(A % B)≤B:=by
    refine V8 fun hlt=>h (.inl hlt)
   omega
theorem qqB{k N D:Nat}{q:Int}(hk:k≤yk)(hk0:k≠0)(hD:0<D)(hv:N*P75=2*(D*kV k))(hT:pT q*P75<pU q*2^kE k) :
 Nr (nrN (N*pU q) (D*pT q)*pT q) (pU q) k:=by
 have hB:0<D*pT q:=Wp hD (qe3 q)
 obtain⟨h1,h2⟩:=qwo (A:=N*pU q) hB
 generalize nrN (N*pU q) (D*pT q)=n at *
 have a1:=zF P75 h1;have a2:=zF P75 h2;have e1:2*(n*(D*pT q))*P75=D*(2*(n*pT q*P75)):=by
  rw[KJ n D,KJ 2 D,zy D,zy 2,zy n]
 have e2:2*(N*pU q)*P75=D*(4*(pU q*kV k)):=by
  have:2*(N*pU q)*P75=2*pU q*(N*P75):=by
   rw[zI N,← zy 2,zy (2*pU q)]
  rw[this,hv];have:2*pU q*(2*(D*kV k))=D*(4*(pU q*kV k)):=by
   rw[KJ D 4,KJ D (pU q),zy 2,KJ (pU q) 2,← zy 2 2]
  exact this
 have e3:D*pT q*P75=D*(pT q*P75):=zy ..
 rw[zV,e1,e2,e3,← Ky]at a1;rw[zV,e1,e2,e3,← Ky]at a2;exact qtD hk hk0 (YE q) hT (Nat.le_of_mul_le_mul_left a1 hD) (Nat.le_of_mul_le_mul_left a2 hD)
end Su
end
section
namespace Su
open Go Fly
noncomputable section
def dOf  (f:Int):Option ((List Int)×List Int) :=
 (qeT ((ofN (qd [(IntKind.wrap .u32 (((spM (bK f.toNat)):Nat):Int)),(IntKind.wrap .u32 (Int.fdiv (((spM (bK f.toNat)):Nat):Int) (2^32)))])),(spE (bK f.toNat)))).bind fun x0=>
 (qeT ((ofN 1),(IntKind.wrap .i64 (0-(spE (bK f.toNat)))))).bind fun x1=>
 some (x0.1,x1.1)
def qjm  (v:((List Int)×List Int))(q:Int):Option ((List Int)×List Int) :=
 (yf (IntKind.wrap .i64 (0-q))).bind fun x0=>
 (y8 (v.1,x0)).bind fun x1=>
 (yf q).bind fun x2=>
 (y8 (v.2,x2)).bind fun x3=>
 (qeX (x1,x3)).bind fun x4=>
 (qgg (x4.1,(ofN 1))).bind fun x5=>
 (qgg (x4.2.1,x4.2.1)).bind fun x6=>
 (yf q).bind fun x7=>
 (y8 (v.2,x7)).bind fun x8=>
 (bif(decide (0<(yZ (qd x6) (qd x8))))then
 some (x5,x4.1)
 else
  (bif(decide ((yZ (qd x6) (qd x8))=0))then
  (Bit x4.1 0).bind fun x9=>
  (bif(decide (x9=1))then
  some (x5,x4.1)
 else
  some (x4.1,x5))
 else
  some (x4.1,x5)))
def ofA(k:Nat):Nat:=kM k*2^(((kE k:Nat):Int)-1074).toNat
def ofB(k:Nat):Nat:=2^(1074-((kE k:Nat):Int)).toNat
theorem qtF(k:Nat):0<ofB k:=zQ _
set_option exponentiation.threshold 1200 in
theorem qwp(k:Nat):ofA k*P75=2*(ofB k*kV k):=by
 unfold ofA ofB kV;rw[qqy,zy,← zS,KJ (2^_) (kM k),← zS,KJ 2 (kM k),← Nat.pow_succ']
 congr 2;omega
theorem qmg(k:Nat):kM k<9007199254740992:=by unfold kM;split <;> omega
theorem qqC{k:Nat}(h:k≠0):kM k≠0:=by unfold kM;split <;> omega
theorem quG{k:Nat}(h:k≤yk):kE k≤2046:=by unfold yk at h;unfold kE;omega
theorem qtG{k:Nat}(h:k≤yk):qft k=true:=ZY.2 (by unfold yk at h;omega)
theorem bOfA{k:Nat}(h:k≤yk):qr (ofA k)≤1100:=by
 have h1:=quG h;have h2:=Jr (kM k) (2^(((kE k:Nat):Int)-1074).toNat)
 have h3:qr (kM k)≤53:=j4.2 (by have:=qmg k;omega)
 rw[Q9]at h2;unfold ofA;omega
theorem bOfB(k:Nat):qr (ofB k)≤1100:=by unfold ofB;rw[Q9];omega
theorem qtH{f:Int}{k:Nat}(hk:bK f.toNat=k)(ht:k≤yk)(h0:k≠0):dOf f=some (ofN (ofA k),ofN (ofB k)):=by
 unfold dOf;have hf:=qtG ht;have e1:spM k=kM k:=by unfold spM;rw[hf];rfl
 have e2:spE k=((kE k:Nat):Int)-1074:=by unfold spE;rw[hf,qcE h0];rfl
 have hE:=quG ht;have hM:=qmg k;have hb:qr (kM k)≤53:=j4.2 (by omega)
 rw[hk,e1,e2,qxA (by omega)];have w:IntKind.i64.wrap (0-(((kE k:Nat):Int)-1074))=1074-((kE k:Nat):Int):=by rw[w64 (n:=0-(((kE k:Nat):Int)-1074)) (by omega) (by omega)];omega
 have b1:qr 1=1:=by decide
 rw[w];refine obs (qqm (qqC h0) (by omega)) (obs (qqm (by omega) (by omega)) ?_)
 rw[KO];rfl
theorem qqD{x:Nat}(h:x<4294967296):Fly.jf .and .u32 (x:Int) 1=((x % 2:Nat):Int):=by
 show IntKind.u32.wrap (((BitVec.ofInt 32 (x:Int) &&& BitVec.ofInt 32 ((1:Nat):Int)).toNat:Nat):Int)=_
 have hm:=and_mask x 1
 rw[show 2^1-1=1 from rfl,show 2^1=2 from rfl]at hm;have e1:(BitVec.ofInt 32 (x:Int)).toNat=x:=by simp;omega
 have e2:(BitVec.ofInt 32 ((1:Nat):Int)).toNat=1:=by decide
 rw[WN,e1,e2,hm];exact qiR (by omega) (by omega)
theorem qxB{v:Nat}(hb:qr v≤100000):Bit (ofN v) 0=some ((v % 2:Nat):Int):=by
 unfold Bit;by_cases h0:v=0
 · subst h0;rfl
 · have hp:=qmc h0
   have hl:=Z7 v;have w:IntKind.i64.wrap (32*(((ofN v).length:Nat):Int))=32*(((ofN v).length:Nat):Int):=w64 (by omega) (by omega)
   have hi:idx (ofN v) (IntKind.i64.wrap (Int.tdiv 0 32))=some ((v % 4294967296:Nat):Int):=by
    rw[show IntKind.i64.wrap (Int.tdiv 0 32)=((0:Nat):Int) by decide,JG,qbQ h0];rfl
   have em:min (Int.toNat (Int.tmod 0 32)) 32=0:=by decide
   have ef:Int.fdiv ((v % 4294967296:Nat):Int) (2^0)=((v % 4294967296:Nat):Int):=by rw[Zn,Vc,WQ]
   rw[w,zp (show¬((0:Int)<0) by omega),zo,zp (show¬32*(((ofN v).length:Nat):Int)≤0 by omega),zo];refine obs hi ?_
   rw[em,ef,qqD (by omega),yj (by omega) (by omega)];rw[show decide ((0:Int)≤Int.tmod 0 32)=true by decide,zd]
   congr 2;omega
theorem bT{q:Int}(h:q≤2000):qr (pT q)≤8001:=by have:=J8 q.toNat;unfold pT;omega
theorem bU{q:Int}(h : -2000≤q):qr (pU q)≤8001:=by have:=J8 (-q).toNat;unfold pU;omega
def nrO(A B:Nat):Nat:=if B<2*(A % B)∨2*(A % B)=B∧A / B % 2=1 then A / B else A / B+1
theorem qnG{N D:Nat}{q:Int}(hN:qr N≤2000)(hD:qr D≤2000)(h0:0<D)(h1 : -2000≤q)(h2:q≤2000) :
 qjm (ofN N,ofN D) q=some (ofN (nrN (N*pU q) (D*pT q)),ofN (nrO (N*pU q) (D*pT q))):=by
 have w:IntKind.i64.wrap (0-q) = -q:=by rw[w64 (n:=0-q) (by omega) (by omega)];omega
 have bt:=bT h2;have bu:=bU h1;have t1:yf (-q)=some (ofN (pU q)):=by unfold yf;rw[zf (by omega)];rfl
 have t2:yf q=some (ofN (pT q)):=by unfold yf;rw[zf (by omega)];rfl
 have bA:=Jr N (pU q)
 have bB:=Jr D (pT q)
 have m1:=qdc (u:=N) (v:=pU q) (by omega) (by omega)
 have m2:=qdc (u:=D) (v:=pT q) (by omega) (by omega)
 have hB:0<D*pT q:=Wp h0 (qe3 q)
 generalize hA':N*pU q=A at *
 generalize hB':D*pT q=B at *
 have dv:=quB (u:=A) (v:=B) (by omega) (by omega) (by omega)
 have bl:qr (A / B)≤qr A:=qay (Vy ..)
 have br:qr (A % B)≤qr A:=qay (Nat.mod_le ..)
 have b1:qr 1=1:=by decide
 have a1:=quA (u:=A / B) (v:=1) (by omega) (by omega)
 have a2:=quA (u:=A % B) (v:=A % B) (by omega) (by omega)
 have bt0:=qxB (v:=A / B) (by omega)
 have key:qjm (ofN N,ofN D) q=(bif decide (0<yZ (A % B+A % B) B)then some (ofN (A / B+1),ofN (A / B))else bif decide (yZ (A % B+A % B) B=0)then(bif decide (((A / B % 2:Nat):Int)=1)then some (ofN (A / B+1),ofN (A / B))else some (ofN (A / B),ofN (A / B+1)))else some (ofN (A / B),ofN (A / B+1))):=by
  unfold qjm;rw[w];refine obs t1 (obs m1 (obs t2 (obs m2 (obs dv (obs a1 (obs a2 (obs t2 (obs m2 ?_))))))))
  simp only[valN_ofN,bt0,zk]
 rw[key];unfold nrN nrO yZ;by_cases c1:A % B+A % B<B
 · rw[zZ c1,zP (by omega),zP (by omega)];rfl
 · rw[zP c1]
   by_cases c2:A % B+A % B=B
   · rw[zZ c2]
     by_cases c3:A / B % 2=1
     · rw[zZ (by omega),zZ (by omega),zf (show((A / B % 2:Nat):Int)=1 by omega)];rfl
     · rw[zP (by omega),zP (by omega),zp (show¬((A / B % 2:Nat):Int)=1 by omega)];rfl
   · rw[zP c2,zZ (by omega),zZ (by omega)];rfl
end
end Su
end
section
namespace Su
open Go Fly
theorem qnH{p q:Int}(h:q≤p):pT q*pU p*10^(p-q).toNat=pT p*pU q:=by
 unfold pT pU;rw[← zS,← zS,← zS]
 congr 1;omega
def p0(d:Int):Int:=Int.tdiv (d*30103) 100000-2
theorem qwq:((List.range 2300).all fun i=>Nat.ble (10^(p0 ((i:Int)-1150)).toNat*2^(-((i:Int)-1150)).toNat) (2^((i:Int)-1150).toNat*10^(-(p0 ((i:Int)-1150))).toNat))=true:=by decide +kernel
theorem qwr:((List.range 2300).all fun i=>decide (-380≤p0 ((i:Int)-1150))&&decide (p0 ((i:Int)-1150)≤380))=true:=by decide +kernel
theorem qxC{d:Int}(h1 : -1150≤d)(h2:d<1150):pT (p0 d)*2^(-d).toNat≤2^d.toNat*pU (p0 d):=by
 have h:=Ko.1 qwq (d+1150).toNat (WM.2 (by omega))
 have e:(((d+1150).toNat:Nat):Int)-1150=d:=by omega
 rw[e]at h;exact zw h
theorem qxD{d:Int}(h1 : -1150≤d)(h2:d<1150) : -380≤p0 d∧p0 d≤380:=by
 have h:=Ko.1 qwr (d+1150).toNat (WM.2 (by omega))
 have e:(((d+1150).toNat:Nat):Int)-1150=d:=by omega
 rw[e]at h;simp only[zh,zM]at h;exact h
theorem qxE{N e:Nat}(hN:N≠0)(h1:qr N≤1100)(h2:e≤1099):pT (p0 ((qr N:Int)-((e+1:Nat):Int)))*2^e≤N*pU (p0 ((qr N:Int)-((e+1:Nat):Int))):=by
 have hp:=jY hN;have hg:=Zh hN;have h:=qxC (d:=(qr N:Int)-((e+1:Nat):Int)) (by omega) (by omega)
 generalize hb:qr N=b at *
 obtain⟨x,hx⟩:∃x,x=(-((b:Int)-((e+1:Nat):Int))).toNat:=⟨_,rfl⟩
 obtain⟨y,hy⟩:∃y,y=((b:Int)-((e+1:Nat):Int)).toNat:=⟨_,rfl⟩
 rw[← hx,← hy]at h;generalize p0 ((b:Int)-((e+1:Nat):Int))=p at *
 have hs:b-1+x=e+y:=by omega
 refine KF ?_ (zF _ hg)
 refine Nat.le_of_mul_le_mul_right (c:=2^x) ?_ (zQ _)
 have e1:pT p*2^e*2^x=pT p*2^x*2^e:=Kz ..
 have e2:2^(b-1)*pU p*2^x=2^y*pU p*2^e:=by
  rw[Kz,← zS,hs,zS,zI (2^e),Kz]
 rw[e1,e2];exact zF _ h
theorem qqE{N D:Nat}{p q:Int}(hD:0<D)(hq:q≤p)(h:N*pU p<pT p*D):N*pU q / (D*pT q)+1≤10^(p-q).toNat:=by
 have hB:0<D*pT q:=Wp hD (qe3 q)
 refine Nat.succ_le_of_lt ((KB hB).2 ?_)
 refine VD (a:=pU p) ?_
 have h1:N*pU p*pU q<pT p*D*pU q:=z6 h (YE q)
 have e1:N*pU q*pU p=N*pU p*pU q:=Kz ..
 have e2:10^(p-q).toNat*(D*pT q)*pU p=pT p*D*pU q:=by
  have:=qnH hq
  rw[zI (10^_),zy D,zy D,Kz (pT q),this,zI D,Kz]
 rw[e1,e2];exact h1
theorem qqF(A B:Nat):nrN A B≤A / B+1:=by unfold nrN;split <;> omega
def IsD(k n:Nat)(q:Int):Prop:=n≠0∧n≤10^18∧-400≤q∧q≤400∧J9 false 0 (n*pT q) (pU q)=k
def qaa(n:Nat)(q:Int):ByteArray×Int:=(bs (yv 48 (dg n)),q+(((dg n).length:Nat):Int)-(((yv 48 (dg n)).length:Nat):Int))
end Su
end
section
namespace Su
open Go Fly
noncomputable section
def Yh{S R:Type}(K:Nat)(F:S→Option (S ⊕ R))(s:S)(r:R):Prop:=∀m,K≤m→itP m F s=some r
theorem Yh.next{S R:Type}{K:Nat}{F:S→Option (S ⊕ R)}{s s':S}{r:R}(h:F s=some (.inl s'))(hn:Yh K F s' r):Yh (K+1) F s r:=fun m hm=>by
 obtain⟨j,rfl⟩:∃j,m=j+1:=⟨m-1,by omega⟩
 rw[jS,h];exact hn j (by omega)
theorem Yh.stop{S R:Type}{K:Nat}{F:S→Option (S ⊕ R)}{s:S}{r:R}(h:F s=some (.inr r)):Yh (K+1) F s r:=fun m hm=>by
 obtain⟨j,rfl⟩:∃j,m=j+1:=⟨m-1,by omega⟩
 rw[jS,h];rfl
theorem Yh.up{S R:Type}{K K':Nat}{F:S→Option (S ⊕ R)}{s:S}{r:R}(h:Yh K F s r)(hk:K≤K'):Yh K' F s r:=fun m hm=>h m (by omega)
theorem w1{i n:Nat}(h:i<n)(hn:n≤maxLen):IntKind.i64.wrap ((i:Int)+1)=((i+1:Nat):Int):=by
 rw[Q7]at hn;rw[w64 (by omega) (by omega)];rfl
end
end Su
end
section
namespace Su
open Go Fly
noncomputable section
def qaz:Stp (Int×(List Int)×(List Int)×Unit):=fun p3=>(yf (IntKind.wrap .i64 (p3.1+1))).bind fun x4=>
 (y8 (x4,p3.2.2.1)).bind fun x5=>
 (yf (IntKind.wrap .i64 ((IntKind.wrap .i64 (0-p3.1))-1))).bind fun x6=>
 (y8 (p3.2.1,x6)).bind fun x7=>
 (bif(decide ((yZ (qd x5) (qd x7))≤0))then
 some (.inl ((IntKind.wrap .i64 (p3.1+1)),p3.2.1,p3.2.2.1,()))
 else
  some (.inr (p3.1,p3.2.1,p3.2.2.1,())))
abbrev qcI:=(Int×(List Int)×(List Int)×Int×Int×(List Int)×(List Int)×Unit)
def JI:qcI→Option (qcI ⊕ (Lp qcI ((Int×Int×(List Int)×(List Int)×Unit) ⊕ (Lp (Int×Int×(List Int)×(List Int)×Unit) (ByteArray×Int))))):=fun p11=>(bif(decide (p11.2.2.2.1<2))then
 (bif((decide (0≤p11.2.2.2.1))&&(decide (p11.2.2.2.1<2)))then
 (bif(decide (p11.2.2.2.1=0))then
 (yf p11.1).bind fun x12=>
 (y8 (p11.2.1,x12)).bind fun x13=>
 (yf (IntKind.wrap .i64 (0-p11.1))).bind fun x14=>
 (JH (false,x13,x14,(0:Int))).bind fun x15=>
 (bif(decide (x15.1=p11.2.2.2.2.1))then
 (Yq p11.2.1).bind fun x16=>
 (qbZ (x16,p11.1)).bind fun x17=>
 some (.inr (.ret (.inr (.ret x17))))
 else
  some (.inl (p11.1,p11.2.1,p11.2.2.1,(IntKind.wrap .i64 (p11.2.2.2.1+1)),p11.2.2.2.2.1,p11.2.2.2.2.2.1,p11.2.2.2.2.2.2.1,())))
 else
  (bif(decide (p11.2.2.2.1=((1:Nat):Int)))then
  (yf p11.1).bind fun x18=>
  (y8 (p11.2.2.1,x18)).bind fun x19=>
  (yf (IntKind.wrap .i64 (0-p11.1))).bind fun x20=>
  (JH (false,x19,x20,(0:Int))).bind fun x21=>
  (bif(decide (x21.1=p11.2.2.2.2.1))then
  (Yq p11.2.2.1).bind fun x22=>
  (qbZ (x22,p11.1)).bind fun x23=>
  some (.inr (.ret (.inr (.ret x23))))
 else
  some (.inl (p11.1,p11.2.1,p11.2.2.1,(IntKind.wrap .i64 (p11.2.2.2.1+1)),p11.2.2.2.2.1,p11.2.2.2.2.2.1,p11.2.2.2.2.2.2.1,())))
 else none))
 else none)
 else
  some (.inr (.exit 2 (p11.1,p11.2.1,p11.2.2.1,p11.2.2.2.1,p11.2.2.2.2.1,p11.2.2.2.2.2.1,p11.2.2.2.2.2.2.1,()))))
def Yr(fu:Nat):(Int×Int×(List Int)×(List Int)×Unit)→Option ((Int×Int×(List Int)×(List Int)×Unit) ⊕ (Lp (Int×Int×(List Int)×(List Int)×Unit) (ByteArray×Int))):=fun p9=>(qjm (p9.2.2.1,p9.2.2.2.1) p9.1).bind fun x10=>
 (itP fu (JI) (p9.1,x10.1,x10.2,(0:Int),p9.2.1,p9.2.2.1,p9.2.2.2.1,())).bind fun x24=>
 (match x24 with
 | .exit i25 p26=>(bif(Nat.beq i25 2)then
  some (.inl ((IntKind.wrap .i64 (p26.1-1)),p26.2.2.2.2.1,p26.2.2.2.2.2.1,p26.2.2.2.2.2.2.1,()))
 else
  (bif(Nat.beq i25 1)then
  some (.inl ((IntKind.wrap .i64 (p26.1-1)),p26.2.2.2.2.1,p26.2.2.2.2.2.1,p26.2.2.2.2.2.2.1,()))
 else
  some (.inr (.exit i25 (p26.1,p26.2.2.2.2.1,p26.2.2.2.2.2.1,p26.2.2.2.2.2.2.1,())))))
 | .ret o27=>some o27)
def qkH  (fu:Nat)(f:Int):Option (ByteArray×Int) :=
 (bif(!(decide ((((yg (bK (Int.toNat (qbL f.toNat:Int)))):Nat):Int)=2)))then
 (bif(!(decide ((((yg (bK (Int.toNat (qbL f.toNat:Int)))):Nat):Int)=1)))then
 some ((ByteArray.mk (List.toArray [])),(0:Int))
 else
  (dOf (qbL f.toNat:Int)).bind fun x0=>
  (Len x0.1).bind fun x1=>
  (Len x0.2).bind fun x2=>
  (itP fu (qaz) ((IntKind.wrap .i64 ((IntKind.wrap .i64 (Int.tdiv (IntKind.wrap .i64 ((IntKind.wrap .i64 (x1-x2))*30103)) 100000))-2)),x0.1,x0.2,())).bind fun x8=>
  (itP fu (Yr fu) (x8.1,(qbL f.toNat:Int),x0.1,x0.2,())).bind fun x28=>
  (match x28 with
 | .exit i29 p30=>(bif(Nat.beq i29 0)then
  none
 else none)
 | .ret o31=>some o31))
 else
  (dOf (qbL f.toNat:Int)).bind fun x32=>
  (Len x32.1).bind fun x33=>
  (Len x32.2).bind fun x34=>
  (itP fu (qaz) ((IntKind.wrap .i64 ((IntKind.wrap .i64 (Int.tdiv (IntKind.wrap .i64 ((IntKind.wrap .i64 (x33-x34))*30103)) 100000))-2)),x32.1,x32.2,())).bind fun x40=>
  (itP fu (Yr fu) (x40.1,(qbL f.toNat:Int),x32.1,x32.2,())).bind fun x60=>
  (match x60 with
 | .exit i61 p62=>(bif(Nat.beq i61 0)then
  none
 else none)
 | .ret o63=>some o63))
abbrev AhS:=Int×((List Int)×(List Int)×Unit)
abbrev ahS(N D:Nat)(p:Int):AhS:=(p,ofN N,ofN D,())
theorem qtI(a b:Nat):decide (yZ a b≤0)=decide (a≤b):=by
 unfold yZ;by_cases h1:a<b
 · rw[zZ h1];simp;omega
 · rw[zP h1]
   by_cases h2:a=b
   · rw[zZ h2];simp;omega
   · rw[zP h2];simp;omega
theorem qqG{q:Int}(h:q≤2000):yf q=some (ofN (pT q)):=by unfold yf;rw[zf (by omega)];rfl
theorem qqH{q:Int}(h : -2000≤q):yf (-q)=some (ofN (pU q)):=by unfold yf;rw[zf (by omega)];rfl
theorem qtJ{N D:Nat}{p:Int}(hN:qr N≤2000)(hD:qr D≤2000)(h1 : -1000≤p)(h2:p≤1000) :
 qaz (ahS N D p)=if pT (p+1)*D≤N*pU (p+1)then some (.inl (ahS N D (p+1)))else some (.inr (ahS N D p)):=by
 have w1:IntKind.i64.wrap (p+1)=p+1:=w64 (by omega) (by omega)
 have w2:IntKind.i64.wrap (IntKind.i64.wrap (0-p)-1) = -(p+1):=by rw[w64 (n:=0-p) (by omega) (by omega),w64 (by omega) (by omega)];omega
 have bt:=bT (q:=p+1) (by omega)
 have bu:=bU (q:=p+1) (by omega)
 have m1:=qdc (u:=pT (p+1)) (v:=D) (by omega) (by omega)
 have m2:=qdc (u:=N) (v:=pU (p+1)) (by omega) (by omega)
 unfold qaz;simp only[w1,w2];refine obs (qqG (by omega)) (obs m1 (obs (qqH (by omega)) (obs m2 ?_)))
 simp only[valN_ofN];rw[qtI,YR]
set_option exponentiation.threshold 1200 in
theorem qqI{N D:Nat}(hN:qr N≤1100)(hD:qr D≤1100)(hD0:0<D):∀(j:Nat) (p:Int),-400≤p→p+j=400→pT p*D≤N*pU p →
 ∃p',Yh (j+1) qaz (ahS N D p) (ahS N D p')∧p≤p'∧p'≤400∧pT p'*D≤N*pU p'∧N*pU (p'+1)<pT (p'+1)*D
 | 0,p,h1,h2,h3=>by
  exfalso;have:p=400:=by omega
  subst this;have e1:pT 400=10^400:=rfl
  have e2:pU 400=1:=rfl
  rw[e2,KW]at h3;have hl:=y9 N;have h4:2^qr N≤2^1100:=Ka (by decide) hN
  have h5:(2:Nat)^1100≤10^400:=by decide +kernel
  have h6:pT 400*1≤pT 400*D:=zX _ hD0
  rw[e1]at h6 h3;omega
 | j+1,p,h1,h2,h3=>by
  have st:=qtJ (N:=N) (D:=D) (p:=p) (by omega) (by omega) (by omega) (by omega)
  by_cases h:pT (p+1)*D≤N*pU (p+1)
  · rw[zZ h]at st
    obtain⟨p',g1,g2,g3,g4,g5⟩:=qqI hN hD hD0 j (p+1) (by omega) (by omega) h
    exact⟨p',Yh.next st g1,by omega,g3,g4,g5⟩
  · rw[zP h]at st
    exact⟨p,(Yh.stop (K:=j+1) st).up (by omega),by omega,by omega,h3,by omega⟩
abbrev InS:=Int×((List Int)×(List Int)×Int×Int×(List Int)×(List Int)×Unit)
abbrev inS(N D k n0 n1:Nat)(q j:Int):InS:=(q,ofN n0,ofN n1,j,(k:Int),ofN N,ofN D,())
abbrev OuS:=Int×(Int×(List Int)×(List Int)×Unit)
abbrev ouS(N D k:Nat)(q:Int):OuS:=(q,(k:Int),ofN N,ofN D,())
def gV(n:Nat)(q:Int):Nat:=if n=0 then 0 else J9 false 0 (n*pT q) (pU q)
theorem qmh(v:Nat)(h:qr v≤40000):Nat.ble (ofN v).length 100000=true:=zK (by have:=Z7 v;omega)
theorem qqJ{n:Nat}(h:n≤10^18):qr n≤60:=j4.2 (KZ h (by decide))
theorem qtK{q:Int}(h:q≤420):qr (pT q)≤1681:=by have:=J8 q.toNat;unfold pT;omega
theorem bl_u{q:Int}(h : -420≤q):qr (pU q)≤1681:=by have:=J8 (-q).toNat;unfold pU;omega
theorem fr_v{n:Nat}{q:Int}(hn:n≤10^18)(h1 : -420≤q)(h2:q≤420):∃z,JH (false,ofN (n*pT q),ofN (pU q),(0:Int))=some (((gV n q:Nat):Int),z):=by
 have bn:=qqJ hn;have bt:=qtK h2;have bu:=bl_u h1;have bp:=Jr n (pT q)
 unfold JH;simp only[valN_ofN];by_cases h0:n=0
 · subst h0
   rw[Vb];refine⟨0,?_⟩
   rw[show Nat.beq 0 0=true from rfl,Bool.true_or,zd,show qr 0=0 by decide,show Nat.ble 0 100000=true from rfl,zK (show qr (pU q)≤100000 by omega)];rfl
 · have hm:n*pT q≠0:=Nat.mul_ne_zero h0 (by have:=qe3 q;omega)
   have hu:pU q≠0:=by have:=YE q;omega
   have p1:=jY hm;have p2:=jY hu;rw[qcE hm,qcE hu,qmh _ (by omega),qmh _ (by omega),zK (show qr (n*pT q)≤40000 by omega),zK (show qr (pU q)≤40000 by omega),zf (show -4000≤jw (n*pT q) (pU q) by unfold jw;omega),zf (show jw (n*pT q) (pU q)≤4000 by unfold jw;omega)];exact⟨qqn false 0 (n*pT q) (pU q),by unfold gV;rw[zP h0];rfl⟩
theorem qjn{n:Nat}(h:n≤10^18):(dg n).length≤20:=by
 have key:∀(j n:Nat),n<10^(j+1)→(dg n).length≤j+1:=fun j=>by
  induction j with
  | zero=>intro n h;rw[qbO (by omega)];simp
  | succ j ih=>
   intro n h;by_cases h1:n<10
   · rw[qbO h1];simp
   · rw[qeM (by omega),zg]
     have:=ih (n / 10) (by rw[z7]at h;omega)
     simp only[Wf];omega
 exact KF (key 18 n (KZ h (by decide))) (by decide)
theorem tx_v{n:Nat}(h:n≤10^18):Yq (ofN n)=some (bs (dg n)):=by
 unfold Yq;rw[valN_ofN,zK (by have:=qqJ h;omega)];rfl
theorem tr_v{n:Nat}{q:Int}(h:n≤10^18)(h1 : -420≤q)(h2:q≤420):qbZ (bs (dg n),q)=some (qaa n q):=by
 have hl:=qjn h;unfold qbZ;simp only[qgd];rw[zK (by omega),zf (by omega),zf (by omega)];rfl
theorem qhG{k n:Nat}{q:Int}(hk:k≠0):((gV n q:Nat):Int)=(k:Int)↔n≠0∧J9 false 0 (n*pT q) (pU q)=k:=by
 unfold gV;by_cases h0:n=0
 · rw[zZ h0];constructor
   · intro h;omega
   · rintro⟨h,_⟩;exact absurd h0 h
 · rw[zP h0];constructor
   · intro h;exact⟨h0,by omega⟩
   · rintro⟨_,h⟩;omega
theorem in_0{N D k n0 n1:Nat}{q:Int}(hk:k≠0)(hn:n0≤10^18)(h1 : -420≤q)(h2:q≤420) :
 JI (inS N D k n0 n1 q 0)=if n0≠0∧J9 false 0 (n0*pT q) (pU q)=k then some (.inr (.ret (.inr (.ret (qaa n0 q)))))else some (.inl (inS N D k n0 n1 q 1)):=by
 obtain⟨z,hz⟩:=fr_v hn h1 h2;have bn:=qqJ hn;have bt:=qtK h2;have m1:=qdc (u:=n0) (v:=pT q) (by omega) (by omega)
 have w:IntKind.i64.wrap (0-q) = -q:=by rw[w64 (n:=0-q) (by omega) (by omega)];omega
 have key:JI (inS N D k n0 n1 q 0)=(bif decide (((gV n0 q:Nat):Int)=(k:Int))then some (.inr (.ret (.inr (.ret (qaa n0 q)))))else some (.inl (inS N D k n0 n1 q 1))):=by
  have e1:JI (inS N D k n0 n1 q 0)=((yf q).bind fun x12=>(y8 (ofN n0,x12)).bind fun x13=>(yf (IntKind.i64.wrap (0-q))).bind fun x14=>(JH (false,x13,x14,(0:Int))).bind fun x15=>(bif(decide (x15.1=(k:Int)))then((Yq (ofN n0)).bind fun x16=>(qbZ (x16,q)).bind fun x17=>some (.inr (.ret (.inr (.ret x17)))))else some (.inl (inS N D k n0 n1 q 1)))):=rfl
  rw[e1,w];refine obs (qqG (by omega)) (obs m1 (obs (qqH (by omega)) (obs hz ?_)))
  rw[tx_v hn,zk,tr_v hn h1 h2,zk]
 rw[key,YR];by_cases h:((gV n0 q:Nat):Int)=(k:Int)
 · rw[zZ h,zZ ((qhG hk).1 h)]
 · rw[zP h,zP (fun h'=>h ((qhG hk).2 h'))]
theorem in_1{N D k n0 n1:Nat}{q:Int}(hk:k≠0)(hn:n1≤10^18)(h1 : -420≤q)(h2:q≤420) :
 JI (inS N D k n0 n1 q 1)=if n1≠0∧J9 false 0 (n1*pT q) (pU q)=k then some (.inr (.ret (.inr (.ret (qaa n1 q)))))else some (.inl (inS N D k n0 n1 q 2)):=by
 obtain⟨z,hz⟩:=fr_v hn h1 h2;have bn:=qqJ hn;have bt:=qtK h2;have m1:=qdc (u:=n1) (v:=pT q) (by omega) (by omega)
 have w:IntKind.i64.wrap (0-q) = -q:=by rw[w64 (n:=0-q) (by omega) (by omega)];omega
 have key:JI (inS N D k n0 n1 q 1)=(bif decide (((gV n1 q:Nat):Int)=(k:Int))then some (.inr (.ret (.inr (.ret (qaa n1 q)))))else some (.inl (inS N D k n0 n1 q 2))):=by
  have e1:JI (inS N D k n0 n1 q 1)=((yf q).bind fun x12=>(y8 (ofN n1,x12)).bind fun x13=>(yf (IntKind.i64.wrap (0-q))).bind fun x14=>(JH (false,x13,x14,(0:Int))).bind fun x15=>(bif(decide (x15.1=(k:Int)))then((Yq (ofN n1)).bind fun x16=>(qbZ (x16,q)).bind fun x17=>some (.inr (.ret (.inr (.ret x17)))))else some (.inl (inS N D k n0 n1 q 2)))):=rfl
  rw[e1,w];refine obs (qqG (by omega)) (obs m1 (obs (qqH (by omega)) (obs hz ?_)))
  rw[tx_v hn,zk,tr_v hn h1 h2,zk]
 rw[key,YR];by_cases h:((gV n1 q:Nat):Int)=(k:Int)
 · rw[zZ h,zZ ((qhG hk).1 h)]
 · rw[zP h,zP (fun h'=>h ((qhG hk).2 h'))]
theorem in_2(N D k n0 n1:Nat)(q:Int):JI (inS N D k n0 n1 q 2)=some (.inr (.exit 2 (inS N D k n0 n1 q 2))):=rfl
theorem qws(A B:Nat):nrO A B≤A / B+1:=by unfold nrO;split <;> omega
def ouK(r:Lp InS (OuS ⊕ (Lp OuS (ByteArray×Int)))):Option (OuS ⊕ (Lp OuS (ByteArray×Int))) :=
 match r with
 | .exit i25 p26=>(bif(Nat.beq i25 2)then some (.inl ((IntKind.wrap .i64 (p26.1-1)),p26.2.2.2.2.1,p26.2.2.2.2.2.1,p26.2.2.2.2.2.2.1,()))
  else(bif(Nat.beq i25 1)then some (.inl ((IntKind.wrap .i64 (p26.1-1)),p26.2.2.2.2.1,p26.2.2.2.2.2.1,p26.2.2.2.2.2.2.1,()))else
   some (.inr (.exit i25 (p26.1,p26.2.2.2.2.1,p26.2.2.2.2.2.1,p26.2.2.2.2.2.2.1,())))))
 | .ret o27=>some o27
theorem qmi{N D k:Nat}{p q:Int}(hN:qr N≤1100)(hD:qr D≤1100)(hD0:0<D)(hk:k≠0)(h1 : -400≤q)(h2:q≤400)(hq:q≤p)(hp:p-17≤q)(hv:N*pU (p+1)<pT (p+1)*D) :
 (∃n,IsD k n q∧∀fu,3≤fu→Yr fu (ouS N D k q)=some (.inr (.ret (qaa n q)))) ∨
 (¬(nrN (N*pU q) (D*pT q)≠0∧J9 false 0 (nrN (N*pU q) (D*pT q)*pT q) (pU q)=k)∧∀fu,3≤fu→Yr fu (ouS N D k q)=some (.inl (ouS N D k (q-1)))):=by
 have dn:=qnG (N:=N) (D:=D) (q:=q) (by omega) (by omega) hD0 (by omega) (by omega)
 have ll:=qqE (q:=q) hD0 (by omega) hv
 have l18:10^(p+1-q).toNat≤10^18:=Ka (by decide) (by omega)
 have g0:=qqF (N*pU q) (D*pT q)
 have g1:=qws (N*pU q) (D*pT q)
 generalize N*pU q / (D*pT q)=L at *
 generalize nrN (N*pU q) (D*pT q)=n0 at *
 generalize nrO (N*pU q) (D*pT q)=n1 at *
 have w:IntKind.i64.wrap (q-1)=q-1:=w64 (by omega) (by omega)
 have s0:=in_0 (N:=N) (D:=D) (k:=k) (n0:=n0) (n1:=n1) (q:=q) hk (by omega) (by omega) (by omega)
 have s1:=in_1 (N:=N) (D:=D) (k:=k) (n0:=n0) (n1:=n1) (q:=q) hk (by omega) (by omega) (by omega)
 have s2:=in_2 N D k n0 n1 q;have fin:∀r,Yh 3 JI (inS N D k n0 n1 q 0) r→∀fu,3≤fu→Yr fu (ouS N D k q)=ouK r:=fun r hr fu hfu=>by
  unfold Yr;exact obs dn (obs (hr fu hfu) rfl)
 by_cases c0:n0≠0∧J9 false 0 (n0*pT q) (pU q)=k
 · rw[zZ c0]at s0
   exact .inl ⟨n0,⟨c0.1,by omega,h1,h2,c0.2⟩,fin _ ((Yh.stop (K:=0) s0).up (by omega))⟩
 · rw[zP c0]at s0
   by_cases c1:n1≠0∧J9 false 0 (n1*pT q) (pU q)=k
   · rw[zZ c1]at s1
     exact .inl ⟨n1,⟨c1.1,by omega,h1,h2,c1.2⟩,fin _ ((Yh.next s0 (Yh.stop (K:=0) s1)).up (by omega))⟩
   · rw[zP c1]at s1
     refine .inr ⟨c0,fun fu hfu=>?_⟩
     refine(fin _ (Yh.next s0 (Yh.next s1 (Yh.stop (K:=0) s2))) fu hfu).trans ?_
     show(some (Sum.inl (IntKind.i64.wrap (q-1),(k:Int),ofN N,ofN D,())):Option (OuS ⊕ (Lp OuS (ByteArray×Int))))=_
     rw[w]
theorem qqK{N D k:Nat}{p:Int}(hN:qr N≤1100)(hD:qr D≤1100)(hD0:0<D)(hk:k≠0)(ht:k≤yk)(hp:p≤400)(hp' : -380≤p)(hv:N*pU (p+1)<pT (p+1)*D)
 (hlast:nrN (N*pU (p-17)) (D*pT (p-17))≠0∧J9 false 0 (nrN (N*pU (p-17)) (D*pT (p-17))*pT (p-17)) (pU (p-17))=k) :
 ∀(j:Nat) (q:Int),q=p-17+j→q≤p→∃n q',IsD k n q'∧∀fu,3≤fu→Yh (j+1) (Yr fu) (ouS N D k q) (.ret (qaa n q'))
 | 0,q,h,hq=>by
  have:q=p-17:=by omega
  subst this;rcases qmi hN hD hD0 hk (by omega) (by omega) hq (by omega) hv with⟨n,g1,g2⟩ | ⟨g,_⟩
  · exact⟨n,_,g1,fun fu hfu=>Yh.stop (g2 fu hfu)⟩
  · exact absurd hlast g
 | j+1,q,h,hq=>by
  rcases qmi hN hD hD0 hk (q:=q) (by omega) (by omega) hq (by omega) hv with⟨n,g1,g2⟩ | ⟨_,g⟩
  · exact⟨n,_,g1,fun fu hfu=>(Yh.stop (K:=j+1) (g2 fu hfu)).up (by omega)⟩
  · obtain⟨n,q',e1,e2⟩:=qqK hN hD hD0 hk ht hp hp' hv hlast j (q-1) (by omega) (by omega)
    exact⟨n,q',e1,fun fu hfu=>Yh.next (g fu hfu) (e2 fu hfu)⟩
def DgP(f:Int)(y:ByteArray×Int):Prop :=
 (yg (bK f.toNat)≠2∧yg (bK f.toNat)≠1∧y=(bs [],0)) ∨
 ((yg (bK f.toNat)=2∨yg (bK f.toNat)=1)∧∃n q,IsD (bK f.toNat) n q∧y=qaa n q)
theorem qqL{k:Nat}(h:yg k=2∨yg k=1):k≤yk∧k≠0:=by
 rw[ZZ]at h;unfold yk;revert h
 (repeat' split) <;> omega
theorem qmj{k:Nat}(h:k<9223372036854775808):bK k=k:=KQ h
theorem clsA{f:Int}(hf:inR .u64 f=true):yg (bK (Int.toNat ((qbL f.toNat:Nat):Int)))=yg (bK f.toNat):=by
 rw[zn];unfold qbL;cases qfs (bK f.toNat)with
 | true=>rfl
 | false=>rw[zo,qmj (qpC _)]
theorem qjo{f:Int}{k:Nat}(hk:k=bK f.toNat)(hc:yg k=2∨yg k=1):∃n q,IsD k n q∧∀fu,2000≤fu →
 ((dOf (k:Int)).bind fun x0=>(Len x0.1).bind fun x1=>(Len x0.2).bind fun x2=>
   (itP fu (qaz) ((IntKind.wrap .i64 ((IntKind.wrap .i64 (Int.tdiv (IntKind.wrap .i64 ((IntKind.wrap .i64 (x1-x2))*30103)) 100000))-2)),x0.1,x0.2,())).bind fun x8=>
   (itP fu (Yr fu) (x8.1,(k:Int),x0.1,x0.2,())).bind fun x28=>
   (match x28 with
     | .exit i29 p30=>(bif(Nat.beq i29 0)then none else none)
     | .ret o31=>some o31))=some (qaa n q):=by
 obtain⟨ht,h0⟩:=qqL hc;have of:=qtH (f:=(k:Int)) (k:=k) (by rw[zn,qmj (by unfold yk at ht;omega)]) ht h0
 have bA:=bOfA ht;have bB:=bOfB k;have hD0:=qtF k;have hv:=qwp k;have hA0:ofA k≠0:=Nat.mul_ne_zero (qqC h0) (by have:=zQ (((kE k:Nat):Int)-1074).toNat;omega)
 obtain⟨e,he⟩:∃e,e=(1074-((kE k:Nat):Int)).toNat:=⟨_,rfl⟩
 have eB:ofB k=2^e:=by unfold ofB;rw[he]
 have e1:e≤1099:=by omega
 have lB:qr (ofB k)=e+1:=by rw[eB];exact Q9 e
 have p0l:=qxE hA0 bA e1;have pin:=qxD (d:=(qr (ofA k):Int)-((e+1:Nat):Int)) (by omega) (by have:=jY hA0;omega)
 rw[← eB]at p0l;obtain⟨p,hp⟩:∃p,p=p0 ((qr (ofA k):Int)-((e+1:Nat):Int)):=⟨_,rfl⟩
 rw[← hp]at p0l pin;obtain⟨p',g1,g2,g3,g4,g5⟩:=qqI bA bB hD0 (400-p).toNat p (by omega) (by omega) p0l
 have hfit:pT p'*P75≤2*kV k*pU p':=by
  refine Nat.le_of_mul_le_mul_left (c:=ofB k) ?_ hD0
  have h1:=zF P75 g4;have e1:pT p'*ofB k*P75=ofB k*(pT p'*P75):=by rw[zI (pT p'),zy]
  have e2:ofA k*pU p'*P75=ofB k*(2*kV k*pU p'):=by
   rw[Kz,hv,← zy 2,zI 2 (ofB k),zy (ofB k*2) (kV k),zy (ofB k) 2,zy 2 (kV k)]
  rw[e1,e2]at h1;exact h1
 have hT:=fit hfit;have nn:=qqB (q:=p'-17) ht h0 hD0 hv hT
 have hlast:nrN (ofA k*pU (p'-17)) (ofB k*pT (p'-17))≠0∧J9 false 0 (nrN (ofA k*pU (p'-17)) (ofB k*pT (p'-17))*pT (p'-17)) (pU (p'-17))=k:=by
  have ll:=qqE (q:=p'-17) hD0 (by omega) g5
  have l18:10^(p'+1-(p'-17)).toNat≤10^18:=Ka (by decide) (by omega)
  have g0:=qqF (ofA k*pU (p'-17)) (ofB k*pT (p'-17))
  generalize ofA k*pU (p'-17) / (ofB k*pT (p'-17))=L at *
  generalize nrN (ofA k*pU (p'-17)) (ofB k*pT (p'-17))=n at *
  have hn:n≠0:=fun h=>by
   subst h;rw[Vb]at nn;obtain⟨h1,_,_⟩:=nn;have:=YE (p'-17)
   rcases h1 with h | h | ⟨h,_⟩
   · exact h0 h
   · omega
   · have m:=qmd (k-1)
     have:0<js (k-1):=by rw[m];exact Wp (by omega) (zQ _)
     have:=Wp (YE (p'-17)) this
     omega
  refine⟨hn,?_⟩
  have hm:n*pT (p'-17)≠0:=Nat.mul_ne_zero hn (by have:=qe3 (p'-17);omega)
  have hu:pU (p'-17)≠0:=by have:=YE (p'-17);omega
  have bn:=qqJ (n:=n) (by omega)
  have bt:=qtK (q:=p'-17) (by omega)
  have bu:=bl_u (q:=p'-17) (by omega)
  have bp:=Jr n (pT (p'-17))
  exact qtA (qnF hm hu (by unfold jw;omega) (by unfold jw;omega)) nn rfl (YE _) (YE _)
 obtain⟨n,q,i1,i2⟩:=qqK bA bB hD0 h0 ht (by omega) (by omega) g5 hlast 17 p' (by omega) (by omega)
 refine⟨n,q,i1,fun fu hfu=>?_⟩
 have L1:=qeZ (v:=ofA k) (by omega)
 have L2:=qeZ (v:=ofB k) (by omega)
 have w1:IntKind.i64.wrap (((qr (ofA k):Nat):Int)-((qr (ofB k):Nat):Int))=((qr (ofA k):Nat):Int)-((qr (ofB k):Nat):Int):=w64 (by omega) (by omega)
 have w2:IntKind.i64.wrap (IntKind.i64.wrap (Int.tdiv (IntKind.i64.wrap (IntKind.i64.wrap (((qr (ofA k):Nat):Int)-((qr (ofB k):Nat):Int))*30103)) 100000)-2)=p:=by
  have pe:p=Int.tdiv ((((qr (ofA k):Nat):Int)-((qr (ofB k):Nat):Int))*30103) 100000-2:=by rw[hp,lB];rfl
  rw[w1,w64 (n:=(((qr (ofA k):Nat):Int)-((qr (ofB k):Nat):Int))*30103) (by omega) (by omega)];generalize Int.tdiv ((((qr (ofA k):Nat):Int)-((qr (ofB k):Nat):Int))*30103) 100000=t at *
  rw[w64 (n:=t) (by omega) (by omega),w64 (by omega) (by omega)];exact pe.symm
 refine obs of (obs L1 (obs L2 ?_))
 rw[w2];refine obs (g1 fu (by omega)) (obs (i2 fu (by omega) fu (by omega)) rfl)
theorem qwt(f:Int)(hf:inR .u64 f=true):∃y,(∃m,qkH m f=some y)∧DgP f y:=by
 have cA:=clsA hf;by_cases c2:yg (bK f.toNat)=2
 · obtain⟨ht,_⟩:=qqL (.inl c2)
   have ab:qbL f.toNat=bK f.toNat:=by unfold qbL;rw[qiV.2 (by unfold yk at ht;omega)];rfl
   obtain⟨n,q,h1,h2⟩:=qjo (f:=f) rfl (.inl c2)
   refine⟨_,⟨2000,?_⟩,.inr ⟨.inl c2,n,q,h1,rfl⟩⟩
   unfold qkH;rw[cA,zf (show((yg (bK f.toNat):Nat):Int)=2 by omega),Bool.not_true,zo,ab];exact h2 2000 (zJ _)
 · by_cases c1:yg (bK f.toNat)=1
   · obtain⟨ht,_⟩:=qqL (.inr c1)
     have ab:qbL f.toNat=bK f.toNat:=by unfold qbL;rw[qiV.2 (by unfold yk at ht;omega)];rfl
     obtain⟨n,q,h1,h2⟩:=qjo (f:=f) rfl (.inr c1)
     refine⟨_,⟨2000,?_⟩,.inr ⟨.inr c1,n,q,h1,rfl⟩⟩
     unfold qkH;rw[cA,zp (show¬((yg (bK f.toNat):Nat):Int)=2 by omega),Vx,zd,zf (show((yg (bK f.toNat):Nat):Int)=1 by omega),Bool.not_true,zo,ab];exact h2 2000 (zJ _)
   · refine⟨(bs [],0),⟨0,?_⟩,.inl ⟨c2,c1,rfl⟩⟩
     unfold qkH;rw[cA,zp (show¬((yg (bK f.toNat):Nat):Int)=2 by omega),Vx,zd,zp (show¬((yg (bK f.toNat):Nat):Int)=1 by omega),Vx,zd];rfl
open Classical in
noncomputable def Ya(f:Int):Option (ByteArray×Int):=if h:∃y,(∃m,qkH m f=some y)∧DgP f y then some (choose h)else none
theorem qtL(f:Int)(y:ByteArray×Int)(hg:(d1 (cI .u64)).good f)(h:Ya f=some y):∃n,qkH n f=some y:=by
 unfold Ya at h;split at h
 · rename_i hx
   have:=soi h;subst this
   exact(Classical.choose_spec hx).1
 · cases h
theorem qqM{f:Int}(hf:inR .u64 f=true):∃y,Ya f=some y∧DgP f y:=by
 have hx:=qwt f hf;refine⟨Classical.choose hx,?_,(Classical.choose_spec hx).2⟩
 unfold Ya;rw[dif_pos hx]
end
end Su
end
section
namespace Su
open Go Fly
noncomputable section
end
end Su
end
