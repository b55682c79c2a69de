/-
  What functions of the program compute, in plain Lean, and that the evaluator finds it.
-/
import Derived.Test.YtnegfdebjikfiaaGreatSuXl
set_option linter.unusedVariables false
set_option linter.unusedSimpArgs false
set_option maxRecDepth 10000
section
namespace Su
open Go Fly
noncomputable section
def qBw  (a:(Int×Int)):Option Int :=
 (bif(decide (0<a.1))then
 some (IntKind.wrap .i64 (64+(qn a.1.toNat:Int)))
 else
  some (qn a.2.toNat:Int))
def Z5:(Int×Int×Int×Int×Int×Unit)→Option ((Int×Int×Int×Int×Int×Unit) ⊕ (Lp (Int×Int×Int×Int×Int×Unit) (Int×Int))):=fun p0=>(bif(decide (64≤p0.1))then
 (bif((decide (p0.2.2.1=0))&&true)then
 some (.inr (.ret (p0.2.2.1,(0:Int))))
 else
  some (.inl ((IntKind.wrap .i64 (p0.1-64)),p0.2.2.1,(0:Int),p0.2.2.2.1,p0.2.2.2.2.1,())))
 else
  some (.inr (.exit 0 (p0.1,p0.2.1,p0.2.2.1,p0.2.2.2.1,p0.2.2.2.2.1,()))))
def qBx  (fu:Nat)(a:(Int×Int))(n:Int):Option (Int×Int) :=
 (itP fu (Z5) (n,a.1,a.2,(0:Int),(0:Int),())).bind fun x1=>
 (match x1 with
 | .exit i2 p3=>(bif(Nat.beq i2 0)then
  (bif(decide (p3.1≤0))then
  some (p3.2.1,p3.2.2.1)
 else
  (bif(decide (0≤p3.1))then
  (bif(decide (0≤(IntKind.wrap .i64 (64-p3.1))))then
  (bif(decide (0≤p3.1))then
  some ((Fly.qz Go.BinOp.or .u64 (IntKind.wrap .u64 (p3.2.1*(2^(min p3.1.toNat 64)))) (Int.fdiv p3.2.2.1 (2^(min (Int.toNat (IntKind.wrap .i64 (64-p3.1))) 64)))),(IntKind.wrap .u64 (p3.2.2.1*(2^(min p3.1.toNat 64)))))
 else none)
 else none)
 else none))
 else none)
 | .ret o4=>some o4)
def qbF:(Int×Bool×Int×Int×Int×Int×Unit)→Option ((Int×Bool×Int×Int×Int×Int×Unit) ⊕ (Lp (Int×Bool×Int×Int×Int×Int×Unit) ((Int×Int)×Bool))):=fun p0=>(bif(decide (64≤p0.1))then
 (bif p0.2.1 then
 (bif(true&&((decide (p0.2.2.1=0))&&true))then
 some (.inr (.ret (((0:Int),p0.2.2.1),true)))
 else
  some (.inl ((IntKind.wrap .i64 (p0.1-64)),true,(0:Int),p0.2.2.1,p0.2.2.2.2.1,p0.2.2.2.2.2.1,())))
 else
  (bif(true&&((decide (p0.2.2.1=0))&&true))then
  some (.inr (.ret (((0:Int),p0.2.2.1),(!(decide (p0.2.2.2.1=0))))))
 else
  some (.inl ((IntKind.wrap .i64 (p0.1-64)),(!(decide (p0.2.2.2.1=0))),(0:Int),p0.2.2.1,p0.2.2.2.2.1,p0.2.2.2.2.2.1,()))))
 else
  some (.inr (.exit 0 (p0.1,p0.2.1,p0.2.2.1,p0.2.2.2.1,p0.2.2.2.2.1,p0.2.2.2.2.2.1,()))))
def qBy  (fu:Nat)(a:(Int×Int))(n:Int):Option ((Int×Int)×Bool) :=
 (itP fu (qbF) (n,false,a.1,a.2,(0:Int),(0:Int),())).bind fun x1=>
 (match x1 with
 | .exit i2 p3=>(bif(Nat.beq i2 0)then
  (bif(decide (p3.1≤0))then
  some ((p3.2.2.1,p3.2.2.2.1),p3.2.1)
 else
  (bif(decide (0≤p3.1))then
  (bif(decide (0≤p3.1))then
  (bif(decide (0≤(IntKind.wrap .i64 (64-p3.1))))then
  (bif p3.2.1 then
  some (((Int.fdiv p3.2.2.1 (2^(min p3.1.toNat 64))),(Fly.qz Go.BinOp.or .u64 (Int.fdiv p3.2.2.2.1 (2^(min p3.1.toNat 64))) (IntKind.wrap .u64 (p3.2.2.1*(2^(min (Int.toNat (IntKind.wrap .i64 (64-p3.1))) 64)))))),true)
 else
  (bif(decide (0≤(IntKind.wrap .i64 (64-p3.1))))then
  some (((Int.fdiv p3.2.2.1 (2^(min p3.1.toNat 64))),(Fly.qz Go.BinOp.or .u64 (Int.fdiv p3.2.2.2.1 (2^(min p3.1.toNat 64))) (IntKind.wrap .u64 (p3.2.2.1*(2^(min (Int.toNat (IntKind.wrap .i64 (64-p3.1))) 64)))))),(!(decide ((IntKind.wrap .u64 (p3.2.2.2.1*(2^(min (Int.toNat (IntKind.wrap .i64 (64-p3.1))) 64))))=0))))
 else none))
 else none)
 else none)
 else none))
 else none)
 | .ret o4=>some o4)
def qrW(a:Int×Int):Option Int:=some (qn (qd a):Int)
theorem qxq(a:Int×Int)(y:Int)(hg:(d1 cW).good a)(h:qrW a=some y):qBw a=some y:=by
 obtain⟨a,b⟩:=a;obtain⟨ha,hb⟩:=hg;obtain⟨A,rfl,hA⟩:=qG ha;obtain⟨B,rfl,hB⟩:=qG hb;have:=soi h;subst this
 unfold qBw;rw[yR];simp only[zm];have hbA:qn A≤64:=Qn.2 (by simpa using hA)
 by_cases h0:0<A
 · rw[zd (show(0:Int)<(A:Int) by omega),zf,w64 (by omega) (by omega)]
   have:=qe3 (n:=A*18446744073709551616+B) (k:=64) (by omega)
   rw[this,show(A*18446744073709551616+B) / 2^64=A by omega];rfl
 · have:A=0:=by omega
   subst this;rw[zh (by decide),zi,Vg,Kk]
def qrX(p:(Int×Int)×Int):Option (Int×Int):=some (hiW (2^p.2.toNat*qd p.1),loW (2^p.2.toNat*qd p.1))
def qrY(p:(Int×Int)×Int):Option ((Int×Int)×Bool):=some ((hiW (qd p.1 / 2^p.2.toNat),loW (qd p.1 / 2^p.2.toNat)),!Nat.beq (qd p.1 % 2^p.2.toNat) 0)
theorem qrZ(n:Nat)(h0:64≤n)(h:n<9223372036854775808):IntKind.i64.wrap ((n:Int)-64)=((n-64:Nat):Int):=by rw[w64 (by omega) (by omega)];omega
theorem qnx(H L r:Nat)(hr:r<64)(hH:H<18446744073709551616)(hL:L<18446744073709551616) :
 (bif decide ((r:Int)≤0)then some ((H:Int),(L:Int))else bif decide ((0:Int)≤(r:Int))then bif decide ((0:Int)≤IntKind.i64.wrap (64-(r:Int)))then bif decide ((0:Int)≤(r:Int))then
   some ((qz .or .u64 (IntKind.u64.wrap ((H:Int)*2^(min (r:Int).toNat 64))) (Int.fdiv (L:Int) (2^(min (IntKind.i64.wrap (64-(r:Int))).toNat 64)))),IntKind.u64.wrap ((L:Int)*2^(min (r:Int).toNat 64)))else none else none else none)
 = some (hiW ((H*18446744073709551616+L)*2^r),loW ((H*18446744073709551616+L)*2^r)):=by
 obtain⟨c1,c2⟩:=qrN H L r (by omega) hL
 by_cases h0:r=0
 · subst h0
   rw[zd (by decide),zf];unfold hiW loW;rw[KH,Wo]
   congr 2 <;> congr 1 <;> omega
 · have e1:IntKind.i64.wrap (64-(r:Int))=((64-r:Nat):Int):=by rw[w64 (by omega) (by omega)];omega
   have e2:∀x:Nat,IntKind.u64.wrap ((x:Int)*2^r)=((x*2^r % 18446744073709551616:Nat):Int):=fun x=>by
    rw[qe1,show((2:Int)^r)=((2^r:Nat):Int) by simp,← Vc];rfl
   rw[zh (by omega),zi,zd (by omega),zf,e1,zd (by omega),zf,zf];simp only[zm,Vb (show r≤64 by omega),Vb (show 64-r≤64 by omega),e2,yQ];have l1:L / 2^(64-r)<18446744073709551616:=VA (Wy _ _) hL
   rw[qbA _ _ (Vo _ (by decide)) l1,c1,c2];rfl
theorem qny{X Y:Nat}(h:X % 340282366920938463463374607431768211456=0):hiW (X+Y)=hiW Y:=by unfold hiW;congr 1;omega
theorem qnz{X Y:Nat}(h:X % 340282366920938463463374607431768211456=0):loW (X+Y)=loW Y:=by unfold loW;congr 1;omega
theorem qxr(p:(Int×Int)×Int)(y:Int×Int)(hg:(dc cW (d1 (cI .i64))).good p)(h:qrX p=some y):∃n,qBx n p.1 p.2=some y:=by
 obtain⟨⟨a,b⟩,n⟩:=p;obtain⟨⟨ha,hb⟩,hn⟩:=hg;obtain⟨A,rfl,hA⟩:=qG ha;obtain⟨B,rfl,hB⟩:=qG hb;have hn:=qbv.1 hn;have:=soi h;subst this
 refine⟨3,?_⟩
 unfold qBx;rw[Kw (2^_)];rw[yR];simp only[zm];by_cases hneg:n<64
 · -- no round
   simp only[qu,Z5];rw[zh (by omega)];simp only[zi,zj];rw[show Nat.beq 0 0=true from rfl,zf];by_cases h0:n≤0
   · rw[zd h0,zf]
     have:n.toNat=0:=by omega
     rw[this,KH,Wo];unfold hiW loW
     congr 2 <;> congr 1 <;> omega
   · obtain⟨r,rfl⟩:∃r:Nat,n=(r:Int):=⟨n.toNat,by omega⟩
     rw[zm];exact qnx A B r (by omega) hA hB
 · obtain⟨N,rfl⟩:∃N:Nat,n=(N:Int):=⟨n.toNat,by omega⟩
   have hN:64≤N:=by omega
   rw[zm];have d0:decide ((64:Int)≤(N:Int))=true:=zd (by omega)
   obtain⟨X,hX0,hv⟩:∃X,X % 340282366920938463463374607431768211456=0∧(A*18446744073709551616+B)*2^N=X+(B*18446744073709551616)*2^(N-64):=by
    refine⟨A*2^(N-64)*340282366920938463463374607431768211456,Nat.mul_mod_left _ _,?_⟩
    rw[show N=(N-64)+64 by omega,Kg,show(2^64:Nat)=18446744073709551616 from rfl,Vz];generalize 2^(N-64)=z
    rw[Kp,← zZ,← zZ];rw[VQ A,zZ (A*z),VQ B]
   rw[hv,qny hX0,qnz hX0];by_cases hB0:B=0
   · subst hB0
     rw[qu];simp only[Z5,d0,zf,zj,show decide (((0:Nat):Int)=0)=true from rfl,zW];simp only[Vg];rfl
   · have db:decide ((B:Int)=0)=false:=zh (by omega)
     have es:=qrZ N hN (by omega)
     rw[qu];simp only[Z5,d0,zf,db,Kh,zi,zj,es];by_cases h2:N<128
     · have d1:decide ((64:Int)≤((N-64:Nat):Int))=false:=zh (by omega)
       rw[qu];simp only[Z5,d1,zi,zj];rw[show Nat.beq 0 0=true from rfl,zf];have:=qnx B 0 (N-64) (by omega) hB (by omega)
       rw[Kr]at this;exact this
     · have d1:decide ((64:Int)≤((N-64:Nat):Int))=true:=zd (by omega)
       rw[qu];simp only[Z5,d1,zf,zj];obtain⟨Z,hZ0,hz⟩:∃Z,Z % 340282366920938463463374607431768211456=0∧B*18446744073709551616*2^(N-64)=Z+0:=by
        obtain⟨M,hM⟩:∃M,N-64=M+64:=⟨N-64-64,by omega⟩
        refine⟨B*2^M*340282366920938463463374607431768211456,Nat.mul_mod_left _ _,?_⟩
        rw[hM,Kg,show(2^64:Nat)=18446744073709551616 from rfl,Kr];rw[Nat.mul_mul_mul_comm]
       rw[hz,qny hZ0,qnz hZ0];rfl
theorem qnA(H L r:Nat)(lost:Bool)(hr:r<64)(hH:H<18446744073709551616)(hL:L<18446744073709551616) :
 (bif decide ((r:Int)≤0)then some (((H:Int),(L:Int)),lost)else bif decide ((0:Int)≤(r:Int))then bif decide ((0:Int)≤(r:Int))then bif decide ((0:Int)≤IntKind.i64.wrap (64-(r:Int)))then bif lost then
   some (((Int.fdiv (H:Int) (2^(min (r:Int).toNat 64))),(qz .or .u64 (Int.fdiv (L:Int) (2^(min (r:Int).toNat 64))) (IntKind.u64.wrap ((H:Int)*2^(min (IntKind.i64.wrap (64-(r:Int))).toNat 64))))),true)
   else bif decide ((0:Int)≤IntKind.i64.wrap (64-(r:Int)))then
   some (((Int.fdiv (H:Int) (2^(min (r:Int).toNat 64))),(qz .or .u64 (Int.fdiv (L:Int) (2^(min (r:Int).toNat 64))) (IntKind.u64.wrap ((H:Int)*2^(min (IntKind.i64.wrap (64-(r:Int))).toNat 64))))),(!(decide (IntKind.u64.wrap ((L:Int)*2^(min (IntKind.i64.wrap (64-(r:Int))).toNat 64))=0))))else none else none else none else none)
 = some ((hiW ((H*18446744073709551616+L) / 2^r),loW ((H*18446744073709551616+L) / 2^r)),lost||!Nat.beq ((H*18446744073709551616+L) % 2^r) 0):=by
 obtain⟨c1,c2,c3⟩:=qrO H L r (by omega) hH hL
 by_cases h0:r=0
 · subst h0
   rw[zd (by decide),zf];rw[KH,Wq,Nat.mod_one];unfold hiW loW;have q1:(H*18446744073709551616+L) / 18446744073709551616 % 18446744073709551616=H:=by omega
   have q2:(H*18446744073709551616+L) % 18446744073709551616=L:=by omega
   rw[show(!Nat.beq 0 0)=false from rfl,VY,q1,q2]
 · have e1:IntKind.i64.wrap (64-(r:Int))=((64-r:Nat):Int):=by rw[w64 (by omega) (by omega)];omega
   have e2:∀x k:Nat,IntKind.u64.wrap ((x:Int)*2^k)=((x*2^k % 18446744073709551616:Nat):Int):=fun x k=>by
    rw[qe1,show((2:Int)^k)=((2^k:Nat):Int) by simp,← Vc];rfl
   rw[zh (by omega),zi,zd (by omega),zf,zf,e1,zd (by omega),zf,zf];simp only[zm,Vb (show r≤64 by omega),Vb (show 64-r≤64 by omega),e2,yQ];have l1:L / 2^r<18446744073709551616:=VA (Wy _ _) hL
   rw[qbA _ _ l1 (Vo _ (by decide)),c1,c2];have e3:decide (((L*2^(64-r) % 18446744073709551616:Nat):Int)=0)=Nat.beq ((H*18446744073709551616+L) % 2^r) 0:=by
    rw[beq_dec];by_cases hz:(H*18446744073709551616+L) % 2^r=0
    · rw[zd hz,c3.2 hz];rfl
    · rw[zh hz,zh]
      intro e;exact hz (c3.1 (by omega))
   rw[e3];unfold hiW loW;cases lost with
   | true=>rw[zf,Wd]
   | false=>rw[zi,VE]
theorem qBz(B z c:Nat)(hc:0<c):(!Nat.beq B 0||!Nat.beq z 0) = !Nat.beq (B+c*z) 0:=by
 by_cases hb:B=0
 · by_cases hz:z=0
   · subst hb hz;rw[VS];rfl
   · have:B+c*z≠0:=by have:=Nat.mul_pos hc (show 0<z by omega);omega
     rw[Qy hz,Qy this,zX,WJ]
 · have:B+c*z≠0:=by omega
   rw[Qy hb,Qy this,zX,Wd]
theorem qxs(p:(Int×Int)×Int)(y:(Int×Int)×Bool)(hg:(dc cW (d1 (cI .i64))).good p)(h:qrY p=some y):∃n,qBy n p.1 p.2=some y:=by
 obtain⟨⟨a,b⟩,n⟩:=p;obtain⟨⟨ha,hb⟩,hn⟩:=hg;obtain⟨A,rfl,hA⟩:=qG ha;obtain⟨B,rfl,hB⟩:=qG hb;have hn:=qbv.1 hn;have:=soi h;subst this
 refine⟨3,?_⟩
 unfold qBy;rw[yR];simp only[zm];by_cases hneg:n<64
 · rw[qu]
   simp only[qbF];rw[zh (by omega)];simp only[zi,zj];rw[show Nat.beq 0 0=true from rfl,zf];by_cases h0:n≤0
   · rw[zd h0,zf]
     have:n.toNat=0:=by omega
     rw[this,KH,Wq,Nat.mod_one];unfold hiW loW;have q1:(A*18446744073709551616+B) / 18446744073709551616 % 18446744073709551616=A:=by omega
     have q2:(A*18446744073709551616+B) % 18446744073709551616=B:=by omega
     rw[show(!Nat.beq 0 0)=false from rfl,q1,q2]
   · obtain⟨r,rfl⟩:∃r:Nat,n=(r:Int):=⟨n.toNat,by omega⟩
     rw[zm];have h:=qnA A B r false (by omega) hA hB
     rw[VE]at h;exact h
 · obtain⟨N,rfl⟩:∃N:Nat,n=(N:Int):=⟨n.toNat,by omega⟩
   have hN:64≤N:=by omega
   rw[zm];have d0:decide ((64:Int)≤(N:Int))=true:=zd (by omega)
   have hpow:2^N=18446744073709551616*2^(N-64):=by
    have:N=64+(N-64):=by omega
    conv=>lhs;rw[this]
    rw[Kg]
   have hdiv:(A*18446744073709551616+B) / 2^N=A / 2^(N-64):=by
    rw[hpow,← zQ,show(A*18446744073709551616+B) / 18446744073709551616=A by omega]
   have hmod:(A*18446744073709551616+B) % 2^N=B+18446744073709551616*(A % 2^(N-64)):=by
    rw[hpow,Nat.mod_mul,show(A*18446744073709551616+B) / 18446744073709551616=A by omega,show(A*18446744073709551616+B) % 18446744073709551616=B by omega]
   rw[hdiv,hmod];have es:=qrZ N hN (by omega)
   have dB:decide ((B:Int)=0)=Nat.beq B 0:=by rw[beq_dec];by_cases h:B=0 <;> simp[h]
   have dA:decide ((A:Int)=0)=Nat.beq A 0:=by rw[beq_dec];by_cases h:A=0 <;> simp[h]
   rw[qu];simp only[qbF,d0,zf,zi,es,dA,dB,zK,zL];by_cases hA0:A=0
   · subst hA0
     rw[show Nat.beq 0 0=true from rfl,zf,Nat.zero_div,Nat.zero_mod,VS,Kr];rfl
   · rw[Qy hA0,zi]
     simp only[zj];by_cases h2:N<128
     · have d1:decide ((64:Int)≤((N-64:Nat):Int))=false:=zh (by omega)
       rw[qu];simp only[qbF,d1,zi,zj];rw[show Nat.beq 0 0=true from rfl,zf];have:=qnA 0 A (N-64) (!Nat.beq B 0) (by omega) (by omega) hA
       rw[Vg,Kk]at this;refine Eq.trans this ?_
       rw[qBz B (A % 2^(N-64)) 18446744073709551616 (by decide)]
     · have d1:decide ((64:Int)≤((N-64:Nat):Int))=true:=zd (by omega)
       have hlt:A<2^(N-64):=K9 hA (KK (n:=2) (by omega) (show 64≤N-64 by omega))
       rw[qu,VP hlt,Kq hlt];simp only[qbF,d1,zf,dA,Qy hA0,show decide ((0:Int)=0)=true from rfl,zW,zX];have hz:Nat.beq (B+18446744073709551616*A) 0=false:=Qy (by omega)
       have h1:hiW 0=0:=rfl
       have h2:loW 0=0:=rfl
       rw[hz,h1,h2];cases Nat.beq B 0 with
       | true=>simp only[Kf,zX,V5,zW,zi,zf,zj]
       | false=>simp only[zX,V5,zW,zf,zj]
end
end Su
end
section
namespace Su
open Go Fly
noncomputable section
def rUp  (x:(Bool×Int×Int×Int×Bool))(mode:Int)(odd:Bool)(half:Bool)(rest:Bool):Option Bool :=
 (bif(decide (mode=1))then
 (bif(!x.1)then
 (bif half then
 some true
 else
  some rest)
 else
  (bif(decide (mode=2))then
  (bif x.1 then
  (bif half then
  some true
 else
  some rest)
 else
  (bif(decide (mode=1))then
  (bif x.1 then
  some false
 else
  (bif(decide (mode=2))then
  (bif(!x.1)then
  some false
 else
  (bif half then
  (bif rest then
  some true
 else
  some odd)
 else
  some false))
 else
  (bif half then
  (bif rest then
  some true
 else
  some odd)
 else
  some false)))
 else
  (bif(decide (mode=2))then
  (bif(!x.1)then
  some false
 else
  (bif half then
  (bif rest then
  some true
 else
  some odd)
 else
  some false))
 else
  (bif half then
  (bif rest then
  some true
 else
  some odd)
 else
  some false))))
 else
  (bif(decide (mode=1))then
  (bif x.1 then
  some false
 else
  (bif(decide (mode=2))then
  (bif(!x.1)then
  some false
 else
  (bif half then
  (bif rest then
  some true
 else
  some odd)
 else
  some false))
 else
  (bif half then
  (bif rest then
  some true
 else
  some odd)
 else
  some false)))
 else
  (bif(decide (mode=2))then
  (bif(!x.1)then
  some false
 else
  (bif half then
  (bif rest then
  some true
 else
  some odd)
 else
  some false))
 else
  (bif half then
  (bif rest then
  some true
 else
  some odd)
 else
  some false)))))
 else
  (bif(decide (mode=2))then
  (bif x.1 then
  (bif half then
  some true
 else
  some rest)
 else
  (bif(decide (mode=1))then
  (bif x.1 then
  some false
 else
  (bif(decide (mode=2))then
  (bif(!x.1)then
  some false
 else
  (bif half then
  (bif rest then
  some true
 else
  some odd)
 else
  some false))
 else
  (bif half then
  (bif rest then
  some true
 else
  some odd)
 else
  some false)))
 else
  (bif(decide (mode=2))then
  (bif(!x.1)then
  some false
 else
  (bif half then
  (bif rest then
  some true
 else
  some odd)
 else
  some false))
 else
  (bif half then
  (bif rest then
  some true
 else
  some odd)
 else
  some false))))
 else
  (bif(decide (mode=1))then
  (bif x.1 then
  some false
 else
  (bif(decide (mode=2))then
  (bif(!x.1)then
  some false
 else
  (bif half then
  (bif rest then
  some true
 else
  some odd)
 else
  some false))
 else
  (bif half then
  (bif rest then
  some true
 else
  some odd)
 else
  some false)))
 else
  (bif(decide (mode=2))then
  (bif(!x.1)then
  some false
 else
  (bif half then
  (bif rest then
  some true
 else
  some odd)
 else
  some false))
 else
  (bif half then
  (bif rest then
  some true
 else
  some odd)
 else
  some false)))))
def qr0  (x:(Bool×Int×Int×Int×Bool))(mode:Int):Option (Int×Int) :=
 (bif(decide (mode=1))then
 (bif x.1 then
 some ((IntKind.wrap .u64 (((((sgN x.1)+9218868437227405312):Nat):Int)-1)),(5:Int))
 else
  (bif(decide (mode=2))then
  (bif(!x.1)then
  some ((IntKind.wrap .u64 (((((sgN x.1)+9218868437227405312):Nat):Int)-1)),(5:Int))
 else
  some (((((sgN x.1)+9218868437227405312):Nat):Int),(5:Int)))
 else
  some (((((sgN x.1)+9218868437227405312):Nat):Int),(5:Int))))
 else
  (bif(decide (mode=2))then
  (bif(!x.1)then
  some ((IntKind.wrap .u64 (((((sgN x.1)+9218868437227405312):Nat):Int)-1)),(5:Int))
 else
  some (((((sgN x.1)+9218868437227405312):Nat):Int),(5:Int)))
 else
  some (((((sgN x.1)+9218868437227405312):Nat):Int),(5:Int))))
abbrev qpn:=Bool×(Int×Int×Int×Bool)
def qzV(p:qpn×Int×Bool×Bool×Bool):Option Bool:=some (upN p.1.1 p.2.1 p.2.2.1 p.2.2.2.1 p.2.2.2.2)
theorem qBA(p:qpn×Int×Bool×Bool×Bool)(y:Bool)(hg:(dc qpj (dc (cI .u8) (dc cB (dc cB (d1 cB))))).good p)(h:qzV p=some y):rUp p.1 p.2.1 p.2.2.1 p.2.2.2.1 p.2.2.2.2=some y:=by
 obtain⟨⟨neg,x⟩,mode,odd,half,rest⟩:=p;have:=soi h;subst this
 unfold rUp upN awN twN;simp only[];by_cases h1:mode=1
 · subst h1
   cases neg <;> cases half <;> cases rest <;> cases odd <;> rfl
 · by_cases h2:mode=2
   · subst h2
     cases neg <;> cases half <;> cases rest <;> cases odd <;> rfl
   · rw[zh h1,zh h2]
     cases neg <;> cases half <;> cases rest <;> cases odd <;> rfl
def ovN(neg:Bool)(mode:Int):Nat:=sgN neg+bif twN neg mode then 9218868437227405311 else 9218868437227405312
def qnB(p:qpn×Int):Option (Int×Int):=some ((ovN p.1.1 p.2:Int),5)
theorem qr1(p:qpn×Int)(y:Int×Int)(hg:(dc qpj (d1 (cI .u8))).good p)(h:qnB p=some y):qr0 p.1 p.2=some y:=by
 obtain⟨⟨neg,x⟩,mode⟩:=p;have:=soi h;subst this
 have e:IntKind.u64.wrap (((sgN neg+9218868437227405312:Nat):Int)-1)=((sgN neg+9218868437227405311:Nat):Int):=by
  have:sgN neg≤9223372036854775808:=by unfold sgN;cases neg <;> simp
  rw[Jv (by omega) (by omega)];omega
 unfold qr0 ovN twN;simp only[e];generalize sgN neg=z
 have d11:decide ((1:Int)=1)=true:=rfl
 have d12:decide ((1:Int)=2)=false:=rfl
 have d21:decide ((2:Int)=1)=false:=rfl
 have d22:decide ((2:Int)=2)=true:=rfl
 by_cases h1:mode=1
 · subst h1
   rw[d11,d12];cases neg <;> simp only[zf,zi]
 · by_cases h2:mode=2
   · subst h2
     rw[d21,d22];cases neg <;> simp only[zf,zi,Kf,zX]
   · rw[zh h1,zh h2]
     cases neg <;> simp only[zf,zi]
end
end Su
end
section
namespace Su
open Go Fly
noncomputable section
def ql1  (x:(Bool×Int×Int×Int×Bool))(mode:Int):Option (Int×Int) :=
 (bif(decide (0<(IntKind.wrap .i64 ((max (IntKind.wrap .i64 ((IntKind.wrap .i64 ((((qn (qd (x.2.1,x.2.2.1))):Nat):Int)-53))+x.2.2.2.1)) (-1074))-x.2.2.2.1))))then
 (bif x.2.2.2.2 then
 some (mode,(((qn (qd (x.2.1,x.2.2.1))):Nat):Int),(max (IntKind.wrap .i64 ((IntKind.wrap .i64 ((((qn (qd (x.2.1,x.2.2.1))):Nat):Int)-53))+x.2.2.2.1)) (-1074)),(decide ((Fly.qz Go.BinOp.and .u64 (loW ((qd (x.2.1,x.2.2.1)) / (2^(Int.toNat (IntKind.wrap .i64 ((IntKind.wrap .i64 ((max (IntKind.wrap .i64 ((IntKind.wrap .i64 ((((qn (qd (x.2.1,x.2.2.1))):Nat):Int)-53))+x.2.2.2.1)) (-1074))-x.2.2.2.1))-1)))))) 1)=1)),true,x.1,x.2.1,x.2.2.1,x.2.2.2.1,x.2.2.2.2,(hiW ((qd ((hiW ((qd (x.2.1,x.2.2.1)) / (2^(Int.toNat (IntKind.wrap .i64 ((IntKind.wrap .i64 ((max (IntKind.wrap .i64 ((IntKind.wrap .i64 ((((qn (qd (x.2.1,x.2.2.1))):Nat):Int)-53))+x.2.2.2.1)) (-1074))-x.2.2.2.1))-1)))))),(loW ((qd (x.2.1,x.2.2.1)) / (2^(Int.toNat (IntKind.wrap .i64 ((IntKind.wrap .i64 ((max (IntKind.wrap .i64 ((IntKind.wrap .i64 ((((qn (qd (x.2.1,x.2.2.1))):Nat):Int)-53))+x.2.2.2.1)) (-1074))-x.2.2.2.1))-1)))))))) / (2^(Int.toNat 1)))),(loW ((qd ((hiW ((qd (x.2.1,x.2.2.1)) / (2^(Int.toNat (IntKind.wrap .i64 ((IntKind.wrap .i64 ((max (IntKind.wrap .i64 ((IntKind.wrap .i64 ((((qn (qd (x.2.1,x.2.2.1))):Nat):Int)-53))+x.2.2.2.1)) (-1074))-x.2.2.2.1))-1)))))),(loW ((qd (x.2.1,x.2.2.1)) / (2^(Int.toNat (IntKind.wrap .i64 ((IntKind.wrap .i64 ((max (IntKind.wrap .i64 ((IntKind.wrap .i64 ((((qn (qd (x.2.1,x.2.2.1))):Nat):Int)-53))+x.2.2.2.1)) (-1074))-x.2.2.2.1))-1)))))))) / (2^(Int.toNat 1)))),())
 else
  some (mode,(((qn (qd (x.2.1,x.2.2.1))):Nat):Int),(max (IntKind.wrap .i64 ((IntKind.wrap .i64 ((((qn (qd (x.2.1,x.2.2.1))):Nat):Int)-53))+x.2.2.2.1)) (-1074)),(decide ((Fly.qz Go.BinOp.and .u64 (loW ((qd (x.2.1,x.2.2.1)) / (2^(Int.toNat (IntKind.wrap .i64 ((IntKind.wrap .i64 ((max (IntKind.wrap .i64 ((IntKind.wrap .i64 ((((qn (qd (x.2.1,x.2.2.1))):Nat):Int)-53))+x.2.2.2.1)) (-1074))-x.2.2.2.1))-1)))))) 1)=1)),(!(Nat.beq ((qd (x.2.1,x.2.2.1)) % (2^(Int.toNat (IntKind.wrap .i64 ((IntKind.wrap .i64 ((max (IntKind.wrap .i64 ((IntKind.wrap .i64 ((((qn (qd (x.2.1,x.2.2.1))):Nat):Int)-53))+x.2.2.2.1)) (-1074))-x.2.2.2.1))-1))))) 0)),x.1,x.2.1,x.2.2.1,x.2.2.2.1,x.2.2.2.2,(hiW ((qd ((hiW ((qd (x.2.1,x.2.2.1)) / (2^(Int.toNat (IntKind.wrap .i64 ((IntKind.wrap .i64 ((max (IntKind.wrap .i64 ((IntKind.wrap .i64 ((((qn (qd (x.2.1,x.2.2.1))):Nat):Int)-53))+x.2.2.2.1)) (-1074))-x.2.2.2.1))-1)))))),(loW ((qd (x.2.1,x.2.2.1)) / (2^(Int.toNat (IntKind.wrap .i64 ((IntKind.wrap .i64 ((max (IntKind.wrap .i64 ((IntKind.wrap .i64 ((((qn (qd (x.2.1,x.2.2.1))):Nat):Int)-53))+x.2.2.2.1)) (-1074))-x.2.2.2.1))-1)))))))) / (2^(Int.toNat 1)))),(loW ((qd ((hiW ((qd (x.2.1,x.2.2.1)) / (2^(Int.toNat (IntKind.wrap .i64 ((IntKind.wrap .i64 ((max (IntKind.wrap .i64 ((IntKind.wrap .i64 ((((qn (qd (x.2.1,x.2.2.1))):Nat):Int)-53))+x.2.2.2.1)) (-1074))-x.2.2.2.1))-1)))))),(loW ((qd (x.2.1,x.2.2.1)) / (2^(Int.toNat (IntKind.wrap .i64 ((IntKind.wrap .i64 ((max (IntKind.wrap .i64 ((IntKind.wrap .i64 ((((qn (qd (x.2.1,x.2.2.1))):Nat):Int)-53))+x.2.2.2.1)) (-1074))-x.2.2.2.1))-1)))))))) / (2^(Int.toNat 1)))),()))
 else
  some (mode,(((qn (qd (x.2.1,x.2.2.1))):Nat):Int),(max (IntKind.wrap .i64 ((IntKind.wrap .i64 ((((qn (qd (x.2.1,x.2.2.1))):Nat):Int)-53))+x.2.2.2.1)) (-1074)),false,x.2.2.2.2,x.1,x.2.1,x.2.2.1,x.2.2.2.1,x.2.2.2.2,(hiW ((2^(Int.toNat (IntKind.wrap .i64 (0-(IntKind.wrap .i64 ((max (IntKind.wrap .i64 ((IntKind.wrap .i64 ((((qn (qd (x.2.1,x.2.2.1))):Nat):Int)-53))+x.2.2.2.1)) (-1074))-x.2.2.2.1))))))*(qd (x.2.1,x.2.2.1)))),(loW ((2^(Int.toNat (IntKind.wrap .i64 (0-(IntKind.wrap .i64 ((max (IntKind.wrap .i64 ((IntKind.wrap .i64 ((((qn (qd (x.2.1,x.2.2.1))):Nat):Int)-53))+x.2.2.2.1)) (-1074))-x.2.2.2.1))))))*(qd (x.2.1,x.2.2.1)))),())).bind fun x0=>
  (bif(upN x0.2.2.2.2.2.1 x0.1 (decide ((Fly.qz Go.BinOp.and .u64 x0.2.2.2.2.2.2.2.2.2.2.2.1 1)=1)) x0.2.2.2.1 x0.2.2.2.2.1)then
  some (x0.1,x0.2.1,x0.2.2.1,x0.2.2.2.1,x0.2.2.2.2.1,(IntKind.wrap .u64 (x0.2.2.2.2.2.2.2.2.2.2.2.1+1)),x0.2.2.2.2.2.1,x0.2.2.2.2.2.2.1,x0.2.2.2.2.2.2.2.1,x0.2.2.2.2.2.2.2.2.1,x0.2.2.2.2.2.2.2.2.2.1,x0.2.2.2.2.2.2.2.2.2.2.1,x0.2.2.2.2.2.2.2.2.2.2.2.1,())
 else
  some (x0.1,x0.2.1,x0.2.2.1,x0.2.2.2.1,x0.2.2.2.2.1,x0.2.2.2.2.2.2.2.2.2.2.2.1,x0.2.2.2.2.2.1,x0.2.2.2.2.2.2.1,x0.2.2.2.2.2.2.2.1,x0.2.2.2.2.2.2.2.2.1,x0.2.2.2.2.2.2.2.2.2.1,x0.2.2.2.2.2.2.2.2.2.2.1,x0.2.2.2.2.2.2.2.2.2.2.2.1,())).bind fun x1=>
  (bif(decide (x1.2.2.2.2.2.1=9007199254740992))then
  some (x1.1,x1.2.1,(IntKind.wrap .i64 (x1.2.2.1+1)),x1.2.2.2.1,x1.2.2.2.2.1,(Int.fdiv x1.2.2.2.2.2.1 (2^1)),x1.2.2.2.2.2.2.1,x1.2.2.2.2.2.2.2.1,x1.2.2.2.2.2.2.2.2.1,x1.2.2.2.2.2.2.2.2.2.1,x1.2.2.2.2.2.2.2.2.2.2.1,x1.2.2.2.2.2.2.2.2.2.2.2.1,x1.2.2.2.2.2.2.2.2.2.2.2.2.1,())
 else
  some (x1.1,x1.2.1,x1.2.2.1,x1.2.2.2.1,x1.2.2.2.2.1,x1.2.2.2.2.2.1,x1.2.2.2.2.2.2.1,x1.2.2.2.2.2.2.2.1,x1.2.2.2.2.2.2.2.2.1,x1.2.2.2.2.2.2.2.2.2.1,x1.2.2.2.2.2.2.2.2.2.2.1,x1.2.2.2.2.2.2.2.2.2.2.2.1,x1.2.2.2.2.2.2.2.2.2.2.2.2.1,())).bind fun x2=>
  (bif(decide (971<x2.2.2.1))then
  some ((ovN x2.2.2.2.2.2.2.1 x2.1:Int),(5:Int))
 else
  (bif x2.2.2.2.1 then
  ((bif(decide ((IntKind.wrap .i64 (x2.2.1+x2.2.2.2.2.2.2.2.2.2.1))≤(-1022)))then
  some (x2.1,x2.2.1,x2.2.2.1,x2.2.2.2.1,x2.2.2.2.2.1,x2.2.2.2.2.2.1,(Fly.qz Go.BinOp.or .u8 1 2),x2.2.2.2.2.2.2.1,x2.2.2.2.2.2.2.2.1,x2.2.2.2.2.2.2.2.2.1,x2.2.2.2.2.2.2.2.2.2.1,x2.2.2.2.2.2.2.2.2.2.2.1,x2.2.2.2.2.2.2.2.2.2.2.2.1,x2.2.2.2.2.2.2.2.2.2.2.2.2.1,())
 else
  some (x2.1,x2.2.1,x2.2.2.1,x2.2.2.2.1,x2.2.2.2.2.1,x2.2.2.2.2.2.1,(1:Int),x2.2.2.2.2.2.2.1,x2.2.2.2.2.2.2.2.1,x2.2.2.2.2.2.2.2.2.1,x2.2.2.2.2.2.2.2.2.2.1,x2.2.2.2.2.2.2.2.2.2.2.1,x2.2.2.2.2.2.2.2.2.2.2.2.1,x2.2.2.2.2.2.2.2.2.2.2.2.2.1,())).bind fun x3=>
  some (x3.1,x3.2.1,x3.2.2.1,x3.2.2.2.1,x3.2.2.2.2.1,x3.2.2.2.2.2.1,x3.2.2.2.2.2.2.1,x3.2.2.2.2.2.2.2.1,x3.2.2.2.2.2.2.2.2.1,x3.2.2.2.2.2.2.2.2.2.1,x3.2.2.2.2.2.2.2.2.2.2.1,x3.2.2.2.2.2.2.2.2.2.2.2.1,x3.2.2.2.2.2.2.2.2.2.2.2.2.1,x3.2.2.2.2.2.2.2.2.2.2.2.2.2.1,())).bind fun x4=>
  (bif(decide ((Int.fdiv x4.2.2.2.2.2.1 (2^52))=1))then
  some (x4.1,x4.2.1,x4.2.2.1,x4.2.2.2.1,x4.2.2.2.2.1,x4.2.2.2.2.2.1,x4.2.2.2.2.2.2.1,(IntKind.wrap .i64 ((IntKind.wrap .i64 (x4.2.2.1-(-1074)))+1)),x4.2.2.2.2.2.2.2.1,x4.2.2.2.2.2.2.2.2.1,x4.2.2.2.2.2.2.2.2.2.1,x4.2.2.2.2.2.2.2.2.2.2.1,x4.2.2.2.2.2.2.2.2.2.2.2.1,x4.2.2.2.2.2.2.2.2.2.2.2.2.1,x4.2.2.2.2.2.2.2.2.2.2.2.2.2.1,())
 else
  some (x4.1,x4.2.1,x4.2.2.1,x4.2.2.2.1,x4.2.2.2.2.1,x4.2.2.2.2.2.1,x4.2.2.2.2.2.2.1,(0:Int),x4.2.2.2.2.2.2.2.1,x4.2.2.2.2.2.2.2.2.1,x4.2.2.2.2.2.2.2.2.2.1,x4.2.2.2.2.2.2.2.2.2.2.1,x4.2.2.2.2.2.2.2.2.2.2.2.1,x4.2.2.2.2.2.2.2.2.2.2.2.2.1,x4.2.2.2.2.2.2.2.2.2.2.2.2.2.1,())).bind fun x5=>
  (YH (x5.2.2.2.2.2.2.2.2.1,x5.2.2.2.2.2.2.2.1,(Fly.qz Go.BinOp.and .u64 x5.2.2.2.2.2.1 4503599627370495))).bind fun x6=>
  some (x6.1,x5.2.2.2.2.2.2.1)
 else
  (bif x2.2.2.2.2.1 then
  (bif(decide ((IntKind.wrap .i64 (x2.2.1+x2.2.2.2.2.2.2.2.2.2.1))≤(-1022)))then
  some (x2.1,x2.2.1,x2.2.2.1,x2.2.2.2.1,x2.2.2.2.2.1,x2.2.2.2.2.2.1,(Fly.qz Go.BinOp.or .u8 1 2),x2.2.2.2.2.2.2.1,x2.2.2.2.2.2.2.2.1,x2.2.2.2.2.2.2.2.2.1,x2.2.2.2.2.2.2.2.2.2.1,x2.2.2.2.2.2.2.2.2.2.2.1,x2.2.2.2.2.2.2.2.2.2.2.2.1,x2.2.2.2.2.2.2.2.2.2.2.2.2.1,())
 else
  some (x2.1,x2.2.1,x2.2.2.1,x2.2.2.2.1,x2.2.2.2.2.1,x2.2.2.2.2.2.1,(1:Int),x2.2.2.2.2.2.2.1,x2.2.2.2.2.2.2.2.1,x2.2.2.2.2.2.2.2.2.1,x2.2.2.2.2.2.2.2.2.2.1,x2.2.2.2.2.2.2.2.2.2.2.1,x2.2.2.2.2.2.2.2.2.2.2.2.1,x2.2.2.2.2.2.2.2.2.2.2.2.2.1,())).bind fun x7=>
  some (x7.1,x7.2.1,x7.2.2.1,x7.2.2.2.1,x7.2.2.2.2.1,x7.2.2.2.2.2.1,x7.2.2.2.2.2.2.1,x7.2.2.2.2.2.2.2.1,x7.2.2.2.2.2.2.2.2.1,x7.2.2.2.2.2.2.2.2.2.1,x7.2.2.2.2.2.2.2.2.2.2.1,x7.2.2.2.2.2.2.2.2.2.2.2.1,x7.2.2.2.2.2.2.2.2.2.2.2.2.1,x7.2.2.2.2.2.2.2.2.2.2.2.2.2.1,())
 else
  some (x2.1,x2.2.1,x2.2.2.1,x2.2.2.2.1,x2.2.2.2.2.1,x2.2.2.2.2.2.1,(0:Int),x2.2.2.2.2.2.2.1,x2.2.2.2.2.2.2.2.1,x2.2.2.2.2.2.2.2.2.1,x2.2.2.2.2.2.2.2.2.2.1,x2.2.2.2.2.2.2.2.2.2.2.1,x2.2.2.2.2.2.2.2.2.2.2.2.1,x2.2.2.2.2.2.2.2.2.2.2.2.2.1,())).bind fun x8=>
  (bif(decide ((Int.fdiv x8.2.2.2.2.2.1 (2^52))=1))then
  some (x8.1,x8.2.1,x8.2.2.1,x8.2.2.2.1,x8.2.2.2.2.1,x8.2.2.2.2.2.1,x8.2.2.2.2.2.2.1,(IntKind.wrap .i64 ((IntKind.wrap .i64 (x8.2.2.1-(-1074)))+1)),x8.2.2.2.2.2.2.2.1,x8.2.2.2.2.2.2.2.2.1,x8.2.2.2.2.2.2.2.2.2.1,x8.2.2.2.2.2.2.2.2.2.2.1,x8.2.2.2.2.2.2.2.2.2.2.2.1,x8.2.2.2.2.2.2.2.2.2.2.2.2.1,x8.2.2.2.2.2.2.2.2.2.2.2.2.2.1,())
 else
  some (x8.1,x8.2.1,x8.2.2.1,x8.2.2.2.1,x8.2.2.2.2.1,x8.2.2.2.2.2.1,x8.2.2.2.2.2.2.1,(0:Int),x8.2.2.2.2.2.2.2.1,x8.2.2.2.2.2.2.2.2.1,x8.2.2.2.2.2.2.2.2.2.1,x8.2.2.2.2.2.2.2.2.2.2.1,x8.2.2.2.2.2.2.2.2.2.2.2.1,x8.2.2.2.2.2.2.2.2.2.2.2.2.1,x8.2.2.2.2.2.2.2.2.2.2.2.2.2.1,())).bind fun x9=>
  (YH (x9.2.2.2.2.2.2.2.2.1,x9.2.2.2.2.2.2.2.1,(Fly.qz Go.BinOp.and .u64 x9.2.2.2.2.2.1 4503599627370495))).bind fun x10=>
  some (x10.1,x9.2.2.2.2.2.2.1)))
def flN(neg:Bool)(mode:Int)(M E:Nat)(rest sm:Bool):Int :=
 bif Nat.ble (qp M E+(upN neg mode (qO M E % 2 == 1) (hfN M E) (rest||rsN M E)).toNat) qU then(bif hfN M E||(rest||rsN M E)then(bif sm then 3 else 1)else 0)else 5
def Yb(p:qpn×Int):Option (Int×Int) :=
 bif !Nat.beq (qd (p.1.2.1,p.1.2.2.1)) 0&&(decide (-5000≤p.1.2.2.2.1)&&decide (p.1.2.2.2.1≤5000))then
  some ((RN p.1.1 p.2 (qd (p.1.2.1,p.1.2.2.1)) (p.1.2.2.2.1+6000).toNat p.1.2.2.2.2:Int),flN p.1.1 p.2 (qd (p.1.2.1,p.1.2.2.1)) (p.1.2.2.2.1+6000).toNat p.1.2.2.2.2 (decide ((qn (qd (p.1.2.1,p.1.2.2.1)):Int)+p.1.2.2.2.1≤-1022)))
 else none
theorem qBB{X:Nat}(h:X<340282366920938463463374607431768211456):qd (hiW X,loW X)=X:=by
 rw[yR];unfold hiW loW;simp only[zm];omega
theorem qbG{X:Nat}(h:X<18446744073709551616):loW X=(X:Int):=by unfold loW;rw[Kq h]
theorem qe5{X:Nat}(h:X<18446744073709551616):hiW X=0:=by unfold hiW;rw[VP h];rfl
theorem bit0(X:Nat):decide (qz .and .u64 (loW X) 1=1)=(X % 2 == 1):=by
 have h:=YG (X % 18446744073709551616) 1 1 rfl (Vo _ (by decide)) (by decide)
 unfold loW;rw[show(1:Int)=((1:Nat):Int) from rfl,h,Jq];have:X % 18446744073709551616 % 2^1=X % 2:=by omega
 rw[this];by_cases hx:X % 2=1 <;> simp[hx]
theorem qEi(w:Nat)(hw:w<18446744073709551616):decide (qz .and .u64 (w:Int) 1=1)=(w % 2 == 1):=by
 have:=bit0 w
 rwa [qbG hw]at this
theorem qpo(p:qpn×Int)(y:Int×Int)(hg:(dc qpj (d1 (cI .u8))).good p)(h:Yb p=some y):ql1 p.1 p.2=some y:=by
 obtain⟨⟨neg,hi,lo,e,rest⟩,mode⟩:=p;obtain⟨⟨_,hhi,hlo,he,_⟩,_⟩:=hg;obtain⟨H,rfl,hH⟩:=qG hhi;obtain⟨L,rfl,hL⟩:=qG hlo;obtain⟨hguard,h⟩:=qj h;have:=soi h;subst this
 simp only[zl,Ky,zy]at hguard;obtain⟨hM0,he1,he2⟩:=hguard;unfold ql1;simp only[]at *
 obtain⟨M,hM⟩:∃M,M=qd ((H:Int),(L:Int)):=⟨_,rfl⟩
 rw[← hM]at hM0 ⊢;have hMlt:M<340282366920938463463374607431768211456:=by rw[hM,yR];simp only[zm];omega
 have hMne:M≠0:=fun e=>by rw[e]at hM0;simp at hM0
 have hbl:qn M≤128:=Qn.2 hMlt
 have hbp:=Jm hMne;obtain⟨E,hE⟩:∃E:Nat,(e+6000).toNat=E:=⟨_,rfl⟩
 have hEe:e=(E:Int)-6000:=by omega
 rw[hE];have hSH:=qbx;obtain⟨Q,hQ⟩:∃Q,qN M E=Q:=⟨_,rfl⟩
 have hQv:Q=qn M+E-53-4926:=by rw[← hQ];unfold qN;rw[hSH]
 have q0:IntKind.i64.wrap (IntKind.i64.wrap ((qn M:Int)-53)+e)=(qn M:Int)-53+e:=by
  rw[w64 (n:=(qn M:Int)-53) (by omega) (by omega),w64 (by omega) (by omega)]
 have qv:max ((qn M:Int)-53+e) (-1074)=(Q:Int)-1074:=by omega
 have hdv:IntKind.i64.wrap ((Q:Int)-1074-e)=(Q:Int)+4926-E:=by rw[w64 (by omega) (by omega)];omega
 rw[q0,qv,hdv];have hkl:=qby M E;have hkg:=qbz (E:=E) hMne
 rw[hQ]at hkg;have hDN:dN M E=Q+4926-E:=by unfold dN;rw[hQ,hSH]
 -- the first part
 refine obs (t:=(mode,(qn M:Int),(Q:Int)-1074,hfN M E,(rest||rsN M E),neg,(H:Int),(L:Int),e,rest,(0:Int),((qO M E:Nat):Int),())) ?_ ?_
 · by_cases hd:(0:Int)<(Q:Int)+4926-E
   · obtain⟨D,hD⟩:∃D,dN M E=D+1:=⟨dN M E-1,by omega⟩
     have e1:IntKind.i64.wrap ((Q:Int)+4926-E-1)=(D:Int):=by rw[w64 (by omega) (by omega)];omega
     have e2:hfN M E=(M / 2^D % 2 == 1):=by unfold hfN;rw[hD];rfl
     have e3:rsN M E = !(M % 2^D == 0):=by unfold rsN;rw[hD];rfl
     have e4:qO M E=M / 2^D / 2:=by
      unfold qO;rw[hQ,hSH,show E-(Q+4926)=0 by omega,show Q+4926-E=D+1 by omega,KH,Wo,VG,zQ]
     have hX:M / 2^D<340282366920938463463374607431768211456:=VA (Wy _ _) hMlt
     have e5:∀x:Nat,(x == 0)=Nat.beq x 0:=fun x=>by rw[beq_dec];rfl
     rw[zd hd,zf,e1,zm,bit0,qBB hX,e2,e3,e5,e4];have e6:M / 2^D / 2^Int.toNat 1=M / 2^D / 2:=by rw[Int.toNat_one,Nat.pow_one]
     rw[e4]at hkl;cases rest with
     | true=>
      rw[zf,Wd,e6,qbG (by omega),qe5 (by omega)]
     | false=>
      rw[zi,VE,e6,qbG (by omega),qe5 (by omega)]
   · have hD:dN M E=0:=by omega
     have e1:IntKind.i64.wrap (0-((Q:Int)+4926-E))=((E-(Q+4926):Nat):Int):=by rw[w64 (by omega) (by omega)];omega
     have e2:hfN M E=false:=by unfold hfN;rw[hD];rfl
     have e3:rsN M E=false:=by unfold rsN;rw[hD];rfl
     have e4:qO M E=M*2^(E-(Q+4926)):=by
      unfold qO;rw[hQ,hSH,show Q+4926-E=0 by omega,KH,Wq]
     rw[zh hd,zi,e1,zm,e2,e3,e4,VY,Kw (2^_)];rw[e4]at hkl;rw[qbG (by omega),qe5 (by omega)]
 · -- up or not
   simp only[];obtain⟨u,hu⟩:∃u,upN neg mode (qO M E % 2 == 1) (hfN M E) (rest||rsN M E)=u:=⟨_,rfl⟩
   rw[qEi _ (by omega),hu];obtain⟨w,hw⟩:∃w,qO M E=w:=⟨_,rfl⟩
   have hfl:qp M E=Q*4503599627370496+w:=by rw[Qd,hQ,hw]
   have hRN:RN neg mode M E rest=sgN neg+Jn (twN neg mode) (Q*4503599627370496+w+u.toNat):=by
    unfold RN;rw[hM0,zi,hu,hfl]
   have hflN:∀sm,flN neg mode M E rest sm=(bif Nat.ble (Q*4503599627370496+w+u.toNat) qU then(bif hfN M E||(rest||rsN M E)then(bif sm then 3 else 1)else 0)else 5):=fun sm=>by
    unfold flN;rw[hu,hfl]
   rw[hRN,hflN,hw];rw[hw]at hkl hkg;generalize hfN M E=hf
   generalize (rest||rsN M E)=rs
   refine obs (t:=(mode,(qn M:Int),(Q:Int)-1074,hf,rs,((w+u.toNat:Nat):Int),neg,(H:Int),(L:Int),e,rest,(0:Int),(w:Int),())) ?_ ?_
   · cases u with
     | true=>rw[zf,Jv (by omega) (by omega)];rfl
     | false=>rw[zi];rfl
   · simp only[]
     have hu1:u.toNat≤1:=by cases u <;> decide
     obtain⟨w1,hw1⟩:∃w1,w+u.toNat=w1:=⟨_,rfl⟩
     rw[KD,hw1];have hw1l:w1≤9007199254740992:=by omega
     have hw1g:4503599627370496≤w1∨Q=0:=by rcases hkg with h | h;exact .inl (by omega);exact .inr h
     -- normalized
     obtain⟨Q2,w2,hK,hw2,hw2g,hQ2,hn⟩:∃Q2 w2:Nat,Q2*4503599627370496+w2=Q*4503599627370496+w1∧w2<9007199254740992∧(4503599627370496≤w2∨Q2=0)∧Q2≤Q+1 ∧
      (if w1=9007199254740992 then Q2=Q+1∧w2=4503599627370496 else Q2=Q∧w2=w1):=by
      by_cases h5:w1=9007199254740992
      · exact⟨Q+1,4503599627370496,by omega,by omega,.inl (by omega),by omega,by rw[zR h5];exact⟨rfl,rfl⟩⟩
      · exact⟨Q,w1,rfl,by omega,hw1g,by omega,by rw[zP h5];exact⟨rfl,rfl⟩⟩
     refine obs (t:=(mode,(qn M:Int),(Q2:Int)-1074,hf,rs,(w2:Int),neg,(H:Int),(L:Int),e,rest,(0:Int),(w:Int),())) ?_ ?_
     · by_cases h5:w1=9007199254740992
       · rw[zR h5]at hn
         obtain⟨rfl,rfl⟩:=hn;rw[zd (by omega),zf,h5,w64 (by omega) (by omega)];have:Int.fdiv ((9007199254740992:Nat):Int) (2^1)=((4503599627370496:Nat):Int):=by rw[yQ]
         rw[this,show(Q:Int)-1074+1=((Q+1:Nat):Int)-1074 by omega]
       · rw[zP h5]at hn
         obtain⟨rfl,rfl⟩:=hn;rw[zh (by omega),zi]
     · simp only[]
       rw[← hK];unfold Jn qU;by_cases hov:(971:Int)<(Q2:Int)-1074
       · have hb:Nat.ble (Q2*4503599627370496+w2) 9218868437227405311=false:=by
          rw[qbB];exact zh (by omega)
         rw[zd hov,zf,hb,zi,zi];unfold ovN;rw[show(9218868437227405311:Nat)+1=9218868437227405312 from rfl]
       · have hb:Nat.ble (Q2*4503599627370496+w2) 9218868437227405311=true:=by
          rw[qbB];exact zd (by omega)
         rw[zh hov,zi,hb,zf,zf]
         -- the float is put together
         have hsm:decide (IntKind.i64.wrap ((qn M:Int)+e)≤-1022)=decide ((qn M:Int)+e≤-1022):=by rw[w64 (by omega) (by omega)]
         have hmake:∀(ex:Int),ex=(if 4503599627370496≤w2 then(Q2:Int)+1 else 0)→YH (neg,(ex,(qz .and .u64 (w2:Int) 4503599627370495)))=some (((sgN neg+(Q2*4503599627370496+w2):Nat):Int),0):=by
          intro ex hex;have hm:=YG w2 4503599627370495 52 rfl (by omega) (by omega)
          rw[show((4503599627370495:Nat):Int)=4503599627370495 from rfl]at hm;unfold YH;simp only[hm];have hr:0≤ex∧ex≤2047:=by rw[hex];split <;> omega
          rw[zd hr.1,zd hr.2,zd (by omega)];simp only[zW,zf]
          congr 2
          rw[hex];split <;> omega
         rw[hsm];generalize decide ((qn M:Int)+e≤-1022)=sm
         have hor:qz .or .u8 1 2=3:=by decide
         have hexp:IntKind.i64.wrap (IntKind.i64.wrap ((Q2:Int)-1074-(-1074))+1)=(Q2:Int)+1:=by
          rw[w64 (n:=(Q2:Int)-1074-(-1074)) (by omega) (by omega),w64 (by omega) (by omega)];omega
         have hfd:decide (Int.fdiv (w2:Int) (2^52)=1)=decide (4503599627370496≤w2):=by
          rw[yQ,show(1:Int)=((1:Nat):Int) from rfl,Jq];by_cases h4:4503599627370496≤w2
          · rw[zd h4,zd (by omega)]
          · rw[zh h4,zh (by omega)]
         by_cases h4:4503599627370496≤w2
         · have hm:=hmake ((Q2:Int)+1) (by rw[zR h4])
           rw[zd h4]at hfd;cases hf <;> cases rs <;> cases sm <;> simp only[zf,zi,zj,hfd,hexp,hm,hor,WJ,VY,VK]
         · have hm:=hmake 0 (by rw[zP h4])
           rw[zh h4]at hfd;cases hf <;> cases rs <;> cases sm <;> simp only[zf,zi,zj,hfd,hexp,hm,hor,WJ,VY,VK]
end
end Su
end
section
namespace Su
open Go Fly
noncomputable section
def ql2  (neg:Bool)(m:(Int×Int))(e:Int)(rest:Bool)(mode:Int):Option (Int×Int) :=
 (bif(decide ((((qn (qd (m.1,m.2))):Nat):Int)=0))then
 some ((((((sgN neg)+(4503599627370496*(Int.toNat 0)))+(Int.toNat 0)):Nat):Int),(0:Int))
 else
  (bif rest then
  (Yb ((neg,m.1,m.2,(min (max e (-5000)) 5000),(decide (53<(((qn (qd (m.1,m.2))):Nat):Int)))),mode)).bind fun x0=>
  some (x0.1,x0.2)
 else
  (Yb ((neg,m.1,m.2,(min (max e (-5000)) 5000),false),mode)).bind fun x1=>
  some (x1.1,x1.2)))
def sOf  (f:Int):Option (Int×Int×Bool×Int×Int) :=
 some (f,(((qA (bK f.toNat)):Nat):Int),(decide ((Int.fdiv f (2^63))=1)),(((spM (bK f.toNat)):Nat):Int),(spE (bK f.toNat)))
def qEj  (neg:Bool):Option Int :=
 some (((((sgN neg)+(4503599627370496*(Int.toNat 0)))+(Int.toNat 0)):Nat):Int)
def flgL:{f:Bool→Int→Nat→Int→Bool→Int // ∀neg mode M e rest,f neg mode M e rest=bif Nat.beq M 0 then 0 else flN neg mode M (min (max e (-5000)) 5000+6000).toNat (rest&&decide (53<qn M)) (decide ((qn M:Int)+min (max e (-5000)) 5000≤-1022))}:=Classical.choice ⟨⟨_,fun _ _ _ _ _=>rfl⟩⟩
def flg(neg:Bool)(mode:Int)(M:Nat)(e:Int)(rest:Bool):Int:=flgL.1 neg mode M e rest
theorem qBC(neg:Bool)(mode:Int)(M:Nat)(e:Int)(rest:Bool):flg neg mode M e rest=bif Nat.beq M 0 then 0 else flN neg mode M (min (max e (-5000)) 5000+6000).toNat (rest&&decide (53<qn M)) (decide ((qn M:Int)+min (max e (-5000)) 5000≤-1022)):=flgL.2 neg mode M e rest
def qj6(p:Bool×(Int×Int)×Int×Bool×Int):Option (Int×Int):=some ((rnd p.1 p.2.2.2.2 (qd p.2.1) p.2.2.1 p.2.2.2.1:Int),flg p.1 p.2.2.2.2 (qd p.2.1) p.2.2.1 p.2.2.2.1)
theorem qpp(p:Bool×(Int×Int)×Int×Bool×Int)(y:Int×Int)(hg:(dc cB (dc cW (dc (cI .i64) (dc cB (d1 (cI .u8)))))).good p)(h:qj6 p=some y):ql2 p.1 p.2.1 p.2.2.1 p.2.2.2.1 p.2.2.2.2=some y:=by
 obtain⟨neg,⟨hi,lo⟩,e,rest,mode⟩:=p;have:=soi h;subst this
 unfold ql2;simp only[Zw,qBC];have hE1 : -5000≤min (max e (-5000)) 5000:=by omega
 have hE2:min (max e (-5000)) 5000≤5000:=by omega
 generalize min (max e (-5000)) 5000=E at *
 have hF:∀r,Nat.beq (qd (hi,lo)) 0=false→Yb ((neg,hi,lo,E,r),mode)=some ((RN neg mode (qd (hi,lo)) (E+6000).toNat r:Int),flN neg mode (qd (hi,lo)) (E+6000).toNat r (decide ((qn (qd (hi,lo)):Int)+E≤-1022))):=by
  intro r hb;unfold Yb;simp only[hb,zd hE1,zd hE2,zX,zW,zf]
 generalize qd (hi,lo)=M at *
 have hz:decide (((qn M:Nat):Int)=0)=Nat.beq M 0:=by
  rw[show(0:Int)=((0:Nat):Int) from rfl,Jq,beq_dec];by_cases h0:M=0
  · subst h0;rfl
  · have:=Jm h0
    rw[zh h0,zh (by omega)]
 have h53:decide ((53:Int)<((qn M:Nat):Int))=decide (53<qn M):=by
  by_cases h0:53<qn M
  · rw[zd h0,zd (by omega)]
  · rw[zh h0,zh (by omega)]
 rw[hz,h53];cases hb:Nat.beq M 0 with
 | true=>
  have:=zk hb;subst this
  rw[zf,zf,Qo,Int.toNat_zero,VS,Kr]
 | false=>
  rw[zi,zi];cases rest with
  | true=>rw[zf,hF _ hb,zK];rfl
  | false=>rw[zi,hF _ hb,Kh];rfl
end
end Su
end
section
namespace Su
open Go Fly
theorem qnC(n:Nat):qd (hiW n,loW n)=n % 340282366920938463463374607431768211456:=by
 rw[yR];unfold hiW loW;simp only[zm];omega
theorem beqe(x:Nat):(x == 0)=Nat.beq x 0:=by rw[beq_dec];rfl
theorem qin{neg:Bool}{mode:Int}{Z D E:Nat}(h0:2^70*Z / 2^D≠0)(h:54≤qn (2^70*Z / 2^D)∨2^70*Z % 2^D=0) :
 RN neg mode (2^70*Z / 2^D) (E+D) (!(2^70*Z % 2^D == 0))=RN neg mode Z (E+70) false:=by
 rw[qrv h0 h];have e1:2^70*Z / 2^70=Z:=Wi _ (zJ 70)
 have e2:2^70*Z % 2^70=0:=Nat.mul_mod_right _ _
 have hz:Z≠0:=fun e=>by subst e;rw[VS,Nat.zero_div]at h0;exact h0 rfl
 have:=qrv (neg:=neg) (mode:=mode) (M:=2^70*Z) (E:=E) (t:=70) (by rw[e1];exact hz) (.inr e2)
 rw[e1,e2]at this;exact this.symm
theorem qgE{n:Nat}(h:2^53≤n):54≤qn n:=by
 refine V6 fun hlt=>?_
 have:=Qn.1 (show qn n≤53 by omega)
 omega
theorem qr2{neg:Bool}{mode:Int}{X Y D:Nat}{e:Int}(hX:1≤X)(hX2:X<9007199254740992)(hY2:Y<9007199254740992)(he1 : -1074≤e)(he2:e+D≤971) :
 rnd neg mode (2^70*X+2^70*Y / 2^D) (e+D-70) (!Nat.beq (2^70*Y % 2^D) 0)=RN neg mode (2^D*X+Y) (e+6000).toNat false:=by
 have hD:=zJ D;have hz:2^70*(2^D*X+Y)=2^70*Y+2^D*(2^70*X):=by rw[Ws,WB,WG]
 have hdiv:2^70*(2^D*X+Y) / 2^D=2^70*X+2^70*Y / 2^D:=by rw[hz,Wc _ _ hD,WG]
 have hmod:2^70*(2^D*X+Y) % 2^D=2^70*Y % 2^D:=by rw[hz,Nat.add_mul_mod_self_left]
 have hbig:2^53≤2^70*X+2^70*Y / 2^D:=by
  generalize 2^70*Y / 2^D=z
  omega
 have hb:=qgE hbig;rw[Zw,zd (show 53<qn (2^70*X+2^70*Y / 2^D) by omega),zL];have hE:(min (max (e+D-70) (-5000)) 5000+6000).toNat=(e+5930).toNat+D:=by omega
 have hE2:(e+6000).toNat=(e+5930).toNat+70:=by omega
 rw[hE,hE2,← qin (D:=D) (by rw[hdiv];omega) (.inl (by rw[hdiv];exact hb)),hdiv,hmod,beqe]
theorem qr3{neg:Bool}{mode:Int}{X Y D:Nat}{e:Int}(hX2:X<9007199254740992)(hY2:Y<9007199254740992)(he1 : -1074≤e)(he2:e+D≤971)(hn:0<D→4503599627370496≤X)(hlt:Y<2^D*X) :
 2^70*Y / 2^D<2^70*X∧(2^70*Y % 2^D=0→rnd neg mode (2^70*X-2^70*Y / 2^D) (e+D-70) false=RN neg mode (2^D*X-Y) (e+6000).toNat false) ∧
  (2^70*Y % 2^D≠0→1≤2^70*X-2^70*Y / 2^D∧rnd neg mode (2^70*X-2^70*Y / 2^D-1) (e+D-70) true=RN neg mode (2^D*X-Y) (e+6000).toNat false):=by
 have hD:=zJ D;have hE:(min (max (e+D-70) (-5000)) 5000+6000).toNat=(e+5930).toNat+D:=by omega
 have hE2:(e+6000).toNat=(e+5930).toNat+70:=by omega
 have hz:2^70*(2^D*X-Y)=2^D*(2^70*X)-2^70*Y:=by rw[Nat.mul_sub,WB]
 have hzlt:2^70*Y<2^D*(2^70*X):=by
  rw[WB];exact Nat.mul_lt_mul_of_pos_left hlt (zJ 70)
 have hY0:=K6 (2^70*Y) (2^D)
 have hmlt:=Vo (2^70*Y) hD
 have h1:2^70*Y / 2^D<2^70*X:=by
  rw[Vs hD,Kw (2^70*X)];exact hzlt
 refine⟨h1,fun hr=>?_,fun hr=>?_⟩
 · -- nothing is lost
   rw[hr,Kr]at hY0;have hZ:2^70*(2^D*X-Y)=2^D*(2^70*X-2^70*Y / 2^D):=by
    rw[hz,Nat.mul_sub,hY0]
   have hdiv:2^70*(2^D*X-Y) / 2^D=2^70*X-2^70*Y / 2^D:=by rw[hZ,Wi _ hD]
   have hmod:2^70*(2^D*X-Y) % 2^D=0:=by rw[hZ,Nat.mul_mod_right]
   rw[Zw,Kh,hE,hE2,← qin (D:=D) (by rw[hdiv];omega) (.inr hmod),hdiv,hmod];rfl
 · -- something is lost: so they lie far apart
   have hDbig:70<D:=by
    refine Vd fun h=>hr ?_
    have:2^70=2^D*2^(70-D):=by rw[← Kg];congr 1;omega
    rw[this,zZ,Nat.mul_mod_right]
   have hXn:=hn (by omega)
   have hq:2^70*Y / 2^D<4503599627370496:=by
    rw[Vs hD];have h2:2^71≤2^D:=KK (by omega) (by omega)
    have h3:4503599627370496*2^71≤4503599627370496*2^D:=We _ h2
    omega
   have hZ:2^70*(2^D*X-Y)=2^D*(2^70*X-2^70*Y / 2^D-1)+(2^D-2^70*Y % 2^D):=by
    rw[hz];have e1:2^D*(2^70*X-2^70*Y / 2^D-1)+2^D+2^D*(2^70*Y / 2^D)=2^D*(2^70*X):=by
     rw[← Nat.mul_succ,← Ws];congr 1;omega
    omega
   have hr2:2^D-2^70*Y % 2^D<2^D:=by omega
   have hdiv:2^70*(2^D*X-Y) / 2^D=2^70*X-2^70*Y / 2^D-1:=by
    rw[hZ,Nat.mul_add_div hD,VP hr2,Kr]
   have hmod:2^70*(2^D*X-Y) % 2^D=2^D-2^70*Y % 2^D:=by
    rw[hZ,Nat.mul_add_mod,Kq hr2]
   have hbig:2^53≤2^70*X-2^70*Y / 2^D-1:=by
    generalize 2^70*Y / 2^D=z at *
    omega
   have hb:=qgE hbig;refine⟨by omega,?_⟩
   have hne:(2^D-2^70*Y % 2^D == 0)=false:=by
    have:2^D-2^70*Y % 2^D≠0:=by omega
    generalize 2^D-2^70*Y % 2^D=w at *
    simp[this]
   rw[Zw,zd (show 53<qn (2^70*X-2^70*Y / 2^D-1) by omega),zL,hE,hE2,← qin (D:=D) (by rw[hdiv];omega) (.inl (by rw[hdiv];exact hb)),hdiv,hmod,hne];rfl
end Su
end
