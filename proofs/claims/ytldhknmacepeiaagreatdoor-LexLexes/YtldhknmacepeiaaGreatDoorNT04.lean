/-
  What functions of the program compute, in plain Lean, and that the evaluator finds it.
-/
import Derived.Test.YtldhknmacepeiaaGreatDoorSuXl
import Derived.Test.YtldhknmacepeiaaGreatDoorNC10
import Derived.Test.YtldhknmacepeiaaGreatDoorSuSd
set_option linter.unusedVariables false
set_option linter.unusedSimpArgs false
set_option maxRecDepth 10000
section
namespace Su
open Go Fly
noncomputable section
def qbj(neg:Bool)(mode:Int) :=
 fun x5001 x5002=>
 bif(decide (0<(IntKind.wrap .i64 (63-(IntKind.wrap .i64 (x5001-x5002))))))then
 some ((((RN neg mode (jz ((0:Int),(9223372036854775808:Int))) (Int.toNat ((-5000)+6000)) true):Nat):Int),(flN neg mode (jz ((0:Int),(9223372036854775808:Int))) (Int.toNat ((-5000)+6000)) true (decide (((((qj (jz ((0:Int),(9223372036854775808:Int)))):Nat):Int)+(-5000))≤(-1022)))))
 else
  some ((((RN neg mode (jz ((0:Int),(9223372036854775808:Int))) (Int.toNat (5000+6000)) true):Nat):Int),(flN neg mode (jz ((0:Int),(9223372036854775808:Int))) (Int.toNat (5000+6000)) true (decide (((((qj (jz ((0:Int),(9223372036854775808:Int)))):Nat):Int)+5000)≤(-1022)))))
def qlw  (neg:Bool)(num:(List Int))(den:(List Int))(mode:Int):Option (Int×Int) :=
 (Len num).bind fun x0=>
 (bif(decide (x0=0))then
 some ((0:Int),(0:Int))
 else
  (Len den).bind fun x1=>
  (bif(decide (x1=0))then
  some ((0:Int),(0:Int))
 else
  (Len num).bind fun x2=>
  (Len den).bind fun x3=>
  (bif(decide ((IntKind.wrap .i64 (63-(IntKind.wrap .i64 (x2-x3))))<(-5000)))then
  (qbj neg mode x2 x3)
 else
  (bif(decide (5000<(IntKind.wrap .i64 (63-(IntKind.wrap .i64 (x2-x3))))))then
  (qbj neg mode x2 x3)
 else
  (Za (IntKind.wrap .i64 (63-(IntKind.wrap .i64 (x2-x3))))).bind fun x4=>
  (yV (num,x4)).bind fun x5=>
  (Za (IntKind.wrap .i64 (0-(IntKind.wrap .i64 (63-(IntKind.wrap .i64 (x2-x3))))))).bind fun x6=>
  (yV (den,x6)).bind fun x7=>
  (qfL (x5,x7)).bind fun x8=>
  (qur x8.1).bind fun x9=>
  (Len x8.2.1).bind fun x10=>
  (Y9 ((neg,(0:Int),x9.1,(IntKind.wrap .i64 (0-(IntKind.wrap .i64 (63-(IntKind.wrap .i64 (x2-x3)))))),(decide (0<x10))),mode)).bind fun x11=>
  some x11))))
theorem qyR{M:Nat}(h:M<18446744073709551616):qur (ofN M)=some ((M:Int),true):=by
 have hb:qj M≤64:=j9.2 h
 have hw:=qg0 M;have a0:=QB hw 0
 have a1:=QB hw 1
 obtain⟨p1,p2⟩:=ye hw 0
 obtain⟨p3,p4⟩:=ye hw 1
 have v0:=ZF (ofN M) 0
 have v1:=ZF (ofN M) 1
 rw[KR,valN_ofN]at v0;simp only[zF,Nat.reduceAdd]at v0 v1;obtain⟨X,hX⟩:=zV p1;obtain⟨Y,hY⟩:=zV p3;rw[hX]at a0 p2 v0;rw[hY]at a1 p4 v1;rw[zg]at v0 v1;have hz:qd ((ofN M).drop 2)=0:=by omega
 have hM:M=X+Y*2^32:=by omega
 unfold qur;have d0:decide ((64:Int)<((qj M:Nat):Int))=false:=zi (by omega)
 have a0':At (ofN M) 0=some (X:Int):=a0
 have a1':At (ofN M) 1=some (Y:Int):=a1
 have w1:IntKind.u64.wrap ((Y:Int)*(2^32))=((Y*2^32:Nat):Int):=by
  rw[jH (by omega) (by omega)];omega
 rw[qiJ (by omega),zd,d0,zj,a0',zd,a1',zd,w1,qba _ _ (by omega) (by omega),qei (by omega),← hM]
def jm(N D:Nat):Int:=((qj N:Nat):Int)-((qj D:Nat):Int)-63
def YB(N D:Nat):Nat:=N*2^(-jm N D).toNat
def J3(N D:Nat):Nat:=D*2^(jm N D).toNat
def J4(N D:Nat):Nat:=YB N D / J3 N D
def qcP(N D:Nat):Bool:=decide (0<((qj (YB N D % J3 N D):Nat):Int))
def qw7:{f:Bool→Int→Nat→Nat→Nat // ∀neg mode N D,f neg mode N D=RN neg mode (J4 N D) (jm N D+6000).toNat (qcP N D)}:=Classical.choice ⟨⟨_,fun _ _ _ _=>rfl⟩⟩
def qbk(neg:Bool)(mode:Int)(N D:Nat):Nat:=qw7.1 neg mode N D
theorem qeo(neg:Bool)(mode:Int)(N D:Nat):qbk neg mode N D=RN neg mode (J4 N D) (jm N D+6000).toNat (qcP N D):=qw7.2 neg mode N D
def qpI(neg:Bool)(mode:Int)(N D:Nat):Int:=flN neg mode (J4 N D) (jm N D+6000).toNat (qcP N D) (decide ((qj (J4 N D):Int)+jm N D≤-1022))
theorem ZJ{N D:Nat}(hD:D≠0):0<J3 N D:=WF (Nat.pos_of_ne_zero hD) (zH _)
theorem qpJ{N D:Nat}(hD:D≠0):J4 N D<18446744073709551616:=by
 unfold J4;rw[Kw (ZJ hD)];have h1:=yI N;have h2:=ZE hD;have h3:=jE hD;unfold YB J3;refine Kk (zY h1 (zH _)) ?_
 refine Ky ?_ (zQ _ (zu _ h2))
 rw[← zP,← zP,show(18446744073709551616:Nat)=2^64 from rfl,← zP];refine Ka (by omega) ?_
 unfold jm;omega
theorem qiK{N D:Nat}(hN:N≠0)(hD:D≠0):4611686018427387904≤J4 N D:=by
 unfold J4;rw[V7 (ZJ hD)];have h1:=ZE hN;have h2:=yI D;have h3:=jE hN;unfold YB J3;refine Ky ?_ (zu _ h1)
 refine Ky (zQ _ (zu _ (Vm h2))) ?_
 rw[← zP,← zP,show(4611686018427387904:Nat)=2^62 from rfl,← zP];refine Ka (by omega) ?_
 unfold jm;omega
def Q0(p:Bool×List Int×List Int×Int):Option (Int×Int) :=
 bif Nat.beq (qd p.2.1) 0||Nat.beq (qd p.2.2.1) 0 then(bif Nat.ble (qj (qd p.2.1)) 100000&&Nat.ble (qj (qd p.2.2.1)) 100000 then some (0,0)else none)else
 bif((Nat.ble p.2.1.length 100000&&Nat.ble p.2.2.1.length 100000)&&(Nat.ble (qj (qd p.2.1)) 40000&&Nat.ble (qj (qd p.2.2.1)) 40000))&&(decide (-4000≤jm (qd p.2.1) (qd p.2.2.1))&&decide (jm (qd p.2.1) (qd p.2.2.1)≤4000))then
  some (((qbk p.1 p.2.2.2 (qd p.2.1) (qd p.2.2.1):Nat):Int),qpI p.1 p.2.2.2 (qd p.2.1) (qd p.2.2.1))
 else none
theorem qb9{a b:Nat}(h:a≤b):qj a≤qj b:=j9.2 (KW h (yI b))
theorem qlx{a:List Int}(h:qj (qd a)≤100000):Len a=some ((qj (qd a):Nat):Int):=qg4 a (by omega)
theorem qw8{a:List Int}{v:Nat}(hl:a.length≤1000000)(h2:qj v≤100000):yV (a,ofN v)=some (ofN (qd a*v)):=by
 unfold yV;have l2:=qbi v;simp only[valN_ofN];rw[zo (by omega)];rfl
theorem qpK(p:Bool×List Int×List Int×Int)(y:Int×Int)(hg:(dc cB (dc (cQ 1 1) (dc (cQ 1 1) (d1 (cI .u8))))).good p)(h:Q0 p=some y):qlw p.1 p.2.1 p.2.2.1 p.2.2.2=some y:=by
 obtain⟨neg,num,den,mode⟩:=p;simp only[];have ln:num.length≤maxLen:=hg.2.1.2
 have ld:den.length≤maxLen:=hg.2.2.1.2
 unfold Q0 at h;simp only[]at h;generalize hN:qd num=N at *
 generalize hD:qd den=D at *
 cases hz:Nat.beq N 0||Nat.beq D 0 with
 | true=>
  rw[hz,zf]at h;obtain⟨h1,h2⟩:=qi h;have:=soi h2;subst this
  rw[zk]at h1;have b1:=zm h1.1;have b2:=zm h1.2;have L1:=qlx (a:=num) (by rw[hN];exact b1)
  have L2:=qlx (a:=den) (by rw[hD];exact b2)
  rw[hN]at L1;rw[hD]at L2;unfold qlw qbj;rw[L1,zd];by_cases h0:N=0
  · subst h0;rfl
  · have hd:D=0:=by
     rw[qcV h0,VP]at hz;exact zh hz
    subst hd;have:=jE h0
    rw[zi (show¬((qj N:Nat):Int)=0 by omega),zj,L2];rfl
 | false=>
  rw[hz,zj]at h;obtain⟨h1,h2⟩:=qi h;have:=soi h2;subst this
  simp only[zk,zD]at h1;obtain⟨⟨⟨l1,l2⟩,b1,b2⟩,e1,e2⟩:=h1;have l1:=zm l1;have l2:=zm l2;have b1:=zm b1;have b2:=zm b2;rw[Bool.or_eq_false_iff]at hz;have hN0:N≠0:=fun e=>by rw[e]at hz;exact absurd hz.1 (by decide)
  have hD0:D≠0:=fun e=>by rw[e]at hz;exact absurd hz.2 (by decide)
  have L1:=qlx (a:=num) (by rw[hN];omega)
  have L2:=qlx (a:=den) (by rw[hD];omega)
  rw[hN]at L1;rw[hD]at L2;have p1:=jE hN0;have p2:=jE hD0;have w1:IntKind.i64.wrap (63-IntKind.i64.wrap (((qj N:Nat):Int)-((qj D:Nat):Int))) = -jm N D:=by
   unfold jm;rw[w64 (n:=((qj N:Nat):Int)-((qj D:Nat):Int)) (by omega) (by omega),w64 (by omega) (by omega)];omega
  have w2:IntKind.i64.wrap (0 - -jm N D)=jm N D:=by rw[w64 (by omega) (by omega)];omega
  have e11:qj 1=1:=by decide
  have s1:Za (-jm N D)=some (ofN (2^(-jm N D).toNat)):=by unfold Za;rw[za (by omega)];rfl
  have s2:Za (jm N D)=some (ofN (2^(jm N D).toNat)):=by unfold Za;rw[za (by omega)];rfl
  have bA:qj (YB N D)≤100000:=by
   have:=J2 N (2^(-jm N D).toNat)
   rw[ZI]at this;unfold YB;omega
  have bB:qj (J3 N D)≤100000:=by
   have:=J2 D (2^(jm N D).toNat)
   rw[ZI]at this;unfold J3;omega
  have m1:yV (num,ofN (2^(-jm N D).toNat))=some (ofN (YB N D)):=by
   rw[qw8 (by omega) (by rw[ZI];omega),hN];rfl
  have m2:yV (den,ofN (2^(jm N D).toNat))=some (ofN (J3 N D)):=by
   rw[qw8 (by omega) (by rw[ZI];omega),hD];rfl
  have hB:=ZJ (N:=N) hD0
  have dv:=qBv bA bB (by omega)
  have u:=qyR (qpJ (N:=N) hD0)
  have hM:=qiK hN0 hD0;have bR:qj (YB N D % J3 N D)≤100000:=Ky (qb9 (Nat.mod_le _ _)) bA
  have lR:=qiJ bR;have d1:decide (((qj N:Nat):Int)=0)=false:=zi (by omega)
  have d2:decide (((qj D:Nat):Int)=0)=false:=zi (by omega)
  have d3:decide (-jm N D < -5000)=false:=zi (by omega)
  have d4:decide ((5000:Int) < -jm N D)=false:=zi (by omega)
  have vw:jz ((0:Int),((J4 N D:Nat):Int))=J4 N D:=by rw[J1];simp
  have rf:Y9 ((neg,(0:Int),((J4 N D:Nat):Int),jm N D,qcP N D),mode)=some (((qbk neg mode N D:Nat):Int),qpI neg mode N D):=by
   unfold Y9;simp only[vw];rw[qcV (by omega),za (show -5000≤jm N D by omega),za (show jm N D≤5000 by omega),qeo];rfl
  unfold qlw qbj;refine obs L1 ?_
  rw[d1,zj];refine obs L2 ?_
  rw[d2,zj];refine obs L1 (obs L2 ?_)
  rw[w1,d3,zj,d4,zj,w2];exact obs s1 (obs m1 (obs s2 (obs m2 (obs dv (obs u (obs lR (obs rf rfl)))))))
end
end Su
end
section
namespace Su
open Go Fly
noncomputable section
abbrev Zb:=(ByteArray×(List Int)×Int×Int×Int×Int×Unit)
def yL:Zb→Option (Zb ⊕ (Lp Zb ((List Int)×Int))):=fun p0=>(bif(decide (p0.2.2.2.2.2.1<p0.2.2.2.2.1))then
 (bif(decide (0≤p0.2.2.2.2.2.1))then
 ((p0.1)[p0.2.2.2.2.2.1.toNat]?).bind fun x1=>
 (bif(decide ((UInt8.toNat x1:Int)<48))then
 some (.inr (.ret ([],(22:Int))))
 else
  (bif(decide (0≤p0.2.2.2.2.2.1))then
  ((p0.1)[p0.2.2.2.2.2.1.toNat]?).bind fun x2=>
  (bif(decide (57<(UInt8.toNat x2:Int)))then
  some (.inr (.ret ([],(22:Int))))
 else
  (bif(decide (0≤p0.2.2.2.2.2.1))then
  ((p0.1)[p0.2.2.2.2.2.1.toNat]?).bind fun x3=>
  (bif(decide ((IntKind.wrap .u64 (p0.2.2.2.1*10))=1000000000))then
  (yV (p0.2.1,(ofN (qd [(IntKind.wrap .u32 (IntKind.wrap .u64 (p0.2.2.2.1*10))),(IntKind.wrap .u32 (Int.fdiv (IntKind.wrap .u64 (p0.2.2.2.1*10)) (2^32)))])))).bind fun x4=>
  (qfI (x4,(ofN (qd [(IntKind.wrap .u32 (IntKind.wrap .u64 ((IntKind.wrap .u64 (p0.2.2.1*10))+(IntKind.wrap .u64 (IntKind.wrap .u8 ((UInt8.toNat x3:Int)-48)))))),(IntKind.wrap .u32 (Int.fdiv (IntKind.wrap .u64 ((IntKind.wrap .u64 (p0.2.2.1*10))+(IntKind.wrap .u64 (IntKind.wrap .u8 ((UInt8.toNat x3:Int)-48))))) (2^32)))])))).bind fun x5=>
  some (.inl (p0.1,x5,(0:Int),(1:Int),p0.2.2.2.2.1,(IntKind.wrap .i64 (p0.2.2.2.2.2.1+1)),()))
 else
  (bif(decide (p0.2.2.2.2.2.1=(IntKind.wrap .i64 ((ByteArray.size p0.1:Int)-1))))then
  (yV (p0.2.1,(ofN (qd [(IntKind.wrap .u32 (IntKind.wrap .u64 (p0.2.2.2.1*10))),(IntKind.wrap .u32 (Int.fdiv (IntKind.wrap .u64 (p0.2.2.2.1*10)) (2^32)))])))).bind fun x6=>
  (qfI (x6,(ofN (qd [(IntKind.wrap .u32 (IntKind.wrap .u64 ((IntKind.wrap .u64 (p0.2.2.1*10))+(IntKind.wrap .u64 (IntKind.wrap .u8 ((UInt8.toNat x3:Int)-48)))))),(IntKind.wrap .u32 (Int.fdiv (IntKind.wrap .u64 ((IntKind.wrap .u64 (p0.2.2.1*10))+(IntKind.wrap .u64 (IntKind.wrap .u8 ((UInt8.toNat x3:Int)-48))))) (2^32)))])))).bind fun x7=>
  some (.inl (p0.1,x7,(0:Int),(1:Int),p0.2.2.2.2.1,(IntKind.wrap .i64 (p0.2.2.2.2.2.1+1)),()))
 else
  some (.inl (p0.1,p0.2.1,(IntKind.wrap .u64 ((IntKind.wrap .u64 (p0.2.2.1*10))+(IntKind.wrap .u64 (IntKind.wrap .u8 ((UInt8.toNat x3:Int)-48))))),(IntKind.wrap .u64 (p0.2.2.2.1*10)),p0.2.2.2.2.1,(IntKind.wrap .i64 (p0.2.2.2.2.2.1+1)),()))))
 else none))
 else none))
 else none)
 else
  some (.inr (.exit 1 (p0.1,p0.2.1,p0.2.2.1,p0.2.2.2.1,p0.2.2.2.2.1,p0.2.2.2.2.2.1,()))))
def qep  (fu:Nat)(s:ByteArray):Option ((List Int)×Int) :=
 (bif(decide (20000<(ByteArray.size s:Int)))then
 some ([],(20:Int))
 else
  (bif(decide (s=(ByteArray.mk (List.toArray []))))then
  some ([],(22:Int))
 else
  (itP fu (yL) (s,[],(0:Int),(1:Int),(ByteArray.size s:Int),(0:Int),())).bind fun x8=>
  (match x8 with
 | .exit i9 p10=>(bif(Nat.beq i9 1)then
  some (p10.2.1,(0:Int))
 else none)
 | .ret o11=>some o11)))
theorem qw9{x:Nat}(h:x<18446744073709551616):ofN (qd [IntKind.u32.wrap (x:Int),IntKind.u32.wrap (Int.fdiv (x:Int) (2^32))])=ofN x:=by
 have e1:IntKind.u32.wrap (x:Int)=((x % 4294967296:Nat):Int):=by rw[wrap_u32];omega
 have e2:IntKind.u32.wrap (Int.fdiv (x:Int) (2^32))=((x / 4294967296:Nat):Int):=by
  rw[Y5,show x / 2^32=x / 4294967296 from rfl];exact qj1 (by omega) (by omega)
 rw[e1,e2]
 congr 1
 simp only[qd,zg];omega
theorem Jb{v k:Nat}(h:v<10^k):qj v≤4*k+1:=Ky (qb9 (Vm h)) (Qm k)
theorem qmV{r:Nat}(h:r≤8):10^r≤100000000:=Ka (by omega) h
theorem qpL(k:Nat):1≤10^k:=Nat.one_le_pow _ _ (by decide)
abbrev PaS:=ByteArray×((List Int)×Int×Int×Int×Int×Unit)
abbrev paS(l:List UInt8)(V S B i:Nat):PaS:=(bs l,ofN V,(S:Int),(B:Int),((l.length:Nat):Int),(i:Int),())
theorem qca(l:List UInt8)(hl:l.length≤20000):∀(rest A:List UInt8) (V S r:Nat),A++rest=l→(∀c∈A,isD c=true)→r≤8→S<10^r→dv A=V*10^r+S→(rest=[]→r=0) →
 ∃n,itP n yL (paS l V S (10^r) A.length)=some (bif rest.all isD then .exit 1 (paS l (dv l) 0 1 l.length)else .ret ([],22))
 | [],A,V,S,r,hA,hD,hr,hS,hV,h0=>by
  rw[KV]at hA;have hr:=h0 rfl;subst hr hA
  rw[KS]at hS hV;have:S=0:=by omega
  subst this;rw[K8,Ks]at hV;subst hV;refine⟨1,?_⟩
  rw[jD];simp only[yL,paS,Int.lt_irrefl,decide_false,zj,List.all_nil,zf,KS];rfl
 | c::rest,A,V,S,r,hA,hD,hr,hS,hV,h0=>by
  have hNl:A.length+(rest.length+1)=l.length:=by rw[← hA];simp
  have d0:decide (((A.length:Nat):Int)<((l.length:Nat):Int))=true:=za (by omega)
  have d1:decide ((0:Int)≤((A.length:Nat):Int))=true:=za (by omega)
  have g:(bs l)[Int.toNat ((A.length:Nat):Int)]?=some c:=by
   rw[zg,qW,← hA,zO (zw _),Vz];rfl
  have hw:IntKind.i64.wrap (((A.length:Nat):Int)+1)=(((A++[c]).length:Nat):Int):=by rw[w64 (by omega) (by omega)];simp
  have ec:List.all (c::rest) isD=(isD c&&rest.all isD):=rfl
  by_cases hc1:c.toNat<48
  · have d2:decide (((c.toNat:Nat):Int)<48)=true:=za (by omega)
    have hd:isD c=false:=by
     cases h:isD c with
     | false=>rfl
     | true=>have:=jP.1 h;omega
    refine⟨1,?_⟩
    rw[jD,ec,hd];simp only[yL,paS,d0,d1,g,d2,zf,zd,V6,zj]
  · have d2:decide (((c.toNat:Nat):Int)<48)=false:=zi (by omega)
    by_cases hc2:57<c.toNat
    · have d3:decide ((57:Int)<((c.toNat:Nat):Int))=true:=za (by omega)
      have hd:isD c=false:=by
       cases h:isD c with
       | false=>rfl
       | true=>have:=jP.1 h;omega
      refine⟨1,?_⟩
      rw[jD,ec,hd];simp only[yL,paS,d0,d1,g,d2,d3,zf,zd,V6,zj]
    · have d3:decide ((57:Int)<((c.toNat:Nat):Int))=false:=zi (by omega)
      have hd:isD c=true:=jP.2 ⟨by omega,by omega⟩
      have p8:=qmV hr;have hB:10^r*10=10^(r+1):=(zU ..).symm
      have wB:IntKind.u64.wrap (((10^r:Nat):Int)*10)=((10^(r+1):Nat):Int):=by rw[jH (by omega) (by omega)];omega
      have wc:IntKind.u8.wrap (((c.toNat:Nat):Int)-48)=((c.toNat-48:Nat):Int):=by
       rw[show(((c.toNat:Nat):Int)-48)=((c.toNat-48:Nat):Int) by omega];exact yB (by unfold inR;simp;exact⟨by show(0:Int)≤_;omega,by show _≤(255:Int);omega⟩)
      have wc2:IntKind.u64.wrap ((c.toNat-48:Nat):Int)=((c.toNat-48:Nat):Int):=jH (by omega) (by omega)
      have wS:IntKind.u64.wrap ((S:Int)*10)=((S*10:Nat):Int):=by rw[jH (by omega) (by omega)];omega
      have wS2:IntKind.u64.wrap (((S*10:Nat):Int)+((c.toNat-48:Nat):Int))=((S*10+(c.toNat-48):Nat):Int):=by rw[jH (by omega) (by omega)];omega
      have hD':∀d∈A++[c],isD d=true:=fun d h=>by
       rcases Kh.1 h with h | h
       · exact hD d h
       · rw[List.mem_singleton.1 h];exact hd
      have hdv:dv (A++[c])=V*10^(r+1)+(S*10+(c.toNat-48)):=by
       rw[quF,hV,zR,zt,hB];omega
      have hS':S*10+(c.toNat-48)<10^(r+1):=by omega
      have hdl:=qfN (A++[c]) hD'
      have hV':V≤dv (A++[c]):=by
       rw[hdv];have:V*1≤V*10^(r+1):=zQ _ (qpL _)
       omega
      have hlA:(A++[c]).length≤20000:=by simp;omega
      have hbd:=Jb hdl;have hbV:=Ky (qb9 hV') hbd
      have hbX:∀x:Nat,x<10^10→qj x≤41:=fun x h=>Jb h
      have n1:=qw9 (x:=10^(r+1)) (by omega)
      have n2:=qw9 (x:=S*10+(c.toNat-48)) (by omega)
      have hb1:=hbX (10^(r+1)) (by omega)
      have hb2:=hbX (S*10+(c.toNat-48)) (by omega)
      have hb3:=J2 V (10^(r+1))
      have m1:=qlt (u:=V) (v:=10^(r+1)) (by omega) (by omega)
      have m2:=qBu (u:=V*10^(r+1)) (v:=S*10+(c.toNat-48)) (by omega) (by omega)
      rw[← hdv]at m2;have full:rest=[]∨r=8→∃n,itP n yL (paS l (dv (A++[c])) 0 (10^0) (A++[c]).length)=some (bif rest.all isD then .exit 1 (paS l (dv l) 0 1 l.length)else .ret ([],22)):=fun _=>
       qca l hl rest (A++[c]) (dv (A++[c])) 0 0 (by rw[← hA];simp) hD' (by omega) (by decide) (by simp) (fun _=>rfl)
      rw[ec,hd,z7];by_cases h8:r=8
      · obtain⟨n,q⟩:=full (.inr h8)
        have d4:decide (((10^(r+1):Nat):Int)=1000000000)=true:=za (by rw[h8];rfl)
        refine⟨n+1,?_⟩
        rw[jD];simp only[yL,paS,d0,d1,g,d2,d3,wB,d4,wc,wc2,wS,wS2,n1,n2,m1,m2,hw,zf,zj,zd];exact q
      · have d4:decide (((10^(r+1):Nat):Int)=1000000000)=false:=zi fun e=>by
         have:10^(r+1)≤10^8:=Ka (by omega) (by omega)
         omega
        have hsz:IntKind.i64.wrap ((((bs l).size:Nat):Int)-1)=((l.length-1:Nat):Int):=by rw[qe,w64 (by omega) (by omega)];omega
        by_cases he:rest=[]
        · obtain⟨n,q⟩:=full (.inl he)
          have d5:decide (((A.length:Nat):Int)=((l.length-1:Nat):Int))=true:=za (by rw[he]at hNl;simp at hNl;omega)
          refine⟨n+1,?_⟩
          rw[jD];simp only[yL,paS,d0,d1,g,d2,d3,wB,d4,hsz,d5,wc,wc2,wS,wS2,n1,n2,m1,m2,hw,zf,zj,zd];exact q
        · have hr1:0<rest.length:=List.length_pos_iff.2 he
          have d5:decide (((A.length:Nat):Int)=((l.length-1:Nat):Int))=false:=zi (by omega)
          obtain⟨n,q⟩:=qca l hl rest (A++[c]) V (S*10+(c.toNat-48)) (r+1) (by rw[← hA];simp) hD' (by omega) hS' hdv (fun h=>absurd h he)
          refine⟨n+1,?_⟩
          rw[jD];simp only[yL,paS,d0,d1,g,d2,d3,wB,d4,hsz,d5,wc,wc2,wS,wS2,hw,zf,zj,zd];exact q
def qeq(s:ByteArray):Option (List Int×Int):=some (bif Nat.ble (lb s).length 20000 then(bif(lb s).isEmpty then([],22)else bif(lb s).all isD then(ofN (dv (lb s)),0)else([],22))else([],20))
theorem qmW(s:ByteArray)(y:List Int×Int)(hg:(d1 cS).good s)(h:qeq s=some y):∃n,qep n s=some y:=by
 revert h;refine onB (P:=fun s=>qeq s=some y→∃n,qep n s=some y) (fun l h=>?_) s
 have:=soi h;subst this
 rw[jB];cases hb:Nat.ble l.length 20000 with
 | false=>
  have : ¬l.length≤20000:=fun e=>by rw[zo e]at hb;cases hb
  refine⟨0,?_⟩
  unfold qep;rw[za (show(20000:Int)<(((bs l).size:Nat):Int) by rw[qe];omega)];rfl
 | true=>
  have hl:=zm hb;have d0:decide ((20000:Int)<(((bs l).size:Nat):Int))=false:=zi (by rw[qe];omega)
  cases l with
  | nil=>exact⟨0,rfl⟩
  | cons c l=>
   obtain⟨n,q⟩:=qca (c::l) hl (c::l) [] 0 0 0 rfl (by simp) (by omega) (by decide) (by decide) (fun _=>rfl)
   refine⟨n,?_⟩
   have de:decide (bs (c::l)=ByteArray.mk (List.toArray []))=false:=by rw[qcO,qg8];exact zi (by simp)
   unfold qep;rw[d0,zj,de,zj,qe];refine obs q ?_
   cases h:List.all (c::l) isD <;> rfl
end
end Su
end
section
namespace Su
open Go Fly
noncomputable section
end
end Su
end
section
namespace Su
open Go Fly
end Su
end
section
namespace Su
open Go Fly
noncomputable section
end
end Su
end
section
namespace Su
open Go Fly
noncomputable section
def qyS  (n:Int):Option (List Int) :=
 (qhb ((10:Int),n)).bind fun x0=>
 some x0.1
def yR(n:Int):Option (List Int):=bif decide (n≤10000)then some (ofN (10^n.toNat))else none
theorem quN(n:Int)(y:List Int)(hg:(d1 (cI .i64)).good n)(h:yR n=some y):qyS n=some y:=by
 obtain⟨h1,h2⟩:=qi h;have:=soi h2;subst this
 unfold qyS qhb;simp only[h1,Wy,Kq,zf,zd]
end
end Su
end
