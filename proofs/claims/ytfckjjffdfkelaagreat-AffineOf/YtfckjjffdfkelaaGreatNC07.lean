/-
  What functions of the program compute, in plain Lean, and that the evaluator finds it.
-/
import Derived.Test.YtfckjjffdfkelaaGreatSuSd
import Derived.Test.YtfckjjffdfkelaaGreatNB10
set_option linter.unusedVariables false
set_option linter.unusedSimpArgs false
set_option maxRecDepth 10000
section
namespace Su
open Go Fly
noncomputable section
def yt:ByteArray:=⟨⟨[0,1,2,2,3,3,3,3,4,4,4,4,4,4,4,4,5,5,5,5,5,5,5,5,5,5,5,5,5,5,5,5,6,6,6,6,6,6,6,6,6,6,6,6,6,6,6,6,6,6,6,6,6,6,6,6,6,6,6,6,6,6,6,6,7,7,7,7,7,7,7,7,7,7,7,7,7,7,7,7,7,7,7,7,7,7,7,7,7,7,7,7,7,7,7,7,7,7,7,7,7,7,7,7,7,7,7,7,7,7,7,7,7,7,7,7,7,7,7,7,7,7,7,7,7,7,7,7,8,8,8,8,8,8,8,8,8,8,8,8,8,8,8,8,8,8,8,8,8,8,8,8,8,8,8,8,8,8,8,8,8,8,8,8,8,8,8,8,8,8,8,8,8,8,8,8,8,8,8,8,8,8,8,8,8,8,8,8,8,8,8,8,8,8,8,8,8,8,8,8,8,8,8,8,8,8,8,8,8,8,8,8,8,8,8,8,8,8,8,8,8,8,8,8,8,8,8,8,8,8,8,8,8,8,8,8,8,8,8,8,8,8,8,8,8,8,8,8,8,8,8,8,8,8,8,8]⟩⟩
def quS  (x:Int):Option Int :=
 (bif(decide (4294967296≤x))then
 (bif(decide (65536≤(Int.fdiv x (2^32))))then
 (bif(decide (256≤(Int.fdiv (Int.fdiv x (2^32)) (2^16))))then
 (bif(decide (0≤(IntKind.wrap .u8 (Int.fdiv (Int.fdiv (Int.fdiv x (2^32)) (2^16)) (2^8)))))then
 ((yt)[(Int.toNat (IntKind.wrap .u8 (Int.fdiv (Int.fdiv (Int.fdiv x (2^32)) (2^16)) (2^8))))]?).bind fun x0=>
 some (IntKind.wrap .i64 ((IntKind.wrap .i64 ((IntKind.wrap .i64 (32+16))+8))+(IntKind.wrap .i64 (UInt8.toNat x0:Int))))
 else none)
 else
  (bif(decide (0≤(IntKind.wrap .u8 (Int.fdiv (Int.fdiv x (2^32)) (2^16)))))then
  ((yt)[(Int.toNat (IntKind.wrap .u8 (Int.fdiv (Int.fdiv x (2^32)) (2^16))))]?).bind fun x1=>
  some (IntKind.wrap .i64 ((IntKind.wrap .i64 (32+16))+(IntKind.wrap .i64 (UInt8.toNat x1:Int))))
 else none))
 else
  (bif(decide (256≤(Int.fdiv x (2^32))))then
  (bif(decide (0≤(IntKind.wrap .u8 (Int.fdiv (Int.fdiv x (2^32)) (2^8)))))then
  ((yt)[(Int.toNat (IntKind.wrap .u8 (Int.fdiv (Int.fdiv x (2^32)) (2^8))))]?).bind fun x2=>
  some (IntKind.wrap .i64 ((IntKind.wrap .i64 (32+8))+(IntKind.wrap .i64 (UInt8.toNat x2:Int))))
 else none)
 else
  (bif(decide (0≤(IntKind.wrap .u8 (Int.fdiv x (2^32)))))then
  ((yt)[(Int.toNat (IntKind.wrap .u8 (Int.fdiv x (2^32))))]?).bind fun x3=>
  some (IntKind.wrap .i64 (32+(IntKind.wrap .i64 (UInt8.toNat x3:Int))))
 else none)))
 else
  (bif(decide (65536≤x))then
  (bif(decide (256≤(Int.fdiv x (2^16))))then
  (bif(decide (0≤(IntKind.wrap .u8 (Int.fdiv (Int.fdiv x (2^16)) (2^8)))))then
  ((yt)[(Int.toNat (IntKind.wrap .u8 (Int.fdiv (Int.fdiv x (2^16)) (2^8))))]?).bind fun x4=>
  some (IntKind.wrap .i64 ((IntKind.wrap .i64 ((IntKind.wrap .i64 (0+16))+8))+(IntKind.wrap .i64 (UInt8.toNat x4:Int))))
 else none)
 else
  (bif(decide (0≤(IntKind.wrap .u8 (Int.fdiv x (2^16)))))then
  ((yt)[(Int.toNat (IntKind.wrap .u8 (Int.fdiv x (2^16))))]?).bind fun x5=>
  some (IntKind.wrap .i64 ((IntKind.wrap .i64 (0+16))+(IntKind.wrap .i64 (UInt8.toNat x5:Int))))
 else none))
 else
  (bif(decide (256≤x))then
  (bif(decide (0≤(IntKind.wrap .u8 (Int.fdiv x (2^8)))))then
  ((yt)[(Int.toNat (IntKind.wrap .u8 (Int.fdiv x (2^8))))]?).bind fun x6=>
  some (IntKind.wrap .i64 ((IntKind.wrap .i64 (0+8))+(IntKind.wrap .i64 (UInt8.toNat x6:Int))))
 else none)
 else
  (bif(decide (0≤(IntKind.wrap .u8 x)))then
  ((yt)[(Int.toNat (IntKind.wrap .u8 x))]?).bind fun x7=>
  some (IntKind.wrap .i64 (0+(IntKind.wrap .i64 (UInt8.toNat x7:Int))))
 else none))))
def qEn  (a:Int)(b:Int):Option (Int×Int) :=
 some ((IntKind.wrap .u64 ((IntKind.wrap .u64 ((IntKind.wrap .u64 ((Int.fdiv a (2^32))*(Int.fdiv b (2^32))))+(Int.fdiv (IntKind.wrap .u64 ((IntKind.wrap .u64 ((Int.fdiv a (2^32))*(Fly.qD Go.BinOp.and .u64 b 4294967295)))+(Int.fdiv (IntKind.wrap .u64 ((Fly.qD Go.BinOp.and .u64 a 4294967295)*(Fly.qD Go.BinOp.and .u64 b 4294967295))) (2^32)))) (2^32))))+(Int.fdiv (IntKind.wrap .u64 ((Fly.qD Go.BinOp.and .u64 (IntKind.wrap .u64 ((IntKind.wrap .u64 ((Int.fdiv a (2^32))*(Fly.qD Go.BinOp.and .u64 b 4294967295)))+(Int.fdiv (IntKind.wrap .u64 ((Fly.qD Go.BinOp.and .u64 a 4294967295)*(Fly.qD Go.BinOp.and .u64 b 4294967295))) (2^32)))) 4294967295)+(IntKind.wrap .u64 ((Fly.qD Go.BinOp.and .u64 a 4294967295)*(Int.fdiv b (2^32)))))) (2^32)))),(IntKind.wrap .u64 (a*b)))
def qEo  (a:(Int×Int))(b:(Int×Int)):Option ((Int×Int)×Int) :=
 (bif(decide ((ZO 0 a.2 b.2 0)≤1))then
 some (((qbO 0 a.1 b.1 (ZO 0 a.2 b.2 0)),(qbO 0 a.2 b.2 0)),(ZO 0 a.1 b.1 (ZO 0 a.2 b.2 0)))
 else none)
def qEp  (a:(Int×Int))(b:(Int×Int)):Option ((Int×Int)×Int) :=
 (bif(decide ((ZO 1 a.2 b.2 0)≤1))then
 some (((qbO 1 a.1 b.1 (ZO 1 a.2 b.2 0)),(qbO 1 a.2 b.2 0)),(ZO 1 a.1 b.1 (ZO 1 a.2 b.2 0)))
 else none)
def qpY(x:Int):Option Int:=some (qo x.toNat:Int)
theorem qGZ:((List.range 256).all fun i=>decide ((yt[i]?).map UInt8.toNat=some (qo i)))=true:=by decide +kernel
theorem quT{i:Nat}(h:i<256):∃b:UInt8,yt[i]?=some b∧b.toNat=qo i:=by
 have:=KH.1 qGZ i (qHF.2 h)
 have h2:=KC this;cases hb:yt[i]? with
 | none=>rw[hb]at h2;cases h2
 | some b=>rw[hb]at h2;exact⟨b,rfl,by simpa using h2⟩
theorem qaO{y base:Nat}(hy:y<256)(hb:base≤64):(bif decide (0≤IntKind.u8.wrap (y:Int))then(yt[(IntKind.u8.wrap (y:Int)).toNat]?).bind fun x0=>some (IntKind.i64.wrap ((base:Int)+IntKind.i64.wrap ((x0.toNat:Nat):Int)))else none)=some ((base+qo y:Nat):Int):=by
 obtain⟨b,h1,h2⟩:=quT hy;have h8:qo y≤8:=yC.2 (by simpa using hy)
 rw[wu8 (by omega) (by omega),zf (by omega),zd,zl,h1,zi,h2];have e:IntKind.i64.wrap ((qo y:Nat):Int)=((qo y:Nat):Int):=w64 (by omega) (by omega)
 rw[e,w64 (by omega) (by omega)];rfl
theorem dge(a b:Nat):decide ((a:Int)≤(b:Int))=Nat.ble a b:=by
 rw[qcH];by_cases h:a≤b
 · rw[zf h,zf];omega
 · rw[zk h,zk];omega
theorem quU(x y:Int)(hg:(d1 (cI .u64)).good x)(h:qpY x=some y):quS x=some y:=by
 obtain⟨n,rfl,hn⟩:=q9 hg;have:=soi h;subst this
 unfold quS;rw[zl];have hs:∀ {k:Nat},2^k≤n→qo n=k+qo (n / 2^k):=fun h=>Yu h
 have e48:IntKind.i64.wrap (IntKind.i64.wrap (32+16)+8)=((56:Nat):Int):=by decide
 have e32:IntKind.i64.wrap (32+16)=((48:Nat):Int):=by decide
 have e40:IntKind.i64.wrap (32+8)=((40:Nat):Int):=by decide
 have e24:IntKind.i64.wrap (IntKind.i64.wrap (0+16)+8)=((24:Nat):Int):=by decide
 have e16:IntKind.i64.wrap (0+16)=((16:Nat):Int):=by decide
 have e8:IntKind.i64.wrap (0+8)=((8:Nat):Int):=by decide
 have c32:(32:Int)=((32:Nat):Int):=rfl
 have c0:(0:Int)=((0:Nat):Int):=rfl
 have d1:decide ((4294967296:Int)≤(n:Int))=Nat.ble 4294967296 n:=dge 4294967296 n
 have d2:∀m:Nat,decide ((65536:Int)≤(m:Int))=Nat.ble 65536 m:=fun m=>dge 65536 m
 have d3:∀m:Nat,decide ((256:Int)≤(m:Int))=Nat.ble 256 m:=fun m=>dge 256 m
 simp only[JD,d1,d2,d3,e48,e40,e24,e8];simp only[e32,e16];cases h1:Nat.ble 4294967296 n with
 | true=>
  have b1:=zo h1;rw[zd];cases h2:Nat.ble 65536 (n / 2^32)with
  | true=>
   have b2:=zo h2;rw[zd];cases h3:Nat.ble 256 (n / 2^32 / 2^16)with
   | true=>
    have b3:=zo h3;rw[zd,qaO (by omega) (by omega),hs (k:=56) (by omega)]
    congr 3;rw[Kv,Kv]
   | false=>
    have b3:n / 2^32 / 2^16<256:=Vx fun e=>by rw[zn e]at h3;cases h3
    rw[zh,qaO b3 (by omega),hs (k:=48) (by omega)]
    congr 3;rw[Kv]
  | false=>
   have b2:n / 2^32<65536:=Vx fun e=>by rw[zn e]at h2;cases h2
   rw[zh];cases h3:Nat.ble 256 (n / 2^32)with
   | true=>
    have b3:=zo h3;rw[zd,qaO (by omega) (by omega),hs (k:=40) (by omega)]
    congr 3;rw[Kv]
   | false=>
    have b3:n / 2^32<256:=Vx fun e=>by rw[zn e]at h3;cases h3
    rw[zh,c32,qaO b3 (by omega),hs (k:=32) (by omega)]
 | false=>
  have b1:n<4294967296:=Vx fun e=>by rw[zn e]at h1;cases h1
  rw[zh];cases h2:Nat.ble 65536 n with
  | true=>
   have b2:=zo h2;rw[zd];cases h3:Nat.ble 256 (n / 2^16)with
   | true=>
    have b3:=zo h3;rw[zd,qaO (by omega) (by omega),hs (k:=24) (by omega)]
    congr 3;rw[Kv]
   | false=>
    have b3:n / 2^16<256:=Vx fun e=>by rw[zn e]at h3;cases h3
    rw[zh,qaO b3 (by omega),hs (k:=16) (by omega)]
  | false=>
   have b2:n<65536:=Vx fun e=>by rw[zn e]at h2;cases h2
   rw[zh];cases h3:Nat.ble 256 n with
   | true=>
    have b3:=zo h3;rw[zd,qaO (by omega) (by omega),hs (k:=8) (by omega)]
   | false=>
    have b3:n<256:=Vx fun e=>by rw[zn e]at h3;cases h3
    rw[zh];have:=qaO (base:=0) b3 (by omega)
    rw[zQ]at this;exact this
def quV(p:Int×Int):Option (Int×Int):=some (hiW (p.1.toNat*p.2.toNat),loW (p.1.toNat*p.2.toNat))
theorem qzA(p:Int×Int)(y:Int×Int)(hg:(dc (cI .u64) (d1 (cI .u64))).good p)(h:quV p=some y):qEn p.1 p.2=some y:=by
 obtain⟨a,b⟩:=p;obtain⟨A,rfl,hA⟩:=q9 hg.1;obtain⟨B,rfl,hB⟩:=q9 hg.2;have:=soi h;subst this
 unfold qEn;simp only[zl];have m1:∀X:Nat,X<18446744073709551616→qD .and .u64 (X:Int) 4294967295=((X % 4294967296:Nat):Int):=fun X hX=>qcF X 4294967295 32 rfl hX (by omega)
 have hc:=quR A B hA hB;simp only[]at hc;obtain⟨c1,c2,c3,c4,c5,c6,c7,c8,c9⟩:=hc;have wn:∀X:Nat,X<18446744073709551616→IntKind.u64.wrap (X:Int)=(X:Int):=fun X hX=>jS (by omega) (by omega)
 have p32:∀X:Nat,X / 2^32=X / 4294967296:=fun X=>rfl
 simp only[m1 A hA,m1 B hB,JD,p32,← Kq];rw[wn _ c2,wn _ c6,wn _ c7,wn _ c9];simp only[JD,p32,← Vg];rw[wn _ c3];simp only[m1 _ c3,JD,p32,← Vg];rw[wn _ c4,wn _ c8];simp only[JD,p32,← Vg];rw[wn _ c5,c1];unfold hiW loW;have h1:A*B / 18446744073709551616<18446744073709551616:=by rw[← c1];exact c5
 rw[KA h1,wrap_u64]
 congr 2
def quW(p:(Int×Int)×Int×Int):Option ((Int×Int)×Int):=some ((hiW (qe p.1+qe p.2),loW (qe p.1+qe p.2)),(((qe p.1+qe p.2) / 340282366920938463463374607431768211456:Nat):Int))
theorem qzB(p:(Int×Int)×Int×Int)(y:(Int×Int)×Int)(hg:(dc cW (d1 cW)).good p)(h:quW p=some y):qEo p.1 p.2=some y:=by
 obtain⟨⟨a,b⟩,c,d⟩:=p;obtain⟨⟨ha,hb⟩,hc,hd⟩:=hg;obtain⟨A,rfl,hA⟩:=q9 ha;obtain⟨B,rfl,hB⟩:=q9 hb;obtain⟨C,rfl,hC⟩:=q9 hc;obtain⟨D,rfl,hD⟩:=q9 hd;have:=soi h;subst this
 unfold qEo;have a0:∀x y c:Int,qbO 0 x y c=(((x.toNat+y.toNat+c.toNat) % 18446744073709551616:Nat):Int):=fun _ _ _=>rfl
 have b0:∀x y c:Int,ZO 0 x y c=(((x.toNat+y.toNat+c.toNat) / 18446744073709551616:Nat):Int):=fun _ _ _=>rfl
 simp only[a0,b0,QO,hiW,loW,zl,W5];rw[zf (by omega),zd]
 congr 2
 · congr 1 <;> congr 1 <;> omega
 · congr 1;omega
noncomputable def quX(p:(Int×Int)×Int×Int):Option ((Int×Int)×Int):=some ((hiW (JE (qe p.1) (qe p.2)),loW (JE (qe p.1) (qe p.2))),bif Nat.blt (qe p.1) (qe p.2)then 1 else 0)
theorem qzC(a b:Nat):Nat.blt a b=decide (a<b):=by
 cases h:Nat.blt a b with
 | true=>
  have:a<b:=by rw[Wf]at h;exact h
  simp[this]
 | false=>symm;simp;refine Wg fun e=>?_;rw[show Nat.blt a b=true by rw[Wf];exact e]at h;cases h
theorem qzD(p:(Int×Int)×Int×Int)(y:(Int×Int)×Int)(hg:(dc cW (d1 cW)).good p)(h:quX p=some y):qEp p.1 p.2=some y:=by
 obtain⟨⟨a,b⟩,c,d⟩:=p;obtain⟨⟨ha,hb⟩,hc,hd⟩:=hg;obtain⟨A,rfl,hA⟩:=q9 ha;obtain⟨B,rfl,hB⟩:=q9 hb;obtain⟨C,rfl,hC⟩:=q9 hc;obtain⟨D,rfl,hD⟩:=q9 hd;have:=soi h;subst this
 unfold qEp;have a1:∀x y c:Int,qbO 1 x y c=(((x.toNat+18446744073709551616-y.toNat-c.toNat) % 18446744073709551616:Nat):Int):=fun _ _ _=>rfl
 have b1:∀x y c:Int,ZO 1 x y c=(bif Nat.blt x.toNat (y.toNat+c.toNat)then 1 else 0):=fun _ _ _=>rfl
 simp only[a1,b1,qe2,QO,hiW,loW,zl,W5,Kr,qzC,qcI];by_cases h1:B<D
 · rw[Kp h1]
   simp only[Int.toNat_one];rw[Kp (by decide)];by_cases h2:A<C+1
   · rw[Kp h2,Kp (by omega)]
     congr 2
     congr 1 <;> congr 1 <;> omega
   · rw[zZ h2,zZ (by omega)]
     congr 2
     congr 1 <;> congr 1 <;> omega
 · rw[zZ h1]
   simp only[W5,Kr,Xd];rw[Kp (by decide)];by_cases h2:A<C
   · rw[Kp h2,Kp (by omega)]
     congr 2
     congr 1 <;> congr 1 <;> omega
   · rw[zZ h2,zZ (by omega)]
     congr 2
     congr 1 <;> congr 1 <;> omega
end
end Su
end
section
namespace Su
open Go Fly
noncomputable section
def qEq  (a:(Int×Int)):Option Int :=
 (bif(decide (0<a.1))then
 some (IntKind.wrap .i64 (64+(qo a.1.toNat:Int)))
 else
  some (qo a.2.toNat:Int))
def qbi:(Int×Int×Int×Int×Int×Unit)→Option ((Int×Int×Int×Int×Int×Unit) ⊕ (Lp (Int×Int×Int×Int×Int×Unit) (Int×Int))):=fun p0=>(bif(decide (64≤p0.1))then
 (bif((decide (p0.2.2.1=0))&&true)then
 some (.inr (.ret (p0.2.2.1,(0:Int))))
 else
  some (.inl ((IntKind.wrap .i64 (p0.1-64)),p0.2.2.1,(0:Int),p0.2.2.2.1,p0.2.2.2.2.1,())))
 else
  some (.inr (.exit 0 (p0.1,p0.2.1,p0.2.2.1,p0.2.2.2.1,p0.2.2.2.2.1,()))))
def qEr  (fu:Nat)(a:(Int×Int))(n:Int):Option (Int×Int) :=
 (itP fu (qbi) (n,a.1,a.2,(0:Int),(0:Int),())).bind fun x1=>
 (match x1 with
 | .exit i2 p3=>(bif(Nat.beq i2 0)then
  (bif(decide (p3.1≤0))then
  some (p3.2.1,p3.2.2.1)
 else
  (bif(decide (0≤p3.1))then
  (bif(decide (0≤(IntKind.wrap .i64 (64-p3.1))))then
  (bif(decide (0≤p3.1))then
  some ((Fly.qD Go.BinOp.or .u64 (IntKind.wrap .u64 (p3.2.1*(2^(min p3.1.toNat 64)))) (Int.fdiv p3.2.2.1 (2^(min (Int.toNat (IntKind.wrap .i64 (64-p3.1))) 64)))),(IntKind.wrap .u64 (p3.2.2.1*(2^(min p3.1.toNat 64)))))
 else none)
 else none)
 else none))
 else none)
 | .ret o4=>some o4)
def qcQ:(Int×Bool×Int×Int×Int×Int×Unit)→Option ((Int×Bool×Int×Int×Int×Int×Unit) ⊕ (Lp (Int×Bool×Int×Int×Int×Int×Unit) ((Int×Int)×Bool))):=fun p0=>(bif(decide (64≤p0.1))then
 (bif p0.2.1 then
 (bif(true&&((decide (p0.2.2.1=0))&&true))then
 some (.inr (.ret (((0:Int),p0.2.2.1),true)))
 else
  some (.inl ((IntKind.wrap .i64 (p0.1-64)),true,(0:Int),p0.2.2.1,p0.2.2.2.2.1,p0.2.2.2.2.2.1,())))
 else
  (bif(true&&((decide (p0.2.2.1=0))&&true))then
  some (.inr (.ret (((0:Int),p0.2.2.1),(!(decide (p0.2.2.2.1=0))))))
 else
  some (.inl ((IntKind.wrap .i64 (p0.1-64)),(!(decide (p0.2.2.2.1=0))),(0:Int),p0.2.2.1,p0.2.2.2.2.1,p0.2.2.2.2.2.1,()))))
 else
  some (.inr (.exit 0 (p0.1,p0.2.1,p0.2.2.1,p0.2.2.2.1,p0.2.2.2.2.1,p0.2.2.2.2.2.1,()))))
def qEs  (fu:Nat)(a:(Int×Int))(n:Int):Option ((Int×Int)×Bool) :=
 (itP fu (qcQ) (n,false,a.1,a.2,(0:Int),(0:Int),())).bind fun x1=>
 (match x1 with
 | .exit i2 p3=>(bif(Nat.beq i2 0)then
  (bif(decide (p3.1≤0))then
  some ((p3.2.2.1,p3.2.2.2.1),p3.2.1)
 else
  (bif(decide (0≤p3.1))then
  (bif(decide (0≤p3.1))then
  (bif(decide (0≤(IntKind.wrap .i64 (64-p3.1))))then
  (bif p3.2.1 then
  some (((Int.fdiv p3.2.2.1 (2^(min p3.1.toNat 64))),(Fly.qD Go.BinOp.or .u64 (Int.fdiv p3.2.2.2.1 (2^(min p3.1.toNat 64))) (IntKind.wrap .u64 (p3.2.2.1*(2^(min (Int.toNat (IntKind.wrap .i64 (64-p3.1))) 64)))))),true)
 else
  (bif(decide (0≤(IntKind.wrap .i64 (64-p3.1))))then
  some (((Int.fdiv p3.2.2.1 (2^(min p3.1.toNat 64))),(Fly.qD Go.BinOp.or .u64 (Int.fdiv p3.2.2.2.1 (2^(min p3.1.toNat 64))) (IntKind.wrap .u64 (p3.2.2.1*(2^(min (Int.toNat (IntKind.wrap .i64 (64-p3.1))) 64)))))),(!(decide ((IntKind.wrap .u64 (p3.2.2.2.1*(2^(min (Int.toNat (IntKind.wrap .i64 (64-p3.1))) 64))))=0))))
 else none))
 else none)
 else none)
 else none))
 else none)
 | .ret o4=>some o4)
def quY(a:Int×Int):Option Int:=some (qo (qe a):Int)
theorem qzE(a:Int×Int)(y:Int)(hg:(d1 cW).good a)(h:quY a=some y):qEq a=some y:=by
 obtain⟨a,b⟩:=a;obtain⟨ha,hb⟩:=hg;obtain⟨A,rfl,hA⟩:=q9 ha;obtain⟨B,rfl,hB⟩:=q9 hb;have:=soi h;subst this
 unfold qEq;rw[QO];simp only[zl];have hbA:qo A≤64:=yC.2 (by simpa using hA)
 by_cases h0:0<A
 · rw[zf (show(0:Int)<(A:Int) by omega),zd,w64 (by omega) (by omega)]
   have:=Yu (n:=A*18446744073709551616+B) (k:=64) (by omega)
   rw[this,show(A*18446744073709551616+B) / 2^64=A by omega];rfl
 · have:A=0:=by omega
   subst this;rw[zk (by decide),zh,Vo,zQ]
def quZ(p:(Int×Int)×Int):Option (Int×Int):=some (hiW (2^p.2.toNat*qe p.1),loW (2^p.2.toNat*qe p.1))
def qu0(p:(Int×Int)×Int):Option ((Int×Int)×Bool):=some ((hiW (qe p.1 / 2^p.2.toNat),loW (qe p.1 / 2^p.2.toNat)),!Nat.beq (qe p.1 % 2^p.2.toNat) 0)
theorem qu1(n:Nat)(h0:64≤n)(h:n<9223372036854775808):IntKind.i64.wrap ((n:Int)-64)=((n-64:Nat):Int):=by rw[w64 (by omega) (by omega)];omega
theorem qpZ(H L r:Nat)(hr:r<64)(hH:H<18446744073709551616)(hL:L<18446744073709551616) :
 (bif decide ((r:Int)≤0)then some ((H:Int),(L:Int))else bif decide ((0:Int)≤(r:Int))then bif decide ((0:Int)≤IntKind.i64.wrap (64-(r:Int)))then bif decide ((0:Int)≤(r:Int))then
   some ((qD .or .u64 (IntKind.u64.wrap ((H:Int)*2^(min (r:Int).toNat 64))) (Int.fdiv (L:Int) (2^(min (IntKind.i64.wrap (64-(r:Int))).toNat 64)))),IntKind.u64.wrap ((L:Int)*2^(min (r:Int).toNat 64)))else none else none else none)
 = some (hiW ((H*18446744073709551616+L)*2^r),loW ((H*18446744073709551616+L)*2^r)):=by
 obtain⟨c1,c2⟩:=quP H L r (by omega) hL
 by_cases h0:r=0
 · subst h0
   rw[zf (by decide),zd];unfold hiW loW;rw[Vp,Wb]
   congr 2 <;> congr 1 <;> omega
 · have e1:IntKind.i64.wrap (64-(r:Int))=((64-r:Nat):Int):=by rw[w64 (by omega) (by omega)];omega
   have e2:∀x:Nat,IntKind.u64.wrap ((x:Int)*2^r)=((x*2^r % 18446744073709551616:Nat):Int):=fun x=>by
    rw[wrap_u64,show((2:Int)^r)=((2^r:Nat):Int) by simp,← Kq];rfl
   rw[zk (by omega),zh,zf (by omega),zd,e1,zf (by omega),zd,zd];simp only[zl,Vq (show r≤64 by omega),Vq (show 64-r≤64 by omega),e2,JD];have l1:L / 2^(64-r)<18446744073709551616:=KX (VG _ _) hL
   rw[qcE _ _ (Vr _ (by decide)) l1,c1,c2];rfl
theorem qp0{X Y:Nat}(h:X % 340282366920938463463374607431768211456=0):hiW (X+Y)=hiW Y:=by unfold hiW;congr 1;omega
theorem qp1{X Y:Nat}(h:X % 340282366920938463463374607431768211456=0):loW (X+Y)=loW Y:=by unfold loW;congr 1;omega
theorem qzF(p:(Int×Int)×Int)(y:Int×Int)(hg:(dc cW (d1 (cI .i64))).good p)(h:quZ p=some y):∃n,qEr n p.1 p.2=some y:=by
 obtain⟨⟨a,b⟩,n⟩:=p;obtain⟨⟨ha,hb⟩,hn⟩:=hg;obtain⟨A,rfl,hA⟩:=q9 ha;obtain⟨B,rfl,hB⟩:=q9 hb;have hn:=YK.1 hn;have:=soi h;subst this
 refine⟨3,?_⟩
 unfold qEr;rw[zL (2^_)];rw[QO];simp only[zl];by_cases hneg:n<64
 · -- no round
   simp only[qC,qbi];rw[zk (by omega)];simp only[zh,zi];rw[show Nat.beq 0 0=true from rfl,zd];by_cases h0:n≤0
   · rw[zf h0,zd]
     have:n.toNat=0:=by omega
     rw[this,Vp,Wb];unfold hiW loW
     congr 2 <;> congr 1 <;> omega
   · obtain⟨r,rfl⟩:∃r:Nat,n=(r:Int):=⟨n.toNat,by omega⟩
     rw[zl];exact qpZ A B r (by omega) hA hB
 · obtain⟨N,rfl⟩:∃N:Nat,n=(N:Int):=⟨n.toNat,by omega⟩
   have hN:64≤N:=by omega
   rw[zl];have d0:decide ((64:Int)≤(N:Int))=true:=zf (by omega)
   obtain⟨X,hX0,hv⟩:∃X,X % 340282366920938463463374607431768211456=0∧(A*18446744073709551616+B)*2^N=X+(B*18446744073709551616)*2^(N-64):=by
    refine⟨A*2^(N-64)*340282366920938463463374607431768211456,Nat.mul_mod_left _ _,?_⟩
    rw[show N=(N-64)+64 by omega,zW,show(2^64:Nat)=18446744073709551616 from rfl,VM];generalize 2^(N-64)=z
    rw[zV,← zR,← zR];rw[VO A,zR (A*z),VO B]
   rw[hv,qp0 hX0,qp1 hX0];by_cases hB0:B=0
   · subst hB0
     rw[qC];simp only[qbi,d0,zd,zi,show decide (((0:Nat):Int)=0)=true from rfl,zY];simp only[Vo];rfl
   · have db:decide ((B:Int)=0)=false:=zk (by omega)
     have es:=qu1 N hN (by omega)
     rw[qC];simp only[qbi,d0,zd,db,KW,zh,zi,es];by_cases h2:N<128
     · have d1:decide ((64:Int)≤((N-64:Nat):Int))=false:=zk (by omega)
       rw[qC];simp only[qbi,d1,zh,zi];rw[show Nat.beq 0 0=true from rfl,zd];have:=qpZ B 0 (N-64) (by omega) hB (by omega)
       rw[Kr]at this;exact this
     · have d1:decide ((64:Int)≤((N-64:Nat):Int))=true:=zf (by omega)
       rw[qC];simp only[qbi,d1,zd,zi];obtain⟨Z,hZ0,hz⟩:∃Z,Z % 340282366920938463463374607431768211456=0∧B*18446744073709551616*2^(N-64)=Z+0:=by
        obtain⟨M,hM⟩:∃M,N-64=M+64:=⟨N-64-64,by omega⟩
        refine⟨B*2^M*340282366920938463463374607431768211456,Nat.mul_mod_left _ _,?_⟩
        rw[hM,zW,show(2^64:Nat)=18446744073709551616 from rfl,Kr];rw[Nat.mul_mul_mul_comm]
       rw[hz,qp0 hZ0,qp1 hZ0];rfl
theorem qp2(H L r:Nat)(lost:Bool)(hr:r<64)(hH:H<18446744073709551616)(hL:L<18446744073709551616) :
 (bif decide ((r:Int)≤0)then some (((H:Int),(L:Int)),lost)else bif decide ((0:Int)≤(r:Int))then bif decide ((0:Int)≤(r:Int))then bif decide ((0:Int)≤IntKind.i64.wrap (64-(r:Int)))then bif lost then
   some (((Int.fdiv (H:Int) (2^(min (r:Int).toNat 64))),(qD .or .u64 (Int.fdiv (L:Int) (2^(min (r:Int).toNat 64))) (IntKind.u64.wrap ((H:Int)*2^(min (IntKind.i64.wrap (64-(r:Int))).toNat 64))))),true)
   else bif decide ((0:Int)≤IntKind.i64.wrap (64-(r:Int)))then
   some (((Int.fdiv (H:Int) (2^(min (r:Int).toNat 64))),(qD .or .u64 (Int.fdiv (L:Int) (2^(min (r:Int).toNat 64))) (IntKind.u64.wrap ((H:Int)*2^(min (IntKind.i64.wrap (64-(r:Int))).toNat 64))))),(!(decide (IntKind.u64.wrap ((L:Int)*2^(min (IntKind.i64.wrap (64-(r:Int))).toNat 64))=0))))else none else none else none else none)
 = some ((hiW ((H*18446744073709551616+L) / 2^r),loW ((H*18446744073709551616+L) / 2^r)),lost||!Nat.beq ((H*18446744073709551616+L) % 2^r) 0):=by
 obtain⟨c1,c2,c3⟩:=quQ H L r (by omega) hH hL
 by_cases h0:r=0
 · subst h0
   rw[zf (by decide),zd];rw[Vp,Xv,XL];unfold hiW loW;have q1:(H*18446744073709551616+L) / 18446744073709551616 % 18446744073709551616=H:=by omega
   have q2:(H*18446744073709551616+L) % 18446744073709551616=L:=by omega
   rw[show(!Nat.beq 0 0)=false from rfl,Xf,q1,q2]
 · have e1:IntKind.i64.wrap (64-(r:Int))=((64-r:Nat):Int):=by rw[w64 (by omega) (by omega)];omega
   have e2:∀x k:Nat,IntKind.u64.wrap ((x:Int)*2^k)=((x*2^k % 18446744073709551616:Nat):Int):=fun x k=>by
    rw[wrap_u64,show((2:Int)^k)=((2^k:Nat):Int) by simp,← Kq];rfl
   rw[zk (by omega),zh,zf (by omega),zd,zd,e1,zf (by omega),zd,zd];simp only[zl,Vq (show r≤64 by omega),Vq (show 64-r≤64 by omega),e2,JD];have l1:L / 2^r<18446744073709551616:=KX (VG _ _) hL
   rw[qcE _ _ l1 (Vr _ (by decide)),c1,c2];have e3:decide (((L*2^(64-r) % 18446744073709551616:Nat):Int)=0)=Nat.beq ((H*18446744073709551616+L) % 2^r) 0:=by
    rw[beq_dec];by_cases hz:(H*18446744073709551616+L) % 2^r=0
    · rw[zf hz,c3.2 hz];rfl
    · rw[zk hz,zk]
      intro e;exact hz (c3.1 (by omega))
   rw[e3];unfold hiW loW;cases lost with
   | true=>rw[zd,Xb]
   | false=>rw[zh,VL]
theorem qEt(B z c:Nat)(hc:0<c):(!Nat.beq B 0||!Nat.beq z 0) = !Nat.beq (B+c*z) 0:=by
 by_cases hb:B=0
 · by_cases hz:z=0
   · subst hb hz;rw[VB];rfl
   · have:B+c*z≠0:=by have:=Xx hc (show 0<z by omega);omega
     rw[qbW hz,qbW this,Kl,Xk]
 · have:B+c*z≠0:=by omega
   rw[qbW hb,qbW this,Kl,Xb]
theorem qzG(p:(Int×Int)×Int)(y:(Int×Int)×Bool)(hg:(dc cW (d1 (cI .i64))).good p)(h:qu0 p=some y):∃n,qEs n p.1 p.2=some y:=by
 obtain⟨⟨a,b⟩,n⟩:=p;obtain⟨⟨ha,hb⟩,hn⟩:=hg;obtain⟨A,rfl,hA⟩:=q9 ha;obtain⟨B,rfl,hB⟩:=q9 hb;have hn:=YK.1 hn;have:=soi h;subst this
 refine⟨3,?_⟩
 unfold qEs;rw[QO];simp only[zl];by_cases hneg:n<64
 · rw[qC]
   simp only[qcQ];rw[zk (by omega)];simp only[zh,zi];rw[show Nat.beq 0 0=true from rfl,zd];by_cases h0:n≤0
   · rw[zf h0,zd]
     have:n.toNat=0:=by omega
     rw[this,Vp,Xv,XL];unfold hiW loW;have q1:(A*18446744073709551616+B) / 18446744073709551616 % 18446744073709551616=A:=by omega
     have q2:(A*18446744073709551616+B) % 18446744073709551616=B:=by omega
     rw[show(!Nat.beq 0 0)=false from rfl,q1,q2]
   · obtain⟨r,rfl⟩:∃r:Nat,n=(r:Int):=⟨n.toNat,by omega⟩
     rw[zl];have h:=qp2 A B r false (by omega) hA hB
     rw[VL]at h;exact h
 · obtain⟨N,rfl⟩:∃N:Nat,n=(N:Int):=⟨n.toNat,by omega⟩
   have hN:64≤N:=by omega
   rw[zl];have d0:decide ((64:Int)≤(N:Int))=true:=zf (by omega)
   have hpow:2^N=18446744073709551616*2^(N-64):=by
    have:N=64+(N-64):=by omega
    conv=>lhs;rw[this]
    rw[zW]
   have hdiv:(A*18446744073709551616+B) / 2^N=A / 2^(N-64):=by
    rw[hpow,← Kv,show(A*18446744073709551616+B) / 18446744073709551616=A by omega]
   have hmod:(A*18446744073709551616+B) % 2^N=B+18446744073709551616*(A % 2^(N-64)):=by
    rw[hpow,Nat.mod_mul,show(A*18446744073709551616+B) / 18446744073709551616=A by omega,show(A*18446744073709551616+B) % 18446744073709551616=B by omega]
   rw[hdiv,hmod];have es:=qu1 N hN (by omega)
   have dB:decide ((B:Int)=0)=Nat.beq B 0:=by rw[beq_dec];by_cases h:B=0 <;> simp[h]
   have dA:decide ((A:Int)=0)=Nat.beq A 0:=by rw[beq_dec];by_cases h:A=0 <;> simp[h]
   rw[qC];simp only[qcQ,d0,zd,zh,es,dA,dB,zG,zN];by_cases hA0:A=0
   · subst hA0
     rw[show Nat.beq 0 0=true from rfl,zd,XX,qHM,VB,Kr];rfl
   · rw[qbW hA0,zh]
     simp only[zi];by_cases h2:N<128
     · have d1:decide ((64:Int)≤((N-64:Nat):Int))=false:=zk (by omega)
       rw[qC];simp only[qcQ,d1,zh,zi];rw[show Nat.beq 0 0=true from rfl,zd];have:=qp2 0 A (N-64) (!Nat.beq B 0) (by omega) (by omega) hA
       rw[Vo,zQ]at this;refine Eq.trans this ?_
       rw[qEt B (A % 2^(N-64)) 18446744073709551616 (by decide)]
     · have d1:decide ((64:Int)≤((N-64:Nat):Int))=true:=zf (by omega)
       have hlt:A<2^(N-64):=Ki hA (Kf (n:=2) (by omega) (show 64≤N-64 by omega))
       rw[qC,Vu hlt,KA hlt];simp only[qcQ,d1,zd,dA,qbW hA0,show decide ((0:Int)=0)=true from rfl,zY,Kl];have hz:Nat.beq (B+18446744073709551616*A) 0=false:=qbW (by omega)
       have h1:hiW 0=0:=rfl
       have h2:loW 0=0:=rfl
       rw[hz,h1,h2];cases Nat.beq B 0 with
       | true=>simp only[Kh,Kl,WA,zY,zh,zd,zi]
       | false=>simp only[Kl,WA,zY,zd,zi]
end
end Su
end
section
namespace Su
open Go Fly
noncomputable section
def rUp  (x:(Bool×Int×Int×Int×Bool))(mode:Int)(odd:Bool)(half:Bool)(rest:Bool):Option Bool :=
 (bif(decide (mode=1))then
 (bif(!x.1)then
 (bif half then
 some true
 else
  some rest)
 else
  (bif(decide (mode=2))then
  (bif x.1 then
  (bif half then
  some true
 else
  some rest)
 else
  (bif(decide (mode=1))then
  (bif x.1 then
  some false
 else
  (bif(decide (mode=2))then
  (bif(!x.1)then
  some false
 else
  (bif half then
  (bif rest then
  some true
 else
  some odd)
 else
  some false))
 else
  (bif half then
  (bif rest then
  some true
 else
  some odd)
 else
  some false)))
 else
  (bif(decide (mode=2))then
  (bif(!x.1)then
  some false
 else
  (bif half then
  (bif rest then
  some true
 else
  some odd)
 else
  some false))
 else
  (bif half then
  (bif rest then
  some true
 else
  some odd)
 else
  some false))))
 else
  (bif(decide (mode=1))then
  (bif x.1 then
  some false
 else
  (bif(decide (mode=2))then
  (bif(!x.1)then
  some false
 else
  (bif half then
  (bif rest then
  some true
 else
  some odd)
 else
  some false))
 else
  (bif half then
  (bif rest then
  some true
 else
  some odd)
 else
  some false)))
 else
  (bif(decide (mode=2))then
  (bif(!x.1)then
  some false
 else
  (bif half then
  (bif rest then
  some true
 else
  some odd)
 else
  some false))
 else
  (bif half then
  (bif rest then
  some true
 else
  some odd)
 else
  some false)))))
 else
  (bif(decide (mode=2))then
  (bif x.1 then
  (bif half then
  some true
 else
  some rest)
 else
  (bif(decide (mode=1))then
  (bif x.1 then
  some false
 else
  (bif(decide (mode=2))then
  (bif(!x.1)then
  some false
 else
  (bif half then
  (bif rest then
  some true
 else
  some odd)
 else
  some false))
 else
  (bif half then
  (bif rest then
  some true
 else
  some odd)
 else
  some false)))
 else
  (bif(decide (mode=2))then
  (bif(!x.1)then
  some false
 else
  (bif half then
  (bif rest then
  some true
 else
  some odd)
 else
  some false))
 else
  (bif half then
  (bif rest then
  some true
 else
  some odd)
 else
  some false))))
 else
  (bif(decide (mode=1))then
  (bif x.1 then
  some false
 else
  (bif(decide (mode=2))then
  (bif(!x.1)then
  some false
 else
  (bif half then
  (bif rest then
  some true
 else
  some odd)
 else
  some false))
 else
  (bif half then
  (bif rest then
  some true
 else
  some odd)
 else
  some false)))
 else
  (bif(decide (mode=2))then
  (bif(!x.1)then
  some false
 else
  (bif half then
  (bif rest then
  some true
 else
  some odd)
 else
  some false))
 else
  (bif half then
  (bif rest then
  some true
 else
  some odd)
 else
  some false)))))
def qu2  (x:(Bool×Int×Int×Int×Bool))(mode:Int):Option (Int×Int) :=
 (bif(decide (mode=1))then
 (bif x.1 then
 some ((IntKind.wrap .u64 (((((sgN x.1)+9218868437227405312):Nat):Int)-1)),(5:Int))
 else
  (bif(decide (mode=2))then
  (bif(!x.1)then
  some ((IntKind.wrap .u64 (((((sgN x.1)+9218868437227405312):Nat):Int)-1)),(5:Int))
 else
  some (((((sgN x.1)+9218868437227405312):Nat):Int),(5:Int)))
 else
  some (((((sgN x.1)+9218868437227405312):Nat):Int),(5:Int))))
 else
  (bif(decide (mode=2))then
  (bif(!x.1)then
  some ((IntKind.wrap .u64 (((((sgN x.1)+9218868437227405312):Nat):Int)-1)),(5:Int))
 else
  some (((((sgN x.1)+9218868437227405312):Nat):Int),(5:Int)))
 else
  some (((((sgN x.1)+9218868437227405312):Nat):Int),(5:Int))))
abbrev qrO:=Bool×(Int×Int×Int×Bool)
def qCw(p:qrO×Int×Bool×Bool×Bool):Option Bool:=some (upN p.1.1 p.2.1 p.2.2.1 p.2.2.2.1 p.2.2.2.2)
theorem qEu(p:qrO×Int×Bool×Bool×Bool)(y:Bool)(hg:(dc qjv (dc (cI .u8) (dc cB (dc cB (d1 cB))))).good p)(h:qCw p=some y):rUp p.1 p.2.1 p.2.2.1 p.2.2.2.1 p.2.2.2.2=some y:=by
 obtain⟨⟨neg,x⟩,mode,odd,half,rest⟩:=p;have:=soi h;subst this
 unfold rUp upN awN twN;simp only[];by_cases h1:mode=1
 · subst h1
   cases neg <;> cases half <;> cases rest <;> cases odd <;> rfl
 · by_cases h2:mode=2
   · subst h2
     cases neg <;> cases half <;> cases rest <;> cases odd <;> rfl
   · rw[zk h1,zk h2]
     cases neg <;> cases half <;> cases rest <;> cases odd <;> rfl
def ovN(neg:Bool)(mode:Int):Nat:=sgN neg+bif twN neg mode then 9218868437227405311 else 9218868437227405312
def qp3(p:qrO×Int):Option (Int×Int):=some ((ovN p.1.1 p.2:Int),5)
theorem qu3(p:qrO×Int)(y:Int×Int)(hg:(dc qjv (d1 (cI .u8))).good p)(h:qp3 p=some y):qu2 p.1 p.2=some y:=by
 obtain⟨⟨neg,x⟩,mode⟩:=p;have:=soi h;subst this
 have e:IntKind.u64.wrap (((sgN neg+9218868437227405312:Nat):Int)-1)=((sgN neg+9218868437227405311:Nat):Int):=by
  have:sgN neg≤9223372036854775808:=by unfold sgN;cases neg <;> simp
  rw[jS (by omega) (by omega)];omega
 unfold qu2 ovN twN;simp only[e];generalize sgN neg=z
 have d11:decide ((1:Int)=1)=true:=rfl
 have d12:decide ((1:Int)=2)=false:=rfl
 have d21:decide ((2:Int)=1)=false:=rfl
 have d22:decide ((2:Int)=2)=true:=rfl
 by_cases h1:mode=1
 · subst h1
   rw[d11,d12];cases neg <;> simp only[zd,zh]
 · by_cases h2:mode=2
   · subst h2
     rw[d21,d22];cases neg <;> simp only[zd,zh,Kh,Kl]
   · rw[zk h1,zk h2]
     cases neg <;> simp only[zd,zh]
end
end Su
end
