/-
  What functions of the program compute, in plain Lean, and that the evaluator finds it.
-/
import Derived.Test.YtldhknmacepeiaaGreatDoorSuXl
import Derived.Test.YtldhknmacepeiaaGreatDoorNB09
import Derived.Test.YtldhknmacepeiaaGreatDoorRb
set_option linter.unusedVariables false
set_option linter.unusedSimpArgs false
set_option maxRecDepth 10000
section
namespace Su
open Go Fly
noncomputable section
theorem quB{v k:Nat}(h:v<4294967296^k):(ofN v).length≤k:=by
 have h1:=JM (qiE k v) (qlf k v)
 rw[qpm,Kf h,qiF]at h1;exact h1
theorem qyI{va vb:Nat}(h1:(ofN va).length≤1000000)(h2:(ofN vb).length≤1000000)(hb:vb≠0):qfL (ofN va,ofN vb)=some (ofN (va / vb),ofN (va % vb),0):=by
 unfold qfL;simp only[valN_ofN];rw[zo h1,zo h2,Kq,zf,zp hb]
end
end Su
end
section
namespace Su
open Go Fly
noncomputable section
theorem obs{α β:Type}{a:Option α}{f:α→Option β}{t:α}{r:Option β}(h:a=some t)(h2:f t=r):a.bind f=r:=by rw[h];exact h2
end
end Su
end
section
namespace Su
open Go Fly
def jz(a:Int×Int):Nat:=18446744073709551616*a.1.toNat+a.2.toNat
theorem J1(a:Int×Int):jz a=a.1.toNat*18446744073709551616+a.2.toNat:=by unfold jz;rw[zB]
def hiW(n:Nat):Int:=((n / 18446744073709551616 % 18446744073709551616:Nat):Int)
def loW(n:Nat):Int:=((n % 18446744073709551616:Nat):Int)
theorem pw{r:Nat}(hr:r≤64):2^(64-r)*2^r=18446744073709551616:=by
 rw[← zP,Nat.sub_add_cancel hr]
theorem qpu(H L r:Nat)(hr:r≤64)(hL:L<18446744073709551616) :
 (H*2^r) % 18446744073709551616 ||| L / 2^(64-r)=(H*18446744073709551616+L)*2^r / 18446744073709551616 % 18446744073709551616∧L*2^r % 18446744073709551616=(H*18446744073709551616+L)*2^r % 18446744073709551616:=by
 have hW:=pw hr;have hR:=zH r;have hQ:=zH (64-r)
 have hx:L / 2^(64-r)<2^r:=by rw[Kw hQ,zB,hW];exact hL
 have h1:H*2^r % 18446744073709551616=H % 2^(64-r)*2^r:=by rw[← hW,Ws]
 refine⟨?_,?_⟩
 · rw[h1,qgW hx]
   have h2:(H*18446744073709551616+L)*2^r / 18446744073709551616=H*2^r+L / 2^(64-r):=by
    have:(H*18446744073709551616+L)*2^r=L*2^r+18446744073709551616*(H*2^r):=by
     rw[zR,VL,zB (H*2^r)];omega
    rw[this,Vs _ _ (by decide)];have h3:L*2^r / 18446744073709551616=L / 2^(64-r):=by rw[← hW,Nat.mul_div_mul_right _ _ hR]
    omega
   rw[h2];have h4:=KG H (2^(64-r))
   have h5:H*2^r=18446744073709551616*(H / 2^(64-r))+H % 2^(64-r)*2^r:=by
    conv=>lhs;rw[← h4]
    rw[zR,VL,hW]
   rw[h5,Ku,Nat.mul_add_mod];have h6:H % 2^(64-r)*2^r+L / 2^(64-r)<18446744073709551616:=by
    have h7:=Vf H hQ;have h8:(H % 2^(64-r)+1)*2^r≤2^(64-r)*2^r:=zu _ h7
    rw[hW,zR]at h8;omega
   rw[Kf h6]
 · have:(H*18446744073709551616+L)*2^r=18446744073709551616*(H*2^r)+L*2^r:=by
    rw[zR,VL,zB (H*2^r)]
   rw[this,Nat.mul_add_mod]
theorem qpv(H L r:Nat)(hr:r≤64)(hH:H<18446744073709551616)(hL:L<18446744073709551616) :
 H / 2^r=(H*18446744073709551616+L) / 2^r / 18446744073709551616 % 18446744073709551616∧L / 2^r ||| (H*2^(64-r)) % 18446744073709551616=(H*18446744073709551616+L) / 2^r % 18446744073709551616 ∧
 (L*2^(64-r) % 18446744073709551616=0↔(H*18446744073709551616+L) % 2^r=0):=by
 have hW:2^r*2^(64-r)=18446744073709551616:=by rw[zB];exact pw hr
 have hR:=zH r;have hQ:=zH (64-r)
 have hx:L / 2^r<2^(64-r):=by rw[Kw hR,zB,hW];exact hL
 have h1:H*2^(64-r) % 18446744073709551616=H % 2^r*2^(64-r):=by rw[← hW,Ws]
 have hv:H*18446744073709551616+L=L+2^r*(H*2^(64-r)):=by
  rw[← hW,Vx,Wz]
 have hd:(H*18446744073709551616+L) / 2^r=H*2^(64-r)+L / 2^r:=by
  rw[hv,Vs _ _ hR,Wz]
 refine⟨?_,?_,?_⟩
 · rw[zS,zB (2^r),← zS]
   have:(H*18446744073709551616+L) / 18446744073709551616=H:=by omega
   rw[this,Kf];exact KW (VA _ _) hH
 · rw[h1,qpb hx,hd]
   have h4:=KG H (2^r)
   have h5:H*2^(64-r)=18446744073709551616*(H / 2^r)+H % 2^r*2^(64-r):=by
    conv=>lhs;rw[← h4]
    rw[zR,VL,hW]
   rw[h5,Ku,Nat.mul_add_mod];have h6:H % 2^r*2^(64-r)+L / 2^r<18446744073709551616:=by
    have h7:=Vf H hR;have h8:(H % 2^r+1)*2^(64-r)≤2^r*2^(64-r):=zu _ h7
    rw[hW,zR]at h8;omega
   rw[Kf h6]
 · have e1:L*2^(64-r) % 18446744073709551616=L % 2^r*2^(64-r):=by rw[← hW,Ws]
   have e2:(H*18446744073709551616+L) % 2^r=L % 2^r:=by rw[hv,V8]
   rw[e1,e2];constructor
   · intro h
     rcases Nat.mul_eq_zero.1 h with h | h
     · exact h
     · omega
   · intro h;rw[h,K7]
end Su
end
section
namespace Su
open Go Fly
noncomputable section
def yw:ByteArray:=⟨⟨[0,1,2,2,3,3,3,3,4,4,4,4,4,4,4,4,5,5,5,5,5,5,5,5,5,5,5,5,5,5,5,5,6,6,6,6,6,6,6,6,6,6,6,6,6,6,6,6,6,6,6,6,6,6,6,6,6,6,6,6,6,6,6,6,7,7,7,7,7,7,7,7,7,7,7,7,7,7,7,7,7,7,7,7,7,7,7,7,7,7,7,7,7,7,7,7,7,7,7,7,7,7,7,7,7,7,7,7,7,7,7,7,7,7,7,7,7,7,7,7,7,7,7,7,7,7,7,7,8,8,8,8,8,8,8,8,8,8,8,8,8,8,8,8,8,8,8,8,8,8,8,8,8,8,8,8,8,8,8,8,8,8,8,8,8,8,8,8,8,8,8,8,8,8,8,8,8,8,8,8,8,8,8,8,8,8,8,8,8,8,8,8,8,8,8,8,8,8,8,8,8,8,8,8,8,8,8,8,8,8,8,8,8,8,8,8,8,8,8,8,8,8,8,8,8,8,8,8,8,8,8,8,8,8,8,8,8,8,8,8,8,8,8,8,8,8,8,8,8,8,8,8,8,8,8,8]⟩⟩
def qpw  (x:Int):Option Int :=
 (bif(decide (4294967296≤x))then
 (bif(decide (65536≤(Int.fdiv x (2^32))))then
 (bif(decide (256≤(Int.fdiv (Int.fdiv x (2^32)) (2^16))))then
 (bif(decide (0≤(IntKind.wrap .u8 (Int.fdiv (Int.fdiv (Int.fdiv x (2^32)) (2^16)) (2^8)))))then
 ((yw)[(Int.toNat (IntKind.wrap .u8 (Int.fdiv (Int.fdiv (Int.fdiv x (2^32)) (2^16)) (2^8))))]?).bind fun x0=>
 some (IntKind.wrap .i64 ((IntKind.wrap .i64 ((IntKind.wrap .i64 (32+16))+8))+(IntKind.wrap .i64 (UInt8.toNat x0:Int))))
 else none)
 else
  (bif(decide (0≤(IntKind.wrap .u8 (Int.fdiv (Int.fdiv x (2^32)) (2^16)))))then
  ((yw)[(Int.toNat (IntKind.wrap .u8 (Int.fdiv (Int.fdiv x (2^32)) (2^16))))]?).bind fun x1=>
  some (IntKind.wrap .i64 ((IntKind.wrap .i64 (32+16))+(IntKind.wrap .i64 (UInt8.toNat x1:Int))))
 else none))
 else
  (bif(decide (256≤(Int.fdiv x (2^32))))then
  (bif(decide (0≤(IntKind.wrap .u8 (Int.fdiv (Int.fdiv x (2^32)) (2^8)))))then
  ((yw)[(Int.toNat (IntKind.wrap .u8 (Int.fdiv (Int.fdiv x (2^32)) (2^8))))]?).bind fun x2=>
  some (IntKind.wrap .i64 ((IntKind.wrap .i64 (32+8))+(IntKind.wrap .i64 (UInt8.toNat x2:Int))))
 else none)
 else
  (bif(decide (0≤(IntKind.wrap .u8 (Int.fdiv x (2^32)))))then
  ((yw)[(Int.toNat (IntKind.wrap .u8 (Int.fdiv x (2^32))))]?).bind fun x3=>
  some (IntKind.wrap .i64 (32+(IntKind.wrap .i64 (UInt8.toNat x3:Int))))
 else none)))
 else
  (bif(decide (65536≤x))then
  (bif(decide (256≤(Int.fdiv x (2^16))))then
  (bif(decide (0≤(IntKind.wrap .u8 (Int.fdiv (Int.fdiv x (2^16)) (2^8)))))then
  ((yw)[(Int.toNat (IntKind.wrap .u8 (Int.fdiv (Int.fdiv x (2^16)) (2^8))))]?).bind fun x4=>
  some (IntKind.wrap .i64 ((IntKind.wrap .i64 ((IntKind.wrap .i64 (0+16))+8))+(IntKind.wrap .i64 (UInt8.toNat x4:Int))))
 else none)
 else
  (bif(decide (0≤(IntKind.wrap .u8 (Int.fdiv x (2^16)))))then
  ((yw)[(Int.toNat (IntKind.wrap .u8 (Int.fdiv x (2^16))))]?).bind fun x5=>
  some (IntKind.wrap .i64 ((IntKind.wrap .i64 (0+16))+(IntKind.wrap .i64 (UInt8.toNat x5:Int))))
 else none))
 else
  (bif(decide (256≤x))then
  (bif(decide (0≤(IntKind.wrap .u8 (Int.fdiv x (2^8)))))then
  ((yw)[(Int.toNat (IntKind.wrap .u8 (Int.fdiv x (2^8))))]?).bind fun x6=>
  some (IntKind.wrap .i64 ((IntKind.wrap .i64 (0+8))+(IntKind.wrap .i64 (UInt8.toNat x6:Int))))
 else none)
 else
  (bif(decide (0≤(IntKind.wrap .u8 x)))then
  ((yw)[(Int.toNat (IntKind.wrap .u8 x))]?).bind fun x7=>
  some (IntKind.wrap .i64 (0+(IntKind.wrap .i64 (UInt8.toNat x7:Int))))
 else none))))
def qlm(x:Int):Option Int:=some (qj x.toNat:Int)
theorem qBs:((List.range 256).all fun i=>decide ((yw[i]?).map UInt8.toNat=some (qj i)))=true:=by decide +kernel
theorem qpx{i:Nat}(h:i<256):∃b:UInt8,yw[i]?=some b∧b.toNat=qj i:=by
 have:=zX.1 qBs i (Wi.2 h)
 have h2:=zW this;cases hb:yw[i]? with
 | none=>rw[hb]at h2;cases h2
 | some b=>rw[hb]at h2;exact⟨b,rfl,by simpa using h2⟩
theorem Y8{y base:Nat}(hy:y<256)(hb:base≤64):(bif decide (0≤IntKind.u8.wrap (y:Int))then(yw[(IntKind.u8.wrap (y:Int)).toNat]?).bind fun x0=>some (IntKind.i64.wrap ((base:Int)+IntKind.i64.wrap ((x0.toNat:Nat):Int)))else none)=some ((base+qj y:Nat):Int):=by
 obtain⟨b,h1,h2⟩:=qpx hy;have h8:qj y≤8:=j9.2 (by simpa using hy)
 rw[wu8 (by omega) (by omega),za (by omega),zf,zg,h1,zd,h2];have e:IntKind.i64.wrap ((qj y:Nat):Int)=((qj y:Nat):Int):=w64 (by omega) (by omega)
 rw[e,w64 (by omega) (by omega)];rfl
theorem dge(a b:Nat):decide ((a:Int)≤(b:Int))=Nat.ble a b:=by
 rw[qgY];by_cases h:a≤b
 · rw[za h,za];omega
 · rw[zi h,zi];omega
theorem qpy(x y:Int)(hg:(d1 (cI .u64)).good x)(h:qlm x=some y):qpw x=some y:=by
 obtain⟨n,rfl,hn⟩:=YA hg;have:=soi h;subst this
 unfold qpw;rw[zg];have hs:∀ {k:Nat},2^k≤n→qj n=k+qj (n / 2^k):=fun h=>J0 h
 have e48:IntKind.i64.wrap (IntKind.i64.wrap (32+16)+8)=((56:Nat):Int):=by decide
 have e32:IntKind.i64.wrap (32+16)=((48:Nat):Int):=by decide
 have e40:IntKind.i64.wrap (32+8)=((40:Nat):Int):=by decide
 have e24:IntKind.i64.wrap (IntKind.i64.wrap (0+16)+8)=((24:Nat):Int):=by decide
 have e16:IntKind.i64.wrap (0+16)=((16:Nat):Int):=by decide
 have e8:IntKind.i64.wrap (0+8)=((8:Nat):Int):=by decide
 have c32:(32:Int)=((32:Nat):Int):=rfl
 have c0:(0:Int)=((0:Nat):Int):=rfl
 have d1:decide ((4294967296:Int)≤(n:Int))=Nat.ble 4294967296 n:=dge 4294967296 n
 have d2:∀m:Nat,decide ((65536:Int)≤(m:Int))=Nat.ble 65536 m:=fun m=>dge 65536 m
 have d3:∀m:Nat,decide ((256:Int)≤(m:Int))=Nat.ble 256 m:=fun m=>dge 256 m
 simp only[qao,d1,d2,d3,e48,e40,e24,e8];simp only[e32,e16];cases h1:Nat.ble 4294967296 n with
 | true=>
  have b1:=zm h1;rw[zf];cases h2:Nat.ble 65536 (n / 2^32)with
  | true=>
   have b2:=zm h2;rw[zf];cases h3:Nat.ble 256 (n / 2^32 / 2^16)with
   | true=>
    have b3:=zm h3;rw[zf,Y8 (by omega) (by omega),hs (k:=56) (by omega)]
    congr 3;rw[zS,zS]
   | false=>
    have b3:n / 2^32 / 2^16<256:=VK fun e=>by rw[zo e]at h3;cases h3
    rw[zj,Y8 b3 (by omega),hs (k:=48) (by omega)]
    congr 3;rw[zS]
  | false=>
   have b2:n / 2^32<65536:=VK fun e=>by rw[zo e]at h2;cases h2
   rw[zj];cases h3:Nat.ble 256 (n / 2^32)with
   | true=>
    have b3:=zm h3;rw[zf,Y8 (by omega) (by omega),hs (k:=40) (by omega)]
    congr 3;rw[zS]
   | false=>
    have b3:n / 2^32<256:=VK fun e=>by rw[zo e]at h3;cases h3
    rw[zj,c32,Y8 b3 (by omega),hs (k:=32) (by omega)]
 | false=>
  have b1:n<4294967296:=VK fun e=>by rw[zo e]at h1;cases h1
  rw[zj];cases h2:Nat.ble 65536 n with
  | true=>
   have b2:=zm h2;rw[zf];cases h3:Nat.ble 256 (n / 2^16)with
   | true=>
    have b3:=zm h3;rw[zf,Y8 (by omega) (by omega),hs (k:=24) (by omega)]
    congr 3;rw[zS]
   | false=>
    have b3:n / 2^16<256:=VK fun e=>by rw[zo e]at h3;cases h3
    rw[zj,Y8 b3 (by omega),hs (k:=16) (by omega)]
  | false=>
   have b2:n<65536:=VK fun e=>by rw[zo e]at h2;cases h2
   rw[zj];cases h3:Nat.ble 256 n with
   | true=>
    have b3:=zm h3;rw[zf,Y8 (by omega) (by omega),hs (k:=8) (by omega)]
   | false=>
    have b3:n<256:=VK fun e=>by rw[zo e]at h3;cases h3
    rw[zj];have:=Y8 (base:=0) b3 (by omega)
    rw[zF]at this;exact this
end
end Su
end
section
namespace Su
open Go Fly
noncomputable section
def qyJ  (a:(Int×Int)):Option Int :=
 (bif(decide (0<a.1))then
 some (IntKind.wrap .i64 (64+(qj a.1.toNat:Int)))
 else
  some (qj a.2.toNat:Int))
def ZG:(Int×Int×Int×Int×Int×Unit)→Option ((Int×Int×Int×Int×Int×Unit) ⊕ (Lp (Int×Int×Int×Int×Int×Unit) (Int×Int))):=fun p0=>(bif(decide (64≤p0.1))then
 (bif((decide (p0.2.2.1=0))&&true)then
 some (.inr (.ret (p0.2.2.1,(0:Int))))
 else
  some (.inl ((IntKind.wrap .i64 (p0.1-64)),p0.2.2.1,(0:Int),p0.2.2.2.1,p0.2.2.2.2.1,())))
 else
  some (.inr (.exit 0 (p0.1,p0.2.1,p0.2.2.1,p0.2.2.2.1,p0.2.2.2.2.1,()))))
def qyK  (fu:Nat)(a:(Int×Int))(n:Int):Option (Int×Int) :=
 (itP fu (ZG) (n,a.1,a.2,(0:Int),(0:Int),())).bind fun x1=>
 (match x1 with
 | .exit i2 p3=>(bif(Nat.beq i2 0)then
  (bif(decide (p3.1≤0))then
  some (p3.2.1,p3.2.2.1)
 else
  (bif(decide (0≤p3.1))then
  (bif(decide (0≤(IntKind.wrap .i64 (64-p3.1))))then
  (bif(decide (0≤p3.1))then
  some ((Fly.qB Go.BinOp.or .u64 (IntKind.wrap .u64 (p3.2.1*(2^(min p3.1.toNat 64)))) (Int.fdiv p3.2.2.1 (2^(min (Int.toNat (IntKind.wrap .i64 (64-p3.1))) 64)))),(IntKind.wrap .u64 (p3.2.2.1*(2^(min p3.1.toNat 64)))))
 else none)
 else none)
 else none))
 else none)
 | .ret o4=>some o4)
def qbf:(Int×Bool×Int×Int×Int×Int×Unit)→Option ((Int×Bool×Int×Int×Int×Int×Unit) ⊕ (Lp (Int×Bool×Int×Int×Int×Int×Unit) ((Int×Int)×Bool))):=fun p0=>(bif(decide (64≤p0.1))then
 (bif p0.2.1 then
 (bif(true&&((decide (p0.2.2.1=0))&&true))then
 some (.inr (.ret (((0:Int),p0.2.2.1),true)))
 else
  some (.inl ((IntKind.wrap .i64 (p0.1-64)),true,(0:Int),p0.2.2.1,p0.2.2.2.2.1,p0.2.2.2.2.2.1,())))
 else
  (bif(true&&((decide (p0.2.2.1=0))&&true))then
  some (.inr (.ret (((0:Int),p0.2.2.1),(!(decide (p0.2.2.2.1=0))))))
 else
  some (.inl ((IntKind.wrap .i64 (p0.1-64)),(!(decide (p0.2.2.2.1=0))),(0:Int),p0.2.2.1,p0.2.2.2.2.1,p0.2.2.2.2.2.1,()))))
 else
  some (.inr (.exit 0 (p0.1,p0.2.1,p0.2.2.1,p0.2.2.2.1,p0.2.2.2.2.1,p0.2.2.2.2.2.1,()))))
def qyL  (fu:Nat)(a:(Int×Int))(n:Int):Option ((Int×Int)×Bool) :=
 (itP fu (qbf) (n,false,a.1,a.2,(0:Int),(0:Int),())).bind fun x1=>
 (match x1 with
 | .exit i2 p3=>(bif(Nat.beq i2 0)then
  (bif(decide (p3.1≤0))then
  some ((p3.2.2.1,p3.2.2.2.1),p3.2.1)
 else
  (bif(decide (0≤p3.1))then
  (bif(decide (0≤p3.1))then
  (bif(decide (0≤(IntKind.wrap .i64 (64-p3.1))))then
  (bif p3.2.1 then
  some (((Int.fdiv p3.2.2.1 (2^(min p3.1.toNat 64))),(Fly.qB Go.BinOp.or .u64 (Int.fdiv p3.2.2.2.1 (2^(min p3.1.toNat 64))) (IntKind.wrap .u64 (p3.2.2.1*(2^(min (Int.toNat (IntKind.wrap .i64 (64-p3.1))) 64)))))),true)
 else
  (bif(decide (0≤(IntKind.wrap .i64 (64-p3.1))))then
  some (((Int.fdiv p3.2.2.1 (2^(min p3.1.toNat 64))),(Fly.qB Go.BinOp.or .u64 (Int.fdiv p3.2.2.2.1 (2^(min p3.1.toNat 64))) (IntKind.wrap .u64 (p3.2.2.1*(2^(min (Int.toNat (IntKind.wrap .i64 (64-p3.1))) 64)))))),(!(decide ((IntKind.wrap .u64 (p3.2.2.2.1*(2^(min (Int.toNat (IntKind.wrap .i64 (64-p3.1))) 64))))=0))))
 else none))
 else none)
 else none)
 else none))
 else none)
 | .ret o4=>some o4)
def qpz(a:Int×Int):Option Int:=some (qj (jz a):Int)
theorem quC(a:Int×Int)(y:Int)(hg:(d1 cW).good a)(h:qpz a=some y):qyJ a=some y:=by
 obtain⟨a,b⟩:=a;obtain⟨ha,hb⟩:=hg;obtain⟨A,rfl,hA⟩:=YA ha;obtain⟨B,rfl,hB⟩:=YA hb;have:=soi h;subst this
 unfold qyJ;rw[J1];simp only[zg];have hbA:qj A≤64:=j9.2 (by simpa using hA)
 by_cases h0:0<A
 · rw[za (show(0:Int)<(A:Int) by omega),zf,w64 (by omega) (by omega)]
   have:=J0 (n:=A*18446744073709551616+B) (k:=64) (by omega)
   rw[this,show(A*18446744073709551616+B) / 2^64=A by omega];rfl
 · have:A=0:=by omega
   subst this;rw[zi (by decide),zj,K7,zF]
def qpA(p:(Int×Int)×Int):Option (Int×Int):=some (hiW (2^p.2.toNat*jz p.1),loW (2^p.2.toNat*jz p.1))
def qpB(p:(Int×Int)×Int):Option ((Int×Int)×Bool):=some ((hiW (jz p.1 / 2^p.2.toNat),loW (jz p.1 / 2^p.2.toNat)),!Nat.beq (jz p.1 % 2^p.2.toNat) 0)
theorem qpC(n:Nat)(h0:64≤n)(h:n<9223372036854775808):IntKind.i64.wrap ((n:Int)-64)=((n-64:Nat):Int):=by rw[w64 (by omega) (by omega)];omega
theorem qln(H L r:Nat)(hr:r<64)(hH:H<18446744073709551616)(hL:L<18446744073709551616) :
 (bif decide ((r:Int)≤0)then some ((H:Int),(L:Int))else bif decide ((0:Int)≤(r:Int))then bif decide ((0:Int)≤IntKind.i64.wrap (64-(r:Int)))then bif decide ((0:Int)≤(r:Int))then
   some ((qB .or .u64 (IntKind.u64.wrap ((H:Int)*2^(min (r:Int).toNat 64))) (Int.fdiv (L:Int) (2^(min (IntKind.i64.wrap (64-(r:Int))).toNat 64)))),IntKind.u64.wrap ((L:Int)*2^(min (r:Int).toNat 64)))else none else none else none)
 = some (hiW ((H*18446744073709551616+L)*2^r),loW ((H*18446744073709551616+L)*2^r)):=by
 obtain⟨c1,c2⟩:=qpu H L r (by omega) hL
 by_cases h0:r=0
 · subst h0
   rw[za (by decide),zf];unfold hiW loW;rw[KS,K8]
   congr 2 <;> congr 1 <;> omega
 · have e1:IntKind.i64.wrap (64-(r:Int))=((64-r:Nat):Int):=by rw[w64 (by omega) (by omega)];omega
   have e2:∀x:Nat,IntKind.u64.wrap ((x:Int)*2^r)=((x*2^r % 18446744073709551616:Nat):Int):=fun x=>by
    rw[wrap_u64,show((2:Int)^r)=((2^r:Nat):Int) by simp,← Vt];rfl
   rw[zi (by omega),zj,za (by omega),zf,e1,za (by omega),zf,zf];simp only[zg,Kz (show r≤64 by omega),Kz (show 64-r≤64 by omega),e2,qao];have l1:L / 2^(64-r)<18446744073709551616:=KW (VA _ _) hL
   rw[qba _ _ (Vf _ (by decide)) l1,c1,c2];rfl
theorem qlo{X Y:Nat}(h:X % 340282366920938463463374607431768211456=0):hiW (X+Y)=hiW Y:=by unfold hiW;congr 1;omega
theorem qlp{X Y:Nat}(h:X % 340282366920938463463374607431768211456=0):loW (X+Y)=loW Y:=by unfold loW;congr 1;omega
theorem quD(p:(Int×Int)×Int)(y:Int×Int)(hg:(dc cW (d1 (cI .i64))).good p)(h:qpA p=some y):∃n,qyK n p.1 p.2=some y:=by
 obtain⟨⟨a,b⟩,n⟩:=p;obtain⟨⟨ha,hb⟩,hn⟩:=hg;obtain⟨A,rfl,hA⟩:=YA ha;obtain⟨B,rfl,hB⟩:=YA hb;have hn:=QG.1 hn;have:=soi h;subst this
 refine⟨3,?_⟩
 unfold qyK;rw[zB (2^_)];rw[J1];simp only[zg];by_cases hneg:n<64
 · -- no round
   simp only[jD,ZG];rw[zi (by omega)];simp only[zj,zd];rw[show Nat.beq 0 0=true from rfl,zf];by_cases h0:n≤0
   · rw[za h0,zf]
     have:n.toNat=0:=by omega
     rw[this,KS,K8];unfold hiW loW
     congr 2 <;> congr 1 <;> omega
   · obtain⟨r,rfl⟩:∃r:Nat,n=(r:Int):=⟨n.toNat,by omega⟩
     rw[zg];exact qln A B r (by omega) hA hB
 · obtain⟨N,rfl⟩:∃N:Nat,n=(N:Int):=⟨n.toNat,by omega⟩
   have hN:64≤N:=by omega
   rw[zg];have d0:decide ((64:Int)≤(N:Int))=true:=za (by omega)
   obtain⟨X,hX0,hv⟩:∃X,X % 340282366920938463463374607431768211456=0∧(A*18446744073709551616+B)*2^N=X+(B*18446744073709551616)*2^(N-64):=by
    refine⟨A*2^(N-64)*340282366920938463463374607431768211456,Nat.mul_mod_left _ _,?_⟩
    rw[show N=(N-64)+64 by omega,zP,show(2^64:Nat)=18446744073709551616 from rfl,KQ];generalize 2^(N-64)=z
    rw[zR,← zt,← zt];rw[VL A,zt (A*z),VL B]
   rw[hv,qlo hX0,qlp hX0];by_cases hB0:B=0
   · subst hB0
     rw[jD];simp only[ZG,d0,zf,zd,show decide (((0:Nat):Int)=0)=true from rfl,Kq];simp only[K7];rfl
   · have db:decide ((B:Int)=0)=false:=zi (by omega)
     have es:=qpC N hN (by omega)
     rw[jD];simp only[ZG,d0,zf,db,V6,zj,zd,es];by_cases h2:N<128
     · have d1:decide ((64:Int)≤((N-64:Nat):Int))=false:=zi (by omega)
       rw[jD];simp only[ZG,d1,zj,zd];rw[show Nat.beq 0 0=true from rfl,zf];have:=qln B 0 (N-64) (by omega) hB (by omega)
       rw[Ks]at this;exact this
     · have d1:decide ((64:Int)≤((N-64:Nat):Int))=true:=za (by omega)
       rw[jD];simp only[ZG,d1,zf,zd];obtain⟨Z,hZ0,hz⟩:∃Z,Z % 340282366920938463463374607431768211456=0∧B*18446744073709551616*2^(N-64)=Z+0:=by
        obtain⟨M,hM⟩:∃M,N-64=M+64:=⟨N-64-64,by omega⟩
        refine⟨B*2^M*340282366920938463463374607431768211456,Nat.mul_mod_left _ _,?_⟩
        rw[hM,zP,show(2^64:Nat)=18446744073709551616 from rfl,Ks];rw[Nat.mul_mul_mul_comm]
       rw[hz,qlo hZ0,qlp hZ0];rfl
theorem qlq(H L r:Nat)(lost:Bool)(hr:r<64)(hH:H<18446744073709551616)(hL:L<18446744073709551616) :
 (bif decide ((r:Int)≤0)then some (((H:Int),(L:Int)),lost)else bif decide ((0:Int)≤(r:Int))then bif decide ((0:Int)≤(r:Int))then bif decide ((0:Int)≤IntKind.i64.wrap (64-(r:Int)))then bif lost then
   some (((Int.fdiv (H:Int) (2^(min (r:Int).toNat 64))),(qB .or .u64 (Int.fdiv (L:Int) (2^(min (r:Int).toNat 64))) (IntKind.u64.wrap ((H:Int)*2^(min (IntKind.i64.wrap (64-(r:Int))).toNat 64))))),true)
   else bif decide ((0:Int)≤IntKind.i64.wrap (64-(r:Int)))then
   some (((Int.fdiv (H:Int) (2^(min (r:Int).toNat 64))),(qB .or .u64 (Int.fdiv (L:Int) (2^(min (r:Int).toNat 64))) (IntKind.u64.wrap ((H:Int)*2^(min (IntKind.i64.wrap (64-(r:Int))).toNat 64))))),(!(decide (IntKind.u64.wrap ((L:Int)*2^(min (IntKind.i64.wrap (64-(r:Int))).toNat 64))=0))))else none else none else none else none)
 = some ((hiW ((H*18446744073709551616+L) / 2^r),loW ((H*18446744073709551616+L) / 2^r)),lost||!Nat.beq ((H*18446744073709551616+L) % 2^r) 0):=by
 obtain⟨c1,c2,c3⟩:=qpv H L r (by omega) hH hL
 by_cases h0:r=0
 · subst h0
   rw[za (by decide),zf];rw[KS,Wm,Ww];unfold hiW loW;have q1:(H*18446744073709551616+L) / 18446744073709551616 % 18446744073709551616=H:=by omega
   have q2:(H*18446744073709551616+L) % 18446744073709551616=L:=by omega
   rw[show(!Nat.beq 0 0)=false from rfl,Bool.or_false,q1,q2]
 · have e1:IntKind.i64.wrap (64-(r:Int))=((64-r:Nat):Int):=by rw[w64 (by omega) (by omega)];omega
   have e2:∀x k:Nat,IntKind.u64.wrap ((x:Int)*2^k)=((x*2^k % 18446744073709551616:Nat):Int):=fun x k=>by
    rw[wrap_u64,show((2:Int)^k)=((2^k:Nat):Int) by simp,← Vt];rfl
   rw[zi (by omega),zj,za (by omega),zf,zf,e1,za (by omega),zf,zf];simp only[zg,Kz (show r≤64 by omega),Kz (show 64-r≤64 by omega),e2,qao];have l1:L / 2^r<18446744073709551616:=KW (VA _ _) hL
   rw[qba _ _ l1 (Vf _ (by decide)),c1,c2];have e3:decide (((L*2^(64-r) % 18446744073709551616:Nat):Int)=0)=Nat.beq ((H*18446744073709551616+L) % 2^r) 0:=by
    rw[beq_dec];by_cases hz:(H*18446744073709551616+L) % 2^r=0
    · rw[za hz,c3.2 hz];rfl
    · rw[zi hz,zi]
      intro e;exact hz (c3.1 (by omega))
   rw[e3];unfold hiW loW;cases lost with
   | true=>rw[zf,Bool.true_or]
   | false=>rw[zj,VP]
theorem qyM(B z c:Nat)(hc:0<c):(!Nat.beq B 0||!Nat.beq z 0) = !Nat.beq (B+c*z) 0:=by
 by_cases hb:B=0
 · by_cases hz:z=0
   · subst hb hz;rw[Vy];rfl
   · have:B+c*z≠0:=by have:=WF hc (show 0<z by omega);omega
     rw[qcV hz,qcV this,VF,Bool.or_true]
 · have:B+c*z≠0:=by omega
   rw[qcV hb,qcV this,VF,Bool.true_or]
theorem quE(p:(Int×Int)×Int)(y:(Int×Int)×Bool)(hg:(dc cW (d1 (cI .i64))).good p)(h:qpB p=some y):∃n,qyL n p.1 p.2=some y:=by
 obtain⟨⟨a,b⟩,n⟩:=p;obtain⟨⟨ha,hb⟩,hn⟩:=hg;obtain⟨A,rfl,hA⟩:=YA ha;obtain⟨B,rfl,hB⟩:=YA hb;have hn:=QG.1 hn;have:=soi h;subst this
 refine⟨3,?_⟩
 unfold qyL;rw[J1];simp only[zg];by_cases hneg:n<64
 · rw[jD]
   simp only[qbf];rw[zi (by omega)];simp only[zj,zd];rw[show Nat.beq 0 0=true from rfl,zf];by_cases h0:n≤0
   · rw[za h0,zf]
     have:n.toNat=0:=by omega
     rw[this,KS,Wm,Ww];unfold hiW loW;have q1:(A*18446744073709551616+B) / 18446744073709551616 % 18446744073709551616=A:=by omega
     have q2:(A*18446744073709551616+B) % 18446744073709551616=B:=by omega
     rw[show(!Nat.beq 0 0)=false from rfl,q1,q2]
   · obtain⟨r,rfl⟩:∃r:Nat,n=(r:Int):=⟨n.toNat,by omega⟩
     rw[zg];have h:=qlq A B r false (by omega) hA hB
     rw[VP]at h;exact h
 · obtain⟨N,rfl⟩:∃N:Nat,n=(N:Int):=⟨n.toNat,by omega⟩
   have hN:64≤N:=by omega
   rw[zg];have d0:decide ((64:Int)≤(N:Int))=true:=za (by omega)
   have hpow:2^N=18446744073709551616*2^(N-64):=by
    have:N=64+(N-64):=by omega
    conv=>lhs;rw[this]
    rw[zP]
   have hdiv:(A*18446744073709551616+B) / 2^N=A / 2^(N-64):=by
    rw[hpow,← zS,show(A*18446744073709551616+B) / 18446744073709551616=A by omega]
   have hmod:(A*18446744073709551616+B) % 2^N=B+18446744073709551616*(A % 2^(N-64)):=by
    rw[hpow,Nat.mod_mul,show(A*18446744073709551616+B) / 18446744073709551616=A by omega,show(A*18446744073709551616+B) % 18446744073709551616=B by omega]
   rw[hdiv,hmod];have es:=qpC N hN (by omega)
   have dB:decide ((B:Int)=0)=Nat.beq B 0:=by rw[beq_dec];by_cases h:B=0 <;> simp[h]
   have dA:decide ((A:Int)=0)=Nat.beq A 0:=by rw[beq_dec];by_cases h:A=0 <;> simp[h]
   rw[jD];simp only[qbf,d0,zf,zj,es,dA,dB,z7,Bool.and_true];by_cases hA0:A=0
   · subst hA0
     rw[show Nat.beq 0 0=true from rfl,zf,Nat.zero_div,Nat.zero_mod,Vy,Ks];rfl
   · rw[qcV hA0,zj]
     simp only[zd];by_cases h2:N<128
     · have d1:decide ((64:Int)≤((N-64:Nat):Int))=false:=zi (by omega)
       rw[jD];simp only[qbf,d1,zj,zd];rw[show Nat.beq 0 0=true from rfl,zf];have:=qlq 0 A (N-64) (!Nat.beq B 0) (by omega) (by omega) hA
       rw[K7,zF]at this;refine Eq.trans this ?_
       rw[qyM B (A % 2^(N-64)) 18446744073709551616 (by decide)]
     · have d1:decide ((64:Int)≤((N-64:Nat):Int))=true:=za (by omega)
       have hlt:A<2^(N-64):=Kk hA (Ka (n:=2) (by omega) (show 64≤N-64 by omega))
       rw[jD,KN hlt,Kf hlt];simp only[qbf,d1,zf,dA,qcV hA0,show decide ((0:Int)=0)=true from rfl,Kq,VF];have hz:Nat.beq (B+18446744073709551616*A) 0=false:=qcV (by omega)
       have h1:hiW 0=0:=rfl
       have h2:loW 0=0:=rfl
       rw[hz,h1,h2];cases Nat.beq B 0 with
       | true=>simp only[Wr,VF,Wy,Kq,zj,zf,zd]
       | false=>simp only[VF,Wy,Kq,zf,zd]
end
end Su
end
section
namespace Su
open Go Fly
noncomputable section
def rUp  (x:(Bool×Int×Int×Int×Bool))(mode:Int)(odd:Bool)(half:Bool)(rest:Bool):Option Bool :=
 (bif(decide (mode=1))then
 (bif(!x.1)then
 (bif half then
 some true
 else
  some rest)
 else
  (bif(decide (mode=2))then
  (bif x.1 then
  (bif half then
  some true
 else
  some rest)
 else
  (bif(decide (mode=1))then
  (bif x.1 then
  some false
 else
  (bif(decide (mode=2))then
  (bif(!x.1)then
  some false
 else
  (bif half then
  (bif rest then
  some true
 else
  some odd)
 else
  some false))
 else
  (bif half then
  (bif rest then
  some true
 else
  some odd)
 else
  some false)))
 else
  (bif(decide (mode=2))then
  (bif(!x.1)then
  some false
 else
  (bif half then
  (bif rest then
  some true
 else
  some odd)
 else
  some false))
 else
  (bif half then
  (bif rest then
  some true
 else
  some odd)
 else
  some false))))
 else
  (bif(decide (mode=1))then
  (bif x.1 then
  some false
 else
  (bif(decide (mode=2))then
  (bif(!x.1)then
  some false
 else
  (bif half then
  (bif rest then
  some true
 else
  some odd)
 else
  some false))
 else
  (bif half then
  (bif rest then
  some true
 else
  some odd)
 else
  some false)))
 else
  (bif(decide (mode=2))then
  (bif(!x.1)then
  some false
 else
  (bif half then
  (bif rest then
  some true
 else
  some odd)
 else
  some false))
 else
  (bif half then
  (bif rest then
  some true
 else
  some odd)
 else
  some false)))))
 else
  (bif(decide (mode=2))then
  (bif x.1 then
  (bif half then
  some true
 else
  some rest)
 else
  (bif(decide (mode=1))then
  (bif x.1 then
  some false
 else
  (bif(decide (mode=2))then
  (bif(!x.1)then
  some false
 else
  (bif half then
  (bif rest then
  some true
 else
  some odd)
 else
  some false))
 else
  (bif half then
  (bif rest then
  some true
 else
  some odd)
 else
  some false)))
 else
  (bif(decide (mode=2))then
  (bif(!x.1)then
  some false
 else
  (bif half then
  (bif rest then
  some true
 else
  some odd)
 else
  some false))
 else
  (bif half then
  (bif rest then
  some true
 else
  some odd)
 else
  some false))))
 else
  (bif(decide (mode=1))then
  (bif x.1 then
  some false
 else
  (bif(decide (mode=2))then
  (bif(!x.1)then
  some false
 else
  (bif half then
  (bif rest then
  some true
 else
  some odd)
 else
  some false))
 else
  (bif half then
  (bif rest then
  some true
 else
  some odd)
 else
  some false)))
 else
  (bif(decide (mode=2))then
  (bif(!x.1)then
  some false
 else
  (bif half then
  (bif rest then
  some true
 else
  some odd)
 else
  some false))
 else
  (bif half then
  (bif rest then
  some true
 else
  some odd)
 else
  some false)))))
def qpD  (x:(Bool×Int×Int×Int×Bool))(mode:Int):Option (Int×Int) :=
 (bif(decide (mode=1))then
 (bif x.1 then
 some ((IntKind.wrap .u64 (((((sgN x.1)+9218868437227405312):Nat):Int)-1)),(5:Int))
 else
  (bif(decide (mode=2))then
  (bif(!x.1)then
  some ((IntKind.wrap .u64 (((((sgN x.1)+9218868437227405312):Nat):Int)-1)),(5:Int))
 else
  some (((((sgN x.1)+9218868437227405312):Nat):Int),(5:Int)))
 else
  some (((((sgN x.1)+9218868437227405312):Nat):Int),(5:Int))))
 else
  (bif(decide (mode=2))then
  (bif(!x.1)then
  some ((IntKind.wrap .u64 (((((sgN x.1)+9218868437227405312):Nat):Int)-1)),(5:Int))
 else
  some (((((sgN x.1)+9218868437227405312):Nat):Int),(5:Int)))
 else
  some (((((sgN x.1)+9218868437227405312):Nat):Int),(5:Int))))
abbrev qmT:=Bool×(Int×Int×Int×Bool)
def qw2(p:qmT×Int×Bool×Bool×Bool):Option Bool:=some (upN p.1.1 p.2.1 p.2.2.1 p.2.2.2.1 p.2.2.2.2)
theorem qyN(p:qmT×Int×Bool×Bool×Bool)(y:Bool)(hg:(dc qmO (dc (cI .u8) (dc cB (dc cB (d1 cB))))).good p)(h:qw2 p=some y):rUp p.1 p.2.1 p.2.2.1 p.2.2.2.1 p.2.2.2.2=some y:=by
 obtain⟨⟨neg,x⟩,mode,odd,half,rest⟩:=p;have:=soi h;subst this
 unfold rUp upN awN twN;simp only[];by_cases h1:mode=1
 · subst h1
   cases neg <;> cases half <;> cases rest <;> cases odd <;> rfl
 · by_cases h2:mode=2
   · subst h2
     cases neg <;> cases half <;> cases rest <;> cases odd <;> rfl
   · rw[zi h1,zi h2]
     cases neg <;> cases half <;> cases rest <;> cases odd <;> rfl
def ovN(neg:Bool)(mode:Int):Nat:=sgN neg+bif twN neg mode then 9218868437227405311 else 9218868437227405312
def qlr(p:qmT×Int):Option (Int×Int):=some ((ovN p.1.1 p.2:Int),5)
theorem qpE(p:qmT×Int)(y:Int×Int)(hg:(dc qmO (d1 (cI .u8))).good p)(h:qlr p=some y):qpD p.1 p.2=some y:=by
 obtain⟨⟨neg,x⟩,mode⟩:=p;have:=soi h;subst this
 have e:IntKind.u64.wrap (((sgN neg+9218868437227405312:Nat):Int)-1)=((sgN neg+9218868437227405311:Nat):Int):=by
  have:sgN neg≤9223372036854775808:=by unfold sgN;cases neg <;> simp
  rw[jH (by omega) (by omega)];omega
 unfold qpD ovN twN;simp only[e];generalize sgN neg=z
 have d11:decide ((1:Int)=1)=true:=rfl
 have d12:decide ((1:Int)=2)=false:=rfl
 have d21:decide ((2:Int)=1)=false:=rfl
 have d22:decide ((2:Int)=2)=true:=rfl
 by_cases h1:mode=1
 · subst h1
   rw[d11,d12];cases neg <;> simp only[zf,zj]
 · by_cases h2:mode=2
   · subst h2
     rw[d21,d22];cases neg <;> simp only[zf,zj,Wr,VF]
   · rw[zi h1,zi h2]
     cases neg <;> simp only[zf,zj]
end
end Su
end
