/-
  What functions compute.
-/
import Derived.Test.YtldhknmacepeiaaGreatDoorNB09
set_option linter.unusedVariables false
set_option linter.unusedSimpArgs false
set_option maxRecDepth 10000
section
namespace Su
open Go Fly
noncomputable section
theorem qud{v k:Nat}(h:v<4294967296^k):(ofN v).length≤k:=by
 have h1:=YM (qjG k v) (qmp k v)
 rw[qqH,KT h,qjH]at h1;exact h1
theorem qxf{va vb:Nat}(h1:(ofN va).length≤1000000)(h2:(ofN vb).length≤1000000)(hb:vb≠0):qfg (ofN va,ofN vb)=some (ofN (va / vb),ofN (va % vb),0):=by
 unfold qfg;simp only[valN_ofN];rw[zN h1,zN h2,Kt,zg,zQ hb]
end
end Su
end
section
namespace Su
open Go Fly
noncomputable section
theorem obs{α β:Type}{a:Option α}{f:α→Option β}{t:α}{r:Option β}(h:a=some t)(h2:f t=r):a.bind f=r:=by rw[h];exact h2
end
end Su
end
section
namespace Su
open Go Fly
def jM(a:Int×Int):Nat:=18446744073709551616*a.1.toNat+a.2.toNat
theorem Y5(a:Int×Int):jM a=a.1.toNat*18446744073709551616+a.2.toNat:=by unfold jM;rw[zL]
def hiW(n:Nat):Int:=((n / 18446744073709551616 % 18446744073709551616:Nat):Int)
def loW(n:Nat):Int:=((n % 18446744073709551616:Nat):Int)
theorem pw{r:Nat}(hr:r≤64):2^(64-r)*2^r=18446744073709551616:=by
 rw[← zW,Nat.sub_add_cancel hr]
theorem qqP(H L r:Nat)(hr:r≤64)(hL:L<18446744073709551616) :
 (H*2^r) % 18446744073709551616 ||| L / 2^(64-r)=(H*18446744073709551616+L)*2^r / 18446744073709551616 % 18446744073709551616∧L*2^r % 18446744073709551616=(H*18446744073709551616+L)*2^r % 18446744073709551616:=by
 have hW:=pw hr;have hR:=zU r;have hQ:=zU (64-r)
 have hx:L / 2^(64-r)<2^r:=by rw[KG hQ,zL,hW];exact hL
 have h1:H*2^r % 18446744073709551616=H % 2^(64-r)*2^r:=by rw[← hW,WN]
 refine⟨?_,?_⟩
 · rw[h1,qdK hx]
   have h2:(H*18446744073709551616+L)*2^r / 18446744073709551616=H*2^r+L / 2^(64-r):=by
    have:(H*18446744073709551616+L)*2^r=L*2^r+18446744073709551616*(H*2^r):=by
     rw[zR,KC,zL (H*2^r)];omega
    rw[this,VZ _ _ (by decide)];have h3:L*2^r / 18446744073709551616=L / 2^(64-r):=by rw[← hW,Nat.mul_div_mul_right _ _ hR]
    omega
   rw[h2];have h4:=Vb H (2^(64-r))
   have h5:H*2^r=18446744073709551616*(H / 2^(64-r))+H % 2^(64-r)*2^r:=by
    conv=>lhs;rw[← h4]
    rw[zR,KC,hW]
   rw[h5,Kp,Nat.mul_add_mod];have h6:H % 2^(64-r)*2^r+L / 2^(64-r)<18446744073709551616:=by
    have h7:=Vd H hQ;have h8:(H % 2^(64-r)+1)*2^r≤2^(64-r)*2^r:=zG _ h7
    rw[hW,zR]at h8;omega
   rw[KT h6]
 · have:(H*18446744073709551616+L)*2^r=18446744073709551616*(H*2^r)+L*2^r:=by
    rw[zR,KC,zL (H*2^r)]
   rw[this,Nat.mul_add_mod]
theorem qqQ(H L r:Nat)(hr:r≤64)(hH:H<18446744073709551616)(hL:L<18446744073709551616) :
 H / 2^r=(H*18446744073709551616+L) / 2^r / 18446744073709551616 % 18446744073709551616∧L / 2^r ||| (H*2^(64-r)) % 18446744073709551616=(H*18446744073709551616+L) / 2^r % 18446744073709551616 ∧
 (L*2^(64-r) % 18446744073709551616=0↔(H*18446744073709551616+L) % 2^r=0):=by
 have hW:2^r*2^(64-r)=18446744073709551616:=by rw[zL];exact pw hr
 have hR:=zU r;have hQ:=zU (64-r)
 have hx:L / 2^r<2^(64-r):=by rw[KG hR,zL,hW];exact hL
 have h1:H*2^(64-r) % 18446744073709551616=H % 2^r*2^(64-r):=by rw[← hW,WN]
 have hv:H*18446744073709551616+L=L+2^r*(H*2^(64-r)):=by
  rw[← hW,KN,Wh]
 have hd:(H*18446744073709551616+L) / 2^r=H*2^(64-r)+L / 2^r:=by
  rw[hv,VZ _ _ hR,Wh]
 refine⟨?_,?_,?_⟩
 · rw[Kq,zL (2^r),← Kq]
   have:(H*18446744073709551616+L) / 18446744073709551616=H:=by omega
   rw[this,KT];exact K5 (VF _ _) hH
 · rw[h1,qqd hx,hd]
   have h4:=Vb H (2^r)
   have h5:H*2^(64-r)=18446744073709551616*(H / 2^r)+H % 2^r*2^(64-r):=by
    conv=>lhs;rw[← h4]
    rw[zR,KC,hW]
   rw[h5,Kp,Nat.mul_add_mod];have h6:H % 2^r*2^(64-r)+L / 2^r<18446744073709551616:=by
    have h7:=Vd H hR;have h8:(H % 2^r+1)*2^(64-r)≤2^r*2^(64-r):=zG _ h7
    rw[hW,zR]at h8;omega
   rw[KT h6]
 · have e1:L*2^(64-r) % 18446744073709551616=L % 2^r*2^(64-r):=by rw[← hW,WN]
   have e2:(H*18446744073709551616+L) % 2^r=L % 2^r:=by rw[hv,Nat.add_mul_mod_self_left]
   rw[e1,e2];constructor
   · intro h
     rcases Nat.mul_eq_zero.1 h with h|h
     · exact h
     · omega
   · intro h;rw[h,Ve]
end Su
end
section
namespace Su
open Go Fly
noncomputable section
def yW:ByteArray:=⟨⟨[0,1,2,2,3,3,3,3,4,4,4,4,4,4,4,4,5,5,5,5,5,5,5,5,5,5,5,5,5,5,5,5,6,6,6,6,6,6,6,6,6,6,6,6,6,6,6,6,6,6,6,6,6,6,6,6,6,6,6,6,6,6,6,6,7,7,7,7,7,7,7,7,7,7,7,7,7,7,7,7,7,7,7,7,7,7,7,7,7,7,7,7,7,7,7,7,7,7,7,7,7,7,7,7,7,7,7,7,7,7,7,7,7,7,7,7,7,7,7,7,7,7,7,7,7,7,7,7,8,8,8,8,8,8,8,8,8,8,8,8,8,8,8,8,8,8,8,8,8,8,8,8,8,8,8,8,8,8,8,8,8,8,8,8,8,8,8,8,8,8,8,8,8,8,8,8,8,8,8,8,8,8,8,8,8,8,8,8,8,8,8,8,8,8,8,8,8,8,8,8,8,8,8,8,8,8,8,8,8,8,8,8,8,8,8,8,8,8,8,8,8,8,8,8,8,8,8,8,8,8,8,8,8,8,8,8,8,8,8,8,8,8,8,8,8,8,8,8,8,8,8,8,8,8,8,8]⟩⟩
def qqR  (x:Int):Option Int :=
 (bif(decide (4294967296≤x))then
 (bif(decide (65536≤(Int.fdiv x (2^32))))then
 (bif(decide (256≤(Int.fdiv (Int.fdiv x (2^32)) (2^16))))then
 (bif(decide (0≤(IntKind.wrap .u8 (Int.fdiv (Int.fdiv (Int.fdiv x (2^32)) (2^16)) (2^8)))))then
 ((yW)[(Int.toNat (IntKind.wrap .u8 (Int.fdiv (Int.fdiv (Int.fdiv x (2^32)) (2^16)) (2^8))))]?).bind fun x0=>
 some (IntKind.wrap .i64 ((IntKind.wrap .i64 ((IntKind.wrap .i64 (32+16))+8))+(IntKind.wrap .i64 (UInt8.toNat x0:Int))))
 else none)
 else
  (bif(decide (0≤(IntKind.wrap .u8 (Int.fdiv (Int.fdiv x (2^32)) (2^16)))))then
  ((yW)[(Int.toNat (IntKind.wrap .u8 (Int.fdiv (Int.fdiv x (2^32)) (2^16))))]?).bind fun x1=>
  some (IntKind.wrap .i64 ((IntKind.wrap .i64 (32+16))+(IntKind.wrap .i64 (UInt8.toNat x1:Int))))
 else none))
 else
  (bif(decide (256≤(Int.fdiv x (2^32))))then
  (bif(decide (0≤(IntKind.wrap .u8 (Int.fdiv (Int.fdiv x (2^32)) (2^8)))))then
  ((yW)[(Int.toNat (IntKind.wrap .u8 (Int.fdiv (Int.fdiv x (2^32)) (2^8))))]?).bind fun x2=>
  some (IntKind.wrap .i64 ((IntKind.wrap .i64 (32+8))+(IntKind.wrap .i64 (UInt8.toNat x2:Int))))
 else none)
 else
  (bif(decide (0≤(IntKind.wrap .u8 (Int.fdiv x (2^32)))))then
  ((yW)[(Int.toNat (IntKind.wrap .u8 (Int.fdiv x (2^32))))]?).bind fun x3=>
  some (IntKind.wrap .i64 (32+(IntKind.wrap .i64 (UInt8.toNat x3:Int))))
 else none)))
 else
  (bif(decide (65536≤x))then
  (bif(decide (256≤(Int.fdiv x (2^16))))then
  (bif(decide (0≤(IntKind.wrap .u8 (Int.fdiv (Int.fdiv x (2^16)) (2^8)))))then
  ((yW)[(Int.toNat (IntKind.wrap .u8 (Int.fdiv (Int.fdiv x (2^16)) (2^8))))]?).bind fun x4=>
  some (IntKind.wrap .i64 ((IntKind.wrap .i64 ((IntKind.wrap .i64 (0+16))+8))+(IntKind.wrap .i64 (UInt8.toNat x4:Int))))
 else none)
 else
  (bif(decide (0≤(IntKind.wrap .u8 (Int.fdiv x (2^16)))))then
  ((yW)[(Int.toNat (IntKind.wrap .u8 (Int.fdiv x (2^16))))]?).bind fun x5=>
  some (IntKind.wrap .i64 ((IntKind.wrap .i64 (0+16))+(IntKind.wrap .i64 (UInt8.toNat x5:Int))))
 else none))
 else
  (bif(decide (256≤x))then
  (bif(decide (0≤(IntKind.wrap .u8 (Int.fdiv x (2^8)))))then
  ((yW)[(Int.toNat (IntKind.wrap .u8 (Int.fdiv x (2^8))))]?).bind fun x6=>
  some (IntKind.wrap .i64 ((IntKind.wrap .i64 (0+8))+(IntKind.wrap .i64 (UInt8.toNat x6:Int))))
 else none)
 else
  (bif(decide (0≤(IntKind.wrap .u8 x)))then
  ((yW)[(Int.toNat (IntKind.wrap .u8 x))]?).bind fun x7=>
  some (IntKind.wrap .i64 (0+(IntKind.wrap .i64 (UInt8.toNat x7:Int))))
 else none))))
def qmw(x:Int):Option Int:=some (qu x.toNat:Int)
theorem qyN:((List.range 256).all fun i=>decide ((yW[i]?).map UInt8.toNat=some (qu i)))=true:=by decide +kernel
theorem qqS{i:Nat}(h:i<256):∃b:UInt8,yW[i]?=some b∧b.toNat=qu i:=by
 have:=Ko.1 qyN i (WT.2 h)
 have h2:=KM this;cases hb:yW[i]? with
 | none=>rw[hb]at h2;cases h2
 | some b=>rw[hb]at h2;exact⟨b,rfl,by simpa using h2⟩
theorem Z9{y base:Nat}(hy:y<256)(hb:base≤64):(bif decide (0≤IntKind.u8.wrap (y:Int))then(yW[(IntKind.u8.wrap (y:Int)).toNat]?).bind fun x0=>some (IntKind.i64.wrap ((base:Int)+IntKind.i64.wrap ((x0.toNat:Nat):Int)))else none)=some ((base+qu y:Nat):Int):=by
 obtain⟨b,h1,h2⟩:=qqS hy;have h8:qu y≤8:=ye.2 (by simpa using hy)
 rw[wu8 (by omega) (by omega),zh (by omega),zg,zn,h1,zm,h2];have e:IntKind.i64.wrap ((qu y:Nat):Int)=((qu y:Nat):Int):=w64 (by omega) (by omega)
 rw[e,w64 (by omega) (by omega)];rfl
theorem dge(a b:Nat):decide ((a:Int)≤(b:Int))=Nat.ble a b:=by
 rw[qbY];by_cases h:a≤b
 · rw[zh h,zh];omega
 · rw[zq h,zq];omega
theorem qqT(x y:Int)(hg:(d1 (cI .u64)).good x)(h:qmw x=some y):qqR x=some y:=by
 obtain⟨n,rfl,hn⟩:=Yy hg;have:=soi h;subst this
 unfold qqR;rw[zn];have hs:∀ {k:Nat},2^k≤n→qu n=k+qu (n / 2^k):=fun h=>Y0 h
 have e48:IntKind.i64.wrap (IntKind.i64.wrap (32+16)+8)=((56:Nat):Int):=by decide
 have e32:IntKind.i64.wrap (32+16)=((48:Nat):Int):=by decide
 have e40:IntKind.i64.wrap (32+8)=((40:Nat):Int):=by decide
 have e24:IntKind.i64.wrap (IntKind.i64.wrap (0+16)+8)=((24:Nat):Int):=by decide
 have e16:IntKind.i64.wrap (0+16)=((16:Nat):Int):=by decide
 have e8:IntKind.i64.wrap (0+8)=((8:Nat):Int):=by decide
 have c32:(32:Int)=((32:Nat):Int):=rfl
 have c0:(0:Int)=((0:Nat):Int):=rfl
 have d1:decide ((4294967296:Int)≤(n:Int))=Nat.ble 4294967296 n:=dge 4294967296 n
 have d2:∀m:Nat,decide ((65536:Int)≤(m:Int))=Nat.ble 65536 m:=fun m=>dge 65536 m
 have d3:∀m:Nat,decide ((256:Int)≤(m:Int))=Nat.ble 256 m:=fun m=>dge 256 m
 simp only[qbe,d1,d2,d3,e48,e40,e24,e8];simp only[e32,e16];cases h1:Nat.ble 4294967296 n with
 | true=>
  have b1:=zx h1;rw[zg];cases h2:Nat.ble 65536 (n / 2^32)with
  | true=>
   have b2:=zx h2;rw[zg];cases h3:Nat.ble 256 (n / 2^32 / 2^16)with
   | true=>
    have b3:=zx h3;rw[zg,Z9 (by omega) (by omega),hs (k:=56) (by omega)]
    congr 3;rw[Kq,Kq]
   | false=>
    have b3:n / 2^32 / 2^16<256:=VI fun e=>by rw[zN e]at h3;cases h3
    rw[zo,Z9 b3 (by omega),hs (k:=48) (by omega)]
    congr 3;rw[Kq]
  | false=>
   have b2:n / 2^32<65536:=VI fun e=>by rw[zN e]at h2;cases h2
   rw[zo];cases h3:Nat.ble 256 (n / 2^32)with
   | true=>
    have b3:=zx h3;rw[zg,Z9 (by omega) (by omega),hs (k:=40) (by omega)]
    congr 3;rw[Kq]
   | false=>
    have b3:n / 2^32<256:=VI fun e=>by rw[zN e]at h3;cases h3
    rw[zo,c32,Z9 b3 (by omega),hs (k:=32) (by omega)]
 | false=>
  have b1:n<4294967296:=VI fun e=>by rw[zN e]at h1;cases h1
  rw[zo];cases h2:Nat.ble 65536 n with
  | true=>
   have b2:=zx h2;rw[zg];cases h3:Nat.ble 256 (n / 2^16)with
   | true=>
    have b3:=zx h3;rw[zg,Z9 (by omega) (by omega),hs (k:=24) (by omega)]
    congr 3;rw[Kq]
   | false=>
    have b3:n / 2^16<256:=VI fun e=>by rw[zN e]at h3;cases h3
    rw[zo,Z9 b3 (by omega),hs (k:=16) (by omega)]
  | false=>
   have b2:n<65536:=VI fun e=>by rw[zN e]at h2;cases h2
   rw[zo];cases h3:Nat.ble 256 n with
   | true=>
    have b3:=zx h3;rw[zg,Z9 (by omega) (by omega),hs (k:=8) (by omega)]
   | false=>
    have b3:n<256:=VI fun e=>by rw[zN e]at h3;cases h3
    rw[zo];have:=Z9 (base:=0) b3 (by omega)
    rw[zt]at this;exact this
end
end Su
end
section
namespace Su
open Go Fly
noncomputable section
def qxg  (a:(Int×Int)):Option Int :=
 (bif(decide (0<a.1))then
 some (IntKind.wrap .i64 (64+(qu a.1.toNat:Int)))
 else
  some (qu a.2.toNat:Int))
def qaC:(Int×Int×Int×Int×Int×Unit)→Option ((Int×Int×Int×Int×Int×Unit) ⊕ (Lp (Int×Int×Int×Int×Int×Unit) (Int×Int))):=fun p0=>(bif(decide (64≤p0.1))then
 (bif((decide (p0.2.2.1=0))&&true)then
 some (.inr (.ret (p0.2.2.1,(0:Int))))
 else
  some (.inl ((IntKind.wrap .i64 (p0.1-64)),p0.2.2.1,(0:Int),p0.2.2.2.1,p0.2.2.2.2.1,())))
 else
  some (.inr (.exit 0 (p0.1,p0.2.1,p0.2.2.1,p0.2.2.2.1,p0.2.2.2.2.1,()))))
def qxh  (fu:Nat)(a:(Int×Int))(n:Int):Option (Int×Int) :=
 (itP fu (qaC) (n,a.1,a.2,(0:Int),(0:Int),())).bind fun x1=>
 (match x1 with
 | .exit i2 p3=>(bif(Nat.beq i2 0)then
  (bif(decide (p3.1≤0))then
  some (p3.2.1,p3.2.2.1)
 else
  (bif(decide (0≤p3.1))then
  (bif(decide (0≤(IntKind.wrap .i64 (64-p3.1))))then
  (bif(decide (0≤p3.1))then
  some ((Fly.jj Go.BinOp.or .u64 (IntKind.wrap .u64 (p3.2.1*(2^(min p3.1.toNat 64)))) (Int.fdiv p3.2.2.1 (2^(min (Int.toNat (IntKind.wrap .i64 (64-p3.1))) 64)))),(IntKind.wrap .u64 (p3.2.2.1*(2^(min p3.1.toNat 64)))))
 else none)
 else none)
 else none))
 else none)
 | .ret o4=>some o4)
def qb6:(Int×Bool×Int×Int×Int×Int×Unit)→Option ((Int×Bool×Int×Int×Int×Int×Unit) ⊕ (Lp (Int×Bool×Int×Int×Int×Int×Unit) ((Int×Int)×Bool))):=fun p0=>(bif(decide (64≤p0.1))then
 (bif p0.2.1 then
 (bif(true&&((decide (p0.2.2.1=0))&&true))then
 some (.inr (.ret (((0:Int),p0.2.2.1),true)))
 else
  some (.inl ((IntKind.wrap .i64 (p0.1-64)),true,(0:Int),p0.2.2.1,p0.2.2.2.2.1,p0.2.2.2.2.2.1,())))
 else
  (bif(true&&((decide (p0.2.2.1=0))&&true))then
  some (.inr (.ret (((0:Int),p0.2.2.1),(!(decide (p0.2.2.2.1=0))))))
 else
  some (.inl ((IntKind.wrap .i64 (p0.1-64)),(!(decide (p0.2.2.2.1=0))),(0:Int),p0.2.2.1,p0.2.2.2.2.1,p0.2.2.2.2.2.1,()))))
 else
  some (.inr (.exit 0 (p0.1,p0.2.1,p0.2.2.1,p0.2.2.2.1,p0.2.2.2.2.1,p0.2.2.2.2.2.1,()))))
def qxi  (fu:Nat)(a:(Int×Int))(n:Int):Option ((Int×Int)×Bool) :=
 (itP fu (qb6) (n,false,a.1,a.2,(0:Int),(0:Int),())).bind fun x1=>
 (match x1 with
 | .exit i2 p3=>(bif(Nat.beq i2 0)then
  (bif(decide (p3.1≤0))then
  some ((p3.2.2.1,p3.2.2.2.1),p3.2.1)
 else
  (bif(decide (0≤p3.1))then
  (bif(decide (0≤p3.1))then
  (bif(decide (0≤(IntKind.wrap .i64 (64-p3.1))))then
  (bif p3.2.1 then
  some (((Int.fdiv p3.2.2.1 (2^(min p3.1.toNat 64))),(Fly.jj Go.BinOp.or .u64 (Int.fdiv p3.2.2.2.1 (2^(min p3.1.toNat 64))) (IntKind.wrap .u64 (p3.2.2.1*(2^(min (Int.toNat (IntKind.wrap .i64 (64-p3.1))) 64)))))),true)
 else
  (bif(decide (0≤(IntKind.wrap .i64 (64-p3.1))))then
  some (((Int.fdiv p3.2.2.1 (2^(min p3.1.toNat 64))),(Fly.jj Go.BinOp.or .u64 (Int.fdiv p3.2.2.2.1 (2^(min p3.1.toNat 64))) (IntKind.wrap .u64 (p3.2.2.1*(2^(min (Int.toNat (IntKind.wrap .i64 (64-p3.1))) 64)))))),(!(decide ((IntKind.wrap .u64 (p3.2.2.2.1*(2^(min (Int.toNat (IntKind.wrap .i64 (64-p3.1))) 64))))=0))))
 else none))
 else none)
 else none)
 else none))
 else none)
 | .ret o4=>some o4)
def qqU(a:Int×Int):Option Int:=some (qu (jM a):Int)
theorem que(a:Int×Int)(y:Int)(hg:(d1 cW).good a)(h:qqU a=some y):qxg a=some y:=by
 obtain⟨a,b⟩:=a;obtain⟨ha,hb⟩:=hg;obtain⟨A,rfl,hA⟩:=Yy ha;obtain⟨B,rfl,hB⟩:=Yy hb;have:=soi h;subst this
 unfold qxg;rw[Y5];simp only[zn];have hbA:qu A≤64:=ye.2 (by simpa using hA)
 by_cases h0:0<A
 · rw[zh (show(0:Int)<(A:Int) by omega),zg,w64 (by omega) (by omega)]
   have:=Y0 (n:=A*18446744073709551616+B) (k:=64) (by omega)
   rw[this,show(A*18446744073709551616+B) / 2^64=A by omega];rfl
 · have:A=0:=by omega
   subst this;rw[zq (by decide),zo,Ve,zt]
def qqV(p:(Int×Int)×Int):Option (Int×Int):=some (hiW (2^p.2.toNat*jM p.1),loW (2^p.2.toNat*jM p.1))
def qqW(p:(Int×Int)×Int):Option ((Int×Int)×Bool):=some ((hiW (jM p.1 / 2^p.2.toNat),loW (jM p.1 / 2^p.2.toNat)),!Nat.beq (jM p.1 % 2^p.2.toNat) 0)
theorem qqX(n:Nat)(h0:64≤n)(h:n<9223372036854775808):IntKind.i64.wrap ((n:Int)-64)=((n-64:Nat):Int):=by rw[w64 (by omega) (by omega)];omega
theorem qmx(H L r:Nat)(hr:r<64)(hH:H<18446744073709551616)(hL:L<18446744073709551616) :
 (bif decide ((r:Int)≤0)then some ((H:Int),(L:Int))else bif decide ((0:Int)≤(r:Int))then bif decide ((0:Int)≤IntKind.i64.wrap (64-(r:Int)))then bif decide ((0:Int)≤(r:Int))then
   some ((jj .or .u64 (IntKind.u64.wrap ((H:Int)*2^(min (r:Int).toNat 64))) (Int.fdiv (L:Int) (2^(min (IntKind.i64.wrap (64-(r:Int))).toNat 64)))),IntKind.u64.wrap ((L:Int)*2^(min (r:Int).toNat 64)))else none else none else none)
 = some (hiW ((H*18446744073709551616+L)*2^r),loW ((H*18446744073709551616+L)*2^r)):=by
 obtain⟨c1,c2⟩:=qqP H L r (by omega) hL
 by_cases h0:r=0
 · subst h0
   rw[zh (by decide),zg];unfold hiW loW;rw[Vf,KK]
   congr 2 <;> congr 1 <;> omega
 · have e1:IntKind.i64.wrap (64-(r:Int))=((64-r:Nat):Int):=by rw[w64 (by omega) (by omega)];omega
   have e2:∀x:Nat,IntKind.u64.wrap ((x:Int)*2^r)=((x*2^r % 18446744073709551616:Nat):Int):=fun x=>by
    rw[wrap_u64,show((2:Int)^r)=((2^r:Nat):Int) by simp,← Vw];rfl
   rw[zq (by omega),zo,zh (by omega),zg,e1,zh (by omega),zg,zg];simp only[zn,Vg (show r≤64 by omega),Vg (show 64-r≤64 by omega),e2,qbe];have l1:L / 2^(64-r)<18446744073709551616:=K5 (VF _ _) hL
   rw[qaA _ _ (Vd _ (by decide)) l1,c1,c2];rfl
theorem qmy{X Y:Nat}(h:X % 340282366920938463463374607431768211456=0):hiW (X+Y)=hiW Y:=by unfold hiW;congr 1;omega
theorem qmz{X Y:Nat}(h:X % 340282366920938463463374607431768211456=0):loW (X+Y)=loW Y:=by unfold loW;congr 1;omega
theorem quf(p:(Int×Int)×Int)(y:Int×Int)(hg:(dc cW (d1 (cI .i64))).good p)(h:qqV p=some y):∃n,qxh n p.1 p.2=some y:=by
 obtain⟨⟨a,b⟩,n⟩:=p;obtain⟨⟨ha,hb⟩,hn⟩:=hg;obtain⟨A,rfl,hA⟩:=Yy ha;obtain⟨B,rfl,hB⟩:=Yy hb;have hn:=QX.1 hn;have:=soi h;subst this
 refine⟨3,?_⟩
 unfold qxh;rw[zL (2^_)];rw[Y5];simp only[zn];by_cases hneg:n<64
 · -- no round
   simp only[jR,qaC];rw[zq (by omega)];simp only[zo,zm];rw[show Nat.beq 0 0=true from rfl,zg];by_cases h0:n≤0
   · rw[zh h0,zg]
     have:n.toNat=0:=by omega
     rw[this,Vf,KK];unfold hiW loW
     congr 2 <;> congr 1 <;> omega
   · obtain⟨r,rfl⟩:∃r:Nat,n=(r:Int):=⟨n.toNat,by omega⟩
     rw[zn];exact qmx A B r (by omega) hA hB
 · obtain⟨N,rfl⟩:∃N:Nat,n=(N:Int):=⟨n.toNat,by omega⟩
   have hN:64≤N:=by omega
   rw[zn];have d0:decide ((64:Int)≤(N:Int))=true:=zh (by omega)
   obtain⟨X,hX0,hv⟩:∃X,X % 340282366920938463463374607431768211456=0∧(A*18446744073709551616+B)*2^N=X+(B*18446744073709551616)*2^(N-64):=by
    refine⟨A*2^(N-64)*340282366920938463463374607431768211456,Nat.mul_mod_left _ _,?_⟩
    rw[show N=(N-64)+64 by omega,zW,show(2^64:Nat)=18446744073709551616 from rfl,Vt];generalize 2^(N-64)=z
    rw[zR,← zB,← zB];rw[KC A,zB (A*z),KC B]
   rw[hv,qmy hX0,qmz hX0];by_cases hB0:B=0
   · subst hB0
     rw[jR];simp only[qaC,d0,zg,zm,show decide (((0:Nat):Int)=0)=true from rfl,Kt];simp only[Ve];rfl
   · have db:decide ((B:Int)=0)=false:=zq (by omega)
     have es:=qqX N hN (by omega)
     rw[jR];simp only[qaC,d0,zg,db,Bool.false_and,zo,zm,es];by_cases h2:N<128
     · have d1:decide ((64:Int)≤((N-64:Nat):Int))=false:=zq (by omega)
       rw[jR];simp only[qaC,d1,zo,zm];rw[show Nat.beq 0 0=true from rfl,zg];have:=qmx B 0 (N-64) (by omega) hB (by omega)
       rw[KQ]at this;exact this
     · have d1:decide ((64:Int)≤((N-64:Nat):Int))=true:=zh (by omega)
       rw[jR];simp only[qaC,d1,zg,zm];obtain⟨Z,hZ0,hz⟩:∃Z,Z % 340282366920938463463374607431768211456=0∧B*18446744073709551616*2^(N-64)=Z+0:=by
        obtain⟨M,hM⟩:∃M,N-64=M+64:=⟨N-64-64,by omega⟩
        refine⟨B*2^M*340282366920938463463374607431768211456,Nat.mul_mod_left _ _,?_⟩
        rw[hM,zW,show(2^64:Nat)=18446744073709551616 from rfl,KQ];rw[Nat.mul_mul_mul_comm]
       rw[hz,qmy hZ0,qmz hZ0];rfl
theorem qmA(H L r:Nat)(lost:Bool)(hr:r<64)(hH:H<18446744073709551616)(hL:L<18446744073709551616) :
 (bif decide ((r:Int)≤0)then some (((H:Int),(L:Int)),lost)else bif decide ((0:Int)≤(r:Int))then bif decide ((0:Int)≤(r:Int))then bif decide ((0:Int)≤IntKind.i64.wrap (64-(r:Int)))then bif lost then
   some (((Int.fdiv (H:Int) (2^(min (r:Int).toNat 64))),(jj .or .u64 (Int.fdiv (L:Int) (2^(min (r:Int).toNat 64))) (IntKind.u64.wrap ((H:Int)*2^(min (IntKind.i64.wrap (64-(r:Int))).toNat 64))))),true)
   else bif decide ((0:Int)≤IntKind.i64.wrap (64-(r:Int)))then
   some (((Int.fdiv (H:Int) (2^(min (r:Int).toNat 64))),(jj .or .u64 (Int.fdiv (L:Int) (2^(min (r:Int).toNat 64))) (IntKind.u64.wrap ((H:Int)*2^(min (IntKind.i64.wrap (64-(r:Int))).toNat 64))))),(!(decide (IntKind.u64.wrap ((L:Int)*2^(min (IntKind.i64.wrap (64-(r:Int))).toNat 64))=0))))else none else none else none else none)
 = some ((hiW ((H*18446744073709551616+L) / 2^r),loW ((H*18446744073709551616+L) / 2^r)),lost||!Nat.beq ((H*18446744073709551616+L) % 2^r) 0):=by
 obtain⟨c1,c2,c3⟩:=qqQ H L r (by omega) hH hL
 by_cases h0:r=0
 · subst h0
   rw[zh (by decide),zg];rw[Vf,WY,Nat.mod_one];unfold hiW loW;have q1:(H*18446744073709551616+L) / 18446744073709551616 % 18446744073709551616=H:=by omega
   have q2:(H*18446744073709551616+L) % 18446744073709551616=L:=by omega
   rw[show(!Nat.beq 0 0)=false from rfl,Bool.or_false,q1,q2]
 · have e1:IntKind.i64.wrap (64-(r:Int))=((64-r:Nat):Int):=by rw[w64 (by omega) (by omega)];omega
   have e2:∀x k:Nat,IntKind.u64.wrap ((x:Int)*2^k)=((x*2^k % 18446744073709551616:Nat):Int):=fun x k=>by
    rw[wrap_u64,show((2:Int)^k)=((2^k:Nat):Int) by simp,← Vw];rfl
   rw[zq (by omega),zo,zh (by omega),zg,zg,e1,zh (by omega),zg,zg];simp only[zn,Vg (show r≤64 by omega),Vg (show 64-r≤64 by omega),e2,qbe];have l1:L / 2^r<18446744073709551616:=K5 (VF _ _) hL
   rw[qaA _ _ l1 (Vd _ (by decide)),c1,c2];have e3:decide (((L*2^(64-r) % 18446744073709551616:Nat):Int)=0)=Nat.beq ((H*18446744073709551616+L) % 2^r) 0:=by
    rw[beq_dec];by_cases hz:(H*18446744073709551616+L) % 2^r=0
    · rw[zh hz,c3.2 hz];rfl
    · rw[zq hz,zq]
      intro e;exact hz (c3.1 (by omega))
   rw[e3];unfold hiW loW;cases lost with
   | true=>rw[zg,Bool.true_or]
   | false=>rw[zo,WV]
theorem qxj(B z c:Nat)(hc:0<c):(!Nat.beq B 0||!Nat.beq z 0) = !Nat.beq (B+c*z) 0:=by
 by_cases hb:B=0
 · by_cases hz:z=0
   · subst hb hz;rw[VE];rfl
   · have:B+c*z≠0:=by have:=Wx hc (show 0<z by omega);omega
     rw[qcL hz,qcL this,VD,Bool.or_true]
 · have:B+c*z≠0:=by omega
   rw[qcL hb,qcL this,VD,Bool.true_or]
theorem qug(p:(Int×Int)×Int)(y:(Int×Int)×Bool)(hg:(dc cW (d1 (cI .i64))).good p)(h:qqW p=some y):∃n,qxi n p.1 p.2=some y:=by
 obtain⟨⟨a,b⟩,n⟩:=p;obtain⟨⟨ha,hb⟩,hn⟩:=hg;obtain⟨A,rfl,hA⟩:=Yy ha;obtain⟨B,rfl,hB⟩:=Yy hb;have hn:=QX.1 hn;have:=soi h;subst this
 refine⟨3,?_⟩
 unfold qxi;rw[Y5];simp only[zn];by_cases hneg:n<64
 · rw[jR]
   simp only[qb6];rw[zq (by omega)];simp only[zo,zm];rw[show Nat.beq 0 0=true from rfl,zg];by_cases h0:n≤0
   · rw[zh h0,zg]
     have:n.toNat=0:=by omega
     rw[this,Vf,WY,Nat.mod_one];unfold hiW loW;have q1:(A*18446744073709551616+B) / 18446744073709551616 % 18446744073709551616=A:=by omega
     have q2:(A*18446744073709551616+B) % 18446744073709551616=B:=by omega
     rw[show(!Nat.beq 0 0)=false from rfl,q1,q2]
   · obtain⟨r,rfl⟩:∃r:Nat,n=(r:Int):=⟨n.toNat,by omega⟩
     rw[zn];have h:=qmA A B r false (by omega) hA hB
     rw[WV]at h;exact h
 · obtain⟨N,rfl⟩:∃N:Nat,n=(N:Int):=⟨n.toNat,by omega⟩
   have hN:64≤N:=by omega
   rw[zn];have d0:decide ((64:Int)≤(N:Int))=true:=zh (by omega)
   have hpow:2^N=18446744073709551616*2^(N-64):=by
    have:N=64+(N-64):=by omega
    conv=>lhs;rw[this]
    rw[zW]
   have hdiv:(A*18446744073709551616+B) / 2^N=A / 2^(N-64):=by
    rw[hpow,← Kq,show(A*18446744073709551616+B) / 18446744073709551616=A by omega]
   have hmod:(A*18446744073709551616+B) % 2^N=B+18446744073709551616*(A % 2^(N-64)):=by
    rw[hpow,Nat.mod_mul,show(A*18446744073709551616+B) / 18446744073709551616=A by omega,show(A*18446744073709551616+B) % 18446744073709551616=B by omega]
   rw[hdiv,hmod];have es:=qqX N hN (by omega)
   have dB:decide ((B:Int)=0)=Nat.beq B 0:=by rw[beq_dec];by_cases h:B=0 <;> simp[h]
   have dA:decide ((A:Int)=0)=Nat.beq A 0:=by rw[beq_dec];by_cases h:A=0 <;> simp[h]
   rw[jR];simp only[qb6,d0,zg,zo,es,dA,dB,Vi,Bool.and_true];by_cases hA0:A=0
   · subst hA0
     rw[show Nat.beq 0 0=true from rfl,zg,Nat.zero_div,Nat.zero_mod,VE,KQ];rfl
   · rw[qcL hA0,zo]
     simp only[zm];by_cases h2:N<128
     · have d1:decide ((64:Int)≤((N-64:Nat):Int))=false:=zq (by omega)
       rw[jR];simp only[qb6,d1,zo,zm];rw[show Nat.beq 0 0=true from rfl,zg];have:=qmA 0 A (N-64) (!Nat.beq B 0) (by omega) (by omega) hA
       rw[Ve,zt]at this;refine Eq.trans this ?_
       rw[qxj B (A % 2^(N-64)) 18446744073709551616 (by decide)]
     · have d1:decide ((64:Int)≤((N-64:Nat):Int))=true:=zh (by omega)
       have hlt:A<2^(N-64):=Kv hA (Kg (n:=2) (by omega) (show 64≤N-64 by omega))
       rw[jR,Vo hlt,KT hlt];simp only[qb6,d1,zg,dA,qcL hA0,show decide ((0:Int)=0)=true from rfl,Kt,VD];have hz:Nat.beq (B+18446744073709551616*A) 0=false:=qcL (by omega)
       have h1:hiW 0=0:=rfl
       have h2:loW 0=0:=rfl
       rw[hz,h1,h2];cases Nat.beq B 0 with
       | true=>simp only[Bool.not_true,VD,WX,Kt,zo,zg,zm]
       | false=>simp only[VD,WX,Kt,zg,zm]
end
end Su
end
section
namespace Su
open Go Fly
noncomputable section
def rUp  (x:(Bool×Int×Int×Int×Bool))(mode:Int)(odd:Bool)(half:Bool)(rest:Bool):Option Bool :=
 (bif(decide (mode=1))then
 (bif(!x.1)then
 (bif half then
 some true
 else
  some rest)
 else
  (bif(decide (mode=2))then
  (bif x.1 then
  (bif half then
  some true
 else
  some rest)
 else
  (bif(decide (mode=1))then
  (bif x.1 then
  some false
 else
  (bif(decide (mode=2))then
  (bif(!x.1)then
  some false
 else
  (bif half then
  (bif rest then
  some true
 else
  some odd)
 else
  some false))
 else
  (bif half then
  (bif rest then
  some true
 else
  some odd)
 else
  some false)))
 else
  (bif(decide (mode=2))then
  (bif(!x.1)then
  some false
 else
  (bif half then
  (bif rest then
  some true
 else
  some odd)
 else
  some false))
 else
  (bif half then
  (bif rest then
  some true
 else
  some odd)
 else
  some false))))
 else
  (bif(decide (mode=1))then
  (bif x.1 then
  some false
 else
  (bif(decide (mode=2))then
  (bif(!x.1)then
  some false
 else
  (bif half then
  (bif rest then
  some true
 else
  some odd)
 else
  some false))
 else
  (bif half then
  (bif rest then
  some true
 else
  some odd)
 else
  some false)))
 else
  (bif(decide (mode=2))then
  (bif(!x.1)then
  some false
 else
  (bif half then
  (bif rest then
  some true
 else
  some odd)
 else
  some false))
 else
  (bif half then
  (bif rest then
  some true
 else
  some odd)
 else
  some false)))))
 else
  (bif(decide (mode=2))then
  (bif x.1 then
  (bif half then
  some true
 else
  some rest)
 else
  (bif(decide (mode=1))then
  (bif x.1 then
  some false
 else
  (bif(decide (mode=2))then
  (bif(!x.1)then
  some false
 else
  (bif half then
  (bif rest then
  some true
 else
  some odd)
 else
  some false))
 else
  (bif half then
  (bif rest then
  some true
 else
  some odd)
 else
  some false)))
 else
  (bif(decide (mode=2))then
  (bif(!x.1)then
  some false
 else
  (bif half then
  (bif rest then
  some true
 else
  some odd)
 else
  some false))
 else
  (bif half then
  (bif rest then
  some true
 else
  some odd)
 else
  some false))))
 else
  (bif(decide (mode=1))then
  (bif x.1 then
  some false
 else
  (bif(decide (mode=2))then
  (bif(!x.1)then
  some false
 else
  (bif half then
  (bif rest then
  some true
 else
  some odd)
 else
  some false))
 else
  (bif half then
  (bif rest then
  some true
 else
  some odd)
 else
  some false)))
 else
  (bif(decide (mode=2))then
  (bif(!x.1)then
  some false
 else
  (bif half then
  (bif rest then
  some true
 else
  some odd)
 else
  some false))
 else
  (bif half then
  (bif rest then
  some true
 else
  some odd)
 else
  some false)))))
def qqY  (x:(Bool×Int×Int×Int×Bool))(mode:Int):Option (Int×Int) :=
 (bif(decide (mode=1))then
 (bif x.1 then
 some ((IntKind.wrap .u64 (((((sgN x.1)+9218868437227405312):Nat):Int)-1)),(5:Int))
 else
  (bif(decide (mode=2))then
  (bif(!x.1)then
  some ((IntKind.wrap .u64 (((((sgN x.1)+9218868437227405312):Nat):Int)-1)),(5:Int))
 else
  some (((((sgN x.1)+9218868437227405312):Nat):Int),(5:Int)))
 else
  some (((((sgN x.1)+9218868437227405312):Nat):Int),(5:Int))))
 else
  (bif(decide (mode=2))then
  (bif(!x.1)then
  some ((IntKind.wrap .u64 (((((sgN x.1)+9218868437227405312):Nat):Int)-1)),(5:Int))
 else
  some (((((sgN x.1)+9218868437227405312):Nat):Int),(5:Int)))
 else
  some (((((sgN x.1)+9218868437227405312):Nat):Int),(5:Int))))
abbrev qod:=Bool×(Int×Int×Int×Bool)
def qvt(p:qod×Int×Bool×Bool×Bool):Option Bool:=some (upN p.1.1 p.2.1 p.2.2.1 p.2.2.2.1 p.2.2.2.2)
theorem qxk(p:qod×Int×Bool×Bool×Bool)(y:Bool)(hg:(dc qnU (dc (cI .u8) (dc cB (dc cB (d1 cB))))).good p)(h:qvt p=some y):rUp p.1 p.2.1 p.2.2.1 p.2.2.2.1 p.2.2.2.2=some y:=by
 obtain⟨⟨neg,x⟩,mode,odd,half,rest⟩:=p;have:=soi h;subst this
 unfold rUp upN awN twN;simp only[];by_cases h1:mode=1
 · subst h1
   cases neg <;> cases half <;> cases rest <;> cases odd <;> rfl
 · by_cases h2:mode=2
   · subst h2
     cases neg <;> cases half <;> cases rest <;> cases odd <;> rfl
   · rw[zq h1,zq h2]
     cases neg <;> cases half <;> cases rest <;> cases odd <;> rfl
def ovN(neg:Bool)(mode:Int):Nat:=sgN neg+bif twN neg mode then 9218868437227405311 else 9218868437227405312
def qmB(p:qod×Int):Option (Int×Int):=some ((ovN p.1.1 p.2:Int),5)
theorem qqZ(p:qod×Int)(y:Int×Int)(hg:(dc qnU (d1 (cI .u8))).good p)(h:qmB p=some y):qqY p.1 p.2=some y:=by
 obtain⟨⟨neg,x⟩,mode⟩:=p;have:=soi h;subst this
 have e:IntKind.u64.wrap (((sgN neg+9218868437227405312:Nat):Int)-1)=((sgN neg+9218868437227405311:Nat):Int):=by
  have:sgN neg≤9223372036854775808:=by unfold sgN;cases neg <;> simp
  rw[yd (by omega) (by omega)];omega
 unfold qqY ovN twN;simp only[e];generalize sgN neg=z
 have d11:decide ((1:Int)=1)=true:=rfl
 have d12:decide ((1:Int)=2)=false:=rfl
 have d21:decide ((2:Int)=1)=false:=rfl
 have d22:decide ((2:Int)=2)=true:=rfl
 by_cases h1:mode=1
 · subst h1
   rw[d11,d12];cases neg <;> simp only[zg,zo]
 · by_cases h2:mode=2
   · subst h2
     rw[d21,d22];cases neg <;> simp only[zg,zo,Bool.not_true,VD]
   · rw[zq h1,zq h2]
     cases neg <;> simp only[zg,zo]
end
end Su
end
