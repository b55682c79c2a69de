/-
  What functions of the program compute, in plain Lean, and that the evaluator finds it.
-/
import Derived.Test.YtldhknmacepeiaaGreatDoorSuXl
import Derived.Test.YtldhknmacepeiaaGreatDoorNB09
import Derived.Test.YtldhknmacepeiaaGreatDoorRb
set_option linter.unusedVariables false
set_option linter.unusedSimpArgs false
set_option maxRecDepth 10000
section
namespace Su
open Go Fly
noncomputable section
def qje:Stp ((List Int)×(List Int)×Unit):=fun p2=>(bif(decide (0<(List.length p2.2.1:Int)))then
 (qb7 (p2.1,p2.2.1)).bind fun x3=>
 some (.inl (p2.2.1,x3.2.1,()))
 else
  some (.inr (p2.1,p2.2.1,())))
def Gcd  (fu:Nat)(a:(List Int))(b:(List Int)):Option (List Int) :=
 (QF (ofN (qc a))).bind fun x0=>
 (QF (ofN (qc b))).bind fun x1=>
 (itP fu (qje) (x0,x1,())).bind fun x4=>
 some x4.1
theorem qkw{v k:Nat}(h:v<4294967296^k):(ofN v).length≤k:=by
 have h1:=yW (qhK k v) (qkp k v)
 rw[qou,KM h,qhL]at h1;exact h1
theorem qoC{u v:Nat}(h:u≤v):(ofN u).length≤(ofN v).length:=qkw (K4 h Yg)
theorem qoD{va vb:Nat}(h1:(ofN va).length≤1000000)(h2:(ofN vb).length≤1000000)(hb:vb≠0):qb7 (ofN va,ofN vb)=some (ofN (va / vb),ofN (va % vb),0):=by
 unfold qb7;simp only[valN_ofN];rw[zr h1,zr h2,Ki,zg,zx hb]
theorem qoE:∀(vb va:Nat),(ofN va).length≤1000000→(ofN vb).length≤1000000→∃w,∃n,itP n qje (ofN va,ofN vb,())=some (ofN (Nat.gcd va vb),w,()):=by
 intro vb;induction vb using Nat.strongRecOn with
 | _ vb ih=>
  intro va h1 h2;by_cases hb:vb=0
  · subst hb
    refine⟨[],yK ?_⟩
    rw[Nat.gcd_zero_right];rfl
  · have hlt:=Vf va (Nat.pos_of_ne_zero hb)
    obtain⟨w,hn⟩:=ih (va % vb) hlt vb h2 (Kx (qoC (Vt hlt)) h2)
    refine⟨w,yZ ?_ (by rw[Nat.gcd_comm va vb,Nat.gcd_rec vb va,Nat.gcd_comm];exact hn)⟩
    have hl:0<(ofN vb).length:=by
     have h3:=@Yg vb
     cases h4:(ofN vb).length with
     | zero=>rw[h4]at h3;omega
     | succ=>omega
    have d1:decide ((0:Int)<(((ofN vb).length:Nat):Int))=true:=za (by omega)
    simp only[qje,d1,zg,qoD h1 h2 hb,zh]
def qub(p:List Int×List Int):Option (List Int):=bif Nat.ble p.1.length 1000000&&Nat.ble p.2.length 1000000 then some (ofN (Nat.gcd (qc p.1) (qc p.2)))else none
theorem qvS(p:List Int×List Int)(y:List Int)(hg:(dc (cQ 1 1) (d1 (cQ 1 1))).good p)(h:qub p=some y):∃n,Gcd n p.1 p.2=some y:=by
 obtain⟨a,b⟩:=p;obtain⟨⟨ha,la⟩,hb,lb⟩:=hg;obtain⟨hm,h⟩:=qh h;have:=soi h;subst this
 rw[zn]at hm;have hla:=Kx (yW a (Wd.of ha)) (zo hm.1)
 have hlb:=Kx (yW b (Wd.of hb)) (zo hm.2)
 obtain⟨w,n,hn⟩:=qoE (qc b) (qc a) hla hlb
 refine⟨n,?_⟩
 have h1:QF (ofN (qc a))=some (ofN (qc a)):=by unfold QF qgl;rw[zr (by omega),zg]
 have h2:QF (ofN (qc b))=some (ofN (qc b)):=by unfold QF qgl;rw[zr (by omega),zg]
 show Gcd n a b=some (ofN (Nat.gcd (qc a) (qc b)))
 unfold Gcd;exact obB h1 (obB h2 (obB hn rfl))
end
end Su
end
section
namespace Su
open Go Fly
noncomputable section
theorem obs{α β:Type}{a:Option α}{f:α→Option β}{t:α}{r:Option β}(h:a=some t)(h2:f t=r):a.bind f=r:=by rw[h];exact h2
end
end Su
end
section
namespace Su
open Go Fly
def jB(a:Int×Int):Nat:=18446744073709551616*a.1.toNat+a.2.toNat
theorem JW(a:Int×Int):jB a=a.1.toNat*18446744073709551616+a.2.toNat:=by unfold jB;rw[zN]
def hiW(n:Nat):Int:=((n / 18446744073709551616 % 18446744073709551616:Nat):Int)
def loW(n:Nat):Int:=((n % 18446744073709551616:Nat):Int)
theorem pw{r:Nat}(hr:r≤64):2^(64-r)*2^r=18446744073709551616:=by
 rw[← Ks,Nat.sub_add_cancel hr]
theorem qoF(H L r:Nat)(hr:r≤64)(hL:L<18446744073709551616) :
 (H*2^r) % 18446744073709551616 ||| L / 2^(64-r)=(H*18446744073709551616+L)*2^r / 18446744073709551616 % 18446744073709551616∧L*2^r % 18446744073709551616=(H*18446744073709551616+L)*2^r % 18446744073709551616:=by
 have hW:=pw hr;have hR:=Kg r;have hQ:=Kg (64-r)
 have hx:L / 2^(64-r)<2^r:=by rw[KC hQ,zN,hW];exact hL
 have h1:H*2^r % 18446744073709551616=H % 2^(64-r)*2^r:=by rw[← hW,Wn]
 refine⟨?_,?_⟩
 · rw[h1,qcz hx]
   have h2:(H*18446744073709551616+L)*2^r / 18446744073709551616=H*2^r+L / 2^(64-r):=by
    have:(H*18446744073709551616+L)*2^r=L*2^r+18446744073709551616*(H*2^r):=by
     rw[zV,VG,zN (H*2^r)];omega
    rw[this,VL _ _ (by decide)];have h3:L*2^r / 18446744073709551616=L / 2^(64-r):=by rw[← hW,Nat.mul_div_mul_right _ _ hR]
    omega
   rw[h2];have h4:=Vq H (2^(64-r))
   have h5:H*2^r=18446744073709551616*(H / 2^(64-r))+H % 2^(64-r)*2^r:=by
    conv=>lhs;rw[← h4]
    rw[zV,VG,hW]
   rw[h5,KD,Nat.mul_add_mod];have h6:H % 2^(64-r)*2^r+L / 2^(64-r)<18446744073709551616:=by
    have h7:=Vf H hQ;have h8:(H % 2^(64-r)+1)*2^r≤2^(64-r)*2^r:=zG _ h7
    rw[hW,zV]at h8;omega
   rw[KM h6]
 · have:(H*18446744073709551616+L)*2^r=18446744073709551616*(H*2^r)+L*2^r:=by
    rw[zV,VG,zN (H*2^r)]
   rw[this,Nat.mul_add_mod]
theorem qoG(H L r:Nat)(hr:r≤64)(hH:H<18446744073709551616)(hL:L<18446744073709551616) :
 H / 2^r=(H*18446744073709551616+L) / 2^r / 18446744073709551616 % 18446744073709551616∧L / 2^r ||| (H*2^(64-r)) % 18446744073709551616=(H*18446744073709551616+L) / 2^r % 18446744073709551616 ∧
 (L*2^(64-r) % 18446744073709551616=0↔(H*18446744073709551616+L) % 2^r=0):=by
 have hW:2^r*2^(64-r)=18446744073709551616:=by rw[zN];exact pw hr
 have hR:=Kg r;have hQ:=Kg (64-r)
 have hx:L / 2^r<2^(64-r):=by rw[KC hR,zN,hW];exact hL
 have h1:H*2^(64-r) % 18446744073709551616=H % 2^r*2^(64-r):=by rw[← hW,Wn]
 have hv:H*18446744073709551616+L=L+2^r*(H*2^(64-r)):=by
  rw[← hW,Nat.mul_left_comm,Wx]
 have hd:(H*18446744073709551616+L) / 2^r=H*2^(64-r)+L / 2^r:=by
  rw[hv,VL _ _ hR,Wx]
 refine⟨?_,?_,?_⟩
 · rw[Kl,zN (2^r),← Kl]
   have:(H*18446744073709551616+L) / 18446744073709551616=H:=by omega
   rw[this,KM];exact K4 (VC _ _) hH
 · rw[h1,qod hx,hd]
   have h4:=Vq H (2^r)
   have h5:H*2^(64-r)=18446744073709551616*(H / 2^r)+H % 2^r*2^(64-r):=by
    conv=>lhs;rw[← h4]
    rw[zV,VG,hW]
   rw[h5,KD,Nat.mul_add_mod];have h6:H % 2^r*2^(64-r)+L / 2^r<18446744073709551616:=by
    have h7:=Vf H hR;have h8:(H % 2^r+1)*2^(64-r)≤2^r*2^(64-r):=zG _ h7
    rw[hW,zV]at h8;omega
   rw[KM h6]
 · have e1:L*2^(64-r) % 18446744073709551616=L % 2^r*2^(64-r):=by rw[← hW,Wn]
   have e2:(H*18446744073709551616+L) % 2^r=L % 2^r:=by rw[hv,Nat.add_mul_mod_self_left]
   rw[e1,e2];constructor
   · intro h
     rcases Nat.mul_eq_zero.1 h with h | h
     · exact h
     · omega
   · intro h;rw[h,K8]
end Su
end
section
namespace Su
open Go Fly
noncomputable section
def yw:ByteArray:=⟨⟨[0,1,2,2,3,3,3,3,4,4,4,4,4,4,4,4,5,5,5,5,5,5,5,5,5,5,5,5,5,5,5,5,6,6,6,6,6,6,6,6,6,6,6,6,6,6,6,6,6,6,6,6,6,6,6,6,6,6,6,6,6,6,6,6,7,7,7,7,7,7,7,7,7,7,7,7,7,7,7,7,7,7,7,7,7,7,7,7,7,7,7,7,7,7,7,7,7,7,7,7,7,7,7,7,7,7,7,7,7,7,7,7,7,7,7,7,7,7,7,7,7,7,7,7,7,7,7,7,8,8,8,8,8,8,8,8,8,8,8,8,8,8,8,8,8,8,8,8,8,8,8,8,8,8,8,8,8,8,8,8,8,8,8,8,8,8,8,8,8,8,8,8,8,8,8,8,8,8,8,8,8,8,8,8,8,8,8,8,8,8,8,8,8,8,8,8,8,8,8,8,8,8,8,8,8,8,8,8,8,8,8,8,8,8,8,8,8,8,8,8,8,8,8,8,8,8,8,8,8,8,8,8,8,8,8,8,8,8,8,8,8,8,8,8,8,8,8,8,8,8,8,8,8,8,8,8]⟩⟩
def qoH  (x:Int):Option Int :=
 (bif(decide (4294967296≤x))then
 (bif(decide (65536≤(Int.fdiv x (2^32))))then
 (bif(decide (256≤(Int.fdiv (Int.fdiv x (2^32)) (2^16))))then
 (bif(decide (0≤(IntKind.wrap .u8 (Int.fdiv (Int.fdiv (Int.fdiv x (2^32)) (2^16)) (2^8)))))then
 ((yw)[(Int.toNat (IntKind.wrap .u8 (Int.fdiv (Int.fdiv (Int.fdiv x (2^32)) (2^16)) (2^8))))]?).bind fun x0=>
 some (IntKind.wrap .i64 ((IntKind.wrap .i64 ((IntKind.wrap .i64 (32+16))+8))+(IntKind.wrap .i64 (UInt8.toNat x0:Int))))
 else none)
 else
  (bif(decide (0≤(IntKind.wrap .u8 (Int.fdiv (Int.fdiv x (2^32)) (2^16)))))then
  ((yw)[(Int.toNat (IntKind.wrap .u8 (Int.fdiv (Int.fdiv x (2^32)) (2^16))))]?).bind fun x1=>
  some (IntKind.wrap .i64 ((IntKind.wrap .i64 (32+16))+(IntKind.wrap .i64 (UInt8.toNat x1:Int))))
 else none))
 else
  (bif(decide (256≤(Int.fdiv x (2^32))))then
  (bif(decide (0≤(IntKind.wrap .u8 (Int.fdiv (Int.fdiv x (2^32)) (2^8)))))then
  ((yw)[(Int.toNat (IntKind.wrap .u8 (Int.fdiv (Int.fdiv x (2^32)) (2^8))))]?).bind fun x2=>
  some (IntKind.wrap .i64 ((IntKind.wrap .i64 (32+8))+(IntKind.wrap .i64 (UInt8.toNat x2:Int))))
 else none)
 else
  (bif(decide (0≤(IntKind.wrap .u8 (Int.fdiv x (2^32)))))then
  ((yw)[(Int.toNat (IntKind.wrap .u8 (Int.fdiv x (2^32))))]?).bind fun x3=>
  some (IntKind.wrap .i64 (32+(IntKind.wrap .i64 (UInt8.toNat x3:Int))))
 else none)))
 else
  (bif(decide (65536≤x))then
  (bif(decide (256≤(Int.fdiv x (2^16))))then
  (bif(decide (0≤(IntKind.wrap .u8 (Int.fdiv (Int.fdiv x (2^16)) (2^8)))))then
  ((yw)[(Int.toNat (IntKind.wrap .u8 (Int.fdiv (Int.fdiv x (2^16)) (2^8))))]?).bind fun x4=>
  some (IntKind.wrap .i64 ((IntKind.wrap .i64 ((IntKind.wrap .i64 (0+16))+8))+(IntKind.wrap .i64 (UInt8.toNat x4:Int))))
 else none)
 else
  (bif(decide (0≤(IntKind.wrap .u8 (Int.fdiv x (2^16)))))then
  ((yw)[(Int.toNat (IntKind.wrap .u8 (Int.fdiv x (2^16))))]?).bind fun x5=>
  some (IntKind.wrap .i64 ((IntKind.wrap .i64 (0+16))+(IntKind.wrap .i64 (UInt8.toNat x5:Int))))
 else none))
 else
  (bif(decide (256≤x))then
  (bif(decide (0≤(IntKind.wrap .u8 (Int.fdiv x (2^8)))))then
  ((yw)[(Int.toNat (IntKind.wrap .u8 (Int.fdiv x (2^8))))]?).bind fun x6=>
  some (IntKind.wrap .i64 ((IntKind.wrap .i64 (0+8))+(IntKind.wrap .i64 (UInt8.toNat x6:Int))))
 else none)
 else
  (bif(decide (0≤(IntKind.wrap .u8 x)))then
  ((yw)[(Int.toNat (IntKind.wrap .u8 x))]?).bind fun x7=>
  some (IntKind.wrap .i64 (0+(IntKind.wrap .i64 (UInt8.toNat x7:Int))))
 else none))))
def qkx(x:Int):Option Int:=some (qm x.toNat:Int)
theorem qx1:((List.range 256).all fun i=>decide ((yw[i]?).map UInt8.toNat=some (qm i)))=true:=by decide +kernel
theorem qoI{i:Nat}(h:i<256):∃b:UInt8,yw[i]?=some b∧b.toNat=qm i:=by
 have:=z7.1 qx1 i (List.mem_range.2 h)
 have h2:=Ko this;cases hb:yw[i]? with
 | none=>rw[hb]at h2;cases h2
 | some b=>rw[hb]at h2;exact⟨b,rfl,by simpa using h2⟩
theorem YV{y base:Nat}(hy:y<256)(hb:base≤64):(bif decide (0≤IntKind.u8.wrap (y:Int))then(yw[(IntKind.u8.wrap (y:Int)).toNat]?).bind fun x0=>some (IntKind.i64.wrap ((base:Int)+IntKind.i64.wrap ((x0.toNat:Nat):Int)))else none)=some ((base+qm y:Nat):Int):=by
 obtain⟨b,h1,h2⟩:=qoI hy;have h8:qm y≤8:=yp.2 (by simpa using hy)
 rw[wu8 (by omega) (by omega),za (by omega),zg,zd,h1,zh,h2];have e:IntKind.i64.wrap ((qm y:Nat):Int)=((qm y:Nat):Int):=w64 (by omega) (by omega)
 rw[e,w64 (by omega) (by omega)];rfl
theorem dge(a b:Nat):decide ((a:Int)≤(b:Int))=Nat.ble a b:=by
 rw[qaI];by_cases h:a≤b
 · rw[za h,za];omega
 · rw[zk h,zk];omega
theorem qoJ(x y:Int)(hg:(d1 (cI .u64)).good x)(h:qkx x=some y):qoH x=some y:=by
 obtain⟨n,rfl,hn⟩:=QY hg;have:=soi h;subst this
 unfold qoH;rw[zd];have hs:∀ {k:Nat},2^k≤n→qm n=k+qm (n / 2^k):=fun h=>JU h
 have e48:IntKind.i64.wrap (IntKind.i64.wrap (32+16)+8)=((56:Nat):Int):=by decide
 have e32:IntKind.i64.wrap (32+16)=((48:Nat):Int):=by decide
 have e40:IntKind.i64.wrap (32+8)=((40:Nat):Int):=by decide
 have e24:IntKind.i64.wrap (IntKind.i64.wrap (0+16)+8)=((24:Nat):Int):=by decide
 have e16:IntKind.i64.wrap (0+16)=((16:Nat):Int):=by decide
 have e8:IntKind.i64.wrap (0+8)=((8:Nat):Int):=by decide
 have c32:(32:Int)=((32:Nat):Int):=rfl
 have c0:(0:Int)=((0:Nat):Int):=rfl
 have d1:decide ((4294967296:Int)≤(n:Int))=Nat.ble 4294967296 n:=dge 4294967296 n
 have d2:∀m:Nat,decide ((65536:Int)≤(m:Int))=Nat.ble 65536 m:=fun m=>dge 65536 m
 have d3:∀m:Nat,decide ((256:Int)≤(m:Int))=Nat.ble 256 m:=fun m=>dge 256 m
 simp only[Z4,d1,d2,d3,e48,e40,e24,e8];simp only[e32,e16];cases h1:Nat.ble 4294967296 n with
 | true=>
  have b1:=zo h1;rw[zg];cases h2:Nat.ble 65536 (n / 2^32)with
  | true=>
   have b2:=zo h2;rw[zg];cases h3:Nat.ble 256 (n / 2^32 / 2^16)with
   | true=>
    have b3:=zo h3;rw[zg,YV (by omega) (by omega),hs (k:=56) (by omega)]
    congr 3;rw[Kl,Kl]
   | false=>
    have b3:n / 2^32 / 2^16<256:=VF fun e=>by rw[zr e]at h3;cases h3
    rw[zm,YV b3 (by omega),hs (k:=48) (by omega)]
    congr 3;rw[Kl]
  | false=>
   have b2:n / 2^32<65536:=VF fun e=>by rw[zr e]at h2;cases h2
   rw[zm];cases h3:Nat.ble 256 (n / 2^32)with
   | true=>
    have b3:=zo h3;rw[zg,YV (by omega) (by omega),hs (k:=40) (by omega)]
    congr 3;rw[Kl]
   | false=>
    have b3:n / 2^32<256:=VF fun e=>by rw[zr e]at h3;cases h3
    rw[zm,c32,YV b3 (by omega),hs (k:=32) (by omega)]
 | false=>
  have b1:n<4294967296:=VF fun e=>by rw[zr e]at h1;cases h1
  rw[zm];cases h2:Nat.ble 65536 n with
  | true=>
   have b2:=zo h2;rw[zg];cases h3:Nat.ble 256 (n / 2^16)with
   | true=>
    have b3:=zo h3;rw[zg,YV (by omega) (by omega),hs (k:=24) (by omega)]
    congr 3;rw[Kl]
   | false=>
    have b3:n / 2^16<256:=VF fun e=>by rw[zr e]at h3;cases h3
    rw[zm,YV b3 (by omega),hs (k:=16) (by omega)]
  | false=>
   have b2:n<65536:=VF fun e=>by rw[zr e]at h2;cases h2
   rw[zm];cases h3:Nat.ble 256 n with
   | true=>
    have b3:=zo h3;rw[zg,YV (by omega) (by omega),hs (k:=8) (by omega)]
   | false=>
    have b3:n<256:=VF fun e=>by rw[zr e]at h3;cases h3
    rw[zm];have:=YV (base:=0) b3 (by omega)
    rw[zD]at this;exact this
end
end Su
end
section
namespace Su
open Go Fly
noncomputable section
def qvT  (a:(Int×Int)):Option Int :=
 (bif(decide (0<a.1))then
 some (IntKind.wrap .i64 (64+(qm a.1.toNat:Int)))
 else
  some (qm a.2.toNat:Int))
def Zs:(Int×Int×Int×Int×Int×Unit)→Option ((Int×Int×Int×Int×Int×Unit) ⊕ (Lp (Int×Int×Int×Int×Int×Unit) (Int×Int))):=fun p0=>(bif(decide (64≤p0.1))then
 (bif((decide (p0.2.2.1=0))&&true)then
 some (.inr (.ret (p0.2.2.1,(0:Int))))
 else
  some (.inl ((IntKind.wrap .i64 (p0.1-64)),p0.2.2.1,(0:Int),p0.2.2.2.1,p0.2.2.2.2.1,())))
 else
  some (.inr (.exit 0 (p0.1,p0.2.1,p0.2.2.1,p0.2.2.2.1,p0.2.2.2.2.1,()))))
def qvU  (fu:Nat)(a:(Int×Int))(n:Int):Option (Int×Int) :=
 (itP fu (Zs) (n,a.1,a.2,(0:Int),(0:Int),())).bind fun x1=>
 (match x1 with
 | .exit i2 p3=>(bif(Nat.beq i2 0)then
  (bif(decide (p3.1≤0))then
  some (p3.2.1,p3.2.2.1)
 else
  (bif(decide (0≤p3.1))then
  (bif(decide (0≤(IntKind.wrap .i64 (64-p3.1))))then
  (bif(decide (0≤p3.1))then
  some ((Fly.qX Go.BinOp.or .u64 (IntKind.wrap .u64 (p3.2.1*(2^(min p3.1.toNat 64)))) (Int.fdiv p3.2.2.1 (2^(min (Int.toNat (IntKind.wrap .i64 (64-p3.1))) 64)))),(IntKind.wrap .u64 (p3.2.2.1*(2^(min p3.1.toNat 64)))))
 else none)
 else none)
 else none))
 else none)
 | .ret o4=>some o4)
def qaN:(Int×Bool×Int×Int×Int×Int×Unit)→Option ((Int×Bool×Int×Int×Int×Int×Unit) ⊕ (Lp (Int×Bool×Int×Int×Int×Int×Unit) ((Int×Int)×Bool))):=fun p0=>(bif(decide (64≤p0.1))then
 (bif p0.2.1 then
 (bif(true&&((decide (p0.2.2.1=0))&&true))then
 some (.inr (.ret (((0:Int),p0.2.2.1),true)))
 else
  some (.inl ((IntKind.wrap .i64 (p0.1-64)),true,(0:Int),p0.2.2.1,p0.2.2.2.2.1,p0.2.2.2.2.2.1,())))
 else
  (bif(true&&((decide (p0.2.2.1=0))&&true))then
  some (.inr (.ret (((0:Int),p0.2.2.1),(!(decide (p0.2.2.2.1=0))))))
 else
  some (.inl ((IntKind.wrap .i64 (p0.1-64)),(!(decide (p0.2.2.2.1=0))),(0:Int),p0.2.2.1,p0.2.2.2.2.1,p0.2.2.2.2.2.1,()))))
 else
  some (.inr (.exit 0 (p0.1,p0.2.1,p0.2.2.1,p0.2.2.2.1,p0.2.2.2.2.1,p0.2.2.2.2.2.1,()))))
def qvV  (fu:Nat)(a:(Int×Int))(n:Int):Option ((Int×Int)×Bool) :=
 (itP fu (qaN) (n,false,a.1,a.2,(0:Int),(0:Int),())).bind fun x1=>
 (match x1 with
 | .exit i2 p3=>(bif(Nat.beq i2 0)then
  (bif(decide (p3.1≤0))then
  some ((p3.2.2.1,p3.2.2.2.1),p3.2.1)
 else
  (bif(decide (0≤p3.1))then
  (bif(decide (0≤p3.1))then
  (bif(decide (0≤(IntKind.wrap .i64 (64-p3.1))))then
  (bif p3.2.1 then
  some (((Int.fdiv p3.2.2.1 (2^(min p3.1.toNat 64))),(Fly.qX Go.BinOp.or .u64 (Int.fdiv p3.2.2.2.1 (2^(min p3.1.toNat 64))) (IntKind.wrap .u64 (p3.2.2.1*(2^(min (Int.toNat (IntKind.wrap .i64 (64-p3.1))) 64)))))),true)
 else
  (bif(decide (0≤(IntKind.wrap .i64 (64-p3.1))))then
  some (((Int.fdiv p3.2.2.1 (2^(min p3.1.toNat 64))),(Fly.qX Go.BinOp.or .u64 (Int.fdiv p3.2.2.2.1 (2^(min p3.1.toNat 64))) (IntKind.wrap .u64 (p3.2.2.1*(2^(min (Int.toNat (IntKind.wrap .i64 (64-p3.1))) 64)))))),(!(decide ((IntKind.wrap .u64 (p3.2.2.2.1*(2^(min (Int.toNat (IntKind.wrap .i64 (64-p3.1))) 64))))=0))))
 else none))
 else none)
 else none)
 else none))
 else none)
 | .ret o4=>some o4)
def qoK(a:Int×Int):Option Int:=some (qm (jB a):Int)
theorem qsF(a:Int×Int)(y:Int)(hg:(d1 cW).good a)(h:qoK a=some y):qvT a=some y:=by
 obtain⟨a,b⟩:=a;obtain⟨ha,hb⟩:=hg;obtain⟨A,rfl,hA⟩:=QY ha;obtain⟨B,rfl,hB⟩:=QY hb;have:=soi h;subst this
 unfold qvT;rw[JW];simp only[zd];have hbA:qm A≤64:=yp.2 (by simpa using hA)
 by_cases h0:0<A
 · rw[za (show(0:Int)<(A:Int) by omega),zg,w64 (by omega) (by omega)]
   have:=JU (n:=A*18446744073709551616+B) (k:=64) (by omega)
   rw[this,show(A*18446744073709551616+B) / 2^64=A by omega];rfl
 · have:A=0:=by omega
   subst this;rw[zk (by decide),zm,K8,zD]
def qoL(p:(Int×Int)×Int):Option (Int×Int):=some (hiW (2^p.2.toNat*jB p.1),loW (2^p.2.toNat*jB p.1))
def qoM(p:(Int×Int)×Int):Option ((Int×Int)×Bool):=some ((hiW (jB p.1 / 2^p.2.toNat),loW (jB p.1 / 2^p.2.toNat)),!Nat.beq (jB p.1 % 2^p.2.toNat) 0)
theorem qoN(n:Nat)(h0:64≤n)(h:n<9223372036854775808):IntKind.i64.wrap ((n:Int)-64)=((n-64:Nat):Int):=by rw[w64 (by omega) (by omega)];omega
theorem qky(H L r:Nat)(hr:r<64)(hH:H<18446744073709551616)(hL:L<18446744073709551616) :
 (bif decide ((r:Int)≤0)then some ((H:Int),(L:Int))else bif decide ((0:Int)≤(r:Int))then bif decide ((0:Int)≤IntKind.i64.wrap (64-(r:Int)))then bif decide ((0:Int)≤(r:Int))then
   some ((qX .or .u64 (IntKind.u64.wrap ((H:Int)*2^(min (r:Int).toNat 64))) (Int.fdiv (L:Int) (2^(min (IntKind.i64.wrap (64-(r:Int))).toNat 64)))),IntKind.u64.wrap ((L:Int)*2^(min (r:Int).toNat 64)))else none else none else none)
 = some (hiW ((H*18446744073709551616+L)*2^r),loW ((H*18446744073709551616+L)*2^r)):=by
 obtain⟨c1,c2⟩:=qoF H L r (by omega) hL
 by_cases h0:r=0
 · subst h0
   rw[za (by decide),zg];unfold hiW loW;rw[Vr,Vx]
   congr 2 <;> congr 1 <;> omega
 · have e1:IntKind.i64.wrap (64-(r:Int))=((64-r:Nat):Int):=by rw[w64 (by omega) (by omega)];omega
   have e2:∀x:Nat,IntKind.u64.wrap ((x:Int)*2^r)=((x*2^r % 18446744073709551616:Nat):Int):=fun x=>by
    rw[wrap_u64,show((2:Int)^r)=((2^r:Nat):Int) by simp,← Vp];rfl
   rw[zk (by omega),zm,za (by omega),zg,e1,za (by omega),zg,zg];simp only[zd,KY (show r≤64 by omega),KY (show 64-r≤64 by omega),e2,Z4];have l1:L / 2^(64-r)<18446744073709551616:=K4 (VC _ _) hL
   rw[Zr _ _ (Vf _ (by decide)) l1,c1,c2];rfl
theorem qkz{X Y:Nat}(h:X % 340282366920938463463374607431768211456=0):hiW (X+Y)=hiW Y:=by unfold hiW;congr 1;omega
theorem qkA{X Y:Nat}(h:X % 340282366920938463463374607431768211456=0):loW (X+Y)=loW Y:=by unfold loW;congr 1;omega
theorem qsG(p:(Int×Int)×Int)(y:Int×Int)(hg:(dc cW (d1 (cI .i64))).good p)(h:qoL p=some y):∃n,qvU n p.1 p.2=some y:=by
 obtain⟨⟨a,b⟩,n⟩:=p;obtain⟨⟨ha,hb⟩,hn⟩:=hg;obtain⟨A,rfl,hA⟩:=QY ha;obtain⟨B,rfl,hB⟩:=QY hb;have hn:=Q3.1 hn;have:=soi h;subst this
 refine⟨3,?_⟩
 unfold qvU;rw[zN (2^_)];rw[JW];simp only[zd];by_cases hneg:n<64
 · -- no round
   simp only[jj,Zs];rw[zk (by omega)];simp only[zm,zh];rw[show Nat.beq 0 0=true from rfl,zg];by_cases h0:n≤0
   · rw[za h0,zg]
     have:n.toNat=0:=by omega
     rw[this,Vr,Vx];unfold hiW loW
     congr 2 <;> congr 1 <;> omega
   · obtain⟨r,rfl⟩:∃r:Nat,n=(r:Int):=⟨n.toNat,by omega⟩
     rw[zd];exact qky A B r (by omega) hA hB
 · obtain⟨N,rfl⟩:∃N:Nat,n=(N:Int):=⟨n.toNat,by omega⟩
   have hN:64≤N:=by omega
   rw[zd];have d0:decide ((64:Int)≤(N:Int))=true:=za (by omega)
   obtain⟨X,hX0,hv⟩:∃X,X % 340282366920938463463374607431768211456=0∧(A*18446744073709551616+B)*2^N=X+(B*18446744073709551616)*2^(N-64):=by
    refine⟨A*2^(N-64)*340282366920938463463374607431768211456,Nat.mul_mod_left _ _,?_⟩
    rw[show N=(N-64)+64 by omega,Ks,show(2^64:Nat)=18446744073709551616 from rfl,Vo];generalize 2^(N-64)=z
    rw[zV,← Km,← Km];rw[VG A,Km (A*z),VG B]
   rw[hv,qkz hX0,qkA hX0];by_cases hB0:B=0
   · subst hB0
     rw[jj];simp only[Zs,d0,zg,zh,show decide (((0:Nat):Int)=0)=true from rfl,Ki];simp only[K8];rfl
   · have db:decide ((B:Int)=0)=false:=zk (by omega)
     have es:=qoN N hN (by omega)
     rw[jj];simp only[Zs,d0,zg,db,Vj,zm,zh,es];by_cases h2:N<128
     · have d1:decide ((64:Int)≤((N-64:Nat):Int))=false:=zk (by omega)
       rw[jj];simp only[Zs,d1,zm,zh];rw[show Nat.beq 0 0=true from rfl,zg];have:=qky B 0 (N-64) (by omega) hB (by omega)
       rw[KB]at this;exact this
     · have d1:decide ((64:Int)≤((N-64:Nat):Int))=true:=za (by omega)
       rw[jj];simp only[Zs,d1,zg,zh];obtain⟨Z,hZ0,hz⟩:∃Z,Z % 340282366920938463463374607431768211456=0∧B*18446744073709551616*2^(N-64)=Z+0:=by
        obtain⟨M,hM⟩:∃M,N-64=M+64:=⟨N-64-64,by omega⟩
        refine⟨B*2^M*340282366920938463463374607431768211456,Nat.mul_mod_left _ _,?_⟩
        rw[hM,Ks,show(2^64:Nat)=18446744073709551616 from rfl,KB];rw[Nat.mul_mul_mul_comm]
       rw[hz,qkz hZ0,qkA hZ0];rfl
theorem qkB(H L r:Nat)(lost:Bool)(hr:r<64)(hH:H<18446744073709551616)(hL:L<18446744073709551616) :
 (bif decide ((r:Int)≤0)then some (((H:Int),(L:Int)),lost)else bif decide ((0:Int)≤(r:Int))then bif decide ((0:Int)≤(r:Int))then bif decide ((0:Int)≤IntKind.i64.wrap (64-(r:Int)))then bif lost then
   some (((Int.fdiv (H:Int) (2^(min (r:Int).toNat 64))),(qX .or .u64 (Int.fdiv (L:Int) (2^(min (r:Int).toNat 64))) (IntKind.u64.wrap ((H:Int)*2^(min (IntKind.i64.wrap (64-(r:Int))).toNat 64))))),true)
   else bif decide ((0:Int)≤IntKind.i64.wrap (64-(r:Int)))then
   some (((Int.fdiv (H:Int) (2^(min (r:Int).toNat 64))),(qX .or .u64 (Int.fdiv (L:Int) (2^(min (r:Int).toNat 64))) (IntKind.u64.wrap ((H:Int)*2^(min (IntKind.i64.wrap (64-(r:Int))).toNat 64))))),(!(decide (IntKind.u64.wrap ((L:Int)*2^(min (IntKind.i64.wrap (64-(r:Int))).toNat 64))=0))))else none else none else none else none)
 = some ((hiW ((H*18446744073709551616+L) / 2^r),loW ((H*18446744073709551616+L) / 2^r)),lost||!Nat.beq ((H*18446744073709551616+L) % 2^r) 0):=by
 obtain⟨c1,c2,c3⟩:=qoG H L r (by omega) hH hL
 by_cases h0:r=0
 · subst h0
   rw[za (by decide),zg];rw[Vr,Nat.div_one,Nat.mod_one];unfold hiW loW;have q1:(H*18446744073709551616+L) / 18446744073709551616 % 18446744073709551616=H:=by omega
   have q2:(H*18446744073709551616+L) % 18446744073709551616=L:=by omega
   rw[show(!Nat.beq 0 0)=false from rfl,Bool.or_false,q1,q2]
 · have e1:IntKind.i64.wrap (64-(r:Int))=((64-r:Nat):Int):=by rw[w64 (by omega) (by omega)];omega
   have e2:∀x k:Nat,IntKind.u64.wrap ((x:Int)*2^k)=((x*2^k % 18446744073709551616:Nat):Int):=fun x k=>by
    rw[wrap_u64,show((2:Int)^k)=((2^k:Nat):Int) by simp,← Vp];rfl
   rw[zk (by omega),zm,za (by omega),zg,zg,e1,za (by omega),zg,zg];simp only[zd,KY (show r≤64 by omega),KY (show 64-r≤64 by omega),e2,Z4];have l1:L / 2^r<18446744073709551616:=K4 (VC _ _) hL
   rw[Zr _ _ l1 (Vf _ (by decide)),c1,c2];have e3:decide (((L*2^(64-r) % 18446744073709551616:Nat):Int)=0)=Nat.beq ((H*18446744073709551616+L) % 2^r) 0:=by
    rw[beq_dec];by_cases hz:(H*18446744073709551616+L) % 2^r=0
    · rw[za hz,c3.2 hz];rfl
    · rw[zk hz,zk]
      intro e;exact hz (c3.1 (by omega))
   rw[e3];unfold hiW loW;cases lost with
   | true=>rw[zg,Bool.true_or]
   | false=>rw[zm,VU]
theorem qvW(B z c:Nat)(hc:0<c):(!Nat.beq B 0||!Nat.beq z 0) = !Nat.beq (B+c*z) 0:=by
 by_cases hb:B=0
 · by_cases hz:z=0
   · subst hb hz;rw[Vv];rfl
   · have:B+c*z≠0:=by have:=Nat.mul_pos hc (show 0<z by omega);omega
     rw[qdB hz,qdB this,VY,Bool.or_true]
 · have:B+c*z≠0:=by omega
   rw[qdB hb,qdB this,VY,Bool.true_or]
theorem qsH(p:(Int×Int)×Int)(y:(Int×Int)×Bool)(hg:(dc cW (d1 (cI .i64))).good p)(h:qoM p=some y):∃n,qvV n p.1 p.2=some y:=by
 obtain⟨⟨a,b⟩,n⟩:=p;obtain⟨⟨ha,hb⟩,hn⟩:=hg;obtain⟨A,rfl,hA⟩:=QY ha;obtain⟨B,rfl,hB⟩:=QY hb;have hn:=Q3.1 hn;have:=soi h;subst this
 refine⟨3,?_⟩
 unfold qvV;rw[JW];simp only[zd];by_cases hneg:n<64
 · rw[jj]
   simp only[qaN];rw[zk (by omega)];simp only[zm,zh];rw[show Nat.beq 0 0=true from rfl,zg];by_cases h0:n≤0
   · rw[za h0,zg]
     have:n.toNat=0:=by omega
     rw[this,Vr,Nat.div_one,Nat.mod_one];unfold hiW loW;have q1:(A*18446744073709551616+B) / 18446744073709551616 % 18446744073709551616=A:=by omega
     have q2:(A*18446744073709551616+B) % 18446744073709551616=B:=by omega
     rw[show(!Nat.beq 0 0)=false from rfl,q1,q2]
   · obtain⟨r,rfl⟩:∃r:Nat,n=(r:Int):=⟨n.toNat,by omega⟩
     rw[zd];have h:=qkB A B r false (by omega) hA hB
     rw[VU]at h;exact h
 · obtain⟨N,rfl⟩:∃N:Nat,n=(N:Int):=⟨n.toNat,by omega⟩
   have hN:64≤N:=by omega
   rw[zd];have d0:decide ((64:Int)≤(N:Int))=true:=za (by omega)
   have hpow:2^N=18446744073709551616*2^(N-64):=by
    have:N=64+(N-64):=by omega
    conv=>lhs;rw[this]
    rw[Ks]
   have hdiv:(A*18446744073709551616+B) / 2^N=A / 2^(N-64):=by
    rw[hpow,← Kl,show(A*18446744073709551616+B) / 18446744073709551616=A by omega]
   have hmod:(A*18446744073709551616+B) % 2^N=B+18446744073709551616*(A % 2^(N-64)):=by
    rw[hpow,Nat.mod_mul,show(A*18446744073709551616+B) / 18446744073709551616=A by omega,show(A*18446744073709551616+B) % 18446744073709551616=B by omega]
   rw[hdiv,hmod];have es:=qoN N hN (by omega)
   have dB:decide ((B:Int)=0)=Nat.beq B 0:=by rw[beq_dec];by_cases h:B=0 <;> simp[h]
   have dA:decide ((A:Int)=0)=Nat.beq A 0:=by rw[beq_dec];by_cases h:A=0 <;> simp[h]
   rw[jj];simp only[qaN,d0,zg,zm,es,dA,dB,zZ,Bool.and_true];by_cases hA0:A=0
   · subst hA0
     rw[show Nat.beq 0 0=true from rfl,zg,Nat.zero_div,Nat.zero_mod,Vv,KB];rfl
   · rw[qdB hA0,zm]
     simp only[zh];by_cases h2:N<128
     · have d1:decide ((64:Int)≤((N-64:Nat):Int))=false:=zk (by omega)
       rw[jj];simp only[qaN,d1,zm,zh];rw[show Nat.beq 0 0=true from rfl,zg];have:=qkB 0 A (N-64) (!Nat.beq B 0) (by omega) (by omega) hA
       rw[K8,zD]at this;refine Eq.trans this ?_
       rw[qvW B (A % 2^(N-64)) 18446744073709551616 (by decide)]
     · have d1:decide ((64:Int)≤((N-64:Nat):Int))=true:=za (by omega)
       have hlt:A<2^(N-64):=Kt hA (Kf (n:=2) (by omega) (show 64≤N-64 by omega))
       rw[jj,Vk hlt,KM hlt];simp only[qaN,d1,zg,dA,qdB hA0,show decide ((0:Int)=0)=true from rfl,Ki,VY];have hz:Nat.beq (B+18446744073709551616*A) 0=false:=qdB (by omega)
       have h1:hiW 0=0:=rfl
       have h2:loW 0=0:=rfl
       rw[hz,h1,h2];cases Nat.beq B 0 with
       | true=>simp only[Bool.not_true,VY,WA,Ki,zm,zg,zh]
       | false=>simp only[VY,WA,Ki,zg,zh]
end
end Su
end
section
namespace Su
open Go Fly
noncomputable section
def rUp  (x:(Bool×Int×Int×Int×Bool))(mode:Int)(odd:Bool)(half:Bool)(rest:Bool):Option Bool :=
 (bif(decide (mode=1))then
 (bif(!x.1)then
 (bif half then
 some true
 else
  some rest)
 else
  (bif(decide (mode=2))then
  (bif x.1 then
  (bif half then
  some true
 else
  some rest)
 else
  (bif(decide (mode=1))then
  (bif x.1 then
  some false
 else
  (bif(decide (mode=2))then
  (bif(!x.1)then
  some false
 else
  (bif half then
  (bif rest then
  some true
 else
  some odd)
 else
  some false))
 else
  (bif half then
  (bif rest then
  some true
 else
  some odd)
 else
  some false)))
 else
  (bif(decide (mode=2))then
  (bif(!x.1)then
  some false
 else
  (bif half then
  (bif rest then
  some true
 else
  some odd)
 else
  some false))
 else
  (bif half then
  (bif rest then
  some true
 else
  some odd)
 else
  some false))))
 else
  (bif(decide (mode=1))then
  (bif x.1 then
  some false
 else
  (bif(decide (mode=2))then
  (bif(!x.1)then
  some false
 else
  (bif half then
  (bif rest then
  some true
 else
  some odd)
 else
  some false))
 else
  (bif half then
  (bif rest then
  some true
 else
  some odd)
 else
  some false)))
 else
  (bif(decide (mode=2))then
  (bif(!x.1)then
  some false
 else
  (bif half then
  (bif rest then
  some true
 else
  some odd)
 else
  some false))
 else
  (bif half then
  (bif rest then
  some true
 else
  some odd)
 else
  some false)))))
 else
  (bif(decide (mode=2))then
  (bif x.1 then
  (bif half then
  some true
 else
  some rest)
 else
  (bif(decide (mode=1))then
  (bif x.1 then
  some false
 else
  (bif(decide (mode=2))then
  (bif(!x.1)then
  some false
 else
  (bif half then
  (bif rest then
  some true
 else
  some odd)
 else
  some false))
 else
  (bif half then
  (bif rest then
  some true
 else
  some odd)
 else
  some false)))
 else
  (bif(decide (mode=2))then
  (bif(!x.1)then
  some false
 else
  (bif half then
  (bif rest then
  some true
 else
  some odd)
 else
  some false))
 else
  (bif half then
  (bif rest then
  some true
 else
  some odd)
 else
  some false))))
 else
  (bif(decide (mode=1))then
  (bif x.1 then
  some false
 else
  (bif(decide (mode=2))then
  (bif(!x.1)then
  some false
 else
  (bif half then
  (bif rest then
  some true
 else
  some odd)
 else
  some false))
 else
  (bif half then
  (bif rest then
  some true
 else
  some odd)
 else
  some false)))
 else
  (bif(decide (mode=2))then
  (bif(!x.1)then
  some false
 else
  (bif half then
  (bif rest then
  some true
 else
  some odd)
 else
  some false))
 else
  (bif half then
  (bif rest then
  some true
 else
  some odd)
 else
  some false)))))
def qoO  (x:(Bool×Int×Int×Int×Bool))(mode:Int):Option (Int×Int) :=
 (bif(decide (mode=1))then
 (bif x.1 then
 some ((IntKind.wrap .u64 (((((sgN x.1)+9218868437227405312):Nat):Int)-1)),(5:Int))
 else
  (bif(decide (mode=2))then
  (bif(!x.1)then
  some ((IntKind.wrap .u64 (((((sgN x.1)+9218868437227405312):Nat):Int)-1)),(5:Int))
 else
  some (((((sgN x.1)+9218868437227405312):Nat):Int),(5:Int)))
 else
  some (((((sgN x.1)+9218868437227405312):Nat):Int),(5:Int))))
 else
  (bif(decide (mode=2))then
  (bif(!x.1)then
  some ((IntKind.wrap .u64 (((((sgN x.1)+9218868437227405312):Nat):Int)-1)),(5:Int))
 else
  some (((((sgN x.1)+9218868437227405312):Nat):Int),(5:Int)))
 else
  some (((((sgN x.1)+9218868437227405312):Nat):Int),(5:Int))))
abbrev ql8:=Bool×(Int×Int×Int×Bool)
def quc(p:ql8×Int×Bool×Bool×Bool):Option Bool:=some (upN p.1.1 p.2.1 p.2.2.1 p.2.2.2.1 p.2.2.2.2)
theorem qvX(p:ql8×Int×Bool×Bool×Bool)(y:Bool)(hg:(dc ql1 (dc (cI .u8) (dc cB (dc cB (d1 cB))))).good p)(h:quc p=some y):rUp p.1 p.2.1 p.2.2.1 p.2.2.2.1 p.2.2.2.2=some y:=by
 obtain⟨⟨neg,x⟩,mode,odd,half,rest⟩:=p;have:=soi h;subst this
 unfold rUp upN awN twN;simp only[];by_cases h1:mode=1
 · subst h1
   cases neg <;> cases half <;> cases rest <;> cases odd <;> rfl
 · by_cases h2:mode=2
   · subst h2
     cases neg <;> cases half <;> cases rest <;> cases odd <;> rfl
   · rw[zk h1,zk h2]
     cases neg <;> cases half <;> cases rest <;> cases odd <;> rfl
def ovN(neg:Bool)(mode:Int):Nat:=sgN neg+bif twN neg mode then 9218868437227405311 else 9218868437227405312
def qkC(p:ql8×Int):Option (Int×Int):=some ((ovN p.1.1 p.2:Int),5)
theorem qoP(p:ql8×Int)(y:Int×Int)(hg:(dc ql1 (d1 (cI .u8))).good p)(h:qkC p=some y):qoO p.1 p.2=some y:=by
 obtain⟨⟨neg,x⟩,mode⟩:=p;have:=soi h;subst this
 have e:IntKind.u64.wrap (((sgN neg+9218868437227405312:Nat):Int)-1)=((sgN neg+9218868437227405311:Nat):Int):=by
  have:sgN neg≤9223372036854775808:=by unfold sgN;cases neg <;> simp
  rw[jR (by omega) (by omega)];omega
 unfold qoO ovN twN;simp only[e];generalize sgN neg=z
 have d11:decide ((1:Int)=1)=true:=rfl
 have d12:decide ((1:Int)=2)=false:=rfl
 have d21:decide ((2:Int)=1)=false:=rfl
 have d22:decide ((2:Int)=2)=true:=rfl
 by_cases h1:mode=1
 · subst h1
   rw[d11,d12];cases neg <;> simp only[zg,zm]
 · by_cases h2:mode=2
   · subst h2
     rw[d21,d22];cases neg <;> simp only[zg,zm,Bool.not_true,VY]
   · rw[zk h1,zk h2]
     cases neg <;> simp only[zg,zm]
end
end Su
end
