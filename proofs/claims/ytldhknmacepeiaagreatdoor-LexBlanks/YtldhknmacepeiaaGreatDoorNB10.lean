/-
  What functions of the program compute, in plain Lean, and that the evaluator finds it.
-/
import Derived.Test.YtldhknmacepeiaaGreatDoorSuXl
import Derived.Test.YtldhknmacepeiaaGreatDoorNB09
import Derived.Test.YtldhknmacepeiaaGreatDoorRb
set_option linter.unusedVariables false
set_option linter.unusedSimpArgs false
set_option maxRecDepth 10000
section
namespace Su
open Go Fly
noncomputable section
def qjK:Stp ((List Int)×(List Int)×Unit):=fun p2=>(bif(decide (0<(List.length p2.2.1:Int)))then
 (YP (p2.1,p2.2.1)).bind fun x3=>
 some (.inl (p2.2.1,x3.2.1,()))
 else
  some (.inr (p2.1,p2.2.1,())))
def Gcd  (fu:Nat)(a:(List Int))(b:(List Int)):Option (List Int) :=
 (QY (ofN (qa a))).bind fun x0=>
 (QY (ofN (qa b))).bind fun x1=>
 (itP fu (qjK) (x0,x1,())).bind fun x4=>
 some x4.1
theorem qgP{v k:Nat}(h:v<4294967296^k):(ofN v).length≤k:=by
 have h1:=yH (qih k v) (qkZ k v)
 rw[qpc,KP h,qii]at h1;exact h1
theorem qil{u v:Nat}(h:u≤v):(ofN u).length≤(ofN v).length:=qgP (KQ h YH)
theorem qpk{va vb:Nat}(h1:(ofN va).length≤1000000)(h2:(ofN vb).length≤1000000)(hb:vb≠0):YP (ofN va,ofN vb)=some (ofN (va / vb),ofN (va % vb),0):=by
 unfold YP;simp only[valN_ofN];rw[zp h1,zp h2,Ki,zg,zw hb]
theorem qpl:∀(vb va:Nat),(ofN va).length≤1000000→(ofN vb).length≤1000000→∃w,∃n,itP n qjK (ofN va,ofN vb,())=some (ofN (Nat.gcd va vb),w,()):=by
 intro vb;induction vb using Nat.strongRecOn with
 | _ vb ih=>
  intro va h1 h2;by_cases hb:vb=0
  · subst hb
    refine⟨[],yS ?_⟩
    rw[Nat.gcd_zero_right];rfl
  · have hlt:=K9 va (Nat.pos_of_ne_zero hb)
    obtain⟨w,hn⟩:=ih (va % vb) hlt vb h2 (Kj (qil (Vg hlt)) h2)
    refine⟨w,Qj ?_ (by rw[Nat.gcd_comm va vb,Nat.gcd_rec vb va,Nat.gcd_comm];exact hn)⟩
    have hl:0<(ofN vb).length:=by
     have h3:=@YH vb
     cases h4:(ofN vb).length with
     | zero=>rw[h4]at h3;omega
     | succ=>omega
    have d1:decide ((0:Int)<(((ofN vb).length:Nat):Int))=true:=zb (by omega)
    simp only[qjK,d1,zg,qpk h1 h2 hb,zh]
def qim(p:List Int×List Int):Option (List Int):=bif Nat.ble p.1.length 1000000&&Nat.ble p.2.length 1000000 then some (ofN (Nat.gcd (qa p.1) (qa p.2)))else none
theorem qxi(p:List Int×List Int)(y:List Int)(hg:(dc (cQ 1 1) (d1 (cQ 1 1))).good p)(h:qim p=some y):∃n,Gcd n p.1 p.2=some y:=by
 obtain⟨a,b⟩:=p;obtain⟨⟨ha,la⟩,hb,lb⟩:=hg;obtain⟨hm,h⟩:=qh h;have:=soi h;subst this
 rw[zn]at hm;have hla:=Kj (yH a (Wd.of ha)) (zo hm.1)
 have hlb:=Kj (yH b (Wd.of hb)) (zo hm.2)
 obtain⟨w,n,hn⟩:=qpl (qa b) (qa a) hla hlb
 refine⟨n,?_⟩
 have h1:QY (ofN (qa a))=some (ofN (qa a)):=by unfold QY qgN;rw[zp (by omega),zg]
 have h2:QY (ofN (qa b))=some (ofN (qa b)):=by unfold QY qgN;rw[zp (by omega),zg]
 show Gcd n a b=some (ofN (Nat.gcd (qa a) (qa b)))
 unfold Gcd;exact obB h1 (obB h2 (obB hn rfl))
end
end Su
end
section
namespace Su
open Go Fly
noncomputable section
theorem obs{α β:Type}{a:Option α}{f:α→Option β}{t:α}{r:Option β}(h:a=some t)(h2:f t=r):a.bind f=r:=by rw[h];exact h2
end
end Su
end
section
namespace Su
open Go Fly
def jF(a:Int×Int):Nat:=18446744073709551616*a.1.toNat+a.2.toNat
theorem Yl(a:Int×Int):jF a=a.1.toNat*18446744073709551616+a.2.toNat:=by unfold jF;rw[zF]
def hiW(n:Nat):Int:=((n / 18446744073709551616 % 18446744073709551616:Nat):Int)
def loW(n:Nat):Int:=((n % 18446744073709551616:Nat):Int)
theorem pw{r:Nat}(hr:r≤64):2^(64-r)*2^r=18446744073709551616:=by
 rw[← zP,Nat.sub_add_cancel hr]
theorem qpm(H L r:Nat)(hr:r≤64)(hL:L<18446744073709551616) :
 (H*2^r) % 18446744073709551616 ||| L / 2^(64-r)=(H*18446744073709551616+L)*2^r / 18446744073709551616 % 18446744073709551616∧L*2^r % 18446744073709551616=(H*18446744073709551616+L)*2^r % 18446744073709551616:=by
 have hW:=pw hr;have hR:=zQ r;have hQ:=zQ (64-r)
 have hx:L / 2^(64-r)<2^r:=by rw[KD hQ,zF,hW];exact hL
 have h1:H*2^r % 18446744073709551616=H % 2^(64-r)*2^r:=by rw[← hW,WD]
 refine⟨?_,?_⟩
 · rw[h1,qc5 hx]
   have h2:(H*18446744073709551616+L)*2^r / 18446744073709551616=H*2^r+L / 2^(64-r):=by
    have:(H*18446744073709551616+L)*2^r=L*2^r+18446744073709551616*(H*2^r):=by
     rw[zW,Kz,zF (H*2^r)];omega
    rw[this,VW _ _ (by decide)];have h3:L*2^r / 18446744073709551616=L / 2^(64-r):=by rw[← hW,Nat.mul_div_mul_right _ _ hR]
    omega
   rw[h2];have h4:=Vb H (2^(64-r))
   have h5:H*2^r=18446744073709551616*(H / 2^(64-r))+H % 2^(64-r)*2^r:=by
    conv=>lhs;rw[← h4]
    rw[zW,Kz,hW]
   rw[h5,Ky,Nat.mul_add_mod];have h6:H % 2^(64-r)*2^r+L / 2^(64-r)<18446744073709551616:=by
    have h7:=K9 H hQ;have h8:(H % 2^(64-r)+1)*2^r≤2^(64-r)*2^r:=zD _ h7
    rw[hW,zW]at h8;omega
   rw[KP h6]
 · have:(H*18446744073709551616+L)*2^r=18446744073709551616*(H*2^r)+L*2^r:=by
    rw[zW,Kz,zF (H*2^r)]
   rw[this,Nat.mul_add_mod]
theorem qpn(H L r:Nat)(hr:r≤64)(hH:H<18446744073709551616)(hL:L<18446744073709551616) :
 H / 2^r=(H*18446744073709551616+L) / 2^r / 18446744073709551616 % 18446744073709551616∧L / 2^r ||| (H*2^(64-r)) % 18446744073709551616=(H*18446744073709551616+L) / 2^r % 18446744073709551616 ∧
 (L*2^(64-r) % 18446744073709551616=0↔(H*18446744073709551616+L) % 2^r=0):=by
 have hW:2^r*2^(64-r)=18446744073709551616:=by rw[zF];exact pw hr
 have hR:=zQ r;have hQ:=zQ (64-r)
 have hx:L / 2^r<2^(64-r):=by rw[KD hR,zF,hW];exact hL
 have h1:H*2^(64-r) % 18446744073709551616=H % 2^r*2^(64-r):=by rw[← hW,WD]
 have hv:H*18446744073709551616+L=L+2^r*(H*2^(64-r)):=by
  rw[← hW,KN,WO]
 have hd:(H*18446744073709551616+L) / 2^r=H*2^(64-r)+L / 2^r:=by
  rw[hv,VW _ _ hR,WO]
 refine⟨?_,?_,?_⟩
 · rw[Km,zF (2^r),← Km]
   have:(H*18446744073709551616+L) / 18446744073709551616=H:=by omega
   rw[this,KP];exact KQ (VB _ _) hH
 · rw[h1,qoX hx,hd]
   have h4:=Vb H (2^r)
   have h5:H*2^(64-r)=18446744073709551616*(H / 2^r)+H % 2^r*2^(64-r):=by
    conv=>lhs;rw[← h4]
    rw[zW,Kz,hW]
   rw[h5,Ky,Nat.mul_add_mod];have h6:H % 2^r*2^(64-r)+L / 2^r<18446744073709551616:=by
    have h7:=K9 H hR;have h8:(H % 2^r+1)*2^(64-r)≤2^r*2^(64-r):=zD _ h7
    rw[hW,zW]at h8;omega
   rw[KP h6]
 · have e1:L*2^(64-r) % 18446744073709551616=L % 2^r*2^(64-r):=by rw[← hW,WD]
   have e2:(H*18446744073709551616+L) % 2^r=L % 2^r:=by rw[hv,Nat.add_mul_mod_self_left]
   rw[e1,e2];constructor
   · intro h
     rcases Nat.mul_eq_zero.1 h with h | h
     · exact h
     · omega
   · intro h;rw[h,KY]
end Su
end
section
namespace Su
open Go Fly
noncomputable section
def yE:ByteArray:=⟨⟨[0,1,2,2,3,3,3,3,4,4,4,4,4,4,4,4,5,5,5,5,5,5,5,5,5,5,5,5,5,5,5,5,6,6,6,6,6,6,6,6,6,6,6,6,6,6,6,6,6,6,6,6,6,6,6,6,6,6,6,6,6,6,6,6,7,7,7,7,7,7,7,7,7,7,7,7,7,7,7,7,7,7,7,7,7,7,7,7,7,7,7,7,7,7,7,7,7,7,7,7,7,7,7,7,7,7,7,7,7,7,7,7,7,7,7,7,7,7,7,7,7,7,7,7,7,7,7,7,8,8,8,8,8,8,8,8,8,8,8,8,8,8,8,8,8,8,8,8,8,8,8,8,8,8,8,8,8,8,8,8,8,8,8,8,8,8,8,8,8,8,8,8,8,8,8,8,8,8,8,8,8,8,8,8,8,8,8,8,8,8,8,8,8,8,8,8,8,8,8,8,8,8,8,8,8,8,8,8,8,8,8,8,8,8,8,8,8,8,8,8,8,8,8,8,8,8,8,8,8,8,8,8,8,8,8,8,8,8,8,8,8,8,8,8,8,8,8,8,8,8,8,8,8,8,8,8]⟩⟩
def qpo  (x:Int):Option Int :=
 (bif(decide (4294967296≤x))then
 (bif(decide (65536≤(Int.fdiv x (2^32))))then
 (bif(decide (256≤(Int.fdiv (Int.fdiv x (2^32)) (2^16))))then
 (bif(decide (0≤(IntKind.wrap .u8 (Int.fdiv (Int.fdiv (Int.fdiv x (2^32)) (2^16)) (2^8)))))then
 ((yE)[(Int.toNat (IntKind.wrap .u8 (Int.fdiv (Int.fdiv (Int.fdiv x (2^32)) (2^16)) (2^8))))]?).bind fun x0=>
 some (IntKind.wrap .i64 ((IntKind.wrap .i64 ((IntKind.wrap .i64 (32+16))+8))+(IntKind.wrap .i64 (UInt8.toNat x0:Int))))
 else none)
 else
  (bif(decide (0≤(IntKind.wrap .u8 (Int.fdiv (Int.fdiv x (2^32)) (2^16)))))then
  ((yE)[(Int.toNat (IntKind.wrap .u8 (Int.fdiv (Int.fdiv x (2^32)) (2^16))))]?).bind fun x1=>
  some (IntKind.wrap .i64 ((IntKind.wrap .i64 (32+16))+(IntKind.wrap .i64 (UInt8.toNat x1:Int))))
 else none))
 else
  (bif(decide (256≤(Int.fdiv x (2^32))))then
  (bif(decide (0≤(IntKind.wrap .u8 (Int.fdiv (Int.fdiv x (2^32)) (2^8)))))then
  ((yE)[(Int.toNat (IntKind.wrap .u8 (Int.fdiv (Int.fdiv x (2^32)) (2^8))))]?).bind fun x2=>
  some (IntKind.wrap .i64 ((IntKind.wrap .i64 (32+8))+(IntKind.wrap .i64 (UInt8.toNat x2:Int))))
 else none)
 else
  (bif(decide (0≤(IntKind.wrap .u8 (Int.fdiv x (2^32)))))then
  ((yE)[(Int.toNat (IntKind.wrap .u8 (Int.fdiv x (2^32))))]?).bind fun x3=>
  some (IntKind.wrap .i64 (32+(IntKind.wrap .i64 (UInt8.toNat x3:Int))))
 else none)))
 else
  (bif(decide (65536≤x))then
  (bif(decide (256≤(Int.fdiv x (2^16))))then
  (bif(decide (0≤(IntKind.wrap .u8 (Int.fdiv (Int.fdiv x (2^16)) (2^8)))))then
  ((yE)[(Int.toNat (IntKind.wrap .u8 (Int.fdiv (Int.fdiv x (2^16)) (2^8))))]?).bind fun x4=>
  some (IntKind.wrap .i64 ((IntKind.wrap .i64 ((IntKind.wrap .i64 (0+16))+8))+(IntKind.wrap .i64 (UInt8.toNat x4:Int))))
 else none)
 else
  (bif(decide (0≤(IntKind.wrap .u8 (Int.fdiv x (2^16)))))then
  ((yE)[(Int.toNat (IntKind.wrap .u8 (Int.fdiv x (2^16))))]?).bind fun x5=>
  some (IntKind.wrap .i64 ((IntKind.wrap .i64 (0+16))+(IntKind.wrap .i64 (UInt8.toNat x5:Int))))
 else none))
 else
  (bif(decide (256≤x))then
  (bif(decide (0≤(IntKind.wrap .u8 (Int.fdiv x (2^8)))))then
  ((yE)[(Int.toNat (IntKind.wrap .u8 (Int.fdiv x (2^8))))]?).bind fun x6=>
  some (IntKind.wrap .i64 ((IntKind.wrap .i64 (0+8))+(IntKind.wrap .i64 (UInt8.toNat x6:Int))))
 else none)
 else
  (bif(decide (0≤(IntKind.wrap .u8 x)))then
  ((yE)[(Int.toNat (IntKind.wrap .u8 x))]?).bind fun x7=>
  some (IntKind.wrap .i64 (0+(IntKind.wrap .i64 (UInt8.toNat x7:Int))))
 else none))))
def qk6(x:Int):Option Int:=some (qf x.toNat:Int)
theorem qzJ:((List.range 256).all fun i=>decide ((yE[i]?).map UInt8.toNat=some (qf i)))=true:=by decide +kernel
theorem qpp{i:Nat}(h:i<256):∃b:UInt8,yE[i]?=some b∧b.toNat=qf i:=by
 have:=Ke.1 qzJ i (Wv.2 h)
 have h2:=Ko this;cases hb:yE[i]? with
 | none=>rw[hb]at h2;cases h2
 | some b=>rw[hb]at h2;exact⟨b,rfl,by simpa using h2⟩
theorem Zp{y base:Nat}(hy:y<256)(hb:base≤64):(bif decide (0≤IntKind.u8.wrap (y:Int))then(yE[(IntKind.u8.wrap (y:Int)).toNat]?).bind fun x0=>some (IntKind.i64.wrap ((base:Int)+IntKind.i64.wrap ((x0.toNat:Nat):Int)))else none)=some ((base+qf y:Nat):Int):=by
 obtain⟨b,h1,h2⟩:=qpp hy;have h8:qf y≤8:=jM.2 (by simpa using hy)
 rw[wu8 (by omega) (by omega),zb (by omega),zg,zd,h1,zh,h2];have e:IntKind.i64.wrap ((qf y:Nat):Int)=((qf y:Nat):Int):=w64 (by omega) (by omega)
 rw[e,w64 (by omega) (by omega)];rfl
theorem dge(a b:Nat):decide ((a:Int)≤(b:Int))=Nat.ble a b:=by
 rw[qbg];by_cases h:a≤b
 · rw[zb h,zb];omega
 · rw[zk h,zk];omega
theorem qpq(x y:Int)(hg:(d1 (cI .u64)).good x)(h:qk6 x=some y):qpo x=some y:=by
 obtain⟨n,rfl,hn⟩:=JR hg;have:=soi h;subst this
 unfold qpo;rw[zd];have hs:∀ {k:Nat},2^k≤n→qf n=k+qf (n / 2^k):=fun h=>Yj h
 have e48:IntKind.i64.wrap (IntKind.i64.wrap (32+16)+8)=((56:Nat):Int):=by decide
 have e32:IntKind.i64.wrap (32+16)=((48:Nat):Int):=by decide
 have e40:IntKind.i64.wrap (32+8)=((40:Nat):Int):=by decide
 have e24:IntKind.i64.wrap (IntKind.i64.wrap (0+16)+8)=((24:Nat):Int):=by decide
 have e16:IntKind.i64.wrap (0+16)=((16:Nat):Int):=by decide
 have e8:IntKind.i64.wrap (0+8)=((8:Nat):Int):=by decide
 have c32:(32:Int)=((32:Nat):Int):=rfl
 have c0:(0:Int)=((0:Nat):Int):=rfl
 have d1:decide ((4294967296:Int)≤(n:Int))=Nat.ble 4294967296 n:=dge 4294967296 n
 have d2:∀m:Nat,decide ((65536:Int)≤(m:Int))=Nat.ble 65536 m:=fun m=>dge 65536 m
 have d3:∀m:Nat,decide ((256:Int)≤(m:Int))=Nat.ble 256 m:=fun m=>dge 256 m
 simp only[qay,d1,d2,d3,e48,e40,e24,e8];simp only[e32,e16];cases h1:Nat.ble 4294967296 n with
 | true=>
  have b1:=zo h1;rw[zg];cases h2:Nat.ble 65536 (n / 2^32)with
  | true=>
   have b2:=zo h2;rw[zg];cases h3:Nat.ble 256 (n / 2^32 / 2^16)with
   | true=>
    have b3:=zo h3;rw[zg,Zp (by omega) (by omega),hs (k:=56) (by omega)]
    congr 3;rw[Km,Km]
   | false=>
    have b3:n / 2^32 / 2^16<256:=VF fun e=>by rw[zp e]at h3;cases h3
    rw[zm,Zp b3 (by omega),hs (k:=48) (by omega)]
    congr 3;rw[Km]
  | false=>
   have b2:n / 2^32<65536:=VF fun e=>by rw[zp e]at h2;cases h2
   rw[zm];cases h3:Nat.ble 256 (n / 2^32)with
   | true=>
    have b3:=zo h3;rw[zg,Zp (by omega) (by omega),hs (k:=40) (by omega)]
    congr 3;rw[Km]
   | false=>
    have b3:n / 2^32<256:=VF fun e=>by rw[zp e]at h3;cases h3
    rw[zm,c32,Zp b3 (by omega),hs (k:=32) (by omega)]
 | false=>
  have b1:n<4294967296:=VF fun e=>by rw[zp e]at h1;cases h1
  rw[zm];cases h2:Nat.ble 65536 n with
  | true=>
   have b2:=zo h2;rw[zg];cases h3:Nat.ble 256 (n / 2^16)with
   | true=>
    have b3:=zo h3;rw[zg,Zp (by omega) (by omega),hs (k:=24) (by omega)]
    congr 3;rw[Km]
   | false=>
    have b3:n / 2^16<256:=VF fun e=>by rw[zp e]at h3;cases h3
    rw[zm,Zp b3 (by omega),hs (k:=16) (by omega)]
  | false=>
   have b2:n<65536:=VF fun e=>by rw[zp e]at h2;cases h2
   rw[zm];cases h3:Nat.ble 256 n with
   | true=>
    have b3:=zo h3;rw[zg,Zp (by omega) (by omega),hs (k:=8) (by omega)]
   | false=>
    have b3:n<256:=VF fun e=>by rw[zp e]at h3;cases h3
    rw[zm];have:=Zp (base:=0) b3 (by omega)
    rw[zG]at this;exact this
end
end Su
end
section
namespace Su
open Go Fly
noncomputable section
def qxj  (a:(Int×Int)):Option Int :=
 (bif(decide (0<a.1))then
 some (IntKind.wrap .i64 (64+(qf a.1.toNat:Int)))
 else
  some (qf a.2.toNat:Int))
def ZS:(Int×Int×Int×Int×Int×Unit)→Option ((Int×Int×Int×Int×Int×Unit) ⊕ (Lp (Int×Int×Int×Int×Int×Unit) (Int×Int))):=fun p0=>(bif(decide (64≤p0.1))then
 (bif((decide (p0.2.2.1=0))&&true)then
 some (.inr (.ret (p0.2.2.1,(0:Int))))
 else
  some (.inl ((IntKind.wrap .i64 (p0.1-64)),p0.2.2.1,(0:Int),p0.2.2.2.1,p0.2.2.2.2.1,())))
 else
  some (.inr (.exit 0 (p0.1,p0.2.1,p0.2.2.1,p0.2.2.2.1,p0.2.2.2.2.1,()))))
def qxk  (fu:Nat)(a:(Int×Int))(n:Int):Option (Int×Int) :=
 (itP fu (ZS) (n,a.1,a.2,(0:Int),(0:Int),())).bind fun x1=>
 (match x1 with
 | .exit i2 p3=>(bif(Nat.beq i2 0)then
  (bif(decide (p3.1≤0))then
  some (p3.2.1,p3.2.2.1)
 else
  (bif(decide (0≤p3.1))then
  (bif(decide (0≤(IntKind.wrap .i64 (64-p3.1))))then
  (bif(decide (0≤p3.1))then
  some ((Fly.qR Go.BinOp.or .u64 (IntKind.wrap .u64 (p3.2.1*(2^(min p3.1.toNat 64)))) (Int.fdiv p3.2.2.1 (2^(min (Int.toNat (IntKind.wrap .i64 (64-p3.1))) 64)))),(IntKind.wrap .u64 (p3.2.2.1*(2^(min p3.1.toNat 64)))))
 else none)
 else none)
 else none))
 else none)
 | .ret o4=>some o4)
def qbl:(Int×Bool×Int×Int×Int×Int×Unit)→Option ((Int×Bool×Int×Int×Int×Int×Unit) ⊕ (Lp (Int×Bool×Int×Int×Int×Int×Unit) ((Int×Int)×Bool))):=fun p0=>(bif(decide (64≤p0.1))then
 (bif p0.2.1 then
 (bif(true&&((decide (p0.2.2.1=0))&&true))then
 some (.inr (.ret (((0:Int),p0.2.2.1),true)))
 else
  some (.inl ((IntKind.wrap .i64 (p0.1-64)),true,(0:Int),p0.2.2.1,p0.2.2.2.2.1,p0.2.2.2.2.2.1,())))
 else
  (bif(true&&((decide (p0.2.2.1=0))&&true))then
  some (.inr (.ret (((0:Int),p0.2.2.1),(!(decide (p0.2.2.2.1=0))))))
 else
  some (.inl ((IntKind.wrap .i64 (p0.1-64)),(!(decide (p0.2.2.2.1=0))),(0:Int),p0.2.2.1,p0.2.2.2.2.1,p0.2.2.2.2.2.1,()))))
 else
  some (.inr (.exit 0 (p0.1,p0.2.1,p0.2.2.1,p0.2.2.2.1,p0.2.2.2.2.1,p0.2.2.2.2.2.1,()))))
def qxl  (fu:Nat)(a:(Int×Int))(n:Int):Option ((Int×Int)×Bool) :=
 (itP fu (qbl) (n,false,a.1,a.2,(0:Int),(0:Int),())).bind fun x1=>
 (match x1 with
 | .exit i2 p3=>(bif(Nat.beq i2 0)then
  (bif(decide (p3.1≤0))then
  some ((p3.2.2.1,p3.2.2.2.1),p3.2.1)
 else
  (bif(decide (0≤p3.1))then
  (bif(decide (0≤p3.1))then
  (bif(decide (0≤(IntKind.wrap .i64 (64-p3.1))))then
  (bif p3.2.1 then
  some (((Int.fdiv p3.2.2.1 (2^(min p3.1.toNat 64))),(Fly.qR Go.BinOp.or .u64 (Int.fdiv p3.2.2.2.1 (2^(min p3.1.toNat 64))) (IntKind.wrap .u64 (p3.2.2.1*(2^(min (Int.toNat (IntKind.wrap .i64 (64-p3.1))) 64)))))),true)
 else
  (bif(decide (0≤(IntKind.wrap .i64 (64-p3.1))))then
  some (((Int.fdiv p3.2.2.1 (2^(min p3.1.toNat 64))),(Fly.qR Go.BinOp.or .u64 (Int.fdiv p3.2.2.2.1 (2^(min p3.1.toNat 64))) (IntKind.wrap .u64 (p3.2.2.1*(2^(min (Int.toNat (IntKind.wrap .i64 (64-p3.1))) 64)))))),(!(decide ((IntKind.wrap .u64 (p3.2.2.2.1*(2^(min (Int.toNat (IntKind.wrap .i64 (64-p3.1))) 64))))=0))))
 else none))
 else none)
 else none)
 else none))
 else none)
 | .ret o4=>some o4)
def qpr(a:Int×Int):Option Int:=some (qf (jF a):Int)
theorem qtL(a:Int×Int)(y:Int)(hg:(d1 cW).good a)(h:qpr a=some y):qxj a=some y:=by
 obtain⟨a,b⟩:=a;obtain⟨ha,hb⟩:=hg;obtain⟨A,rfl,hA⟩:=JR ha;obtain⟨B,rfl,hB⟩:=JR hb;have:=soi h;subst this
 unfold qxj;rw[Yl];simp only[zd];have hbA:qf A≤64:=jM.2 (by simpa using hA)
 by_cases h0:0<A
 · rw[zb (show(0:Int)<(A:Int) by omega),zg,w64 (by omega) (by omega)]
   have:=Yj (n:=A*18446744073709551616+B) (k:=64) (by omega)
   rw[this,show(A*18446744073709551616+B) / 2^64=A by omega];rfl
 · have:A=0:=by omega
   subst this;rw[zk (by decide),zm,KY,zG]
def qps(p:(Int×Int)×Int):Option (Int×Int):=some (hiW (2^p.2.toNat*jF p.1),loW (2^p.2.toNat*jF p.1))
def qpt(p:(Int×Int)×Int):Option ((Int×Int)×Bool):=some ((hiW (jF p.1 / 2^p.2.toNat),loW (jF p.1 / 2^p.2.toNat)),!Nat.beq (jF p.1 % 2^p.2.toNat) 0)
theorem qpu(n:Nat)(h0:64≤n)(h:n<9223372036854775808):IntKind.i64.wrap ((n:Int)-64)=((n-64:Nat):Int):=by rw[w64 (by omega) (by omega)];omega
theorem qk7(H L r:Nat)(hr:r<64)(hH:H<18446744073709551616)(hL:L<18446744073709551616) :
 (bif decide ((r:Int)≤0)then some ((H:Int),(L:Int))else bif decide ((0:Int)≤(r:Int))then bif decide ((0:Int)≤IntKind.i64.wrap (64-(r:Int)))then bif decide ((0:Int)≤(r:Int))then
   some ((qR .or .u64 (IntKind.u64.wrap ((H:Int)*2^(min (r:Int).toNat 64))) (Int.fdiv (L:Int) (2^(min (IntKind.i64.wrap (64-(r:Int))).toNat 64)))),IntKind.u64.wrap ((L:Int)*2^(min (r:Int).toNat 64)))else none else none else none)
 = some (hiW ((H*18446744073709551616+L)*2^r),loW ((H*18446744073709551616+L)*2^r)):=by
 obtain⟨c1,c2⟩:=qpm H L r (by omega) hL
 by_cases h0:r=0
 · subst h0
   rw[zb (by decide),zg];unfold hiW loW;rw[K7,Vn]
   congr 2 <;> congr 1 <;> omega
 · have e1:IntKind.i64.wrap (64-(r:Int))=((64-r:Nat):Int):=by rw[w64 (by omega) (by omega)];omega
   have e2:∀x:Nat,IntKind.u64.wrap ((x:Int)*2^r)=((x*2^r % 18446744073709551616:Nat):Int):=fun x=>by
    rw[wrap_u64,show((2:Int)^r)=((2^r:Nat):Int) by simp,← Vx];rfl
   rw[zk (by omega),zm,zb (by omega),zg,e1,zb (by omega),zg,zg];simp only[zd,Va (show r≤64 by omega),Va (show 64-r≤64 by omega),e2,qay];have l1:L / 2^(64-r)<18446744073709551616:=KQ (VB _ _) hL
   rw[ZR _ _ (K9 _ (by decide)) l1,c1,c2];rfl
theorem qk8{X Y:Nat}(h:X % 340282366920938463463374607431768211456=0):hiW (X+Y)=hiW Y:=by unfold hiW;congr 1;omega
theorem qk9{X Y:Nat}(h:X % 340282366920938463463374607431768211456=0):loW (X+Y)=loW Y:=by unfold loW;congr 1;omega
theorem qtM(p:(Int×Int)×Int)(y:Int×Int)(hg:(dc cW (d1 (cI .i64))).good p)(h:qps p=some y):∃n,qxk n p.1 p.2=some y:=by
 obtain⟨⟨a,b⟩,n⟩:=p;obtain⟨⟨ha,hb⟩,hn⟩:=hg;obtain⟨A,rfl,hA⟩:=JR ha;obtain⟨B,rfl,hB⟩:=JR hb;have hn:=QW.1 hn;have:=soi h;subst this
 refine⟨3,?_⟩
 unfold qxk;rw[zF (2^_)];rw[Yl];simp only[zd];by_cases hneg:n<64
 · -- no round
   simp only[jr,ZS];rw[zk (by omega)];simp only[zm,zh];rw[show Nat.beq 0 0=true from rfl,zg];by_cases h0:n≤0
   · rw[zb h0,zg]
     have:n.toNat=0:=by omega
     rw[this,K7,Vn];unfold hiW loW
     congr 2 <;> congr 1 <;> omega
   · obtain⟨r,rfl⟩:∃r:Nat,n=(r:Int):=⟨n.toNat,by omega⟩
     rw[zd];exact qk7 A B r (by omega) hA hB
 · obtain⟨N,rfl⟩:∃N:Nat,n=(N:Int):=⟨n.toNat,by omega⟩
   have hN:64≤N:=by omega
   rw[zd];have d0:decide ((64:Int)≤(N:Int))=true:=zb (by omega)
   obtain⟨X,hX0,hv⟩:∃X,X % 340282366920938463463374607431768211456=0∧(A*18446744073709551616+B)*2^N=X+(B*18446744073709551616)*2^(N-64):=by
    refine⟨A*2^(N-64)*340282366920938463463374607431768211456,Nat.mul_mod_left _ _,?_⟩
    rw[show N=(N-64)+64 by omega,zP,show(2^64:Nat)=18446744073709551616 from rfl,Ve];generalize 2^(N-64)=z
    rw[zW,← zx,← zx];rw[Kz A,zx (A*z),Kz B]
   rw[hv,qk8 hX0,qk9 hX0];by_cases hB0:B=0
   · subst hB0
     rw[jr];simp only[ZS,d0,zg,zh,show decide (((0:Nat):Int)=0)=true from rfl,Ki];simp only[KY];rfl
   · have db:decide ((B:Int)=0)=false:=zk (by omega)
     have es:=qpu N hN (by omega)
     rw[jr];simp only[ZS,d0,zg,db,WK,zm,zh,es];by_cases h2:N<128
     · have d1:decide ((64:Int)≤((N-64:Nat):Int))=false:=zk (by omega)
       rw[jr];simp only[ZS,d1,zm,zh];rw[show Nat.beq 0 0=true from rfl,zg];have:=qk7 B 0 (N-64) (by omega) hB (by omega)
       rw[KA]at this;exact this
     · have d1:decide ((64:Int)≤((N-64:Nat):Int))=true:=zb (by omega)
       rw[jr];simp only[ZS,d1,zg,zh];obtain⟨Z,hZ0,hz⟩:∃Z,Z % 340282366920938463463374607431768211456=0∧B*18446744073709551616*2^(N-64)=Z+0:=by
        obtain⟨M,hM⟩:∃M,N-64=M+64:=⟨N-64-64,by omega⟩
        refine⟨B*2^M*340282366920938463463374607431768211456,Nat.mul_mod_left _ _,?_⟩
        rw[hM,zP,show(2^64:Nat)=18446744073709551616 from rfl,KA];rw[Nat.mul_mul_mul_comm]
       rw[hz,qk8 hZ0,qk9 hZ0];rfl
theorem qla(H L r:Nat)(lost:Bool)(hr:r<64)(hH:H<18446744073709551616)(hL:L<18446744073709551616) :
 (bif decide ((r:Int)≤0)then some (((H:Int),(L:Int)),lost)else bif decide ((0:Int)≤(r:Int))then bif decide ((0:Int)≤(r:Int))then bif decide ((0:Int)≤IntKind.i64.wrap (64-(r:Int)))then bif lost then
   some (((Int.fdiv (H:Int) (2^(min (r:Int).toNat 64))),(qR .or .u64 (Int.fdiv (L:Int) (2^(min (r:Int).toNat 64))) (IntKind.u64.wrap ((H:Int)*2^(min (IntKind.i64.wrap (64-(r:Int))).toNat 64))))),true)
   else bif decide ((0:Int)≤IntKind.i64.wrap (64-(r:Int)))then
   some (((Int.fdiv (H:Int) (2^(min (r:Int).toNat 64))),(qR .or .u64 (Int.fdiv (L:Int) (2^(min (r:Int).toNat 64))) (IntKind.u64.wrap ((H:Int)*2^(min (IntKind.i64.wrap (64-(r:Int))).toNat 64))))),(!(decide (IntKind.u64.wrap ((L:Int)*2^(min (IntKind.i64.wrap (64-(r:Int))).toNat 64))=0))))else none else none else none else none)
 = some ((hiW ((H*18446744073709551616+L) / 2^r),loW ((H*18446744073709551616+L) / 2^r)),lost||!Nat.beq ((H*18446744073709551616+L) % 2^r) 0):=by
 obtain⟨c1,c2,c3⟩:=qpn H L r (by omega) hH hL
 by_cases h0:r=0
 · subst h0
   rw[zb (by decide),zg];rw[K7,V9,Nat.mod_one];unfold hiW loW;have q1:(H*18446744073709551616+L) / 18446744073709551616 % 18446744073709551616=H:=by omega
   have q2:(H*18446744073709551616+L) % 18446744073709551616=L:=by omega
   rw[show(!Nat.beq 0 0)=false from rfl,Bool.or_false,q1,q2]
 · have e1:IntKind.i64.wrap (64-(r:Int))=((64-r:Nat):Int):=by rw[w64 (by omega) (by omega)];omega
   have e2:∀x k:Nat,IntKind.u64.wrap ((x:Int)*2^k)=((x*2^k % 18446744073709551616:Nat):Int):=fun x k=>by
    rw[wrap_u64,show((2:Int)^k)=((2^k:Nat):Int) by simp,← Vx];rfl
   rw[zk (by omega),zm,zb (by omega),zg,zg,e1,zb (by omega),zg,zg];simp only[zd,Va (show r≤64 by omega),Va (show 64-r≤64 by omega),e2,qay];have l1:L / 2^r<18446744073709551616:=KQ (VB _ _) hL
   rw[ZR _ _ l1 (K9 _ (by decide)),c1,c2];have e3:decide (((L*2^(64-r) % 18446744073709551616:Nat):Int)=0)=Nat.beq ((H*18446744073709551616+L) % 2^r) 0:=by
    rw[beq_dec];by_cases hz:(H*18446744073709551616+L) % 2^r=0
    · rw[zb hz,c3.2 hz];rfl
    · rw[zk hz,zk]
      intro e;exact hz (c3.1 (by omega))
   rw[e3];unfold hiW loW;cases lost with
   | true=>rw[zg,Bool.true_or]
   | false=>rw[zm,Wp]
theorem qxm(B z c:Nat)(hc:0<c):(!Nat.beq B 0||!Nat.beq z 0) = !Nat.beq (B+c*z) 0:=by
 by_cases hb:B=0
 · by_cases hz:z=0
   · subst hb hz;rw[VC];rfl
   · have:B+c*z≠0:=by have:=Wm hc (show 0<z by omega);omega
     rw[Z4 hz,Z4 this,Vw,Bool.or_true]
 · have:B+c*z≠0:=by omega
   rw[Z4 hb,Z4 this,Vw,Bool.true_or]
theorem qtN(p:(Int×Int)×Int)(y:(Int×Int)×Bool)(hg:(dc cW (d1 (cI .i64))).good p)(h:qpt p=some y):∃n,qxl n p.1 p.2=some y:=by
 obtain⟨⟨a,b⟩,n⟩:=p;obtain⟨⟨ha,hb⟩,hn⟩:=hg;obtain⟨A,rfl,hA⟩:=JR ha;obtain⟨B,rfl,hB⟩:=JR hb;have hn:=QW.1 hn;have:=soi h;subst this
 refine⟨3,?_⟩
 unfold qxl;rw[Yl];simp only[zd];by_cases hneg:n<64
 · rw[jr]
   simp only[qbl];rw[zk (by omega)];simp only[zm,zh];rw[show Nat.beq 0 0=true from rfl,zg];by_cases h0:n≤0
   · rw[zb h0,zg]
     have:n.toNat=0:=by omega
     rw[this,K7,V9,Nat.mod_one];unfold hiW loW;have q1:(A*18446744073709551616+B) / 18446744073709551616 % 18446744073709551616=A:=by omega
     have q2:(A*18446744073709551616+B) % 18446744073709551616=B:=by omega
     rw[show(!Nat.beq 0 0)=false from rfl,q1,q2]
   · obtain⟨r,rfl⟩:∃r:Nat,n=(r:Int):=⟨n.toNat,by omega⟩
     rw[zd];have h:=qla A B r false (by omega) hA hB
     rw[Wp]at h;exact h
 · obtain⟨N,rfl⟩:∃N:Nat,n=(N:Int):=⟨n.toNat,by omega⟩
   have hN:64≤N:=by omega
   rw[zd];have d0:decide ((64:Int)≤(N:Int))=true:=zb (by omega)
   have hpow:2^N=18446744073709551616*2^(N-64):=by
    have:N=64+(N-64):=by omega
    conv=>lhs;rw[this]
    rw[zP]
   have hdiv:(A*18446744073709551616+B) / 2^N=A / 2^(N-64):=by
    rw[hpow,← Km,show(A*18446744073709551616+B) / 18446744073709551616=A by omega]
   have hmod:(A*18446744073709551616+B) % 2^N=B+18446744073709551616*(A % 2^(N-64)):=by
    rw[hpow,Nat.mod_mul,show(A*18446744073709551616+B) / 18446744073709551616=A by omega,show(A*18446744073709551616+B) % 18446744073709551616=B by omega]
   rw[hdiv,hmod];have es:=qpu N hN (by omega)
   have dB:decide ((B:Int)=0)=Nat.beq B 0:=by rw[beq_dec];by_cases h:B=0 <;> simp[h]
   have dA:decide ((A:Int)=0)=Nat.beq A 0:=by rw[beq_dec];by_cases h:A=0 <;> simp[h]
   rw[jr];simp only[qbl,d0,zg,zm,es,dA,dB,Kw,Bool.and_true];by_cases hA0:A=0
   · subst hA0
     rw[show Nat.beq 0 0=true from rfl,zg,Nat.zero_div,Nat.zero_mod,VC,KA];rfl
   · rw[Z4 hA0,zm]
     simp only[zh];by_cases h2:N<128
     · have d1:decide ((64:Int)≤((N-64:Nat):Int))=false:=zk (by omega)
       rw[jr];simp only[qbl,d1,zm,zh];rw[show Nat.beq 0 0=true from rfl,zg];have:=qla 0 A (N-64) (!Nat.beq B 0) (by omega) (by omega) hA
       rw[KY,zG]at this;refine Eq.trans this ?_
       rw[qxm B (A % 2^(N-64)) 18446744073709551616 (by decide)]
     · have d1:decide ((64:Int)≤((N-64:Nat):Int))=true:=zb (by omega)
       have hlt:A<2^(N-64):=Ku hA (zX (n:=2) (by omega) (show 64≤N-64 by omega))
       rw[jr,Vt hlt,KP hlt];simp only[qbl,d1,zg,dA,Z4 hA0,show decide ((0:Int)=0)=true from rfl,Ki,Vw];have hz:Nat.beq (B+18446744073709551616*A) 0=false:=Z4 (by omega)
       have h1:hiW 0=0:=rfl
       have h2:loW 0=0:=rfl
       rw[hz,h1,h2];cases Nat.beq B 0 with
       | true=>simp only[Wq,Vw,WM,Ki,zm,zg,zh]
       | false=>simp only[Vw,WM,Ki,zg,zh]
end
end Su
end
section
namespace Su
open Go Fly
noncomputable section
def rUp  (x:(Bool×Int×Int×Int×Bool))(mode:Int)(odd:Bool)(half:Bool)(rest:Bool):Option Bool :=
 (bif(decide (mode=1))then
 (bif(!x.1)then
 (bif half then
 some true
 else
  some rest)
 else
  (bif(decide (mode=2))then
  (bif x.1 then
  (bif half then
  some true
 else
  some rest)
 else
  (bif(decide (mode=1))then
  (bif x.1 then
  some false
 else
  (bif(decide (mode=2))then
  (bif(!x.1)then
  some false
 else
  (bif half then
  (bif rest then
  some true
 else
  some odd)
 else
  some false))
 else
  (bif half then
  (bif rest then
  some true
 else
  some odd)
 else
  some false)))
 else
  (bif(decide (mode=2))then
  (bif(!x.1)then
  some false
 else
  (bif half then
  (bif rest then
  some true
 else
  some odd)
 else
  some false))
 else
  (bif half then
  (bif rest then
  some true
 else
  some odd)
 else
  some false))))
 else
  (bif(decide (mode=1))then
  (bif x.1 then
  some false
 else
  (bif(decide (mode=2))then
  (bif(!x.1)then
  some false
 else
  (bif half then
  (bif rest then
  some true
 else
  some odd)
 else
  some false))
 else
  (bif half then
  (bif rest then
  some true
 else
  some odd)
 else
  some false)))
 else
  (bif(decide (mode=2))then
  (bif(!x.1)then
  some false
 else
  (bif half then
  (bif rest then
  some true
 else
  some odd)
 else
  some false))
 else
  (bif half then
  (bif rest then
  some true
 else
  some odd)
 else
  some false)))))
 else
  (bif(decide (mode=2))then
  (bif x.1 then
  (bif half then
  some true
 else
  some rest)
 else
  (bif(decide (mode=1))then
  (bif x.1 then
  some false
 else
  (bif(decide (mode=2))then
  (bif(!x.1)then
  some false
 else
  (bif half then
  (bif rest then
  some true
 else
  some odd)
 else
  some false))
 else
  (bif half then
  (bif rest then
  some true
 else
  some odd)
 else
  some false)))
 else
  (bif(decide (mode=2))then
  (bif(!x.1)then
  some false
 else
  (bif half then
  (bif rest then
  some true
 else
  some odd)
 else
  some false))
 else
  (bif half then
  (bif rest then
  some true
 else
  some odd)
 else
  some false))))
 else
  (bif(decide (mode=1))then
  (bif x.1 then
  some false
 else
  (bif(decide (mode=2))then
  (bif(!x.1)then
  some false
 else
  (bif half then
  (bif rest then
  some true
 else
  some odd)
 else
  some false))
 else
  (bif half then
  (bif rest then
  some true
 else
  some odd)
 else
  some false)))
 else
  (bif(decide (mode=2))then
  (bif(!x.1)then
  some false
 else
  (bif half then
  (bif rest then
  some true
 else
  some odd)
 else
  some false))
 else
  (bif half then
  (bif rest then
  some true
 else
  some odd)
 else
  some false)))))
def qpv  (x:(Bool×Int×Int×Int×Bool))(mode:Int):Option (Int×Int) :=
 (bif(decide (mode=1))then
 (bif x.1 then
 some ((IntKind.wrap .u64 (((((sgN x.1)+9218868437227405312):Nat):Int)-1)),(5:Int))
 else
  (bif(decide (mode=2))then
  (bif(!x.1)then
  some ((IntKind.wrap .u64 (((((sgN x.1)+9218868437227405312):Nat):Int)-1)),(5:Int))
 else
  some (((((sgN x.1)+9218868437227405312):Nat):Int),(5:Int)))
 else
  some (((((sgN x.1)+9218868437227405312):Nat):Int),(5:Int))))
 else
  (bif(decide (mode=2))then
  (bif(!x.1)then
  some ((IntKind.wrap .u64 (((((sgN x.1)+9218868437227405312):Nat):Int)-1)),(5:Int))
 else
  some (((((sgN x.1)+9218868437227405312):Nat):Int),(5:Int)))
 else
  some (((((sgN x.1)+9218868437227405312):Nat):Int),(5:Int))))
abbrev qmM:=Bool×(Int×Int×Int×Bool)
def qvA(p:qmM×Int×Bool×Bool×Bool):Option Bool:=some (upN p.1.1 p.2.1 p.2.2.1 p.2.2.2.1 p.2.2.2.2)
theorem qxn(p:qmM×Int×Bool×Bool×Bool)(y:Bool)(hg:(dc qmE (dc (cI .u8) (dc cB (dc cB (d1 cB))))).good p)(h:qvA p=some y):rUp p.1 p.2.1 p.2.2.1 p.2.2.2.1 p.2.2.2.2=some y:=by
 obtain⟨⟨neg,x⟩,mode,odd,half,rest⟩:=p;have:=soi h;subst this
 unfold rUp upN awN twN;simp only[];by_cases h1:mode=1
 · subst h1
   cases neg <;> cases half <;> cases rest <;> cases odd <;> rfl
 · by_cases h2:mode=2
   · subst h2
     cases neg <;> cases half <;> cases rest <;> cases odd <;> rfl
   · rw[zk h1,zk h2]
     cases neg <;> cases half <;> cases rest <;> cases odd <;> rfl
def ovN(neg:Bool)(mode:Int):Nat:=sgN neg+bif twN neg mode then 9218868437227405311 else 9218868437227405312
def qlb(p:qmM×Int):Option (Int×Int):=some ((ovN p.1.1 p.2:Int),5)
theorem qpw(p:qmM×Int)(y:Int×Int)(hg:(dc qmE (d1 (cI .u8))).good p)(h:qlb p=some y):qpv p.1 p.2=some y:=by
 obtain⟨⟨neg,x⟩,mode⟩:=p;have:=soi h;subst this
 have e:IntKind.u64.wrap (((sgN neg+9218868437227405312:Nat):Int)-1)=((sgN neg+9218868437227405311:Nat):Int):=by
  have:sgN neg≤9223372036854775808:=by unfold sgN;cases neg <;> simp
  rw[jX (by omega) (by omega)];omega
 unfold qpv ovN twN;simp only[e];generalize sgN neg=z
 have d11:decide ((1:Int)=1)=true:=rfl
 have d12:decide ((1:Int)=2)=false:=rfl
 have d21:decide ((2:Int)=1)=false:=rfl
 have d22:decide ((2:Int)=2)=true:=rfl
 by_cases h1:mode=1
 · subst h1
   rw[d11,d12];cases neg <;> simp only[zg,zm]
 · by_cases h2:mode=2
   · subst h2
     rw[d21,d22];cases neg <;> simp only[zg,zm,Wq,Vw]
   · rw[zk h1,zk h2]
     cases neg <;> simp only[zg,zm]
end
end Su
end
