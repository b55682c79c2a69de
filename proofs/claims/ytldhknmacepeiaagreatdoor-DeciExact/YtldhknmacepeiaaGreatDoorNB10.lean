/-
  What functions of the program compute, in plain Lean, and that the evaluator finds it.
-/
import Derived.Test.YtldhknmacepeiaaGreatDoorSuXl
import Derived.Test.YtldhknmacepeiaaGreatDoorNB09
import Derived.Test.YtldhknmacepeiaaGreatDoorRb
set_option linter.unusedVariables false
set_option linter.unusedSimpArgs false
set_option maxRecDepth 10000
section
namespace Su
open Go Fly
noncomputable section
def Gcd_l1:Stp ((List Int)×(List Int)×Unit):=fun p2=>(bif(decide (0<(List.length p2.2.1:Int)))then
 (Div_s (p2.1,p2.2.1)).bind fun x3=>
 some (.inl (p2.2.1,x3.2.1,()))
 else
  some (.inr (p2.1,p2.2.1,())))
def Gcd  (fu:Nat)(a:(List Int))(b:(List Int)):Option (List Int) :=
 (Clone_s (ofN (valN a))).bind fun x0=>
 (Clone_s (ofN (valN b))).bind fun x1=>
 (itP fu (Gcd_l1) (x0,x1,())).bind fun x4=>
 some x4.1
theorem ofN_len{v k:Nat}(h:v<4294967296^k):(ofN v).length≤k:=by
 have h1:=ofN_length_le (digs k v) (digs_wd k v)
 rw[digs_val,jC h,digs_len]at h1;exact h1
theorem ofN_mono{u v:Nat}(h:u≤v):(ofN u).length≤(ofN v).length:=ofN_len (jz h ofN_len_lt)
theorem Div_of{va vb:Nat}(h1:(ofN va).length≤1000000)(h2:(ofN vb).length≤1000000)(hb:vb≠0):Div_s (ofN va,ofN vb)=some (ofN (va / vb),ofN (va % vb),0):=by
 unfold Div_s;simp only[valN_ofN];rw[qo h1,qo h2,qY,qe,qM hb]
theorem gcd_loop:∀(vb va:Nat),(ofN va).length≤1000000→(ofN vb).length≤1000000→∃w,∃n,itP n Gcd_l1 (ofN va,ofN vb,())=some (ofN (Nat.gcd va vb),w,()):=by
 intro vb;induction vb using Nat.strongRecOn with
 | _ vb ih=>
  intro va h1 h2;by_cases hb:vb=0
  · subst hb
    refine⟨[],it_end ?_⟩
    rw[Nat.gcd_zero_right];rfl
  · have hlt:=jM va (Nat.pos_of_ne_zero hb)
    obtain⟨w,hn⟩:=ih (va % vb) hlt vb h2 (je (ofN_mono (yu hlt)) h2)
    refine⟨w,it_next ?_ (by rw[Nat.gcd_comm va vb,Nat.gcd_rec vb va,Nat.gcd_comm];exact hn)⟩
    have hl:0<(ofN vb).length:=by
     have h3:=@ofN_len_lt vb
     cases h4:(ofN vb).length with
     | zero=>rw[h4]at h3;omega
     | succ=>omega
    have d1:decide ((0:Int)<(((ofN vb).length:Nat):Int))=true:=qc (by omega)
    simp only[Gcd_l1,d1,qe,Div_of h1 h2 hb,qf]
def Gcd_s(p:List Int×List Int):Option (List Int):=bif Nat.ble p.1.length 1000000&&Nat.ble p.2.length 1000000 then some (ofN (Nat.gcd (valN p.1) (valN p.2)))else none
theorem Gcd_ok(p:List Int×List Int)(y:List Int)(hg:(dc (cQ 1 1) (d1 (cQ 1 1))).good p)(h:Gcd_s p=some y):∃n,Gcd n p.1 p.2=some y:=by
 obtain⟨a,b⟩:=p;obtain⟨⟨ha,la⟩,hb,lb⟩:=hg;obtain⟨hm,h⟩:=bif_some h;have:=soi h;subst this
 rw[qk]at hm;have hla:=je (ofN_length_le a (Wd.of ha)) (qn hm.1)
 have hlb:=je (ofN_length_le b (Wd.of hb)) (qn hm.2)
 obtain⟨w,n,hn⟩:=gcd_loop (valN b) (valN a) hla hlb
 refine⟨n,?_⟩
 have h1:Clone_s (ofN (valN a))=some (ofN (valN a)):=by unfold Clone_s lenN;rw[qo (by omega),qe]
 have h2:Clone_s (ofN (valN b))=some (ofN (valN b)):=by unfold Clone_s lenN;rw[qo (by omega),qe]
 show Gcd n a b=some (ofN (Nat.gcd (valN a) (valN b)))
 unfold Gcd;exact obB h1 (obB h2 (obB hn rfl))
end
end Su
end
section
namespace Su
open Go Fly
noncomputable section
theorem obs{α β:Type}{a:Option α}{f:α→Option β}{t:α}{r:Option β}(h:a=some t)(h2:f t=r):a.bind f=r:=by rw[h];exact h2
end
end Su
end
section
namespace Su
open Go Fly
def valW(a:Int×Int):Nat:=18446744073709551616*a.1.toNat+a.2.toNat
theorem valW_def(a:Int×Int):valW a=a.1.toNat*18446744073709551616+a.2.toNat:=by unfold valW;rw[qA]
def hiW(n:Nat):Int:=((n / 18446744073709551616 % 18446744073709551616:Nat):Int)
def loW(n:Nat):Int:=((n % 18446744073709551616:Nat):Int)
theorem pw{r:Nat}(hr:r≤64):2^(64-r)*2^r=18446744073709551616:=by
 rw[← qH,Nat.sub_add_cancel hr]
theorem shl_core(H L r:Nat)(hr:r≤64)(hL:L<18446744073709551616) :
 (H*2^r) % 18446744073709551616 ||| L / 2^(64-r)=(H*18446744073709551616+L)*2^r / 18446744073709551616 % 18446744073709551616∧L*2^r % 18446744073709551616=(H*18446744073709551616+L)*2^r % 18446744073709551616:=by
 have hW:=pw hr;have hR:=qG r;have hQ:=qG (64-r)
 have hx:L / 2^(64-r)<2^r:=by rw[ju hQ,qA,hW];exact hL
 have h1:H*2^r % 18446744073709551616=H % 2^(64-r)*2^r:=by rw[← hW,zo]
 refine⟨?_,?_⟩
 · rw[h1,or_high hx]
   have h2:(H*18446744073709551616+L)*2^r / 18446744073709551616=H*2^r+L / 2^(64-r):=by
    have:(H*18446744073709551616+L)*2^r=L*2^r+18446744073709551616*(H*2^r):=by
     rw[qL,yD,qA (H*2^r)];omega
    rw[this,yH _ _ (by decide)];have h3:L*2^r / 18446744073709551616=L / 2^(64-r):=by rw[← hW,Nat.mul_div_mul_right _ _ hR]
    omega
   rw[h2];have h4:=jU H (2^(64-r))
   have h5:H*2^r=18446744073709551616*(H / 2^(64-r))+H % 2^(64-r)*2^r:=by
    conv=>lhs;rw[← h4]
    rw[qL,yD,hW]
   rw[h5,jl,Nat.mul_add_mod];have h6:H % 2^(64-r)*2^r+L / 2^(64-r)<18446744073709551616:=by
    have h7:=jM H hQ;have h8:(H % 2^(64-r)+1)*2^r≤2^(64-r)*2^r:=qw _ h7
    rw[hW,qL]at h8;omega
   rw[jC h6]
 · have:(H*18446744073709551616+L)*2^r=18446744073709551616*(H*2^r)+L*2^r:=by
    rw[qL,yD,qA (H*2^r)]
   rw[this,Nat.mul_add_mod]
theorem shr_core(H L r:Nat)(hr:r≤64)(hH:H<18446744073709551616)(hL:L<18446744073709551616) :
 H / 2^r=(H*18446744073709551616+L) / 2^r / 18446744073709551616 % 18446744073709551616∧L / 2^r ||| (H*2^(64-r)) % 18446744073709551616=(H*18446744073709551616+L) / 2^r % 18446744073709551616 ∧
 (L*2^(64-r) % 18446744073709551616=0↔(H*18446744073709551616+L) % 2^r=0):=by
 have hW:2^r*2^(64-r)=18446744073709551616:=by rw[qA];exact pw hr
 have hR:=qG r;have hQ:=qG (64-r)
 have hx:L / 2^r<2^(64-r):=by rw[ju hR,qA,hW];exact hL
 have h1:H*2^(64-r) % 18446744073709551616=H % 2^r*2^(64-r):=by rw[← hW,zo]
 have hv:H*18446744073709551616+L=L+2^r*(H*2^(64-r)):=by
  rw[← hW,yL,zw]
 have hd:(H*18446744073709551616+L) / 2^r=H*2^(64-r)+L / 2^r:=by
  rw[hv,yH _ _ hR,zw]
 refine⟨?_,?_,?_⟩
 · rw[jb,qA (2^r),← jb]
   have:(H*18446744073709551616+L) / 18446744073709551616=H:=by omega
   rw[this,jC];exact jz (yv _ _) hH
 · rw[h1,or_low hx,hd]
   have h4:=jU H (2^r)
   have h5:H*2^(64-r)=18446744073709551616*(H / 2^r)+H % 2^r*2^(64-r):=by
    conv=>lhs;rw[← h4]
    rw[qL,yD,hW]
   rw[h5,jl,Nat.mul_add_mod];have h6:H % 2^r*2^(64-r)+L / 2^r<18446744073709551616:=by
    have h7:=jM H hR;have h8:(H % 2^r+1)*2^(64-r)≤2^r*2^(64-r):=qw _ h7
    rw[hW,qL]at h8;omega
   rw[jC h6]
 · have e1:L*2^(64-r) % 18446744073709551616=L % 2^r*2^(64-r):=by rw[← hW,zo]
   have e2:(H*18446744073709551616+L) % 2^r=L % 2^r:=by rw[hv,Nat.add_mul_mod_self_left]
   rw[e1,e2];constructor
   · intro h
     rcases Nat.mul_eq_zero.1 h with h | h
     · exact h
     · omega
   · intro h;rw[h,jS]
end Su
end
section
namespace Su
open Go Fly
noncomputable section
def Len64_t1:ByteArray:=⟨⟨[0,1,2,2,3,3,3,3,4,4,4,4,4,4,4,4,5,5,5,5,5,5,5,5,5,5,5,5,5,5,5,5,6,6,6,6,6,6,6,6,6,6,6,6,6,6,6,6,6,6,6,6,6,6,6,6,6,6,6,6,6,6,6,6,7,7,7,7,7,7,7,7,7,7,7,7,7,7,7,7,7,7,7,7,7,7,7,7,7,7,7,7,7,7,7,7,7,7,7,7,7,7,7,7,7,7,7,7,7,7,7,7,7,7,7,7,7,7,7,7,7,7,7,7,7,7,7,7,8,8,8,8,8,8,8,8,8,8,8,8,8,8,8,8,8,8,8,8,8,8,8,8,8,8,8,8,8,8,8,8,8,8,8,8,8,8,8,8,8,8,8,8,8,8,8,8,8,8,8,8,8,8,8,8,8,8,8,8,8,8,8,8,8,8,8,8,8,8,8,8,8,8,8,8,8,8,8,8,8,8,8,8,8,8,8,8,8,8,8,8,8,8,8,8,8,8,8,8,8,8,8,8,8,8,8,8,8,8,8,8,8,8,8,8,8,8,8,8,8,8,8,8,8,8,8,8]⟩⟩
def Len64  (x:Int):Option Int :=
 (bif(decide (4294967296≤x))then
 (bif(decide (65536≤(Int.fdiv x (2^32))))then
 (bif(decide (256≤(Int.fdiv (Int.fdiv x (2^32)) (2^16))))then
 (bif(decide (0≤(IntKind.wrap .u8 (Int.fdiv (Int.fdiv (Int.fdiv x (2^32)) (2^16)) (2^8)))))then
 ((Len64_t1)[(Int.toNat (IntKind.wrap .u8 (Int.fdiv (Int.fdiv (Int.fdiv x (2^32)) (2^16)) (2^8))))]?).bind fun x0=>
 some (IntKind.wrap .i64 ((IntKind.wrap .i64 ((IntKind.wrap .i64 (32+16))+8))+(IntKind.wrap .i64 (UInt8.toNat x0:Int))))
 else none)
 else
  (bif(decide (0≤(IntKind.wrap .u8 (Int.fdiv (Int.fdiv x (2^32)) (2^16)))))then
  ((Len64_t1)[(Int.toNat (IntKind.wrap .u8 (Int.fdiv (Int.fdiv x (2^32)) (2^16))))]?).bind fun x1=>
  some (IntKind.wrap .i64 ((IntKind.wrap .i64 (32+16))+(IntKind.wrap .i64 (UInt8.toNat x1:Int))))
 else none))
 else
  (bif(decide (256≤(Int.fdiv x (2^32))))then
  (bif(decide (0≤(IntKind.wrap .u8 (Int.fdiv (Int.fdiv x (2^32)) (2^8)))))then
  ((Len64_t1)[(Int.toNat (IntKind.wrap .u8 (Int.fdiv (Int.fdiv x (2^32)) (2^8))))]?).bind fun x2=>
  some (IntKind.wrap .i64 ((IntKind.wrap .i64 (32+8))+(IntKind.wrap .i64 (UInt8.toNat x2:Int))))
 else none)
 else
  (bif(decide (0≤(IntKind.wrap .u8 (Int.fdiv x (2^32)))))then
  ((Len64_t1)[(Int.toNat (IntKind.wrap .u8 (Int.fdiv x (2^32))))]?).bind fun x3=>
  some (IntKind.wrap .i64 (32+(IntKind.wrap .i64 (UInt8.toNat x3:Int))))
 else none)))
 else
  (bif(decide (65536≤x))then
  (bif(decide (256≤(Int.fdiv x (2^16))))then
  (bif(decide (0≤(IntKind.wrap .u8 (Int.fdiv (Int.fdiv x (2^16)) (2^8)))))then
  ((Len64_t1)[(Int.toNat (IntKind.wrap .u8 (Int.fdiv (Int.fdiv x (2^16)) (2^8))))]?).bind fun x4=>
  some (IntKind.wrap .i64 ((IntKind.wrap .i64 ((IntKind.wrap .i64 (0+16))+8))+(IntKind.wrap .i64 (UInt8.toNat x4:Int))))
 else none)
 else
  (bif(decide (0≤(IntKind.wrap .u8 (Int.fdiv x (2^16)))))then
  ((Len64_t1)[(Int.toNat (IntKind.wrap .u8 (Int.fdiv x (2^16))))]?).bind fun x5=>
  some (IntKind.wrap .i64 ((IntKind.wrap .i64 (0+16))+(IntKind.wrap .i64 (UInt8.toNat x5:Int))))
 else none))
 else
  (bif(decide (256≤x))then
  (bif(decide (0≤(IntKind.wrap .u8 (Int.fdiv x (2^8)))))then
  ((Len64_t1)[(Int.toNat (IntKind.wrap .u8 (Int.fdiv x (2^8))))]?).bind fun x6=>
  some (IntKind.wrap .i64 ((IntKind.wrap .i64 (0+8))+(IntKind.wrap .i64 (UInt8.toNat x6:Int))))
 else none)
 else
  (bif(decide (0≤(IntKind.wrap .u8 x)))then
  ((Len64_t1)[(Int.toNat (IntKind.wrap .u8 x))]?).bind fun x7=>
  some (IntKind.wrap .i64 (0+(IntKind.wrap .i64 (UInt8.toNat x7:Int))))
 else none))))
def Len64_s(x:Int):Option Int:=some (blen x.toNat:Int)
theorem tab64:((List.range 256).all fun i=>decide ((Len64_t1[i]?).map UInt8.toNat=some (blen i)))=true:=by decide +kernel
theorem tab64_at{i:Nat}(h:i<256):∃b:UInt8,Len64_t1[i]?=some b∧b.toNat=blen i:=by
 have:=jk.1 tab64 i (List.mem_range.2 h)
 have h2:=ym this;cases hb:Len64_t1[i]? with
 | none=>rw[hb]at h2;cases h2
 | some b=>rw[hb]at h2;exact⟨b,rfl,by simpa using h2⟩
theorem leaf64{y base:Nat}(hy:y<256)(hb:base≤64):(bif decide (0≤IntKind.u8.wrap (y:Int))then(Len64_t1[(IntKind.u8.wrap (y:Int)).toNat]?).bind fun x0=>some (IntKind.i64.wrap ((base:Int)+IntKind.i64.wrap ((x0.toNat:Nat):Int)))else none)=some ((base+blen y:Nat):Int):=by
 obtain⟨b,h1,h2⟩:=tab64_at hy;have h8:blen y≤8:=blen_le.2 (by simpa using hy)
 rw[wu8 (by omega) (by omega),qc (by omega),qe,qb,h1,qf,h2];have e:IntKind.i64.wrap ((blen y:Nat):Int)=((blen y:Nat):Int):=w64 (by omega) (by omega)
 rw[e,w64 (by omega) (by omega)];rfl
theorem dge(a b:Nat):decide ((a:Int)≤(b:Int))=Nat.ble a b:=by
 rw[ble_dec];by_cases h:a≤b
 · rw[qc h,qc];omega
 · rw[qm h,qm];omega
theorem Len64_ok(x y:Int)(hg:(d1 (cI .u64)).good x)(h:Len64_s x=some y):Len64 x=some y:=by
 obtain⟨n,rfl,hn⟩:=asN64 hg;have:=soi h;subst this
 unfold Len64;rw[qb];have hs:∀ {k:Nat},2^k≤n→blen n=k+blen (n / 2^k):=fun h=>blen_shr h
 have e48:IntKind.i64.wrap (IntKind.i64.wrap (32+16)+8)=((56:Nat):Int):=by decide
 have e32:IntKind.i64.wrap (32+16)=((48:Nat):Int):=by decide
 have e40:IntKind.i64.wrap (32+8)=((40:Nat):Int):=by decide
 have e24:IntKind.i64.wrap (IntKind.i64.wrap (0+16)+8)=((24:Nat):Int):=by decide
 have e16:IntKind.i64.wrap (0+16)=((16:Nat):Int):=by decide
 have e8:IntKind.i64.wrap (0+8)=((8:Nat):Int):=by decide
 have c32:(32:Int)=((32:Nat):Int):=rfl
 have c0:(0:Int)=((0:Nat):Int):=rfl
 have d1:decide ((4294967296:Int)≤(n:Int))=Nat.ble 4294967296 n:=dge 4294967296 n
 have d2:∀m:Nat,decide ((65536:Int)≤(m:Int))=Nat.ble 65536 m:=fun m=>dge 65536 m
 have d3:∀m:Nat,decide ((256:Int)≤(m:Int))=Nat.ble 256 m:=fun m=>dge 256 m
 simp only[fd_pow,d1,d2,d3,e48,e40,e24,e8];simp only[e32,e16];cases h1:Nat.ble 4294967296 n with
 | true=>
  have b1:=qn h1;rw[qe];cases h2:Nat.ble 65536 (n / 2^32)with
  | true=>
   have b2:=qn h2;rw[qe];cases h3:Nat.ble 256 (n / 2^32 / 2^16)with
   | true=>
    have b3:=qn h3;rw[qe,leaf64 (by omega) (by omega),hs (k:=56) (by omega)]
    congr 3;rw[jb,jb]
   | false=>
    have b3:n / 2^32 / 2^16<256:=yz fun e=>by rw[qo e]at h3;cases h3
    rw[qh,leaf64 b3 (by omega),hs (k:=48) (by omega)]
    congr 3;rw[jb]
  | false=>
   have b2:n / 2^32<65536:=yz fun e=>by rw[qo e]at h2;cases h2
   rw[qh];cases h3:Nat.ble 256 (n / 2^32)with
   | true=>
    have b3:=qn h3;rw[qe,leaf64 (by omega) (by omega),hs (k:=40) (by omega)]
    congr 3;rw[jb]
   | false=>
    have b3:n / 2^32<256:=yz fun e=>by rw[qo e]at h3;cases h3
    rw[qh,c32,leaf64 b3 (by omega),hs (k:=32) (by omega)]
 | false=>
  have b1:n<4294967296:=yz fun e=>by rw[qo e]at h1;cases h1
  rw[qh];cases h2:Nat.ble 65536 n with
  | true=>
   have b2:=qn h2;rw[qe];cases h3:Nat.ble 256 (n / 2^16)with
   | true=>
    have b3:=qn h3;rw[qe,leaf64 (by omega) (by omega),hs (k:=24) (by omega)]
    congr 3;rw[jb]
   | false=>
    have b3:n / 2^16<256:=yz fun e=>by rw[qo e]at h3;cases h3
    rw[qh,leaf64 b3 (by omega),hs (k:=16) (by omega)]
  | false=>
   have b2:n<65536:=yz fun e=>by rw[qo e]at h2;cases h2
   rw[qh];cases h3:Nat.ble 256 n with
   | true=>
    have b3:=qn h3;rw[qe,leaf64 (by omega) (by omega),hs (k:=8) (by omega)]
   | false=>
    have b3:n<256:=yz fun e=>by rw[qo e]at h3;cases h3
    rw[qh];have:=leaf64 (base:=0) b3 (by omega)
    rw[qF]at this;exact this
end
end Su
end
section
namespace Su
open Go Fly
noncomputable section
def wLen  (a:(Int×Int)):Option Int :=
 (bif(decide (0<a.1))then
 some (IntKind.wrap .i64 (64+(blen a.1.toNat:Int)))
 else
  some (blen a.2.toNat:Int))
def wShl_l1:(Int×Int×Int×Int×Int×Unit)→Option ((Int×Int×Int×Int×Int×Unit) ⊕ (Lp (Int×Int×Int×Int×Int×Unit) (Int×Int))):=fun p0=>(bif(decide (64≤p0.1))then
 (bif((decide (p0.2.2.1=0))&&true)then
 some (.inr (.ret (p0.2.2.1,(0:Int))))
 else
  some (.inl ((IntKind.wrap .i64 (p0.1-64)),p0.2.2.1,(0:Int),p0.2.2.2.1,p0.2.2.2.2.1,())))
 else
  some (.inr (.exit 0 (p0.1,p0.2.1,p0.2.2.1,p0.2.2.2.1,p0.2.2.2.2.1,()))))
def wShl  (fu:Nat)(a:(Int×Int))(n:Int):Option (Int×Int) :=
 (itP fu (wShl_l1) (n,a.1,a.2,(0:Int),(0:Int),())).bind fun x1=>
 (match x1 with
 | .exit i2 p3=>(bif(Nat.beq i2 0)then
  (bif(decide (p3.1≤0))then
  some (p3.2.1,p3.2.2.1)
 else
  (bif(decide (0≤p3.1))then
  (bif(decide (0≤(IntKind.wrap .i64 (64-p3.1))))then
  (bif(decide (0≤p3.1))then
  some ((Fly.bitv Go.BinOp.or .u64 (IntKind.wrap .u64 (p3.2.1*(2^(min p3.1.toNat 64)))) (Int.fdiv p3.2.2.1 (2^(min (Int.toNat (IntKind.wrap .i64 (64-p3.1))) 64)))),(IntKind.wrap .u64 (p3.2.2.1*(2^(min p3.1.toNat 64)))))
 else none)
 else none)
 else none))
 else none)
 | .ret o4=>some o4)
def wShr_l1:(Int×Bool×Int×Int×Int×Int×Unit)→Option ((Int×Bool×Int×Int×Int×Int×Unit) ⊕ (Lp (Int×Bool×Int×Int×Int×Int×Unit) ((Int×Int)×Bool))):=fun p0=>(bif(decide (64≤p0.1))then
 (bif p0.2.1 then
 (bif(true&&((decide (p0.2.2.1=0))&&true))then
 some (.inr (.ret (((0:Int),p0.2.2.1),true)))
 else
  some (.inl ((IntKind.wrap .i64 (p0.1-64)),true,(0:Int),p0.2.2.1,p0.2.2.2.2.1,p0.2.2.2.2.2.1,())))
 else
  (bif(true&&((decide (p0.2.2.1=0))&&true))then
  some (.inr (.ret (((0:Int),p0.2.2.1),(!(decide (p0.2.2.2.1=0))))))
 else
  some (.inl ((IntKind.wrap .i64 (p0.1-64)),(!(decide (p0.2.2.2.1=0))),(0:Int),p0.2.2.1,p0.2.2.2.2.1,p0.2.2.2.2.2.1,()))))
 else
  some (.inr (.exit 0 (p0.1,p0.2.1,p0.2.2.1,p0.2.2.2.1,p0.2.2.2.2.1,p0.2.2.2.2.2.1,()))))
def wShr  (fu:Nat)(a:(Int×Int))(n:Int):Option ((Int×Int)×Bool) :=
 (itP fu (wShr_l1) (n,false,a.1,a.2,(0:Int),(0:Int),())).bind fun x1=>
 (match x1 with
 | .exit i2 p3=>(bif(Nat.beq i2 0)then
  (bif(decide (p3.1≤0))then
  some ((p3.2.2.1,p3.2.2.2.1),p3.2.1)
 else
  (bif(decide (0≤p3.1))then
  (bif(decide (0≤p3.1))then
  (bif(decide (0≤(IntKind.wrap .i64 (64-p3.1))))then
  (bif p3.2.1 then
  some (((Int.fdiv p3.2.2.1 (2^(min p3.1.toNat 64))),(Fly.bitv Go.BinOp.or .u64 (Int.fdiv p3.2.2.2.1 (2^(min p3.1.toNat 64))) (IntKind.wrap .u64 (p3.2.2.1*(2^(min (Int.toNat (IntKind.wrap .i64 (64-p3.1))) 64)))))),true)
 else
  (bif(decide (0≤(IntKind.wrap .i64 (64-p3.1))))then
  some (((Int.fdiv p3.2.2.1 (2^(min p3.1.toNat 64))),(Fly.bitv Go.BinOp.or .u64 (Int.fdiv p3.2.2.2.1 (2^(min p3.1.toNat 64))) (IntKind.wrap .u64 (p3.2.2.1*(2^(min (Int.toNat (IntKind.wrap .i64 (64-p3.1))) 64)))))),(!(decide ((IntKind.wrap .u64 (p3.2.2.2.1*(2^(min (Int.toNat (IntKind.wrap .i64 (64-p3.1))) 64))))=0))))
 else none))
 else none)
 else none)
 else none))
 else none)
 | .ret o4=>some o4)
def wLen_s(a:Int×Int):Option Int:=some (blen (valW a):Int)
theorem wLen_ok(a:Int×Int)(y:Int)(hg:(d1 cW).good a)(h:wLen_s a=some y):wLen a=some y:=by
 obtain⟨a,b⟩:=a;obtain⟨ha,hb⟩:=hg;obtain⟨A,rfl,hA⟩:=asN64 ha;obtain⟨B,rfl,hB⟩:=asN64 hb;have:=soi h;subst this
 unfold wLen;rw[valW_def];simp only[qb];have hbA:blen A≤64:=blen_le.2 (by simpa using hA)
 by_cases h0:0<A
 · rw[qc (show(0:Int)<(A:Int) by omega),qe,w64 (by omega) (by omega)]
   have:=blen_shr (n:=A*18446744073709551616+B) (k:=64) (by omega)
   rw[this,show(A*18446744073709551616+B) / 2^64=A by omega];rfl
 · have:A=0:=by omega
   subst this;rw[qm (by decide),qh,jS,qF]
def wShl_s(p:(Int×Int)×Int):Option (Int×Int):=some (hiW (2^p.2.toNat*valW p.1),loW (2^p.2.toNat*valW p.1))
def wShr_s(p:(Int×Int)×Int):Option ((Int×Int)×Bool):=some ((hiW (valW p.1 / 2^p.2.toNat),loW (valW p.1 / 2^p.2.toNat)),!Nat.beq (valW p.1 % 2^p.2.toNat) 0)
theorem w64sub(n:Nat)(h0:64≤n)(h:n<9223372036854775808):IntKind.i64.wrap ((n:Int)-64)=((n-64:Nat):Int):=by rw[w64 (by omega) (by omega)];omega
theorem shl_low(H L r:Nat)(hr:r<64)(hH:H<18446744073709551616)(hL:L<18446744073709551616) :
 (bif decide ((r:Int)≤0)then some ((H:Int),(L:Int))else bif decide ((0:Int)≤(r:Int))then bif decide ((0:Int)≤IntKind.i64.wrap (64-(r:Int)))then bif decide ((0:Int)≤(r:Int))then
   some ((bitv .or .u64 (IntKind.u64.wrap ((H:Int)*2^(min (r:Int).toNat 64))) (Int.fdiv (L:Int) (2^(min (IntKind.i64.wrap (64-(r:Int))).toNat 64)))),IntKind.u64.wrap ((L:Int)*2^(min (r:Int).toNat 64)))else none else none else none)
 = some (hiW ((H*18446744073709551616+L)*2^r),loW ((H*18446744073709551616+L)*2^r)):=by
 obtain⟨c1,c2⟩:=shl_core H L r (by omega) hL
 by_cases h0:r=0
 · subst h0
   rw[qc (by decide),qe];unfold hiW loW;rw[jL,j8]
   congr 2 <;> congr 1 <;> omega
 · have e1:IntKind.i64.wrap (64-(r:Int))=((64-r:Nat):Int):=by rw[w64 (by omega) (by omega)];omega
   have e2:∀x:Nat,IntKind.u64.wrap ((x:Int)*2^r)=((x*2^r % 18446744073709551616:Nat):Int):=fun x=>by
    rw[wrap_u64,show((2:Int)^r)=((2^r:Nat):Int) by simp,← yj];rfl
   rw[qm (by omega),qh,qc (by omega),qe,e1,qc (by omega),qe,qe];simp only[qb,jV (show r≤64 by omega),jV (show 64-r≤64 by omega),e2,fd_pow];have l1:L / 2^(64-r)<18446744073709551616:=jz (yv _ _) hL
   rw[bitv_or _ _ (jM _ (by decide)) l1,c1,c2];rfl
theorem hiW_add{X Y:Nat}(h:X % 340282366920938463463374607431768211456=0):hiW (X+Y)=hiW Y:=by unfold hiW;congr 1;omega
theorem loW_add{X Y:Nat}(h:X % 340282366920938463463374607431768211456=0):loW (X+Y)=loW Y:=by unfold loW;congr 1;omega
theorem wShl_ok(p:(Int×Int)×Int)(y:Int×Int)(hg:(dc cW (d1 (cI .i64))).good p)(h:wShl_s p=some y):∃n,wShl n p.1 p.2=some y:=by
 obtain⟨⟨a,b⟩,n⟩:=p;obtain⟨⟨ha,hb⟩,hn⟩:=hg;obtain⟨A,rfl,hA⟩:=asN64 ha;obtain⟨B,rfl,hB⟩:=asN64 hb;have hn:=inR_i64.1 hn;have:=soi h;subst this
 refine⟨3,?_⟩
 unfold wShl;rw[qA (2^_)];rw[valW_def];simp only[qb];by_cases hneg:n<64
 · -- no round
   simp only[itP_s,wShl_l1];rw[qm (by omega)];simp only[qh,qf];rw[show Nat.beq 0 0=true from rfl,qe];by_cases h0:n≤0
   · rw[qc h0,qe]
     have:n.toNat=0:=by omega
     rw[this,jL,j8];unfold hiW loW
     congr 2 <;> congr 1 <;> omega
   · obtain⟨r,rfl⟩:∃r:Nat,n=(r:Int):=⟨n.toNat,by omega⟩
     rw[qb];exact shl_low A B r (by omega) hA hB
 · obtain⟨N,rfl⟩:∃N:Nat,n=(N:Int):=⟨n.toNat,by omega⟩
   have hN:64≤N:=by omega
   rw[qb];have d0:decide ((64:Int)≤(N:Int))=true:=qc (by omega)
   obtain⟨X,hX0,hv⟩:∃X,X % 340282366920938463463374607431768211456=0∧(A*18446744073709551616+B)*2^N=X+(B*18446744073709551616)*2^(N-64):=by
    refine⟨A*2^(N-64)*340282366920938463463374607431768211456,Nat.mul_mod_left _ _,?_⟩
    rw[show N=(N-64)+64 by omega,qH,show(2^64:Nat)=18446744073709551616 from rfl,jN];generalize 2^(N-64)=z
    rw[qL,← qx,← qx];rw[yD A,qx (A*z),yD B]
   rw[hv,hiW_add hX0,loW_add hX0];by_cases hB0:B=0
   · subst hB0
     rw[itP_s];simp only[wShl_l1,d0,qe,qf,show decide (((0:Nat):Int)=0)=true from rfl,qY];simp only[jS];rfl
   · have db:decide ((B:Int)=0)=false:=qm (by omega)
     have es:=w64sub N hN (by omega)
     rw[itP_s];simp only[wShl_l1,d0,qe,db,zu,qh,qf,es];by_cases h2:N<128
     · have d1:decide ((64:Int)≤((N-64:Nat):Int))=false:=qm (by omega)
       rw[itP_s];simp only[wShl_l1,d1,qh,qf];rw[show Nat.beq 0 0=true from rfl,qe];have:=shl_low B 0 (N-64) (by omega) hB (by omega)
       rw[jx]at this;exact this
     · have d1:decide ((64:Int)≤((N-64:Nat):Int))=true:=qc (by omega)
       rw[itP_s];simp only[wShl_l1,d1,qe,qf];obtain⟨Z,hZ0,hz⟩:∃Z,Z % 340282366920938463463374607431768211456=0∧B*18446744073709551616*2^(N-64)=Z+0:=by
        obtain⟨M,hM⟩:∃M,N-64=M+64:=⟨N-64-64,by omega⟩
        refine⟨B*2^M*340282366920938463463374607431768211456,Nat.mul_mod_left _ _,?_⟩
        rw[hM,qH,show(2^64:Nat)=18446744073709551616 from rfl,jx];rw[Nat.mul_mul_mul_comm]
       rw[hz,hiW_add hZ0,loW_add hZ0];rfl
theorem shr_low(H L r:Nat)(lost:Bool)(hr:r<64)(hH:H<18446744073709551616)(hL:L<18446744073709551616) :
 (bif decide ((r:Int)≤0)then some (((H:Int),(L:Int)),lost)else bif decide ((0:Int)≤(r:Int))then bif decide ((0:Int)≤(r:Int))then bif decide ((0:Int)≤IntKind.i64.wrap (64-(r:Int)))then bif lost then
   some (((Int.fdiv (H:Int) (2^(min (r:Int).toNat 64))),(bitv .or .u64 (Int.fdiv (L:Int) (2^(min (r:Int).toNat 64))) (IntKind.u64.wrap ((H:Int)*2^(min (IntKind.i64.wrap (64-(r:Int))).toNat 64))))),true)
   else bif decide ((0:Int)≤IntKind.i64.wrap (64-(r:Int)))then
   some (((Int.fdiv (H:Int) (2^(min (r:Int).toNat 64))),(bitv .or .u64 (Int.fdiv (L:Int) (2^(min (r:Int).toNat 64))) (IntKind.u64.wrap ((H:Int)*2^(min (IntKind.i64.wrap (64-(r:Int))).toNat 64))))),(!(decide (IntKind.u64.wrap ((L:Int)*2^(min (IntKind.i64.wrap (64-(r:Int))).toNat 64))=0))))else none else none else none else none)
 = some ((hiW ((H*18446744073709551616+L) / 2^r),loW ((H*18446744073709551616+L) / 2^r)),lost||!Nat.beq ((H*18446744073709551616+L) % 2^r) 0):=by
 obtain⟨c1,c2,c3⟩:=shr_core H L r (by omega) hH hL
 by_cases h0:r=0
 · subst h0
   rw[qc (by decide),qe];rw[jL,y5,Nat.mod_one];unfold hiW loW;have q1:(H*18446744073709551616+L) / 18446744073709551616 % 18446744073709551616=H:=by omega
   have q2:(H*18446744073709551616+L) % 18446744073709551616=L:=by omega
   rw[show(!Nat.beq 0 0)=false from rfl,Bool.or_false,q1,q2]
 · have e1:IntKind.i64.wrap (64-(r:Int))=((64-r:Nat):Int):=by rw[w64 (by omega) (by omega)];omega
   have e2:∀x k:Nat,IntKind.u64.wrap ((x:Int)*2^k)=((x*2^k % 18446744073709551616:Nat):Int):=fun x k=>by
    rw[wrap_u64,show((2:Int)^k)=((2^k:Nat):Int) by simp,← yj];rfl
   rw[qm (by omega),qh,qc (by omega),qe,qe,e1,qc (by omega),qe,qe];simp only[qb,jV (show r≤64 by omega),jV (show 64-r≤64 by omega),e2,fd_pow];have l1:L / 2^r<18446744073709551616:=jz (yv _ _) hL
   rw[bitv_or _ _ l1 (jM _ (by decide)),c1,c2];have e3:decide (((L*2^(64-r) % 18446744073709551616:Nat):Int)=0)=Nat.beq ((H*18446744073709551616+L) % 2^r) 0:=by
    rw[beq_dec];by_cases hz:(H*18446744073709551616+L) % 2^r=0
    · rw[qc hz,c3.2 hz];rfl
    · rw[qm hz,qm]
      intro e;exact hz (c3.1 (by omega))
   rw[e3];unfold hiW loW;cases lost with
   | true=>rw[qe,Bool.true_or]
   | false=>rw[qh,zx]
theorem or_beq(B z c:Nat)(hc:0<c):(!Nat.beq B 0||!Nat.beq z 0) = !Nat.beq (B+c*z) 0:=by
 by_cases hb:B=0
 · by_cases hz:z=0
   · subst hb hz;rw[yh];rfl
   · have:B+c*z≠0:=by have:=Nat.mul_pos hc (show 0<z by omega);omega
     rw[beq0 hz,beq0 this,yG,Bool.or_true]
 · have:B+c*z≠0:=by omega
   rw[beq0 hb,beq0 this,yG,Bool.true_or]
theorem wShr_ok(p:(Int×Int)×Int)(y:(Int×Int)×Bool)(hg:(dc cW (d1 (cI .i64))).good p)(h:wShr_s p=some y):∃n,wShr n p.1 p.2=some y:=by
 obtain⟨⟨a,b⟩,n⟩:=p;obtain⟨⟨ha,hb⟩,hn⟩:=hg;obtain⟨A,rfl,hA⟩:=asN64 ha;obtain⟨B,rfl,hB⟩:=asN64 hb;have hn:=inR_i64.1 hn;have:=soi h;subst this
 refine⟨3,?_⟩
 unfold wShr;rw[valW_def];simp only[qb];by_cases hneg:n<64
 · rw[itP_s]
   simp only[wShr_l1];rw[qm (by omega)];simp only[qh,qf];rw[show Nat.beq 0 0=true from rfl,qe];by_cases h0:n≤0
   · rw[qc h0,qe]
     have:n.toNat=0:=by omega
     rw[this,jL,y5,Nat.mod_one];unfold hiW loW;have q1:(A*18446744073709551616+B) / 18446744073709551616 % 18446744073709551616=A:=by omega
     have q2:(A*18446744073709551616+B) % 18446744073709551616=B:=by omega
     rw[show(!Nat.beq 0 0)=false from rfl,q1,q2]
   · obtain⟨r,rfl⟩:∃r:Nat,n=(r:Int):=⟨n.toNat,by omega⟩
     rw[qb];have h:=shr_low A B r false (by omega) hA hB
     rw[zx]at h;exact h
 · obtain⟨N,rfl⟩:∃N:Nat,n=(N:Int):=⟨n.toNat,by omega⟩
   have hN:64≤N:=by omega
   rw[qb];have d0:decide ((64:Int)≤(N:Int))=true:=qc (by omega)
   have hpow:2^N=18446744073709551616*2^(N-64):=by
    have:N=64+(N-64):=by omega
    conv=>lhs;rw[this]
    rw[qH]
   have hdiv:(A*18446744073709551616+B) / 2^N=A / 2^(N-64):=by
    rw[hpow,← jb,show(A*18446744073709551616+B) / 18446744073709551616=A by omega]
   have hmod:(A*18446744073709551616+B) % 2^N=B+18446744073709551616*(A % 2^(N-64)):=by
    rw[hpow,Nat.mod_mul,show(A*18446744073709551616+B) / 18446744073709551616=A by omega,show(A*18446744073709551616+B) % 18446744073709551616=B by omega]
   rw[hdiv,hmod];have es:=w64sub N hN (by omega)
   have dB:decide ((B:Int)=0)=Nat.beq B 0:=by rw[beq_dec];by_cases h:B=0 <;> simp[h]
   have dA:decide ((A:Int)=0)=Nat.beq A 0:=by rw[beq_dec];by_cases h:A=0 <;> simp[h]
   rw[itP_s];simp only[wShr_l1,d0,qe,qh,es,dA,dB,j7,Bool.and_true];by_cases hA0:A=0
   · subst hA0
     rw[show Nat.beq 0 0=true from rfl,qe,Nat.zero_div,Nat.zero_mod,yh,jx];rfl
   · rw[beq0 hA0,qh]
     simp only[qf];by_cases h2:N<128
     · have d1:decide ((64:Int)≤((N-64:Nat):Int))=false:=qm (by omega)
       rw[itP_s];simp only[wShr_l1,d1,qh,qf];rw[show Nat.beq 0 0=true from rfl,qe];have:=shr_low 0 A (N-64) (!Nat.beq B 0) (by omega) (by omega) hA
       rw[jS,qF]at this;refine Eq.trans this ?_
       rw[or_beq B (A % 2^(N-64)) 18446744073709551616 (by decide)]
     · have d1:decide ((64:Int)≤((N-64:Nat):Int))=true:=qc (by omega)
       have hlt:A<2^(N-64):=jg hA (qT (n:=2) (by omega) (show 64≤N-64 by omega))
       rw[itP_s,yf hlt,jC hlt];simp only[wShr_l1,d1,qe,dA,beq0 hA0,show decide ((0:Int)=0)=true from rfl,qY,yG];have hz:Nat.beq (B+18446744073709551616*A) 0=false:=beq0 (by omega)
       have h1:hiW 0=0:=rfl
       have h2:loW 0=0:=rfl
       rw[hz,h1,h2];cases Nat.beq B 0 with
       | true=>simp only[Bool.not_true,yG,zD,qY,qh,qe,qf]
       | false=>simp only[yG,zD,qY,qe,qf]
end
end Su
end
section
namespace Su
open Go Fly
noncomputable section
def rUp  (x:(Bool×Int×Int×Int×Bool))(mode:Int)(odd:Bool)(half:Bool)(rest:Bool):Option Bool :=
 (bif(decide (mode=1))then
 (bif(!x.1)then
 (bif half then
 some true
 else
  some rest)
 else
  (bif(decide (mode=2))then
  (bif x.1 then
  (bif half then
  some true
 else
  some rest)
 else
  (bif(decide (mode=1))then
  (bif x.1 then
  some false
 else
  (bif(decide (mode=2))then
  (bif(!x.1)then
  some false
 else
  (bif half then
  (bif rest then
  some true
 else
  some odd)
 else
  some false))
 else
  (bif half then
  (bif rest then
  some true
 else
  some odd)
 else
  some false)))
 else
  (bif(decide (mode=2))then
  (bif(!x.1)then
  some false
 else
  (bif half then
  (bif rest then
  some true
 else
  some odd)
 else
  some false))
 else
  (bif half then
  (bif rest then
  some true
 else
  some odd)
 else
  some false))))
 else
  (bif(decide (mode=1))then
  (bif x.1 then
  some false
 else
  (bif(decide (mode=2))then
  (bif(!x.1)then
  some false
 else
  (bif half then
  (bif rest then
  some true
 else
  some odd)
 else
  some false))
 else
  (bif half then
  (bif rest then
  some true
 else
  some odd)
 else
  some false)))
 else
  (bif(decide (mode=2))then
  (bif(!x.1)then
  some false
 else
  (bif half then
  (bif rest then
  some true
 else
  some odd)
 else
  some false))
 else
  (bif half then
  (bif rest then
  some true
 else
  some odd)
 else
  some false)))))
 else
  (bif(decide (mode=2))then
  (bif x.1 then
  (bif half then
  some true
 else
  some rest)
 else
  (bif(decide (mode=1))then
  (bif x.1 then
  some false
 else
  (bif(decide (mode=2))then
  (bif(!x.1)then
  some false
 else
  (bif half then
  (bif rest then
  some true
 else
  some odd)
 else
  some false))
 else
  (bif half then
  (bif rest then
  some true
 else
  some odd)
 else
  some false)))
 else
  (bif(decide (mode=2))then
  (bif(!x.1)then
  some false
 else
  (bif half then
  (bif rest then
  some true
 else
  some odd)
 else
  some false))
 else
  (bif half then
  (bif rest then
  some true
 else
  some odd)
 else
  some false))))
 else
  (bif(decide (mode=1))then
  (bif x.1 then
  some false
 else
  (bif(decide (mode=2))then
  (bif(!x.1)then
  some false
 else
  (bif half then
  (bif rest then
  some true
 else
  some odd)
 else
  some false))
 else
  (bif half then
  (bif rest then
  some true
 else
  some odd)
 else
  some false)))
 else
  (bif(decide (mode=2))then
  (bif(!x.1)then
  some false
 else
  (bif half then
  (bif rest then
  some true
 else
  some odd)
 else
  some false))
 else
  (bif half then
  (bif rest then
  some true
 else
  some odd)
 else
  some false)))))
def rOver  (x:(Bool×Int×Int×Int×Bool))(mode:Int):Option (Int×Int) :=
 (bif(decide (mode=1))then
 (bif x.1 then
 some ((IntKind.wrap .u64 (((((sgN x.1)+9218868437227405312):Nat):Int)-1)),(5:Int))
 else
  (bif(decide (mode=2))then
  (bif(!x.1)then
  some ((IntKind.wrap .u64 (((((sgN x.1)+9218868437227405312):Nat):Int)-1)),(5:Int))
 else
  some (((((sgN x.1)+9218868437227405312):Nat):Int),(5:Int)))
 else
  some (((((sgN x.1)+9218868437227405312):Nat):Int),(5:Int))))
 else
  (bif(decide (mode=2))then
  (bif(!x.1)then
  some ((IntKind.wrap .u64 (((((sgN x.1)+9218868437227405312):Nat):Int)-1)),(5:Int))
 else
  some (((((sgN x.1)+9218868437227405312):Nat):Int),(5:Int)))
 else
  some (((((sgN x.1)+9218868437227405312):Nat):Int),(5:Int))))
abbrev NmbT:=Bool×(Int×Int×Int×Bool)
def rUp_s(p:NmbT×Int×Bool×Bool×Bool):Option Bool:=some (upN p.1.1 p.2.1 p.2.2.1 p.2.2.2.1 p.2.2.2.2)
theorem rUp_ok(p:NmbT×Int×Bool×Bool×Bool)(y:Bool)(hg:(dc cNmb (dc (cI .u8) (dc cB (dc cB (d1 cB))))).good p)(h:rUp_s p=some y):rUp p.1 p.2.1 p.2.2.1 p.2.2.2.1 p.2.2.2.2=some y:=by
 obtain⟨⟨neg,x⟩,mode,odd,half,rest⟩:=p;have:=soi h;subst this
 unfold rUp upN awN twN;simp only[];by_cases h1:mode=1
 · subst h1
   cases neg <;> cases half <;> cases rest <;> cases odd <;> rfl
 · by_cases h2:mode=2
   · subst h2
     cases neg <;> cases half <;> cases rest <;> cases odd <;> rfl
   · rw[qm h1,qm h2]
     cases neg <;> cases half <;> cases rest <;> cases odd <;> rfl
def ovN(neg:Bool)(mode:Int):Nat:=sgN neg+bif twN neg mode then 9218868437227405311 else 9218868437227405312
def rOver_s(p:NmbT×Int):Option (Int×Int):=some ((ovN p.1.1 p.2:Int),5)
theorem rOver_ok(p:NmbT×Int)(y:Int×Int)(hg:(dc cNmb (d1 (cI .u8))).good p)(h:rOver_s p=some y):rOver p.1 p.2=some y:=by
 obtain⟨⟨neg,x⟩,mode⟩:=p;have:=soi h;subst this
 have e:IntKind.u64.wrap (((sgN neg+9218868437227405312:Nat):Int)-1)=((sgN neg+9218868437227405311:Nat):Int):=by
  have:sgN neg≤9223372036854775808:=by unfold sgN;cases neg <;> simp
  rw[wu64 (by omega) (by omega)];omega
 unfold rOver ovN twN;simp only[e];generalize sgN neg=z
 have d11:decide ((1:Int)=1)=true:=rfl
 have d12:decide ((1:Int)=2)=false:=rfl
 have d21:decide ((2:Int)=1)=false:=rfl
 have d22:decide ((2:Int)=2)=true:=rfl
 by_cases h1:mode=1
 · subst h1
   rw[d11,d12];cases neg <;> simp only[qe,qh]
 · by_cases h2:mode=2
   · subst h2
     rw[d21,d22];cases neg <;> simp only[qe,qh,Bool.not_true,yG]
   · rw[qm h1,qm h2]
     cases neg <;> simp only[qe,qh]
end
end Su
end
