/-
  What functions compute.
-/
import Derived.Test.YtldhknmacepeiaaGreatDoorNB10
set_option linter.unusedVariables false
set_option linter.unusedSimpArgs false
set_option maxRecDepth 10000
section
namespace Su
open Go Fly
noncomputable section
def qlc  (x:(Bool×Int×Int×Int×Bool))(mode:Int):Option (Int×Int) :=
 (bif(decide (0<(IntKind.wrap .i64 ((max (IntKind.wrap .i64 ((IntKind.wrap .i64 ((((qu (jM (x.2.1,x.2.2.1))):Nat):Int)-53))+x.2.2.2.1)) (-1074))-x.2.2.2.1))))then
 (bif x.2.2.2.2 then
 some (mode,(((qu (jM (x.2.1,x.2.2.1))):Nat):Int),(max (IntKind.wrap .i64 ((IntKind.wrap .i64 ((((qu (jM (x.2.1,x.2.2.1))):Nat):Int)-53))+x.2.2.2.1)) (-1074)),(decide ((Fly.jj Go.BinOp.and .u64 (loW ((jM (x.2.1,x.2.2.1)) / (2^(Int.toNat (IntKind.wrap .i64 ((IntKind.wrap .i64 ((max (IntKind.wrap .i64 ((IntKind.wrap .i64 ((((qu (jM (x.2.1,x.2.2.1))):Nat):Int)-53))+x.2.2.2.1)) (-1074))-x.2.2.2.1))-1)))))) 1)=1)),true,x.1,x.2.1,x.2.2.1,x.2.2.2.1,x.2.2.2.2,(hiW ((jM ((hiW ((jM (x.2.1,x.2.2.1)) / (2^(Int.toNat (IntKind.wrap .i64 ((IntKind.wrap .i64 ((max (IntKind.wrap .i64 ((IntKind.wrap .i64 ((((qu (jM (x.2.1,x.2.2.1))):Nat):Int)-53))+x.2.2.2.1)) (-1074))-x.2.2.2.1))-1)))))),(loW ((jM (x.2.1,x.2.2.1)) / (2^(Int.toNat (IntKind.wrap .i64 ((IntKind.wrap .i64 ((max (IntKind.wrap .i64 ((IntKind.wrap .i64 ((((qu (jM (x.2.1,x.2.2.1))):Nat):Int)-53))+x.2.2.2.1)) (-1074))-x.2.2.2.1))-1)))))))) / (2^(Int.toNat 1)))),(loW ((jM ((hiW ((jM (x.2.1,x.2.2.1)) / (2^(Int.toNat (IntKind.wrap .i64 ((IntKind.wrap .i64 ((max (IntKind.wrap .i64 ((IntKind.wrap .i64 ((((qu (jM (x.2.1,x.2.2.1))):Nat):Int)-53))+x.2.2.2.1)) (-1074))-x.2.2.2.1))-1)))))),(loW ((jM (x.2.1,x.2.2.1)) / (2^(Int.toNat (IntKind.wrap .i64 ((IntKind.wrap .i64 ((max (IntKind.wrap .i64 ((IntKind.wrap .i64 ((((qu (jM (x.2.1,x.2.2.1))):Nat):Int)-53))+x.2.2.2.1)) (-1074))-x.2.2.2.1))-1)))))))) / (2^(Int.toNat 1)))),())
 else
  some (mode,(((qu (jM (x.2.1,x.2.2.1))):Nat):Int),(max (IntKind.wrap .i64 ((IntKind.wrap .i64 ((((qu (jM (x.2.1,x.2.2.1))):Nat):Int)-53))+x.2.2.2.1)) (-1074)),(decide ((Fly.jj Go.BinOp.and .u64 (loW ((jM (x.2.1,x.2.2.1)) / (2^(Int.toNat (IntKind.wrap .i64 ((IntKind.wrap .i64 ((max (IntKind.wrap .i64 ((IntKind.wrap .i64 ((((qu (jM (x.2.1,x.2.2.1))):Nat):Int)-53))+x.2.2.2.1)) (-1074))-x.2.2.2.1))-1)))))) 1)=1)),(!(Nat.beq ((jM (x.2.1,x.2.2.1)) % (2^(Int.toNat (IntKind.wrap .i64 ((IntKind.wrap .i64 ((max (IntKind.wrap .i64 ((IntKind.wrap .i64 ((((qu (jM (x.2.1,x.2.2.1))):Nat):Int)-53))+x.2.2.2.1)) (-1074))-x.2.2.2.1))-1))))) 0)),x.1,x.2.1,x.2.2.1,x.2.2.2.1,x.2.2.2.2,(hiW ((jM ((hiW ((jM (x.2.1,x.2.2.1)) / (2^(Int.toNat (IntKind.wrap .i64 ((IntKind.wrap .i64 ((max (IntKind.wrap .i64 ((IntKind.wrap .i64 ((((qu (jM (x.2.1,x.2.2.1))):Nat):Int)-53))+x.2.2.2.1)) (-1074))-x.2.2.2.1))-1)))))),(loW ((jM (x.2.1,x.2.2.1)) / (2^(Int.toNat (IntKind.wrap .i64 ((IntKind.wrap .i64 ((max (IntKind.wrap .i64 ((IntKind.wrap .i64 ((((qu (jM (x.2.1,x.2.2.1))):Nat):Int)-53))+x.2.2.2.1)) (-1074))-x.2.2.2.1))-1)))))))) / (2^(Int.toNat 1)))),(loW ((jM ((hiW ((jM (x.2.1,x.2.2.1)) / (2^(Int.toNat (IntKind.wrap .i64 ((IntKind.wrap .i64 ((max (IntKind.wrap .i64 ((IntKind.wrap .i64 ((((qu (jM (x.2.1,x.2.2.1))):Nat):Int)-53))+x.2.2.2.1)) (-1074))-x.2.2.2.1))-1)))))),(loW ((jM (x.2.1,x.2.2.1)) / (2^(Int.toNat (IntKind.wrap .i64 ((IntKind.wrap .i64 ((max (IntKind.wrap .i64 ((IntKind.wrap .i64 ((((qu (jM (x.2.1,x.2.2.1))):Nat):Int)-53))+x.2.2.2.1)) (-1074))-x.2.2.2.1))-1)))))))) / (2^(Int.toNat 1)))),()))
 else
  some (mode,(((qu (jM (x.2.1,x.2.2.1))):Nat):Int),(max (IntKind.wrap .i64 ((IntKind.wrap .i64 ((((qu (jM (x.2.1,x.2.2.1))):Nat):Int)-53))+x.2.2.2.1)) (-1074)),false,x.2.2.2.2,x.1,x.2.1,x.2.2.1,x.2.2.2.1,x.2.2.2.2,(hiW ((2^(Int.toNat (IntKind.wrap .i64 (0-(IntKind.wrap .i64 ((max (IntKind.wrap .i64 ((IntKind.wrap .i64 ((((qu (jM (x.2.1,x.2.2.1))):Nat):Int)-53))+x.2.2.2.1)) (-1074))-x.2.2.2.1))))))*(jM (x.2.1,x.2.2.1)))),(loW ((2^(Int.toNat (IntKind.wrap .i64 (0-(IntKind.wrap .i64 ((max (IntKind.wrap .i64 ((IntKind.wrap .i64 ((((qu (jM (x.2.1,x.2.2.1))):Nat):Int)-53))+x.2.2.2.1)) (-1074))-x.2.2.2.1))))))*(jM (x.2.1,x.2.2.1)))),())).bind fun x0=>
  (bif(upN x0.2.2.2.2.2.1 x0.1 (decide ((Fly.jj Go.BinOp.and .u64 x0.2.2.2.2.2.2.2.2.2.2.2.1 1)=1)) x0.2.2.2.1 x0.2.2.2.2.1)then
  some (x0.1,x0.2.1,x0.2.2.1,x0.2.2.2.1,x0.2.2.2.2.1,(IntKind.wrap .u64 (x0.2.2.2.2.2.2.2.2.2.2.2.1+1)),x0.2.2.2.2.2.1,x0.2.2.2.2.2.2.1,x0.2.2.2.2.2.2.2.1,x0.2.2.2.2.2.2.2.2.1,x0.2.2.2.2.2.2.2.2.2.1,x0.2.2.2.2.2.2.2.2.2.2.1,x0.2.2.2.2.2.2.2.2.2.2.2.1,())
 else
  some (x0.1,x0.2.1,x0.2.2.1,x0.2.2.2.1,x0.2.2.2.2.1,x0.2.2.2.2.2.2.2.2.2.2.2.1,x0.2.2.2.2.2.1,x0.2.2.2.2.2.2.1,x0.2.2.2.2.2.2.2.1,x0.2.2.2.2.2.2.2.2.1,x0.2.2.2.2.2.2.2.2.2.1,x0.2.2.2.2.2.2.2.2.2.2.1,x0.2.2.2.2.2.2.2.2.2.2.2.1,())).bind fun x1=>
  (bif(decide (x1.2.2.2.2.2.1=9007199254740992))then
  some (x1.1,x1.2.1,(IntKind.wrap .i64 (x1.2.2.1+1)),x1.2.2.2.1,x1.2.2.2.2.1,(Int.fdiv x1.2.2.2.2.2.1 (2^1)),x1.2.2.2.2.2.2.1,x1.2.2.2.2.2.2.2.1,x1.2.2.2.2.2.2.2.2.1,x1.2.2.2.2.2.2.2.2.2.1,x1.2.2.2.2.2.2.2.2.2.2.1,x1.2.2.2.2.2.2.2.2.2.2.2.1,x1.2.2.2.2.2.2.2.2.2.2.2.2.1,())
 else
  some (x1.1,x1.2.1,x1.2.2.1,x1.2.2.2.1,x1.2.2.2.2.1,x1.2.2.2.2.2.1,x1.2.2.2.2.2.2.1,x1.2.2.2.2.2.2.2.1,x1.2.2.2.2.2.2.2.2.1,x1.2.2.2.2.2.2.2.2.2.1,x1.2.2.2.2.2.2.2.2.2.2.1,x1.2.2.2.2.2.2.2.2.2.2.2.1,x1.2.2.2.2.2.2.2.2.2.2.2.2.1,())).bind fun x2=>
  (bif(decide (971<x2.2.2.1))then
  some ((ovN x2.2.2.2.2.2.2.1 x2.1:Int),(5:Int))
 else
  (bif x2.2.2.2.1 then
  ((bif(decide ((IntKind.wrap .i64 (x2.2.1+x2.2.2.2.2.2.2.2.2.2.1))≤(-1022)))then
  some (x2.1,x2.2.1,x2.2.2.1,x2.2.2.2.1,x2.2.2.2.2.1,x2.2.2.2.2.2.1,(Fly.jj Go.BinOp.or .u8 1 2),x2.2.2.2.2.2.2.1,x2.2.2.2.2.2.2.2.1,x2.2.2.2.2.2.2.2.2.1,x2.2.2.2.2.2.2.2.2.2.1,x2.2.2.2.2.2.2.2.2.2.2.1,x2.2.2.2.2.2.2.2.2.2.2.2.1,x2.2.2.2.2.2.2.2.2.2.2.2.2.1,())
 else
  some (x2.1,x2.2.1,x2.2.2.1,x2.2.2.2.1,x2.2.2.2.2.1,x2.2.2.2.2.2.1,(1:Int),x2.2.2.2.2.2.2.1,x2.2.2.2.2.2.2.2.1,x2.2.2.2.2.2.2.2.2.1,x2.2.2.2.2.2.2.2.2.2.1,x2.2.2.2.2.2.2.2.2.2.2.1,x2.2.2.2.2.2.2.2.2.2.2.2.1,x2.2.2.2.2.2.2.2.2.2.2.2.2.1,())).bind fun x3=>
  some (x3.1,x3.2.1,x3.2.2.1,x3.2.2.2.1,x3.2.2.2.2.1,x3.2.2.2.2.2.1,x3.2.2.2.2.2.2.1,x3.2.2.2.2.2.2.2.1,x3.2.2.2.2.2.2.2.2.1,x3.2.2.2.2.2.2.2.2.2.1,x3.2.2.2.2.2.2.2.2.2.2.1,x3.2.2.2.2.2.2.2.2.2.2.2.1,x3.2.2.2.2.2.2.2.2.2.2.2.2.1,x3.2.2.2.2.2.2.2.2.2.2.2.2.2.1,())).bind fun x4=>
  (bif(decide ((Int.fdiv x4.2.2.2.2.2.1 (2^52))=1))then
  some (x4.1,x4.2.1,x4.2.2.1,x4.2.2.2.1,x4.2.2.2.2.1,x4.2.2.2.2.2.1,x4.2.2.2.2.2.2.1,(IntKind.wrap .i64 ((IntKind.wrap .i64 (x4.2.2.1-(-1074)))+1)),x4.2.2.2.2.2.2.2.1,x4.2.2.2.2.2.2.2.2.1,x4.2.2.2.2.2.2.2.2.2.1,x4.2.2.2.2.2.2.2.2.2.2.1,x4.2.2.2.2.2.2.2.2.2.2.2.1,x4.2.2.2.2.2.2.2.2.2.2.2.2.1,x4.2.2.2.2.2.2.2.2.2.2.2.2.2.1,())
 else
  some (x4.1,x4.2.1,x4.2.2.1,x4.2.2.2.1,x4.2.2.2.2.1,x4.2.2.2.2.2.1,x4.2.2.2.2.2.2.1,(0:Int),x4.2.2.2.2.2.2.2.1,x4.2.2.2.2.2.2.2.2.1,x4.2.2.2.2.2.2.2.2.2.1,x4.2.2.2.2.2.2.2.2.2.2.1,x4.2.2.2.2.2.2.2.2.2.2.2.1,x4.2.2.2.2.2.2.2.2.2.2.2.2.1,x4.2.2.2.2.2.2.2.2.2.2.2.2.2.1,())).bind fun x5=>
  (Zq (x5.2.2.2.2.2.2.2.2.1,x5.2.2.2.2.2.2.2.1,(Fly.jj Go.BinOp.and .u64 x5.2.2.2.2.2.1 4503599627370495))).bind fun x6=>
  some (x6.1,x5.2.2.2.2.2.2.1)
 else
  (bif x2.2.2.2.2.1 then
  (bif(decide ((IntKind.wrap .i64 (x2.2.1+x2.2.2.2.2.2.2.2.2.2.1))≤(-1022)))then
  some (x2.1,x2.2.1,x2.2.2.1,x2.2.2.2.1,x2.2.2.2.2.1,x2.2.2.2.2.2.1,(Fly.jj Go.BinOp.or .u8 1 2),x2.2.2.2.2.2.2.1,x2.2.2.2.2.2.2.2.1,x2.2.2.2.2.2.2.2.2.1,x2.2.2.2.2.2.2.2.2.2.1,x2.2.2.2.2.2.2.2.2.2.2.1,x2.2.2.2.2.2.2.2.2.2.2.2.1,x2.2.2.2.2.2.2.2.2.2.2.2.2.1,())
 else
  some (x2.1,x2.2.1,x2.2.2.1,x2.2.2.2.1,x2.2.2.2.2.1,x2.2.2.2.2.2.1,(1:Int),x2.2.2.2.2.2.2.1,x2.2.2.2.2.2.2.2.1,x2.2.2.2.2.2.2.2.2.1,x2.2.2.2.2.2.2.2.2.2.1,x2.2.2.2.2.2.2.2.2.2.2.1,x2.2.2.2.2.2.2.2.2.2.2.2.1,x2.2.2.2.2.2.2.2.2.2.2.2.2.1,())).bind fun x7=>
  some (x7.1,x7.2.1,x7.2.2.1,x7.2.2.2.1,x7.2.2.2.2.1,x7.2.2.2.2.2.1,x7.2.2.2.2.2.2.1,x7.2.2.2.2.2.2.2.1,x7.2.2.2.2.2.2.2.2.1,x7.2.2.2.2.2.2.2.2.2.1,x7.2.2.2.2.2.2.2.2.2.2.1,x7.2.2.2.2.2.2.2.2.2.2.2.1,x7.2.2.2.2.2.2.2.2.2.2.2.2.1,x7.2.2.2.2.2.2.2.2.2.2.2.2.2.1,())
 else
  some (x2.1,x2.2.1,x2.2.2.1,x2.2.2.2.1,x2.2.2.2.2.1,x2.2.2.2.2.2.1,(0:Int),x2.2.2.2.2.2.2.1,x2.2.2.2.2.2.2.2.1,x2.2.2.2.2.2.2.2.2.1,x2.2.2.2.2.2.2.2.2.2.1,x2.2.2.2.2.2.2.2.2.2.2.1,x2.2.2.2.2.2.2.2.2.2.2.2.1,x2.2.2.2.2.2.2.2.2.2.2.2.2.1,())).bind fun x8=>
  (bif(decide ((Int.fdiv x8.2.2.2.2.2.1 (2^52))=1))then
  some (x8.1,x8.2.1,x8.2.2.1,x8.2.2.2.1,x8.2.2.2.2.1,x8.2.2.2.2.2.1,x8.2.2.2.2.2.2.1,(IntKind.wrap .i64 ((IntKind.wrap .i64 (x8.2.2.1-(-1074)))+1)),x8.2.2.2.2.2.2.2.1,x8.2.2.2.2.2.2.2.2.1,x8.2.2.2.2.2.2.2.2.2.1,x8.2.2.2.2.2.2.2.2.2.2.1,x8.2.2.2.2.2.2.2.2.2.2.2.1,x8.2.2.2.2.2.2.2.2.2.2.2.2.1,x8.2.2.2.2.2.2.2.2.2.2.2.2.2.1,())
 else
  some (x8.1,x8.2.1,x8.2.2.1,x8.2.2.2.1,x8.2.2.2.2.1,x8.2.2.2.2.2.1,x8.2.2.2.2.2.2.1,(0:Int),x8.2.2.2.2.2.2.2.1,x8.2.2.2.2.2.2.2.2.1,x8.2.2.2.2.2.2.2.2.2.1,x8.2.2.2.2.2.2.2.2.2.2.1,x8.2.2.2.2.2.2.2.2.2.2.2.1,x8.2.2.2.2.2.2.2.2.2.2.2.2.1,x8.2.2.2.2.2.2.2.2.2.2.2.2.2.1,())).bind fun x9=>
  (Zq (x9.2.2.2.2.2.2.2.2.1,x9.2.2.2.2.2.2.2.1,(Fly.jj Go.BinOp.and .u64 x9.2.2.2.2.2.1 4503599627370495))).bind fun x10=>
  some (x10.1,x9.2.2.2.2.2.2.1)))
def flN(neg:Bool)(mode:Int)(M E:Nat)(rest sm:Bool):Int :=
 bif Nat.ble (Jg M E+(upN neg mode (yE M E % 2 == 1) (hfN M E) (rest||rsN M E)).toNat) yy then(bif hfN M E||(rest||rsN M E)then(bif sm then 3 else 1)else 0)else 5
def qaa(p:qod×Int):Option (Int×Int) :=
 bif !Nat.beq (jM (p.1.2.1,p.1.2.2.1)) 0&&(decide (-5000≤p.1.2.2.2.1)&&decide (p.1.2.2.2.1≤5000))then
  some ((RN p.1.1 p.2 (jM (p.1.2.1,p.1.2.2.1)) (p.1.2.2.2.1+6000).toNat p.1.2.2.2.2:Int),flN p.1.1 p.2 (jM (p.1.2.1,p.1.2.2.1)) (p.1.2.2.2.1+6000).toNat p.1.2.2.2.2 (decide ((qu (jM (p.1.2.1,p.1.2.2.1)):Int)+p.1.2.2.2.1≤-1022)))
 else none
theorem qxl{X:Nat}(h:X<340282366920938463463374607431768211456):jM (hiW X,loW X)=X:=by
 rw[Y5];unfold hiW loW;simp only[zn];omega
theorem qb7{X:Nat}(h:X<18446744073709551616):loW X=(X:Int):=by unfold loW;rw[KT h]
theorem qfh{X:Nat}(h:X<18446744073709551616):hiW X=0:=by unfold hiW;rw[Vo h];rfl
theorem bit0(X:Nat):decide (jj .and .u64 (loW X) 1=1)=(X % 2 == 1):=by
 have h:=qdL (X % 18446744073709551616) 1 1 rfl (Vd _ (by decide)) (by decide)
 unfold loW;rw[show(1:Int)=((1:Nat):Int) from rfl,h,qhO];have:X % 18446744073709551616 % 2^1=X % 2:=by omega
 rw[this];by_cases hx:X % 2=1 <;> simp[hx]
theorem qyO(w:Nat)(hw:w<18446744073709551616):decide (jj .and .u64 (w:Int) 1=1)=(w % 2 == 1):=by
 have:=bit0 w
 rwa [qb7 hw]at this
theorem qoe(p:qod×Int)(y:Int×Int)(hg:(dc qnU (d1 (cI .u8))).good p)(h:qaa p=some y):qlc p.1 p.2=some y:=by
 obtain⟨⟨neg,hi,lo,e,rest⟩,mode⟩:=p;obtain⟨⟨_,hhi,hlo,he,_⟩,_⟩:=hg;obtain⟨H,rfl,hH⟩:=Yy hhi;obtain⟨L,rfl,hL⟩:=Yy hlo;obtain⟨hguard,h⟩:=qL h;have:=soi h;subst this
 simp only[zp,Wb,zY]at hguard;obtain⟨hM0,he1,he2⟩:=hguard;unfold qlc;simp only[]at *
 obtain⟨M,hM⟩:∃M,M=jM ((H:Int),(L:Int)):=⟨_,rfl⟩
 rw[← hM]at hM0 ⊢;have hMlt:M<340282366920938463463374607431768211456:=by rw[hM,Y5];simp only[zn];omega
 have hMne:M≠0:=fun e=>by rw[e]at hM0;simp at hM0
 have hbl:qu M≤128:=ye.2 hMlt
 have hbp:=j9 hMne;obtain⟨E,hE⟩:∃E:Nat,(e+6000).toNat=E:=⟨_,rfl⟩
 have hEe:e=(E:Int)-6000:=by omega
 rw[hE];have hSH:=qp7;obtain⟨Q,hQ⟩:∃Q,qN M E=Q:=⟨_,rfl⟩
 have hQv:Q=qu M+E-53-4926:=by rw[← hQ];unfold qN;rw[hSH]
 have q0:IntKind.i64.wrap (IntKind.i64.wrap ((qu M:Int)-53)+e)=(qu M:Int)-53+e:=by
  rw[w64 (n:=(qu M:Int)-53) (by omega) (by omega),w64 (by omega) (by omega)]
 have qv:max ((qu M:Int)-53+e) (-1074)=(Q:Int)-1074:=by omega
 have hdv:IntKind.i64.wrap ((Q:Int)-1074-e)=(Q:Int)+4926-E:=by rw[w64 (by omega) (by omega)];omega
 rw[q0,qv,hdv];have hkl:=qbV M E;have hkg:=qbW (E:=E) hMne
 rw[hQ]at hkg;have hDN:dN M E=Q+4926-E:=by unfold dN;rw[hQ,hSH]
 -- the first part
 refine obs (t:=(mode,(qu M:Int),(Q:Int)-1074,hfN M E,(rest||rsN M E),neg,(H:Int),(L:Int),e,rest,(0:Int),((yE M E:Nat):Int),())) ?_ ?_
 · by_cases hd:(0:Int)<(Q:Int)+4926-E
   · obtain⟨D,hD⟩:∃D,dN M E=D+1:=⟨dN M E-1,by omega⟩
     have e1:IntKind.i64.wrap ((Q:Int)+4926-E-1)=(D:Int):=by rw[w64 (by omega) (by omega)];omega
     have e2:hfN M E=(M / 2^D % 2 == 1):=by unfold hfN;rw[hD];rfl
     have e3:rsN M E = !(M % 2^D == 0):=by unfold rsN;rw[hD];rfl
     have e4:yE M E=M / 2^D / 2:=by
      unfold yE;rw[hQ,hSH,show E-(Q+4926)=0 by omega,show Q+4926-E=D+1 by omega,Vf,KK,Ke,Kq]
     have hX:M / 2^D<340282366920938463463374607431768211456:=K5 (VF _ _) hMlt
     have e5:∀x:Nat,(x == 0)=Nat.beq x 0:=fun x=>by rw[beq_dec];rfl
     rw[zh hd,zg,e1,zn,bit0,qxl hX,e2,e3,e5,e4];have e6:M / 2^D / 2^Int.toNat 1=M / 2^D / 2:=by rw[Int.toNat_one,Nat.pow_one]
     rw[e4]at hkl;cases rest with
     | true=>
      rw[zg,Bool.true_or,e6,qb7 (by omega),qfh (by omega)]
     | false=>
      rw[zo,WV,e6,qb7 (by omega),qfh (by omega)]
   · have hD:dN M E=0:=by omega
     have e1:IntKind.i64.wrap (0-((Q:Int)+4926-E))=((E-(Q+4926):Nat):Int):=by rw[w64 (by omega) (by omega)];omega
     have e2:hfN M E=false:=by unfold hfN;rw[hD];rfl
     have e3:rsN M E=false:=by unfold rsN;rw[hD];rfl
     have e4:yE M E=M*2^(E-(Q+4926)):=by
      unfold yE;rw[hQ,hSH,show Q+4926-E=0 by omega,Vf,WY]
     rw[zq hd,zo,e1,zn,e2,e3,e4,Bool.or_false,zL (2^_)];rw[e4]at hkl;rw[qb7 (by omega),qfh (by omega)]
 · -- up or not
   simp only[];obtain⟨u,hu⟩:∃u,upN neg mode (yE M E % 2 == 1) (hfN M E) (rest||rsN M E)=u:=⟨_,rfl⟩
   rw[qyO _ (by omega),hu];obtain⟨w,hw⟩:∃w,yE M E=w:=⟨_,rfl⟩
   have hfl:Jg M E=Q*4503599627370496+w:=by rw[Ya,hQ,hw]
   have hRN:RN neg mode M E rest=sgN neg+qnV (twN neg mode) (Q*4503599627370496+w+u.toNat):=by
    unfold RN;rw[hM0,zo,hu,hfl]
   have hflN:∀sm,flN neg mode M E rest sm=(bif Nat.ble (Q*4503599627370496+w+u.toNat) yy then(bif hfN M E||(rest||rsN M E)then(bif sm then 3 else 1)else 0)else 5):=fun sm=>by
    unfold flN;rw[hu,hfl]
   rw[hRN,hflN,hw];rw[hw]at hkl hkg;generalize hfN M E=hf
   generalize (rest||rsN M E)=rs
   refine obs (t:=(mode,(qu M:Int),(Q:Int)-1074,hf,rs,((w+u.toNat:Nat):Int),neg,(H:Int),(L:Int),e,rest,(0:Int),(w:Int),())) ?_ ?_
   · cases u with
     | true=>rw[zg,yd (by omega) (by omega)];rfl
     | false=>rw[zo];rfl
   · simp only[]
     have hu1:u.toNat≤1:=by cases u <;> decide
     obtain⟨w1,hw1⟩:∃w1,w+u.toNat=w1:=⟨_,rfl⟩
     rw[Kp,hw1];have hw1l:w1≤9007199254740992:=by omega
     have hw1g:4503599627370496≤w1∨Q=0:=by rcases hkg with h|h;exact .inl (by omega);exact .inr h
     -- normalized
     obtain⟨Q2,w2,hK,hw2,hw2g,hQ2,hn⟩:∃Q2 w2:Nat,Q2*4503599627370496+w2=Q*4503599627370496+w1∧w2<9007199254740992∧(4503599627370496≤w2∨Q2=0)∧Q2≤Q+1 ∧
      (if w1=9007199254740992 then Q2=Q+1∧w2=4503599627370496 else Q2=Q∧w2=w1):=by
      by_cases h5:w1=9007199254740992
      · exact⟨Q+1,4503599627370496,by omega,by omega,.inl (by omega),by omega,by rw[z6 h5];exact⟨rfl,rfl⟩⟩
      · exact⟨Q,w1,rfl,by omega,hw1g,by omega,by rw[zQ h5];exact⟨rfl,rfl⟩⟩
     refine obs (t:=(mode,(qu M:Int),(Q2:Int)-1074,hf,rs,(w2:Int),neg,(H:Int),(L:Int),e,rest,(0:Int),(w:Int),())) ?_ ?_
     · by_cases h5:w1=9007199254740992
       · rw[z6 h5]at hn
         obtain⟨rfl,rfl⟩:=hn;rw[zh (by omega),zg,h5,w64 (by omega) (by omega)];have:Int.fdiv ((9007199254740992:Nat):Int) (2^1)=((4503599627370496:Nat):Int):=by rw[qbe]
         rw[this,show(Q:Int)-1074+1=((Q+1:Nat):Int)-1074 by omega]
       · rw[zQ h5]at hn
         obtain⟨rfl,rfl⟩:=hn;rw[zq (by omega),zo]
     · simp only[]
       rw[← hK];unfold qnV yy;by_cases hov:(971:Int)<(Q2:Int)-1074
       · have hb:Nat.ble (Q2*4503599627370496+w2) 9218868437227405311=false:=by
          rw[qbY];exact zq (by omega)
         rw[zh hov,zg,hb,zo,zo];unfold ovN;rw[show(9218868437227405311:Nat)+1=9218868437227405312 from rfl]
       · have hb:Nat.ble (Q2*4503599627370496+w2) 9218868437227405311=true:=by
          rw[qbY];exact zh (by omega)
         rw[zq hov,zo,hb,zg,zg]
         -- the float is put together
         have hsm:decide (IntKind.i64.wrap ((qu M:Int)+e)≤-1022)=decide ((qu M:Int)+e≤-1022):=by rw[w64 (by omega) (by omega)]
         have hmake:∀(ex:Int),ex=(if 4503599627370496≤w2 then(Q2:Int)+1 else 0)→Zq (neg,(ex,(jj .and .u64 (w2:Int) 4503599627370495)))=some (((sgN neg+(Q2*4503599627370496+w2):Nat):Int),0):=by
          intro ex hex;have hm:=qdL w2 4503599627370495 52 rfl (by omega) (by omega)
          rw[show((4503599627370495:Nat):Int)=4503599627370495 from rfl]at hm;unfold Zq;simp only[hm];have hr:0≤ex∧ex≤2047:=by rw[hex];split <;> omega
          rw[zh hr.1,zh hr.2,zh (by omega)];simp only[Kt,zg]
          congr 2
          rw[hex];split <;> omega
         rw[hsm];generalize decide ((qu M:Int)+e≤-1022)=sm
         have hor:jj .or .u8 1 2=3:=by decide
         have hexp:IntKind.i64.wrap (IntKind.i64.wrap ((Q2:Int)-1074-(-1074))+1)=(Q2:Int)+1:=by
          rw[w64 (n:=(Q2:Int)-1074-(-1074)) (by omega) (by omega),w64 (by omega) (by omega)];omega
         have hfd:decide (Int.fdiv (w2:Int) (2^52)=1)=decide (4503599627370496≤w2):=by
          rw[qbe,show(1:Int)=((1:Nat):Int) from rfl,qhO];by_cases h4:4503599627370496≤w2
          · rw[zh h4,zh (by omega)]
          · rw[zq h4,zq (by omega)]
         by_cases h4:4503599627370496≤w2
         · have hm:=hmake ((Q2:Int)+1) (by rw[z6 h4])
           rw[zh h4]at hfd;cases hf <;> cases rs <;> cases sm <;> simp only[zg,zo,zm,hfd,hexp,hm,hor,Bool.or_true,Bool.or_false,Bool.or_self]
         · have hm:=hmake 0 (by rw[zQ h4])
           rw[zq h4]at hfd;cases hf <;> cases rs <;> cases sm <;> simp only[zg,zo,zm,hfd,hexp,hm,hor,Bool.or_true,Bool.or_false,Bool.or_self]
end
end Su
end
section
namespace Su
open Go Fly
noncomputable section
def qh4:Stp (ByteArray×Int×Unit):=fun p0=>(bif(decide (0<(ByteArray.size p0.1:Int)))then
 (bif(decide (0≤(IntKind.wrap .i64 ((ByteArray.size p0.1:Int)-1))))then
 ((p0.1)[(Int.toNat (IntKind.wrap .i64 ((ByteArray.size p0.1:Int)-1)))]?).bind fun x1=>
 (bif(decide ((UInt8.toNat x1:Int)=p0.2.1))then
 (bif((true&&(decide (0≤(IntKind.wrap .i64 ((ByteArray.size p0.1:Int)-1)))))&&(decide ((IntKind.wrap .i64 ((ByteArray.size p0.1:Int)-1))≤(ByteArray.size p0.1:Int))))then
 some (.inl ((ByteArray.extract p0.1 0 (Int.toNat (IntKind.wrap .i64 ((ByteArray.size p0.1:Int)-1)))),p0.2.1,()))
 else none)
 else
  some (.inr (p0.1,p0.2.1,())))
 else none)
 else
  some (.inr (p0.1,p0.2.1,())))
def tRB  (fu:Nat)(s:ByteArray)(c:Int):Option ByteArray :=
 (itP fu (qh4) (s,c,())).bind fun x2=>
 some x2.1
theorem qq0(x:UInt8)(c:UInt8):decide (((x.toNat:Nat):Int)=((c.toNat:Nat):Int))=(x == c):=by
 by_cases h:x=c
 · subst h;simp
 · have : ¬(((x.toNat:Nat):Int)=((c.toNat:Nat):Int)):=fun e=>h (UInt8.toNat_inj.1 (by omega))
   rw[zq this];simp[h]
theorem asU8{c:Int}(h:inR .u8 c=true):∃d:UInt8,c=((d.toNat:Nat):Int):=by
 unfold inR at h;simp only[zp,zY]at h;obtain⟨h1,h2⟩:=h;have h1:0≤c:=h1
 have h2:c≤255:=h2
 refine⟨UInt8.ofNat c.toNat,?_⟩
 rw[UInt8.toNat_ofNat'];omega
theorem qmC(c:UInt8):∀(k:Nat) (l:List UInt8),l.length=k→k≤9223372036854775807→∃n,itP n qh4 (bs l,((c.toNat:Nat):Int),())=some (bs (yG c l),((c.toNat:Nat):Int),())
 | 0,l,h,_=>by
  have:l=[]:=KP.1 h
  subst this;exact⟨1,rfl⟩
 | k+1,l,h,hk=>by
  rcases WJ l with h0|⟨A,x,h0⟩
  · rw[h0]at h;cases h
  · rw[WK]at h0
    subst h0;have hA:A.length=k:=by simpa using h
    have hs:(bs (A++[x])).size=k+1:=by rw[jB];exact h
    have hw:IntKind.i64.wrap ((((bs (A++[x])).size:Nat):Int)-1)=(k:Int):=by rw[hs,w64 (by omega) (by omega)];omega
    have d0:decide ((0:Int)<(((bs (A++[x])).size:Nat):Int))=true:=zh (by rw[hs];omega)
    have d1:decide ((0:Int)≤(k:Int))=true:=zh (by omega)
    have d2:decide ((k:Int)≤(((bs (A++[x])).size:Nat):Int))=true:=zh (by rw[hs];omega)
    have g:(bs (A++[x]))[k]?=some x:=by rw[qwP,← hA,Kl (zI _),Ww];rfl
    have e:(bs (A++[x])).extract 0 k=bs A:=by
     rw[qqk,Vm,Vz,← hA,K4]
    cases hx:x == c with
    | true=>
     obtain⟨n,q⟩:=qmC c k A hA (by omega)
     refine⟨n+1,?_⟩
     rw[jR];simp only[qh4,hw,d0,d1,d2,zn,g,e,qq0,hx,zg,zm,Kt,QH];exact q
    | false=>
     refine⟨1,?_⟩
     rw[jR];simp only[qh4,hw,d0,d1,zn,g,qq0,hx,zg,zo,zm,QH]
def qjK(p:ByteArray×Int):Option ByteArray:=bif decide (0≤p.2)&&Nat.ble (lb p.1).length 549755813888 then some (bs (yG (UInt8.ofNat p.2.toNat) (lb p.1)))else none
theorem qxm(p:ByteArray×Int)(y:ByteArray)(hg:(dc cS (d1 (cI .u8))).good p)(h:qjK p=some y):∃n,tRB n p.1 p.2=some y:=by
 obtain⟨s,c⟩:=p;obtain⟨d,rfl⟩:=asU8 hg.2;obtain⟨h1,h2⟩:=qL h;have:=soi h2;subst this
 rw[zp]at h1;obtain⟨n,q⟩:=qmC d (lb s).length (lb s) rfl (by have:=zx h1.2;simp only[]at this;omega)
 refine⟨n,?_⟩
 rw[qdd]at q;show tRB n s _=_
 unfold tRB;refine obs q ?_
 simp only[zn,UInt8.ofNat_toNat]
def zs(n:Nat):List UInt8:=List.replicate n 48
theorem b1(k:Nat)(h:k<10):IntKind.u8.wrap (IntKind.i64.wrap (48+(k:Int)))=((48+k:Nat):Int):=by
 rw[w64 (by omega) (by omega)];have:IntKind.u8.wrap ((48+k:Nat):Int)=((48+k:Nat):Int):=Zm (by unfold inR;simp;exact⟨by show(0:Int)≤_;omega,by show _≤(255:Int);omega⟩)
 rw[show(48+(k:Int))=((48+k:Nat):Int) by omega,this]
theorem tdN(n:Nat):Int.tdiv (n:Int) 10=((n / 10:Nat):Int):=rfl
theorem tmN(n:Nat):Int.tmod (n:Int) 10=((n % 10:Nat):Int):=rfl
theorem by1(k:Nat):byI [((48+k:Nat):Int)]=bs [UInt8.ofNat (48+k)]:=rfl
end
end Su
end
section
namespace Su
open Go Fly
noncomputable section
def bLen  (x:Int):Option Int :=
 some (qu x.toNat:Int)
end
end Su
end
section
namespace Su
open Go Fly
noncomputable section
def quh:(Int×(List Int)×(List Int)×Int×Unit)→Option ((Int×(List Int)×(List Int)×Int×Unit) ⊕ (Lp (Int×(List Int)×(List Int)×Int×Unit) ((List Int)×Int))):=fun p0=>(bif(decide (0≤p0.2.2.2.1))then
 (Qo (p0.2.1,p0.2.1)).bind fun x1=>
 (bif(decide (0≤p0.2.2.2.1))then
 (bif(decide ((Fly.jj Go.BinOp.and .i64 (Int.fdiv p0.1 (2^(min p0.2.2.2.1.toNat 64))) 1)=1))then
 (Qo (x1,p0.2.2.1)).bind fun x2=>
 (Len x2).bind fun x3=>
 (bif(decide (65536<x3))then
 some (.inr (.ret ([],(20:Int))))
 else
  some (.inl (p0.1,x2,p0.2.2.1,(IntKind.wrap .i64 (p0.2.2.2.1-1)),())))
 else
  (Len x1).bind fun x4=>
  (bif(decide (65536<x4))then
  some (.inr (.ret ([],(20:Int))))
 else
  some (.inl (p0.1,x1,p0.2.2.1,(IntKind.wrap .i64 (p0.2.2.2.1-1)),()))))
 else none)
 else
  some (.inr (.exit 1 (p0.1,p0.2.1,p0.2.2.1,p0.2.2.2.1,()))))
def qb8:(Int×(List Int)×(List Int)×Int×Unit)→Option ((Int×(List Int)×(List Int)×Int×Unit) ⊕ (Lp (Int×(List Int)×(List Int)×Int×Unit) ((List Int)×Int))):=fun p10=>(bif(decide (0≤p10.2.2.2.1))then
 (Qo (p10.2.1,p10.2.1)).bind fun x11=>
 (bif(decide (0≤p10.2.2.2.1))then
 (bif(decide ((Fly.jj Go.BinOp.and .i64 (Int.fdiv p10.1 (2^(min p10.2.2.2.1.toNat 64))) 1)=1))then
 (Qo (x11,p10.2.2.1)).bind fun x12=>
 (Len x12).bind fun x13=>
 (bif(decide (65536<x13))then
 some (.inr (.ret ([],(20:Int))))
 else
  some (.inl (p10.1,x12,p10.2.2.1,(IntKind.wrap .i64 (p10.2.2.2.1-1)),())))
 else
  (Len x11).bind fun x14=>
  (bif(decide (65536<x14))then
  some (.inr (.ret ([],(20:Int))))
 else
  some (.inl (p10.1,x11,p10.2.2.1,(IntKind.wrap .i64 (p10.2.2.2.1-1)),()))))
 else none)
 else
  some (.inr (.exit 1 (p10.1,p10.2.1,p10.2.2.1,p10.2.2.2.1,()))))
def qui  (fu:Nat)(x:Int)(n:Int):Option ((List Int)×Int) :=
 (bif(decide (n≤0))then
 some ((ofN 1),(0:Int))
 else
  (bif(decide (x<2))then
  some ((ofN (qk [(IntKind.wrap .u32 x),(IntKind.wrap .u32 (Int.fdiv x (2^32)))])),(0:Int))
 else
  (bif(decide (65536<n))then
  (bif(decide (65536<n))then
  some ([],(20:Int))
 else
  (itP fu (quh) (n,(ofN 1),(ofN (qk [(IntKind.wrap .u32 x),(IntKind.wrap .u32 (Int.fdiv x (2^32)))])),(IntKind.wrap .i64 ((((qu (Int.toNat (IntKind.wrap .u64 n))):Nat):Int)-1)),())).bind fun x5=>
  (match x5 with
 | .exit i6 p7=>(bif(Nat.beq i6 1)then
  some (p7.2.1,(0:Int))
 else none)
 | .ret o8=>some o8))
 else
  (Len (ofN (qk [(IntKind.wrap .u32 x),(IntKind.wrap .u32 (Int.fdiv x (2^32)))]))).bind fun x9=>
  (bif(decide (65536≤(IntKind.wrap .i64 ((IntKind.wrap .i64 (x9-1))*n))))then
  some ([],(20:Int))
 else
  (itP fu (qb8) (n,(ofN 1),(ofN (qk [(IntKind.wrap .u32 x),(IntKind.wrap .u32 (Int.fdiv x (2^32)))])),(IntKind.wrap .i64 ((((qu (Int.toNat (IntKind.wrap .u64 n))):Nat):Int)-1)),())).bind fun x15=>
  (match x15 with
 | .exit i16 p17=>(bif(Nat.beq i16 1)then
  some (p17.2.1,(0:Int))
 else none)
 | .ret o18=>some o18)))))
def qxn  (n:Int):Option (List Int) :=
 (qfc ((ofN 1),n)).bind fun x0=>
 some x0.1
theorem Jz(a b:Nat):qu (a*b)≤qu a+qu b:=by
 rw[ye,zW];have h1:=Qs a;have h2:=Qs b;exact Nat.mul_lt_mul'' h1 h2
theorem qab(v:Nat):(ofN v).length≤qu v / 32+1:=by
 refine qud ?_
 rw[qdf];exact Kv (Qs v) (Kg (by omega) (by omega))
theorem qdg{u v:Nat}(h1:qu u≤100000)(h2:qu v≤100000):Qo (ofN u,ofN v)=some (ofN (u*v)):=by
 unfold Qo;have l1:=qab u;have l2:=qab v;simp only[valN_ofN];rw[zN (by omega)];rfl
theorem qvu{u v:Nat}(h1:qu u≤100000)(h2:qu v≤100000):qgA (ofN u,ofN v)=some (ofN (u+v)):=by
 unfold qgA;have l1:=qab u;have l2:=qab v;simp only[valN_ofN];rw[zN (by omega)];rfl
theorem qvv{u v:Nat}(h1:qu u≤100000)(h2:qu v≤100000)(hv:v≠0):qfg (ofN u,ofN v)=some (ofN (u / v),ofN (u % v),0):=by
 have l1:=qab u;have l2:=qab v;exact qxf (by omega) (by omega) hv
theorem qfi{v:Nat}(h:qu v≤100000):Len (ofN v)=some ((qu v:Nat):Int):=by
 have:=qh0 (ofN v) (by rw[valN_ofN];omega)
 rwa [valN_ofN]at this
theorem Yk(m:Nat):qu (10^m)≤4*m+1:=by
 have h:10^m≤2^(4*m):=by
  rw[Nat.pow_mul];exact Nat.pow_le_pow_left (by decide) m
 rw[ye];have:=Nat.pow_lt_pow_right (a:=2) (by omega) (show 4*m<4*m+1 by omega)
 omega
theorem quj{a:Nat}(ha:a<9223372036854775808):decide (Fly.jj .and .i64 (a:Int) 1=1)=decide (a % 2=1):=by
 have:Fly.jj .and .i64 (a:Int) 1=((a % 2:Nat):Int):=by
  show IntKind.i64.wrap (((BitVec.ofInt 64 (a:Int) &&& BitVec.ofInt 64 ((1:Nat):Int)).toNat:Nat):Int)=_
  have h:=and_mask a 1
  rw[show 2^1-1=1 from rfl,show 2^1=2 from rfl]at h;rw[WU,QK a (by omega),QK _ (by omega),h];exact w64 (by omega) (by omega)
 rw[this];by_cases h:a % 2=1
 · rw[zh h,zh (by omega)]
 · rw[zq h,zq (by omega)]
theorem qmD:qu 10≤4:=by decide
theorem qmE(N:Nat)(hN:N≤10000):∀(j:Nat),j≤60 →
 ∃n,itP n qb8 ((N:Int),ofN (10^(N / 2^j)),ofN 10,(j:Int)-1,())=some (.exit 1 ((N:Int),ofN (10^N),ofN 10,-1,()))
 | 0,_=>by
  refine⟨1,?_⟩
  have d0:decide ((0:Int)≤((0:Nat):Int)-1)=false:=by decide
  rw[jR];simp only[qb8,d0,zo,Vf,WY];rfl
 | j+1,hj=>by
  have ej:(((j+1:Nat):Int)-1)=(j:Int):=by omega
  have d0:decide ((0:Int)≤(j:Int))=true:=zh (by omega)
  have hm:N / 2^(j+1)≤N:=VF ..
  have hb:=Yk (N / 2^(j+1))
  have m1:=qdg (u:=10^(N / 2^(j+1))) (v:=10^(N / 2^(j+1))) (by omega) (by omega)
  have hq:N / 2^(j+1)=N / 2^j / 2:=by rw[Ke,Kq]
  have hw:IntKind.i64.wrap ((j:Int)-1)=(j:Int)-1:=w64 (by omega) (by omega)
  have hmin:min (Int.toNat (j:Int)) 64=j:=by rw[zn];omega
  have hbit:decide (Fly.jj .and .i64 (Int.fdiv (N:Int) (2^j)) 1=1)=decide (N / 2^j % 2=1):=by
   rw[Zu];have:N / 2^j≤N:=VF ..
   exact quj (by omega)
  obtain⟨n,q⟩:=qmE N hN j (by omega)
  have hk:N / 2^j≤N:=VF ..
  have hkb:=Yk (N / 2^j)
  refine⟨n+1,?_⟩
  rw[jR,ej];by_cases h:N / 2^j % 2=1
  · rw[zh h]at hbit
    have e:10^(N / 2^(j+1))*10^(N / 2^(j+1))*10=10^(N / 2^j):=by
     rw[← zW,← Ke]
     congr 1;omega
    have b2:=Jz (10^(N / 2^(j+1))) (10^(N / 2^(j+1)))
    have m2:=qdg (u:=10^(N / 2^(j+1))*10^(N / 2^(j+1))) (v:=10) (by omega) (by have:=qmD;omega)
    rw[e]at m2;have l3:=qfi (v:=10^(N / 2^j)) (by omega)
    have d3:decide ((65536:Int)<((qu (10^(N / 2^j)):Nat):Int))=false:=zq (by omega)
    simp only[qb8,d0,m1,hmin,hbit,m2,l3,d3,hw,zg,zo,zm];exact q
  · rw[zq h]at hbit
    have e:10^(N / 2^(j+1))*10^(N / 2^(j+1))=10^(N / 2^j):=by
     rw[← zW]
     congr 1;omega
    rw[e]at m1;have l3:=qfi (v:=10^(N / 2^j)) (by omega)
    have d3:decide ((65536:Int)<((qu (10^(N / 2^j)):Nat):Int))=false:=zq (by omega)
    simp only[qb8,d0,m1,hmin,hbit,l3,d3,hw,zg,zo,zm];exact q
theorem quk:ofN (qk [(IntKind.wrap .u32 10),(IntKind.wrap .u32 (Int.fdiv 10 (2^32)))])=ofN 10:=by decide
def qh5(p:Int×Int):Option (List Int×Int):=bif decide (p.1=10)&&decide (p.2≤10000)then some (ofN (10^p.2.toNat),0)else none
theorem qul(p:Int×Int)(y:List Int×Int)(hg:(dc (cI .u64) (d1 (cI .i64))).good p)(h:qh5 p=some y):∃n,qui n p.1 p.2=some y:=by
 obtain⟨x,n⟩:=p;obtain⟨h1,h2⟩:=qL h;have:=soi h2;subst this
 simp only[zp,zY]at h1;obtain⟨rfl,hn⟩:=h1;simp only[];by_cases h0:n≤0
 · refine⟨0,?_⟩
   unfold qui;rw[zh h0,zg,show n.toNat=0 by omega]
 · obtain⟨N,rfl⟩:=VK (show 0≤n by omega)
   have hb:qu N≤60:=ye.2 (by omega)
   obtain⟨m,q⟩:=qmE N (by omega) (qu N) hb
   rw[Vo (Qs N)]at q;refine⟨m,?_⟩
   unfold qui;have d1:decide ((10:Int)<2)=false:=by decide
   have d2:decide ((65536:Int)<(N:Int))=false:=zq (by omega)
   have l10:=qfi (v:=10) (by have:=qmD;omega)
   have e10:qu 10=4:=by decide
   rw[e10]at l10;have w1:IntKind.i64.wrap (((4:Nat):Int)-1)=3:=by decide
   have w2:IntKind.i64.wrap (3*(N:Int))=3*(N:Int):=w64 (by omega) (by omega)
   have d3:decide ((65536:Int)≤3*(N:Int))=false:=zq (by omega)
   have w3:IntKind.u64.wrap (N:Int)=(N:Int):=yd (by omega) (by omega)
   have w4:IntKind.i64.wrap (((qu N:Nat):Int)-1)=((qu N:Nat):Int)-1:=w64 (by omega) (by omega)
   rw[zq h0,zo,d1,zo,d2,zo,quk,l10,zm,w1,w2,d3,zo,w3,zn,w4];exact obs q rfl
def qac(n:Int):Option (List Int):=bif decide (n≤60000)then some (ofN (2^n.toNat))else none
theorem Jj(k:Nat):qu (2^k)=k+1:=qmb (zI _) (Nat.pow_lt_pow_right (by omega) (by omega))
theorem qyP{v:Nat}(h:qu v≤100000):okS (ofN v)=true:=by
 rw[qqG];have:=qab v
 exact zN (by omega)
theorem qq1{v:Nat}{n:Int}(hv:v≠0)(h:qu v+n.toNat≤65536):qfc (ofN v,n)=some (ofN (v*2^n.toNat),0):=by
 unfold qfc;simp only[];have e:(max n 0).toNat=n.toNat:=by omega
 rw[qyP (by omega),zg,valN_ofN,e,qmo];unfold qmn;rw[zQ hv,zQ (by omega)]
theorem qum(n:Int)(y:List Int)(hg:(d1 (cI .i64)).good n)(h:qac n=some y):qxn n=some y:=by
 obtain⟨h1,h2⟩:=qL h;have:=soi h2;subst this
 have h1:n≤60000:=KM h1
 have e1:qu 1=1:=by decide
 unfold qxn;have:=qq1 (v:=1) (n:=n) (by omega) (by omega)
 rw[this,zm,KR]
end
end Su
end
section
namespace Su
open Go Fly
noncomputable section
def qb9(neg:Bool)(mode:Int) :=
 fun x5001 x5002=>
 bif(decide (0<(IntKind.wrap .i64 (63-(IntKind.wrap .i64 (x5001-x5002))))))then
 some ((((RN neg mode (jM ((0:Int),(9223372036854775808:Int))) (Int.toNat ((-5000)+6000)) true):Nat):Int),(flN neg mode (jM ((0:Int),(9223372036854775808:Int))) (Int.toNat ((-5000)+6000)) true (decide (((((qu (jM ((0:Int),(9223372036854775808:Int)))):Nat):Int)+(-5000))≤(-1022)))))
 else
  some ((((RN neg mode (jM ((0:Int),(9223372036854775808:Int))) (Int.toNat (5000+6000)) true):Nat):Int),(flN neg mode (jM ((0:Int),(9223372036854775808:Int))) (Int.toNat (5000+6000)) true (decide (((((qu (jM ((0:Int),(9223372036854775808:Int)))):Nat):Int)+5000)≤(-1022)))))
def qmF  (neg:Bool)(num:(List Int))(den:(List Int))(mode:Int):Option (Int×Int) :=
 (Len num).bind fun x0=>
 (bif(decide (x0=0))then
 some ((0:Int),(0:Int))
 else
  (Len den).bind fun x1=>
  (bif(decide (x1=0))then
  some ((0:Int),(0:Int))
 else
  (Len num).bind fun x2=>
  (Len den).bind fun x3=>
  (bif(decide ((IntKind.wrap .i64 (63-(IntKind.wrap .i64 (x2-x3))))<(-5000)))then
  (qb9 neg mode x2 x3)
 else
  (bif(decide (5000<(IntKind.wrap .i64 (63-(IntKind.wrap .i64 (x2-x3))))))then
  (qb9 neg mode x2 x3)
 else
  (qac (IntKind.wrap .i64 (63-(IntKind.wrap .i64 (x2-x3))))).bind fun x4=>
  (Qo (num,x4)).bind fun x5=>
  (qac (IntKind.wrap .i64 (0-(IntKind.wrap .i64 (63-(IntKind.wrap .i64 (x2-x3))))))).bind fun x6=>
  (Qo (den,x6)).bind fun x7=>
  (qfg (x5,x7)).bind fun x8=>
  (qt3 x8.1).bind fun x9=>
  (Len x8.2.1).bind fun x10=>
  (qaa ((neg,(0:Int),x9.1,(IntKind.wrap .i64 (0-(IntKind.wrap .i64 (63-(IntKind.wrap .i64 (x2-x3)))))),(decide (0<x10))),mode)).bind fun x11=>
  some x11))))
theorem qxo{M:Nat}(h:M<18446744073709551616):qt3 (ofN M)=some ((M:Int),true):=by
 have hb:qu M≤64:=ye.2 h
 have hw:=qe7 M;have a0:=Q1 hw 0
 have a1:=Q1 hw 1
 obtain⟨p1,p2⟩:=yz hw 0
 obtain⟨p3,p4⟩:=yz hw 1
 have v0:=Y4 (ofN M) 0
 have v1:=Y4 (ofN M) 1
 rw[Vm,valN_ofN]at v0;simp only[zt,Nat.reduceAdd]at v0 v1;obtain⟨X,hX⟩:=VK p1;obtain⟨Y,hY⟩:=VK p3;rw[hX]at a0 p2 v0;rw[hY]at a1 p4 v1;rw[zn]at v0 v1;have hz:qk ((ofN M).drop 2)=0:=by omega
 have hM:M=X+Y*2^32:=by omega
 unfold qt3;have d0:decide ((64:Int)<((qu M:Nat):Int))=false:=zq (by omega)
 have a0':At (ofN M) 0=some (X:Int):=a0
 have a1':At (ofN M) 1=some (Y:Int):=a1
 have w1:IntKind.u64.wrap ((Y:Int)*(2^32))=((Y*2^32:Nat):Int):=by
  rw[yd (by omega) (by omega)];omega
 rw[qfi (by omega),zm,d0,zo,a0',zm,a1',zm,w1,qaA _ _ (by omega) (by omega),qfb (by omega),← hM]
def jD(N D:Nat):Int:=((qu N:Nat):Int)-((qu D:Nat):Int)-63
def ZE(N D:Nat):Nat:=N*2^(-jD N D).toNat
def Y6(N D:Nat):Nat:=D*2^(jD N D).toNat
def ZF(N D:Nat):Nat:=ZE N D / Y6 N D
def qfj(N D:Nat):Bool:=decide (0<((qu (ZE N D % Y6 N D):Nat):Int))
def qvw:{f:Bool→Int→Nat→Nat→Nat // ∀neg mode N D,f neg mode N D=RN neg mode (ZF N D) (jD N D+6000).toNat (qfj N D)}:=Classical.choice ⟨⟨_,fun _ _ _ _=>rfl⟩⟩
def Yl(neg:Bool)(mode:Int)(N D:Nat):Nat:=qvw.1 neg mode N D
theorem qjL(neg:Bool)(mode:Int)(N D:Nat):Yl neg mode N D=RN neg mode (ZF N D) (jD N D+6000).toNat (qfj N D):=qvw.2 neg mode N D
def qq2(neg:Bool)(mode:Int)(N D:Nat):Int:=flN neg mode (ZF N D) (jD N D+6000).toNat (qfj N D) (decide ((qu (ZF N D):Int)+jD N D≤-1022))
theorem qaD{N D:Nat}(hD:D≠0):0<Y6 N D:=Wx (Nat.pos_of_ne_zero hD) (zU _)
theorem qq3{N D:Nat}(hD:D≠0):ZF N D<18446744073709551616:=by
 unfold ZF;rw[KG (qaD hD)];have h1:=Qs N;have h2:=Zn hD;have h3:=j9 hD;unfold ZE Y6;refine Kv (Kf h1 (zU _)) ?_
 refine KF ?_ (z8 _ (zG _ h2))
 rw[← zW,← zW,show(18446744073709551616:Nat)=2^64 from rfl,← zW];refine Kg (by omega) ?_
 unfold jD;omega
theorem qjM{N D:Nat}(hN:N≠0)(hD:D≠0):4611686018427387904≤ZF N D:=by
 unfold ZF;rw[WP (qaD hD)];have h1:=Zn hN;have h2:=Qs D;have h3:=j9 hN;unfold ZE Y6;refine KF ?_ (zG _ h1)
 refine KF (z8 _ (zG _ (Wg h2))) ?_
 rw[← zW,← zW,show(4611686018427387904:Nat)=2^62 from rfl,← zW];refine Kg (by omega) ?_
 unfold jD;omega
def JQ(p:Bool×List Int×List Int×Int):Option (Int×Int) :=
 bif Nat.beq (qk p.2.1) 0||Nat.beq (qk p.2.2.1) 0 then(bif Nat.ble (qu (qk p.2.1)) 100000&&Nat.ble (qu (qk p.2.2.1)) 100000 then some (0,0)else none)else
 bif((Nat.ble p.2.1.length 100000&&Nat.ble p.2.2.1.length 100000)&&(Nat.ble (qu (qk p.2.1)) 40000&&Nat.ble (qu (qk p.2.2.1)) 40000))&&(decide (-4000≤jD (qk p.2.1) (qk p.2.2.1))&&decide (jD (qk p.2.1) (qk p.2.2.1)≤4000))then
  some (((Yl p.1 p.2.2.2 (qk p.2.1) (qk p.2.2.1):Nat):Int),qq2 p.1 p.2.2.2 (qk p.2.1) (qk p.2.2.1))
 else none
theorem qaE{a b:Nat}(h:a≤b):qu a≤qu b:=ye.2 (K5 h (Qs b))
theorem qmG{a:List Int}(h:qu (qk a)≤100000):Len a=some ((qu (qk a):Nat):Int):=qh0 a (by omega)
theorem qvx{a:List Int}{v:Nat}(hl:a.length≤1000000)(h2:qu v≤100000):Qo (a,ofN v)=some (ofN (qk a*v)):=by
 unfold Qo;have l2:=qab v;simp only[valN_ofN];rw[zN (by omega)];rfl
theorem qq4(p:Bool×List Int×List Int×Int)(y:Int×Int)(hg:(dc cB (dc (cQ 1 1) (dc (cQ 1 1) (d1 (cI .u8))))).good p)(h:JQ p=some y):qmF p.1 p.2.1 p.2.2.1 p.2.2.2=some y:=by
 obtain⟨neg,num,den,mode⟩:=p;simp only[];have ln:num.length≤maxLen:=hg.2.1.2
 have ld:den.length≤maxLen:=hg.2.2.1.2
 unfold JQ at h;simp only[]at h;generalize hN:qk num=N at *
 generalize hD:qk den=D at *
 cases hz:Nat.beq N 0||Nat.beq D 0 with
 | true=>
  rw[hz,zg]at h;obtain⟨h1,h2⟩:=qL h;have:=soi h2;subst this
  rw[zp]at h1;have b1:=zx h1.1;have b2:=zx h1.2;have L1:=qmG (a:=num) (by rw[hN];exact b1)
  have L2:=qmG (a:=den) (by rw[hD];exact b2)
  rw[hN]at L1;rw[hD]at L2;unfold qmF qb9;rw[L1,zm];by_cases h0:N=0
  · subst h0;rfl
  · have hd:D=0:=by
     rw[qcL h0,WV]at hz;exact zd hz
    subst hd;have:=j9 h0
    rw[zq (show¬((qu N:Nat):Int)=0 by omega),zo,L2];rfl
 | false=>
  rw[hz,zo]at h;obtain⟨h1,h2⟩:=qL h;have:=soi h2;subst this
  simp only[zp,zY]at h1;obtain⟨⟨⟨l1,l2⟩,b1,b2⟩,e1,e2⟩:=h1;have l1:=zx l1;have l2:=zx l2;have b1:=zx b1;have b2:=zx b2;rw[Bool.or_eq_false_iff]at hz;have hN0:N≠0:=fun e=>by rw[e]at hz;exact absurd hz.1 (by decide)
  have hD0:D≠0:=fun e=>by rw[e]at hz;exact absurd hz.2 (by decide)
  have L1:=qmG (a:=num) (by rw[hN];omega)
  have L2:=qmG (a:=den) (by rw[hD];omega)
  rw[hN]at L1;rw[hD]at L2;have p1:=j9 hN0;have p2:=j9 hD0;have w1:IntKind.i64.wrap (63-IntKind.i64.wrap (((qu N:Nat):Int)-((qu D:Nat):Int))) = -jD N D:=by
   unfold jD;rw[w64 (n:=((qu N:Nat):Int)-((qu D:Nat):Int)) (by omega) (by omega),w64 (by omega) (by omega)];omega
  have w2:IntKind.i64.wrap (0 - -jD N D)=jD N D:=by rw[w64 (by omega) (by omega)];omega
  have e11:qu 1=1:=by decide
  have s1:qac (-jD N D)=some (ofN (2^(-jD N D).toNat)):=by unfold qac;rw[zh (by omega)];rfl
  have s2:qac (jD N D)=some (ofN (2^(jD N D).toNat)):=by unfold qac;rw[zh (by omega)];rfl
  have bA:qu (ZE N D)≤100000:=by
   have:=Jz N (2^(-jD N D).toNat)
   rw[Jj]at this;unfold ZE;omega
  have bB:qu (Y6 N D)≤100000:=by
   have:=Jz D (2^(jD N D).toNat)
   rw[Jj]at this;unfold Y6;omega
  have m1:Qo (num,ofN (2^(-jD N D).toNat))=some (ofN (ZE N D)):=by
   rw[qvx (by omega) (by rw[Jj];omega),hN];rfl
  have m2:Qo (den,ofN (2^(jD N D).toNat))=some (ofN (Y6 N D)):=by
   rw[qvx (by omega) (by rw[Jj];omega),hD];rfl
  have hB:=qaD (N:=N) hD0
  have dv:=qvv bA bB (by omega)
  have u:=qxo (qq3 (N:=N) hD0)
  have hM:=qjM hN0 hD0;have bR:qu (ZE N D % Y6 N D)≤100000:=KF (qaE (Nat.mod_le _ _)) bA
  have lR:=qfi bR;have d1:decide (((qu N:Nat):Int)=0)=false:=zq (by omega)
  have d2:decide (((qu D:Nat):Int)=0)=false:=zq (by omega)
  have d3:decide (-jD N D < -5000)=false:=zq (by omega)
  have d4:decide ((5000:Int) < -jD N D)=false:=zq (by omega)
  have vw:jM ((0:Int),((ZF N D:Nat):Int))=ZF N D:=by rw[Y5];simp
  have rf:qaa ((neg,(0:Int),((ZF N D:Nat):Int),jD N D,qfj N D),mode)=some (((Yl neg mode N D:Nat):Int),qq2 neg mode N D):=by
   unfold qaa;simp only[vw];rw[qcL (by omega),zh (show -5000≤jD N D by omega),zh (show jD N D≤5000 by omega),qjL];rfl
  unfold qmF qb9;refine obs L1 ?_
  rw[d1,zo];refine obs L2 ?_
  rw[d2,zo];refine obs L1 (obs L2 ?_)
  rw[w1,d3,zo,d4,zo,w2];exact obs s1 (obs m1 (obs s2 (obs m2 (obs dv (obs u (obs lR (obs rf rfl)))))))
end
end Su
end
