/-
  What functions of the program compute, in plain Lean, and that the evaluator finds it.
-/
import Derived.Test.YtldhknmacepeiaaGreatDoorTra
import Derived.Test.YtldhknmacepeiaaGreatDoorNB10
set_option linter.unusedVariables false
set_option linter.unusedSimpArgs false
set_option maxRecDepth 10000
section
namespace Su
open Go Fly
noncomputable section
def qkF  (x:(Bool×Int×Int×Int×Bool))(mode:Int):Option (Int×Int) :=
 (bif(decide (0<(IntKind.wrap .i64 ((max (IntKind.wrap .i64 ((IntKind.wrap .i64 ((((qr (jG (x.2.1,x.2.2.1))):Nat):Int)-53))+x.2.2.2.1)) (-1074))-x.2.2.2.1))))then
 (bif x.2.2.2.2 then
 some (mode,(((qr (jG (x.2.1,x.2.2.1))):Nat):Int),(max (IntKind.wrap .i64 ((IntKind.wrap .i64 ((((qr (jG (x.2.1,x.2.2.1))):Nat):Int)-53))+x.2.2.2.1)) (-1074)),(decide ((Fly.jf Go.BinOp.and .u64 (loW ((jG (x.2.1,x.2.2.1)) / (2^(Int.toNat (IntKind.wrap .i64 ((IntKind.wrap .i64 ((max (IntKind.wrap .i64 ((IntKind.wrap .i64 ((((qr (jG (x.2.1,x.2.2.1))):Nat):Int)-53))+x.2.2.2.1)) (-1074))-x.2.2.2.1))-1)))))) 1)=1)),true,x.1,x.2.1,x.2.2.1,x.2.2.2.1,x.2.2.2.2,(hiW ((jG ((hiW ((jG (x.2.1,x.2.2.1)) / (2^(Int.toNat (IntKind.wrap .i64 ((IntKind.wrap .i64 ((max (IntKind.wrap .i64 ((IntKind.wrap .i64 ((((qr (jG (x.2.1,x.2.2.1))):Nat):Int)-53))+x.2.2.2.1)) (-1074))-x.2.2.2.1))-1)))))),(loW ((jG (x.2.1,x.2.2.1)) / (2^(Int.toNat (IntKind.wrap .i64 ((IntKind.wrap .i64 ((max (IntKind.wrap .i64 ((IntKind.wrap .i64 ((((qr (jG (x.2.1,x.2.2.1))):Nat):Int)-53))+x.2.2.2.1)) (-1074))-x.2.2.2.1))-1)))))))) / (2^(Int.toNat 1)))),(loW ((jG ((hiW ((jG (x.2.1,x.2.2.1)) / (2^(Int.toNat (IntKind.wrap .i64 ((IntKind.wrap .i64 ((max (IntKind.wrap .i64 ((IntKind.wrap .i64 ((((qr (jG (x.2.1,x.2.2.1))):Nat):Int)-53))+x.2.2.2.1)) (-1074))-x.2.2.2.1))-1)))))),(loW ((jG (x.2.1,x.2.2.1)) / (2^(Int.toNat (IntKind.wrap .i64 ((IntKind.wrap .i64 ((max (IntKind.wrap .i64 ((IntKind.wrap .i64 ((((qr (jG (x.2.1,x.2.2.1))):Nat):Int)-53))+x.2.2.2.1)) (-1074))-x.2.2.2.1))-1)))))))) / (2^(Int.toNat 1)))),())
 else
  some (mode,(((qr (jG (x.2.1,x.2.2.1))):Nat):Int),(max (IntKind.wrap .i64 ((IntKind.wrap .i64 ((((qr (jG (x.2.1,x.2.2.1))):Nat):Int)-53))+x.2.2.2.1)) (-1074)),(decide ((Fly.jf Go.BinOp.and .u64 (loW ((jG (x.2.1,x.2.2.1)) / (2^(Int.toNat (IntKind.wrap .i64 ((IntKind.wrap .i64 ((max (IntKind.wrap .i64 ((IntKind.wrap .i64 ((((qr (jG (x.2.1,x.2.2.1))):Nat):Int)-53))+x.2.2.2.1)) (-1074))-x.2.2.2.1))-1)))))) 1)=1)),(!(Nat.beq ((jG (x.2.1,x.2.2.1)) % (2^(Int.toNat (IntKind.wrap .i64 ((IntKind.wrap .i64 ((max (IntKind.wrap .i64 ((IntKind.wrap .i64 ((((qr (jG (x.2.1,x.2.2.1))):Nat):Int)-53))+x.2.2.2.1)) (-1074))-x.2.2.2.1))-1))))) 0)),x.1,x.2.1,x.2.2.1,x.2.2.2.1,x.2.2.2.2,(hiW ((jG ((hiW ((jG (x.2.1,x.2.2.1)) / (2^(Int.toNat (IntKind.wrap .i64 ((IntKind.wrap .i64 ((max (IntKind.wrap .i64 ((IntKind.wrap .i64 ((((qr (jG (x.2.1,x.2.2.1))):Nat):Int)-53))+x.2.2.2.1)) (-1074))-x.2.2.2.1))-1)))))),(loW ((jG (x.2.1,x.2.2.1)) / (2^(Int.toNat (IntKind.wrap .i64 ((IntKind.wrap .i64 ((max (IntKind.wrap .i64 ((IntKind.wrap .i64 ((((qr (jG (x.2.1,x.2.2.1))):Nat):Int)-53))+x.2.2.2.1)) (-1074))-x.2.2.2.1))-1)))))))) / (2^(Int.toNat 1)))),(loW ((jG ((hiW ((jG (x.2.1,x.2.2.1)) / (2^(Int.toNat (IntKind.wrap .i64 ((IntKind.wrap .i64 ((max (IntKind.wrap .i64 ((IntKind.wrap .i64 ((((qr (jG (x.2.1,x.2.2.1))):Nat):Int)-53))+x.2.2.2.1)) (-1074))-x.2.2.2.1))-1)))))),(loW ((jG (x.2.1,x.2.2.1)) / (2^(Int.toNat (IntKind.wrap .i64 ((IntKind.wrap .i64 ((max (IntKind.wrap .i64 ((IntKind.wrap .i64 ((((qr (jG (x.2.1,x.2.2.1))):Nat):Int)-53))+x.2.2.2.1)) (-1074))-x.2.2.2.1))-1)))))))) / (2^(Int.toNat 1)))),()))
 else
  some (mode,(((qr (jG (x.2.1,x.2.2.1))):Nat):Int),(max (IntKind.wrap .i64 ((IntKind.wrap .i64 ((((qr (jG (x.2.1,x.2.2.1))):Nat):Int)-53))+x.2.2.2.1)) (-1074)),false,x.2.2.2.2,x.1,x.2.1,x.2.2.1,x.2.2.2.1,x.2.2.2.2,(hiW ((2^(Int.toNat (IntKind.wrap .i64 (0-(IntKind.wrap .i64 ((max (IntKind.wrap .i64 ((IntKind.wrap .i64 ((((qr (jG (x.2.1,x.2.2.1))):Nat):Int)-53))+x.2.2.2.1)) (-1074))-x.2.2.2.1))))))*(jG (x.2.1,x.2.2.1)))),(loW ((2^(Int.toNat (IntKind.wrap .i64 (0-(IntKind.wrap .i64 ((max (IntKind.wrap .i64 ((IntKind.wrap .i64 ((((qr (jG (x.2.1,x.2.2.1))):Nat):Int)-53))+x.2.2.2.1)) (-1074))-x.2.2.2.1))))))*(jG (x.2.1,x.2.2.1)))),())).bind fun x0=>
  (bif(upN x0.2.2.2.2.2.1 x0.1 (decide ((Fly.jf Go.BinOp.and .u64 x0.2.2.2.2.2.2.2.2.2.2.2.1 1)=1)) x0.2.2.2.1 x0.2.2.2.2.1)then
  some (x0.1,x0.2.1,x0.2.2.1,x0.2.2.2.1,x0.2.2.2.2.1,(IntKind.wrap .u64 (x0.2.2.2.2.2.2.2.2.2.2.2.1+1)),x0.2.2.2.2.2.1,x0.2.2.2.2.2.2.1,x0.2.2.2.2.2.2.2.1,x0.2.2.2.2.2.2.2.2.1,x0.2.2.2.2.2.2.2.2.2.1,x0.2.2.2.2.2.2.2.2.2.2.1,x0.2.2.2.2.2.2.2.2.2.2.2.1,())
 else
  some (x0.1,x0.2.1,x0.2.2.1,x0.2.2.2.1,x0.2.2.2.2.1,x0.2.2.2.2.2.2.2.2.2.2.2.1,x0.2.2.2.2.2.1,x0.2.2.2.2.2.2.1,x0.2.2.2.2.2.2.2.1,x0.2.2.2.2.2.2.2.2.1,x0.2.2.2.2.2.2.2.2.2.1,x0.2.2.2.2.2.2.2.2.2.2.1,x0.2.2.2.2.2.2.2.2.2.2.2.1,())).bind fun x1=>
  (bif(decide (x1.2.2.2.2.2.1=9007199254740992))then
  some (x1.1,x1.2.1,(IntKind.wrap .i64 (x1.2.2.1+1)),x1.2.2.2.1,x1.2.2.2.2.1,(Int.fdiv x1.2.2.2.2.2.1 (2^1)),x1.2.2.2.2.2.2.1,x1.2.2.2.2.2.2.2.1,x1.2.2.2.2.2.2.2.2.1,x1.2.2.2.2.2.2.2.2.2.1,x1.2.2.2.2.2.2.2.2.2.2.1,x1.2.2.2.2.2.2.2.2.2.2.2.1,x1.2.2.2.2.2.2.2.2.2.2.2.2.1,())
 else
  some (x1.1,x1.2.1,x1.2.2.1,x1.2.2.2.1,x1.2.2.2.2.1,x1.2.2.2.2.2.1,x1.2.2.2.2.2.2.1,x1.2.2.2.2.2.2.2.1,x1.2.2.2.2.2.2.2.2.1,x1.2.2.2.2.2.2.2.2.2.1,x1.2.2.2.2.2.2.2.2.2.2.1,x1.2.2.2.2.2.2.2.2.2.2.2.1,x1.2.2.2.2.2.2.2.2.2.2.2.2.1,())).bind fun x2=>
  (bif(decide (971<x2.2.2.1))then
  some ((ovN x2.2.2.2.2.2.2.1 x2.1:Int),(5:Int))
 else
  (bif x2.2.2.2.1 then
  ((bif(decide ((IntKind.wrap .i64 (x2.2.1+x2.2.2.2.2.2.2.2.2.2.1))≤(-1022)))then
  some (x2.1,x2.2.1,x2.2.2.1,x2.2.2.2.1,x2.2.2.2.2.1,x2.2.2.2.2.2.1,(Fly.jf Go.BinOp.or .u8 1 2),x2.2.2.2.2.2.2.1,x2.2.2.2.2.2.2.2.1,x2.2.2.2.2.2.2.2.2.1,x2.2.2.2.2.2.2.2.2.2.1,x2.2.2.2.2.2.2.2.2.2.2.1,x2.2.2.2.2.2.2.2.2.2.2.2.1,x2.2.2.2.2.2.2.2.2.2.2.2.2.1,())
 else
  some (x2.1,x2.2.1,x2.2.2.1,x2.2.2.2.1,x2.2.2.2.2.1,x2.2.2.2.2.2.1,(1:Int),x2.2.2.2.2.2.2.1,x2.2.2.2.2.2.2.2.1,x2.2.2.2.2.2.2.2.2.1,x2.2.2.2.2.2.2.2.2.2.1,x2.2.2.2.2.2.2.2.2.2.2.1,x2.2.2.2.2.2.2.2.2.2.2.2.1,x2.2.2.2.2.2.2.2.2.2.2.2.2.1,())).bind fun x3=>
  some (x3.1,x3.2.1,x3.2.2.1,x3.2.2.2.1,x3.2.2.2.2.1,x3.2.2.2.2.2.1,x3.2.2.2.2.2.2.1,x3.2.2.2.2.2.2.2.1,x3.2.2.2.2.2.2.2.2.1,x3.2.2.2.2.2.2.2.2.2.1,x3.2.2.2.2.2.2.2.2.2.2.1,x3.2.2.2.2.2.2.2.2.2.2.2.1,x3.2.2.2.2.2.2.2.2.2.2.2.2.1,x3.2.2.2.2.2.2.2.2.2.2.2.2.2.1,())).bind fun x4=>
  (bif(decide ((Int.fdiv x4.2.2.2.2.2.1 (2^52))=1))then
  some (x4.1,x4.2.1,x4.2.2.1,x4.2.2.2.1,x4.2.2.2.2.1,x4.2.2.2.2.2.1,x4.2.2.2.2.2.2.1,(IntKind.wrap .i64 ((IntKind.wrap .i64 (x4.2.2.1-(-1074)))+1)),x4.2.2.2.2.2.2.2.1,x4.2.2.2.2.2.2.2.2.1,x4.2.2.2.2.2.2.2.2.2.1,x4.2.2.2.2.2.2.2.2.2.2.1,x4.2.2.2.2.2.2.2.2.2.2.2.1,x4.2.2.2.2.2.2.2.2.2.2.2.2.1,x4.2.2.2.2.2.2.2.2.2.2.2.2.2.1,())
 else
  some (x4.1,x4.2.1,x4.2.2.1,x4.2.2.2.1,x4.2.2.2.2.1,x4.2.2.2.2.2.1,x4.2.2.2.2.2.2.1,(0:Int),x4.2.2.2.2.2.2.2.1,x4.2.2.2.2.2.2.2.2.1,x4.2.2.2.2.2.2.2.2.2.1,x4.2.2.2.2.2.2.2.2.2.2.1,x4.2.2.2.2.2.2.2.2.2.2.2.1,x4.2.2.2.2.2.2.2.2.2.2.2.2.1,x4.2.2.2.2.2.2.2.2.2.2.2.2.2.1,())).bind fun x5=>
  (Zj (x5.2.2.2.2.2.2.2.2.1,x5.2.2.2.2.2.2.2.1,(Fly.jf Go.BinOp.and .u64 x5.2.2.2.2.2.1 4503599627370495))).bind fun x6=>
  some (x6.1,x5.2.2.2.2.2.2.1)
 else
  (bif x2.2.2.2.2.1 then
  (bif(decide ((IntKind.wrap .i64 (x2.2.1+x2.2.2.2.2.2.2.2.2.2.1))≤(-1022)))then
  some (x2.1,x2.2.1,x2.2.2.1,x2.2.2.2.1,x2.2.2.2.2.1,x2.2.2.2.2.2.1,(Fly.jf Go.BinOp.or .u8 1 2),x2.2.2.2.2.2.2.1,x2.2.2.2.2.2.2.2.1,x2.2.2.2.2.2.2.2.2.1,x2.2.2.2.2.2.2.2.2.2.1,x2.2.2.2.2.2.2.2.2.2.2.1,x2.2.2.2.2.2.2.2.2.2.2.2.1,x2.2.2.2.2.2.2.2.2.2.2.2.2.1,())
 else
  some (x2.1,x2.2.1,x2.2.2.1,x2.2.2.2.1,x2.2.2.2.2.1,x2.2.2.2.2.2.1,(1:Int),x2.2.2.2.2.2.2.1,x2.2.2.2.2.2.2.2.1,x2.2.2.2.2.2.2.2.2.1,x2.2.2.2.2.2.2.2.2.2.1,x2.2.2.2.2.2.2.2.2.2.2.1,x2.2.2.2.2.2.2.2.2.2.2.2.1,x2.2.2.2.2.2.2.2.2.2.2.2.2.1,())).bind fun x7=>
  some (x7.1,x7.2.1,x7.2.2.1,x7.2.2.2.1,x7.2.2.2.2.1,x7.2.2.2.2.2.1,x7.2.2.2.2.2.2.1,x7.2.2.2.2.2.2.2.1,x7.2.2.2.2.2.2.2.2.1,x7.2.2.2.2.2.2.2.2.2.1,x7.2.2.2.2.2.2.2.2.2.2.1,x7.2.2.2.2.2.2.2.2.2.2.2.1,x7.2.2.2.2.2.2.2.2.2.2.2.2.1,x7.2.2.2.2.2.2.2.2.2.2.2.2.2.1,())
 else
  some (x2.1,x2.2.1,x2.2.2.1,x2.2.2.2.1,x2.2.2.2.2.1,x2.2.2.2.2.2.1,(0:Int),x2.2.2.2.2.2.2.1,x2.2.2.2.2.2.2.2.1,x2.2.2.2.2.2.2.2.2.1,x2.2.2.2.2.2.2.2.2.2.1,x2.2.2.2.2.2.2.2.2.2.2.1,x2.2.2.2.2.2.2.2.2.2.2.2.1,x2.2.2.2.2.2.2.2.2.2.2.2.2.1,())).bind fun x8=>
  (bif(decide ((Int.fdiv x8.2.2.2.2.2.1 (2^52))=1))then
  some (x8.1,x8.2.1,x8.2.2.1,x8.2.2.2.1,x8.2.2.2.2.1,x8.2.2.2.2.2.1,x8.2.2.2.2.2.2.1,(IntKind.wrap .i64 ((IntKind.wrap .i64 (x8.2.2.1-(-1074)))+1)),x8.2.2.2.2.2.2.2.1,x8.2.2.2.2.2.2.2.2.1,x8.2.2.2.2.2.2.2.2.2.1,x8.2.2.2.2.2.2.2.2.2.2.1,x8.2.2.2.2.2.2.2.2.2.2.2.1,x8.2.2.2.2.2.2.2.2.2.2.2.2.1,x8.2.2.2.2.2.2.2.2.2.2.2.2.2.1,())
 else
  some (x8.1,x8.2.1,x8.2.2.1,x8.2.2.2.1,x8.2.2.2.2.1,x8.2.2.2.2.2.1,x8.2.2.2.2.2.2.1,(0:Int),x8.2.2.2.2.2.2.2.1,x8.2.2.2.2.2.2.2.2.1,x8.2.2.2.2.2.2.2.2.2.1,x8.2.2.2.2.2.2.2.2.2.2.1,x8.2.2.2.2.2.2.2.2.2.2.2.1,x8.2.2.2.2.2.2.2.2.2.2.2.2.1,x8.2.2.2.2.2.2.2.2.2.2.2.2.2.1,())).bind fun x9=>
  (Zj (x9.2.2.2.2.2.2.2.2.1,x9.2.2.2.2.2.2.2.1,(Fly.jf Go.BinOp.and .u64 x9.2.2.2.2.2.1 4503599627370495))).bind fun x10=>
  some (x10.1,x9.2.2.2.2.2.2.1)))
def flN(neg:Bool)(mode:Int)(M E:Nat)(rest sm:Bool):Int :=
 bif Nat.ble (Q8 M E+(upN neg mode (yt M E % 2 == 1) (hfN M E) (rest||rsN M E)).toNat) yk then(bif hfN M E||(rest||rsN M E)then(bif sm then 3 else 1)else 0)else 5
def Z6(p:qnz×Int):Option (Int×Int) :=
 bif !Nat.beq (jG (p.1.2.1,p.1.2.2.1)) 0&&(decide (-5000≤p.1.2.2.2.1)&&decide (p.1.2.2.2.1≤5000))then
  some ((RN p.1.1 p.2 (jG (p.1.2.1,p.1.2.2.1)) (p.1.2.2.2.1+6000).toNat p.1.2.2.2.2:Int),flN p.1.1 p.2 (jG (p.1.2.1,p.1.2.2.1)) (p.1.2.2.2.1+6000).toNat p.1.2.2.2.2 (decide ((qr (jG (p.1.2.1,p.1.2.2.1)):Int)+p.1.2.2.2.1≤-1022)))
 else none
theorem qwf{X:Nat}(h:X<340282366920938463463374607431768211456):jG (hiW X,loW X)=X:=by
 rw[YX];unfold hiW loW;simp only[zn];omega
theorem qbT{X:Nat}(h:X<18446744073709551616):loW X=(X:Int):=by unfold loW;rw[KQ h]
theorem qeY{X:Nat}(h:X<18446744073709551616):hiW X=0:=by unfold hiW;rw[Vn h];rfl
theorem bit0(X:Nat):decide (jf .and .u64 (loW X) 1=1)=(X % 2 == 1):=by
 have h:=qdH (X % 18446744073709551616) 1 1 rfl (Va _ (by decide)) (by decide)
 unfold loW;rw[show(1:Int)=((1:Nat):Int) from rfl,h,qhq];have:X % 18446744073709551616 % 2^1=X % 2:=by omega
 rw[this];by_cases hx:X % 2=1 <;> simp[hx]
theorem qxy(w:Nat)(hw:w<18446744073709551616):decide (jf .and .u64 (w:Int) 1=1)=(w % 2 == 1):=by
 have:=bit0 w
 rwa [qbT hw]at this
theorem qnA(p:qnz×Int)(y:Int×Int)(hg:(dc qnk (d1 (cI .u8))).good p)(h:Z6 p=some y):qkF p.1 p.2=some y:=by
 obtain⟨⟨neg,hi,lo,e,rest⟩,mode⟩:=p;obtain⟨⟨_,hhi,hlo,he,_⟩,_⟩:=hg;obtain⟨H,rfl,hH⟩:=Yn hhi;obtain⟨L,rfl,hL⟩:=Yn hlo;obtain⟨hguard,h⟩:=qI h;have:=soi h;subst this
 simp only[zh,VS,zM]at hguard;obtain⟨hM0,he1,he2⟩:=hguard;unfold qkF;simp only[]at *
 obtain⟨M,hM⟩:∃M,M=jG ((H:Int),(L:Int)):=⟨_,rfl⟩
 rw[← hM]at hM0 ⊢;have hMlt:M<340282366920938463463374607431768211456:=by rw[hM,YX];simp only[zn];omega
 have hMne:M≠0:=fun e=>by rw[e]at hM0;simp at hM0
 have hbl:qr M≤128:=j4.2 hMlt
 have hbp:=jY hMne;obtain⟨E,hE⟩:∃E:Nat,(e+6000).toNat=E:=⟨_,rfl⟩
 have hEe:e=(E:Int)-6000:=by omega
 rw[hE];have hSH:=qpu;obtain⟨Q,hQ⟩:∃Q,qN M E=Q:=⟨_,rfl⟩
 have hQv:Q=qr M+E-53-4926:=by rw[← hQ];unfold qN;rw[hSH]
 have q0:IntKind.i64.wrap (IntKind.i64.wrap ((qr M:Int)-53)+e)=(qr M:Int)-53+e:=by
  rw[w64 (n:=(qr M:Int)-53) (by omega) (by omega),w64 (by omega) (by omega)]
 have qv:max ((qr M:Int)-53+e) (-1074)=(Q:Int)-1074:=by omega
 have hdv:IntKind.i64.wrap ((Q:Int)-1074-e)=(Q:Int)+4926-E:=by rw[w64 (by omega) (by omega)];omega
 rw[q0,qv,hdv];have hkl:=qbJ M E;have hkg:=qbK (E:=E) hMne
 rw[hQ]at hkg;have hDN:dN M E=Q+4926-E:=by unfold dN;rw[hQ,hSH]
 -- the first part
 refine obs (t:=(mode,(qr M:Int),(Q:Int)-1074,hfN M E,(rest||rsN M E),neg,(H:Int),(L:Int),e,rest,(0:Int),((yt M E:Nat):Int),())) ?_ ?_
 · by_cases hd:(0:Int)<(Q:Int)+4926-E
   · obtain⟨D,hD⟩:∃D,dN M E=D+1:=⟨dN M E-1,by omega⟩
     have e1:IntKind.i64.wrap ((Q:Int)+4926-E-1)=(D:Int):=by rw[w64 (by omega) (by omega)];omega
     have e2:hfN M E=(M / 2^D % 2 == 1):=by unfold hfN;rw[hD];rfl
     have e3:rsN M E = !(M % 2^D == 0):=by unfold rsN;rw[hD];rfl
     have e4:yt M E=M / 2^D / 2:=by
      unfold yt;rw[hQ,hSH,show E-(Q+4926)=0 by omega,show Q+4926-E=D+1 by omega,Vc,KW,z7,Kl]
     have hX:M / 2^D<340282366920938463463374607431768211456:=KZ (Vy _ _) hMlt
     have e5:∀x:Nat,(x == 0)=Nat.beq x 0:=fun x=>by rw[beq_dec];rfl
     rw[zf hd,zd,e1,zn,bit0,qwf hX,e2,e3,e5,e4];have e6:M / 2^D / 2^Int.toNat 1=M / 2^D / 2:=by rw[Int.toNat_one,Nat.pow_one]
     rw[e4]at hkl;cases rest with
     | true=>
      rw[zd,Bool.true_or,e6,qbT (by omega),qeY (by omega)]
     | false=>
      rw[zo,WO,e6,qbT (by omega),qeY (by omega)]
   · have hD:dN M E=0:=by omega
     have e1:IntKind.i64.wrap (0-((Q:Int)+4926-E))=((E-(Q+4926):Nat):Int):=by rw[w64 (by omega) (by omega)];omega
     have e2:hfN M E=false:=by unfold hfN;rw[hD];rfl
     have e3:rsN M E=false:=by unfold rsN;rw[hD];rfl
     have e4:yt M E=M*2^(E-(Q+4926)):=by
      unfold yt;rw[hQ,hSH,show Q+4926-E=0 by omega,Vc,WQ]
     rw[zp hd,zo,e1,zn,e2,e3,e4,Bool.or_false,zI (2^_)];rw[e4]at hkl;rw[qbT (by omega),qeY (by omega)]
 · -- up or not
   simp only[];obtain⟨u,hu⟩:∃u,upN neg mode (yt M E % 2 == 1) (hfN M E) (rest||rsN M E)=u:=⟨_,rfl⟩
   rw[qxy _ (by omega),hu];obtain⟨w,hw⟩:∃w,yt M E=w:=⟨_,rfl⟩
   have hfl:Q8 M E=Q*4503599627370496+w:=by rw[J2,hQ,hw]
   have hRN:RN neg mode M E rest=sgN neg+qnl (twN neg mode) (Q*4503599627370496+w+u.toNat):=by
    unfold RN;rw[hM0,zo,hu,hfl]
   have hflN:∀sm,flN neg mode M E rest sm=(bif Nat.ble (Q*4503599627370496+w+u.toNat) yk then(bif hfN M E||(rest||rsN M E)then(bif sm then 3 else 1)else 0)else 5):=fun sm=>by
    unfold flN;rw[hu,hfl]
   rw[hRN,hflN,hw];rw[hw]at hkl hkg;generalize hfN M E=hf
   generalize (rest||rsN M E)=rs
   refine obs (t:=(mode,(qr M:Int),(Q:Int)-1074,hf,rs,((w+u.toNat:Nat):Int),neg,(H:Int),(L:Int),e,rest,(0:Int),(w:Int),())) ?_ ?_
   · cases u with
     | true=>rw[zd,yj (by omega) (by omega)];rfl
     | false=>rw[zo];rfl
   · simp only[]
     have hu1:u.toNat≤1:=by cases u <;> decide
     obtain⟨w1,hw1⟩:∃w1,w+u.toNat=w1:=⟨_,rfl⟩
     rw[Kp,hw1];have hw1l:w1≤9007199254740992:=by omega
     have hw1g:4503599627370496≤w1∨Q=0:=by rcases hkg with h | h;exact .inl (by omega);exact .inr h
     -- normalized
     obtain⟨Q2,w2,hK,hw2,hw2g,hQ2,hn⟩:∃Q2 w2:Nat,Q2*4503599627370496+w2=Q*4503599627370496+w1∧w2<9007199254740992∧(4503599627370496≤w2∨Q2=0)∧Q2≤Q+1 ∧
      (if w1=9007199254740992 then Q2=Q+1∧w2=4503599627370496 else Q2=Q∧w2=w1):=by
      by_cases h5:w1=9007199254740992
      · exact⟨Q+1,4503599627370496,by omega,by omega,.inl (by omega),by omega,by rw[zZ h5];exact⟨rfl,rfl⟩⟩
      · exact⟨Q,w1,rfl,by omega,hw1g,by omega,by rw[zP h5];exact⟨rfl,rfl⟩⟩
     refine obs (t:=(mode,(qr M:Int),(Q2:Int)-1074,hf,rs,(w2:Int),neg,(H:Int),(L:Int),e,rest,(0:Int),(w:Int),())) ?_ ?_
     · by_cases h5:w1=9007199254740992
       · rw[zZ h5]at hn
         obtain⟨rfl,rfl⟩:=hn;rw[zf (by omega),zd,h5,w64 (by omega) (by omega)];have:Int.fdiv ((9007199254740992:Nat):Int) (2^1)=((4503599627370496:Nat):Int):=by rw[qa7]
         rw[this,show(Q:Int)-1074+1=((Q+1:Nat):Int)-1074 by omega]
       · rw[zP h5]at hn
         obtain⟨rfl,rfl⟩:=hn;rw[zp (by omega),zo]
     · simp only[]
       rw[← hK];unfold qnl yk;by_cases hov:(971:Int)<(Q2:Int)-1074
       · have hb:Nat.ble (Q2*4503599627370496+w2) 9218868437227405311=false:=by
          rw[qbM];exact zp (by omega)
         rw[zf hov,zd,hb,zo,zo];unfold ovN;rw[show(9218868437227405311:Nat)+1=9218868437227405312 from rfl]
       · have hb:Nat.ble (Q2*4503599627370496+w2) 9218868437227405311=true:=by
          rw[qbM];exact zf (by omega)
         rw[zp hov,zo,hb,zd,zd]
         -- the float is put together
         have hsm:decide (IntKind.i64.wrap ((qr M:Int)+e)≤-1022)=decide ((qr M:Int)+e≤-1022):=by rw[w64 (by omega) (by omega)]
         have hmake:∀(ex:Int),ex=(if 4503599627370496≤w2 then(Q2:Int)+1 else 0)→Zj (neg,(ex,(jf .and .u64 (w2:Int) 4503599627370495)))=some (((sgN neg+(Q2*4503599627370496+w2):Nat):Int),0):=by
          intro ex hex;have hm:=qdH w2 4503599627370495 52 rfl (by omega) (by omega)
          rw[show((4503599627370495:Nat):Int)=4503599627370495 from rfl]at hm;unfold Zj;simp only[hm];have hr:0≤ex∧ex≤2047:=by rw[hex];split <;> omega
          rw[zf hr.1,zf hr.2,zf (by omega)];simp only[Kq,zd]
          congr 2
          rw[hex];split <;> omega
         rw[hsm];generalize decide ((qr M:Int)+e≤-1022)=sm
         have hor:jf .or .u8 1 2=3:=by decide
         have hexp:IntKind.i64.wrap (IntKind.i64.wrap ((Q2:Int)-1074-(-1074))+1)=(Q2:Int)+1:=by
          rw[w64 (n:=(Q2:Int)-1074-(-1074)) (by omega) (by omega),w64 (by omega) (by omega)];omega
         have hfd:decide (Int.fdiv (w2:Int) (2^52)=1)=decide (4503599627370496≤w2):=by
          rw[qa7,show(1:Int)=((1:Nat):Int) from rfl,qhq];by_cases h4:4503599627370496≤w2
          · rw[zf h4,zf (by omega)]
          · rw[zp h4,zp (by omega)]
         by_cases h4:4503599627370496≤w2
         · have hm:=hmake ((Q2:Int)+1) (by rw[zZ h4])
           rw[zf h4]at hfd;cases hf <;> cases rs <;> cases sm <;> simp only[zd,zo,zk,hfd,hexp,hm,hor,Bool.or_true,Bool.or_false,Bool.or_self]
         · have hm:=hmake 0 (by rw[zP h4])
           rw[zp h4]at hfd;cases hf <;> cases rs <;> cases sm <;> simp only[zd,zo,zk,hfd,hexp,hm,hor,Bool.or_true,Bool.or_false,Bool.or_self]
end
end Su
end
section
namespace Su
open Go Fly
noncomputable section
def qhE:Stp (ByteArray×Int×Unit):=fun p0=>(bif(decide (0<(ByteArray.size p0.1:Int)))then
 (bif(decide (0≤(IntKind.wrap .i64 ((ByteArray.size p0.1:Int)-1))))then
 ((p0.1)[(Int.toNat (IntKind.wrap .i64 ((ByteArray.size p0.1:Int)-1)))]?).bind fun x1=>
 (bif(decide ((UInt8.toNat x1:Int)=p0.2.1))then
 (bif((true&&(decide (0≤(IntKind.wrap .i64 ((ByteArray.size p0.1:Int)-1)))))&&(decide ((IntKind.wrap .i64 ((ByteArray.size p0.1:Int)-1))≤(ByteArray.size p0.1:Int))))then
 some (.inl ((ByteArray.extract p0.1 0 (Int.toNat (IntKind.wrap .i64 ((ByteArray.size p0.1:Int)-1)))),p0.2.1,()))
 else none)
 else
  some (.inr (p0.1,p0.2.1,())))
 else none)
 else
  some (.inr (p0.1,p0.2.1,())))
def tRB  (fu:Nat)(s:ByteArray)(c:Int):Option ByteArray :=
 (itP fu (qhE) (s,c,())).bind fun x2=>
 some x2.1
theorem qql(x:UInt8)(c:UInt8):decide (((x.toNat:Nat):Int)=((c.toNat:Nat):Int))=(x == c):=by
 by_cases h:x=c
 · subst h;simp
 · have : ¬(((x.toNat:Nat):Int)=((c.toNat:Nat):Int)):=fun e=>h (UInt8.toNat_inj.1 (by omega))
   rw[zp this];simp[h]
theorem asU8{c:Int}(h:inR .u8 c=true):∃d:UInt8,c=((d.toNat:Nat):Int):=by
 unfold inR at h;simp only[zh,zM]at h;obtain⟨h1,h2⟩:=h;have h1:0≤c:=h1
 have h2:c≤255:=h2
 refine⟨UInt8.ofNat c.toNat,?_⟩
 rw[UInt8.toNat_ofNat'];omega
theorem ql4(c:UInt8):∀(k:Nat) (l:List UInt8),l.length=k→k≤9223372036854775807→∃n,itP n qhE (bs l,((c.toNat:Nat):Int),())=some (bs (yv c l),((c.toNat:Nat):Int),())
 | 0,l,h,_=>by
  have:l=[]:=KM.1 h
  subst this;exact⟨1,rfl⟩
 | k+1,l,h,hk=>by
  rcases WG l with h0 | ⟨A,x,h0⟩
  · rw[h0]at h;cases h
  · rw[WB]at h0
    subst h0;have hA:A.length=k:=by simpa using h
    have hs:(bs (A++[x])).size=k+1:=by rw[jO];exact h
    have hw:IntKind.i64.wrap ((((bs (A++[x])).size:Nat):Int)-1)=(k:Int):=by rw[hs,w64 (by omega) (by omega)];omega
    have d0:decide ((0:Int)<(((bs (A++[x])).size:Nat):Int))=true:=zf (by rw[hs];omega)
    have d1:decide ((0:Int)≤(k:Int))=true:=zf (by omega)
    have d2:decide ((k:Int)≤(((bs (A++[x])).size:Nat):Int))=true:=zf (by rw[hs];omega)
    have g:(bs (A++[x]))[k]?=some x:=by rw[qvO,← hA,Kj (zJ _),Wm];rfl
    have e:(bs (A++[x])).extract 0 k=bs A:=by
     rw[qpI,Vk,Vv,← hA,VE]
    cases hx:x == c with
    | true=>
     obtain⟨n,q⟩:=ql4 c k A hA (by omega)
     refine⟨n+1,?_⟩
     rw[jS];simp only[qhE,hw,d0,d1,d2,zn,g,e,qql,hx,zd,zk,Kq,Qw];exact q
    | false=>
     refine⟨1,?_⟩
     rw[jS];simp only[qhE,hw,d0,d1,zn,g,qql,hx,zd,zo,zk,Qw]
def qji(p:ByteArray×Int):Option ByteArray:=bif decide (0≤p.2)&&Nat.ble (lb p.1).length 549755813888 then some (bs (yv (UInt8.ofNat p.2.toNat) (lb p.1)))else none
theorem qwg(p:ByteArray×Int)(y:ByteArray)(hg:(dc cS (d1 (cI .u8))).good p)(h:qji p=some y):∃n,tRB n p.1 p.2=some y:=by
 obtain⟨s,c⟩:=p;obtain⟨d,rfl⟩:=asU8 hg.2;obtain⟨h1,h2⟩:=qI h;have:=soi h2;subst this
 rw[zh]at h1;obtain⟨n,q⟩:=ql4 d (lb s).length (lb s) rfl (by have:=zw h1.2;simp only[]at this;omega)
 refine⟨n,?_⟩
 rw[qi1]at q;show tRB n s _=_
 unfold tRB;refine obs q ?_
 simp only[zn,UInt8.ofNat_toNat]
def zs(n:Nat):List UInt8:=List.replicate n 48
theorem b1(k:Nat)(h:k<10):IntKind.u8.wrap (IntKind.i64.wrap (48+(k:Int)))=((48+k:Nat):Int):=by
 rw[w64 (by omega) (by omega)];have:IntKind.u8.wrap ((48+k:Nat):Int)=((48+k:Nat):Int):=qat (by unfold inR;simp;exact⟨by show(0:Int)≤_;omega,by show _≤(255:Int);omega⟩)
 rw[show(48+(k:Int))=((48+k:Nat):Int) by omega,this]
theorem tdN(n:Nat):Int.tdiv (n:Int) 10=((n / 10:Nat):Int):=rfl
theorem tmN(n:Nat):Int.tmod (n:Int) 10=((n % 10:Nat):Int):=rfl
end
end Su
end
section
namespace Su
open Go Fly
noncomputable section
def bLen  (x:Int):Option Int :=
 some (qr x.toNat:Int)
end
end Su
end
section
namespace Su
open Go Fly
noncomputable section
def qtr:(Int×(List Int)×(List Int)×Int×Unit)→Option ((Int×(List Int)×(List Int)×Int×Unit) ⊕ (Lp (Int×(List Int)×(List Int)×Int×Unit) ((List Int)×Int))):=fun p0=>(bif(decide (0≤p0.2.2.2.1))then
 (y8 (p0.2.1,p0.2.1)).bind fun x1=>
 (bif(decide (0≤p0.2.2.2.1))then
 (bif(decide ((Fly.jf Go.BinOp.and .i64 (Int.fdiv p0.1 (2^(min p0.2.2.2.1.toNat 64))) 1)=1))then
 (y8 (x1,p0.2.2.1)).bind fun x2=>
 (Len x2).bind fun x3=>
 (bif(decide (65536<x3))then
 some (.inr (.ret ([],(20:Int))))
 else
  some (.inl (p0.1,x2,p0.2.2.1,(IntKind.wrap .i64 (p0.2.2.2.1-1)),())))
 else
  (Len x1).bind fun x4=>
  (bif(decide (65536<x4))then
  some (.inr (.ret ([],(20:Int))))
 else
  some (.inl (p0.1,x1,p0.2.2.1,(IntKind.wrap .i64 (p0.2.2.2.1-1)),()))))
 else none)
 else
  some (.inr (.exit 1 (p0.1,p0.2.1,p0.2.2.1,p0.2.2.2.1,()))))
def qbU:(Int×(List Int)×(List Int)×Int×Unit)→Option ((Int×(List Int)×(List Int)×Int×Unit) ⊕ (Lp (Int×(List Int)×(List Int)×Int×Unit) ((List Int)×Int))):=fun p10=>(bif(decide (0≤p10.2.2.2.1))then
 (y8 (p10.2.1,p10.2.1)).bind fun x11=>
 (bif(decide (0≤p10.2.2.2.1))then
 (bif(decide ((Fly.jf Go.BinOp.and .i64 (Int.fdiv p10.1 (2^(min p10.2.2.2.1.toNat 64))) 1)=1))then
 (y8 (x11,p10.2.2.1)).bind fun x12=>
 (Len x12).bind fun x13=>
 (bif(decide (65536<x13))then
 some (.inr (.ret ([],(20:Int))))
 else
  some (.inl (p10.1,x12,p10.2.2.1,(IntKind.wrap .i64 (p10.2.2.2.1-1)),())))
 else
  (Len x11).bind fun x14=>
  (bif(decide (65536<x14))then
  some (.inr (.ret ([],(20:Int))))
 else
  some (.inl (p10.1,x11,p10.2.2.1,(IntKind.wrap .i64 (p10.2.2.2.1-1)),()))))
 else none)
 else
  some (.inr (.exit 1 (p10.1,p10.2.1,p10.2.2.1,p10.2.2.2.1,()))))
def qts  (fu:Nat)(x:Int)(n:Int):Option ((List Int)×Int) :=
 (bif(decide (n≤0))then
 some ((ofN 1),(0:Int))
 else
  (bif(decide (x<2))then
  some ((ofN (qd [(IntKind.wrap .u32 x),(IntKind.wrap .u32 (Int.fdiv x (2^32)))])),(0:Int))
 else
  (bif(decide (65536<n))then
  (bif(decide (65536<n))then
  some ([],(20:Int))
 else
  (itP fu (qtr) (n,(ofN 1),(ofN (qd [(IntKind.wrap .u32 x),(IntKind.wrap .u32 (Int.fdiv x (2^32)))])),(IntKind.wrap .i64 ((((qr (Int.toNat (IntKind.wrap .u64 n))):Nat):Int)-1)),())).bind fun x5=>
  (match x5 with
 | .exit i6 p7=>(bif(Nat.beq i6 1)then
  some (p7.2.1,(0:Int))
 else none)
 | .ret o8=>some o8))
 else
  (Len (ofN (qd [(IntKind.wrap .u32 x),(IntKind.wrap .u32 (Int.fdiv x (2^32)))]))).bind fun x9=>
  (bif(decide (65536≤(IntKind.wrap .i64 ((IntKind.wrap .i64 (x9-1))*n))))then
  some ([],(20:Int))
 else
  (itP fu (qbU) (n,(ofN 1),(ofN (qd [(IntKind.wrap .u32 x),(IntKind.wrap .u32 (Int.fdiv x (2^32)))])),(IntKind.wrap .i64 ((((qr (Int.toNat (IntKind.wrap .u64 n))):Nat):Int)-1)),())).bind fun x15=>
  (match x15 with
 | .exit i16 p17=>(bif(Nat.beq i16 1)then
  some (p17.2.1,(0:Int))
 else none)
 | .ret o18=>some o18)))))
def qwh  (n:Int):Option (List Int) :=
 (qeT ((ofN 1),n)).bind fun x0=>
 some x0.1
theorem Jr(a b:Nat):qr (a*b)≤qr a+qr b:=by
 rw[j4,zS];have h1:=y9 a;have h2:=y9 b;exact Nat.mul_lt_mul'' h1 h2
theorem Z7(v:Nat):(ofN v).length≤qr v / 32+1:=by
 refine qtn ?_
 rw[qdb];exact Kw (y9 v) (Ka (by omega) (by omega))
theorem qdc{u v:Nat}(h1:qr u≤100000)(h2:qr v≤100000):y8 (ofN u,ofN v)=some (ofN (u*v)):=by
 unfold y8;have l1:=Z7 u;have l2:=Z7 v;simp only[valN_ofN];rw[zK (by omega)];rfl
theorem quA{u v:Nat}(h1:qr u≤100000)(h2:qr v≤100000):qgg (ofN u,ofN v)=some (ofN (u+v)):=by
 unfold qgg;have l1:=Z7 u;have l2:=Z7 v;simp only[valN_ofN];rw[zK (by omega)];rfl
theorem quB{u v:Nat}(h1:qr u≤100000)(h2:qr v≤100000)(hv:v≠0):qeX (ofN u,ofN v)=some (ofN (u / v),ofN (u % v),0):=by
 have l1:=Z7 u;have l2:=Z7 v;exact qv9 (by omega) (by omega) hv
theorem qeZ{v:Nat}(h:qr v≤100000):Len (ofN v)=some ((qr v:Nat):Int):=by
 have:=qhA (ofN v) (by rw[valN_ofN];omega)
 rwa [valN_ofN]at this
theorem J8(m:Nat):qr (10^m)≤4*m+1:=by
 have h:10^m≤2^(4*m):=by
  rw[Nat.pow_mul];exact Nat.pow_le_pow_left (by decide) m
 rw[j4];have:=Nat.pow_lt_pow_right (a:=2) (by omega) (show 4*m<4*m+1 by omega)
 omega
theorem qtt{a:Nat}(ha:a<9223372036854775808):decide (Fly.jf .and .i64 (a:Int) 1=1)=decide (a % 2=1):=by
 have:Fly.jf .and .i64 (a:Int) 1=((a % 2:Nat):Int):=by
  show IntKind.i64.wrap (((BitVec.ofInt 64 (a:Int) &&& BitVec.ofInt 64 ((1:Nat):Int)).toNat:Nat):Int)=_
  have h:=and_mask a 1
  rw[show 2^1-1=1 from rfl,show 2^1=2 from rfl]at h;rw[WN,QA a (by omega),QA _ (by omega),h];exact w64 (by omega) (by omega)
 rw[this];by_cases h:a % 2=1
 · rw[zf h,zf (by omega)]
 · rw[zp h,zp (by omega)]
theorem ql5:qr 10≤4:=by decide
theorem ql6(N:Nat)(hN:N≤10000):∀(j:Nat),j≤60 →
 ∃n,itP n qbU ((N:Int),ofN (10^(N / 2^j)),ofN 10,(j:Int)-1,())=some (.exit 1 ((N:Int),ofN (10^N),ofN 10,-1,()))
 | 0,_=>by
  refine⟨1,?_⟩
  have d0:decide ((0:Int)≤((0:Nat):Int)-1)=false:=by decide
  rw[jS];simp only[qbU,d0,zo,Vc,WQ];rfl
 | j+1,hj=>by
  have ej:(((j+1:Nat):Int)-1)=(j:Int):=by omega
  have d0:decide ((0:Int)≤(j:Int))=true:=zf (by omega)
  have hm:N / 2^(j+1)≤N:=Vy ..
  have hb:=J8 (N / 2^(j+1))
  have m1:=qdc (u:=10^(N / 2^(j+1))) (v:=10^(N / 2^(j+1))) (by omega) (by omega)
  have hq:N / 2^(j+1)=N / 2^j / 2:=by rw[z7,Kl]
  have hw:IntKind.i64.wrap ((j:Int)-1)=(j:Int)-1:=w64 (by omega) (by omega)
  have hmin:min (Int.toNat (j:Int)) 64=j:=by rw[zn];omega
  have hbit:decide (Fly.jf .and .i64 (Int.fdiv (N:Int) (2^j)) 1=1)=decide (N / 2^j % 2=1):=by
   rw[Zn];have:N / 2^j≤N:=Vy ..
   exact qtt (by omega)
  obtain⟨n,q⟩:=ql6 N hN j (by omega)
  have hk:N / 2^j≤N:=Vy ..
  have hkb:=J8 (N / 2^j)
  refine⟨n+1,?_⟩
  rw[jS,ej];by_cases h:N / 2^j % 2=1
  · rw[zf h]at hbit
    have e:10^(N / 2^(j+1))*10^(N / 2^(j+1))*10=10^(N / 2^j):=by
     rw[← zS,← z7]
     congr 1;omega
    have b2:=Jr (10^(N / 2^(j+1))) (10^(N / 2^(j+1)))
    have m2:=qdc (u:=10^(N / 2^(j+1))*10^(N / 2^(j+1))) (v:=10) (by omega) (by have:=ql5;omega)
    rw[e]at m2;have l3:=qeZ (v:=10^(N / 2^j)) (by omega)
    have d3:decide ((65536:Int)<((qr (10^(N / 2^j)):Nat):Int))=false:=zp (by omega)
    simp only[qbU,d0,m1,hmin,hbit,m2,l3,d3,hw,zd,zo,zk];exact q
  · rw[zp h]at hbit
    have e:10^(N / 2^(j+1))*10^(N / 2^(j+1))=10^(N / 2^j):=by
     rw[← zS]
     congr 1;omega
    rw[e]at m1;have l3:=qeZ (v:=10^(N / 2^j)) (by omega)
    have d3:decide ((65536:Int)<((qr (10^(N / 2^j)):Nat):Int))=false:=zp (by omega)
    simp only[qbU,d0,m1,hmin,hbit,l3,d3,hw,zd,zo,zk];exact q
theorem qtu:ofN (qd [(IntKind.wrap .u32 10),(IntKind.wrap .u32 (Int.fdiv 10 (2^32)))])=ofN 10:=by decide
def qhF(p:Int×Int):Option (List Int×Int):=bif decide (p.1=10)&&decide (p.2≤10000)then some (ofN (10^p.2.toNat),0)else none
theorem qtv(p:Int×Int)(y:List Int×Int)(hg:(dc (cI .u64) (d1 (cI .i64))).good p)(h:qhF p=some y):∃n,qts n p.1 p.2=some y:=by
 obtain⟨x,n⟩:=p;obtain⟨h1,h2⟩:=qI h;have:=soi h2;subst this
 simp only[zh,zM]at h1;obtain⟨rfl,hn⟩:=h1;simp only[];by_cases h0:n≤0
 · refine⟨0,?_⟩
   unfold qts;rw[zf h0,zd,show n.toNat=0 by omega]
 · obtain⟨N,rfl⟩:=VT (show 0≤n by omega)
   have hb:qr N≤60:=j4.2 (by omega)
   obtain⟨m,q⟩:=ql6 N (by omega) (qr N) hb
   rw[Vn (y9 N)]at q;refine⟨m,?_⟩
   unfold qts;have d1:decide ((10:Int)<2)=false:=by decide
   have d2:decide ((65536:Int)<(N:Int))=false:=zp (by omega)
   have l10:=qeZ (v:=10) (by have:=ql5;omega)
   have e10:qr 10=4:=by decide
   rw[e10]at l10;have w1:IntKind.i64.wrap (((4:Nat):Int)-1)=3:=by decide
   have w2:IntKind.i64.wrap (3*(N:Int))=3*(N:Int):=w64 (by omega) (by omega)
   have d3:decide ((65536:Int)≤3*(N:Int))=false:=zp (by omega)
   have w3:IntKind.u64.wrap (N:Int)=(N:Int):=yj (by omega) (by omega)
   have w4:IntKind.i64.wrap (((qr N:Nat):Int)-1)=((qr N:Nat):Int)-1:=w64 (by omega) (by omega)
   rw[zp h0,zo,d1,zo,d2,zo,qtu,l10,zk,w1,w2,d3,zo,w3,zn,w4];exact obs q rfl
def Z8(n:Int):Option (List Int):=bif decide (n≤60000)then some (ofN (2^n.toNat))else none
theorem Q9(k:Nat):qr (2^k)=k+1:=qlE (zJ _) (Nat.pow_lt_pow_right (by omega) (by omega))
theorem qxz{v:Nat}(h:qr v≤100000):okS (ofN v)=true:=by
 rw[qp1];have:=Z7 v
 exact zK (by omega)
theorem qqm{v:Nat}{n:Int}(hv:v≠0)(h:qr v+n.toNat≤65536):qeT (ofN v,n)=some (ofN (v*2^n.toNat),0):=by
 unfold qeT;simp only[];have e:(max n 0).toNat=n.toNat:=by omega
 rw[qxz (by omega),zd,valN_ofN,e,qlQ];unfold qlP;rw[zP hv,zP (by omega)]
theorem qtw(n:Int)(y:List Int)(hg:(d1 (cI .i64)).good n)(h:Z8 n=some y):qwh n=some y:=by
 obtain⟨h1,h2⟩:=qI h;have:=soi h2;subst this
 have h1:n≤60000:=KS h1
 have e1:qr 1=1:=by decide
 unfold qwh;have:=qqm (v:=1) (n:=n) (by omega) (by omega)
 rw[this,zk,KO]
end
end Su
end
section
namespace Su
open Go Fly
noncomputable section
def qbV(neg:Bool)(mode:Int) :=
 fun x5001 x5002=>
 bif(decide (0<(IntKind.wrap .i64 (63-(IntKind.wrap .i64 (x5001-x5002))))))then
 some ((((RN neg mode (jG ((0:Int),(9223372036854775808:Int))) (Int.toNat ((-5000)+6000)) true):Nat):Int),(flN neg mode (jG ((0:Int),(9223372036854775808:Int))) (Int.toNat ((-5000)+6000)) true (decide (((((qr (jG ((0:Int),(9223372036854775808:Int)))):Nat):Int)+(-5000))≤(-1022)))))
 else
  some ((((RN neg mode (jG ((0:Int),(9223372036854775808:Int))) (Int.toNat (5000+6000)) true):Nat):Int),(flN neg mode (jG ((0:Int),(9223372036854775808:Int))) (Int.toNat (5000+6000)) true (decide (((((qr (jG ((0:Int),(9223372036854775808:Int)))):Nat):Int)+5000)≤(-1022)))))
def ql7  (neg:Bool)(num:(List Int))(den:(List Int))(mode:Int):Option (Int×Int) :=
 (Len num).bind fun x0=>
 (bif(decide (x0=0))then
 some ((0:Int),(0:Int))
 else
  (Len den).bind fun x1=>
  (bif(decide (x1=0))then
  some ((0:Int),(0:Int))
 else
  (Len num).bind fun x2=>
  (Len den).bind fun x3=>
  (bif(decide ((IntKind.wrap .i64 (63-(IntKind.wrap .i64 (x2-x3))))<(-5000)))then
  (qbV neg mode x2 x3)
 else
  (bif(decide (5000<(IntKind.wrap .i64 (63-(IntKind.wrap .i64 (x2-x3))))))then
  (qbV neg mode x2 x3)
 else
  (Z8 (IntKind.wrap .i64 (63-(IntKind.wrap .i64 (x2-x3))))).bind fun x4=>
  (y8 (num,x4)).bind fun x5=>
  (Z8 (IntKind.wrap .i64 (0-(IntKind.wrap .i64 (63-(IntKind.wrap .i64 (x2-x3))))))).bind fun x6=>
  (y8 (den,x6)).bind fun x7=>
  (qeX (x5,x7)).bind fun x8=>
  (qtd x8.1).bind fun x9=>
  (Len x8.2.1).bind fun x10=>
  (Z6 ((neg,(0:Int),x9.1,(IntKind.wrap .i64 (0-(IntKind.wrap .i64 (63-(IntKind.wrap .i64 (x2-x3)))))),(decide (0<x10))),mode)).bind fun x11=>
  some x11))))
theorem qwi{M:Nat}(h:M<18446744073709551616):qtd (ofN M)=some ((M:Int),true):=by
 have hb:qr M≤64:=j4.2 h
 have hw:=qeO M;have a0:=QP hw 0
 have a1:=QP hw 1
 obtain⟨p1,p2⟩:=ym hw 0
 obtain⟨p3,p4⟩:=ym hw 1
 have v0:=YW (ofN M) 0
 have v1:=YW (ofN M) 1
 rw[Vk,valN_ofN]at v0;simp only[zr,Nat.reduceAdd]at v0 v1;obtain⟨X,hX⟩:=VT p1;obtain⟨Y,hY⟩:=VT p3;rw[hX]at a0 p2 v0;rw[hY]at a1 p4 v1;rw[zn]at v0 v1;have hz:qd ((ofN M).drop 2)=0:=by omega
 have hM:M=X+Y*2^32:=by omega
 unfold qtd;have d0:decide ((64:Int)<((qr M:Nat):Int))=false:=zp (by omega)
 have a0':At (ofN M) 0=some (X:Int):=a0
 have a1':At (ofN M) 1=some (Y:Int):=a1
 have w1:IntKind.u64.wrap ((Y:Int)*(2^32))=((Y*2^32:Nat):Int):=by
  rw[yj (by omega) (by omega)];omega
 rw[qeZ (by omega),zk,d0,zo,a0',zk,a1',zk,w1,qau _ _ (by omega) (by omega),qeS (by omega),← hM]
def jw(N D:Nat):Int:=((qr N:Nat):Int)-((qr D:Nat):Int)-63
def Zw(N D:Nat):Nat:=N*2^(-jw N D).toNat
def YY(N D:Nat):Nat:=D*2^(jw N D).toNat
def Zx(N D:Nat):Nat:=Zw N D / YY N D
def qe0(N D:Nat):Bool:=decide (0<((qr (Zw N D % YY N D):Nat):Int))
def quC:{f:Bool→Int→Nat→Nat→Nat // ∀neg mode N D,f neg mode N D=RN neg mode (Zx N D) (jw N D+6000).toNat (qe0 N D)}:=Classical.choice ⟨⟨_,fun _ _ _ _=>rfl⟩⟩
def J9(neg:Bool)(mode:Int)(N D:Nat):Nat:=quC.1 neg mode N D
theorem qjj(neg:Bool)(mode:Int)(N D:Nat):J9 neg mode N D=RN neg mode (Zx N D) (jw N D+6000).toNat (qe0 N D):=quC.2 neg mode N D
def qqn(neg:Bool)(mode:Int)(N D:Nat):Int:=flN neg mode (Zx N D) (jw N D+6000).toNat (qe0 N D) (decide ((qr (Zx N D):Int)+jw N D≤-1022))
theorem qax{N D:Nat}(hD:D≠0):0<YY N D:=Wp (Nat.pos_of_ne_zero hD) (zQ _)
theorem qqo{N D:Nat}(hD:D≠0):Zx N D<18446744073709551616:=by
 unfold Zx;rw[KB (qax hD)];have h1:=y9 N;have h2:=Zh hD;have h3:=jY hD;unfold Zw YY;refine Kw (z6 h1 (zQ _)) ?_
 refine KF ?_ (zX _ (zF _ h2))
 rw[← zS,← zS,show(18446744073709551616:Nat)=2^64 from rfl,← zS];refine Ka (by omega) ?_
 unfold jw;omega
theorem qjk{N D:Nat}(hN:N≠0)(hD:D≠0):4611686018427387904≤Zx N D:=by
 unfold Zx;rw[WH (qax hD)];have h1:=Zh hN;have h2:=y9 D;have h3:=jY hN;unfold Zw YY;refine KF ?_ (zF _ h1)
 refine KF (zX _ (zF _ (VZ h2))) ?_
 rw[← zS,← zS,show(4611686018427387904:Nat)=2^62 from rfl,← zS];refine Ka (by omega) ?_
 unfold jw;omega
def JH(p:Bool×List Int×List Int×Int):Option (Int×Int) :=
 bif Nat.beq (qd p.2.1) 0||Nat.beq (qd p.2.2.1) 0 then(bif Nat.ble (qr (qd p.2.1)) 100000&&Nat.ble (qr (qd p.2.2.1)) 100000 then some (0,0)else none)else
 bif((Nat.ble p.2.1.length 100000&&Nat.ble p.2.2.1.length 100000)&&(Nat.ble (qr (qd p.2.1)) 40000&&Nat.ble (qr (qd p.2.2.1)) 40000))&&(decide (-4000≤jw (qd p.2.1) (qd p.2.2.1))&&decide (jw (qd p.2.1) (qd p.2.2.1)≤4000))then
  some (((J9 p.1 p.2.2.2 (qd p.2.1) (qd p.2.2.1):Nat):Int),qqn p.1 p.2.2.2 (qd p.2.1) (qd p.2.2.1))
 else none
theorem qay{a b:Nat}(h:a≤b):qr a≤qr b:=j4.2 (KZ h (y9 b))
theorem ql8{a:List Int}(h:qr (qd a)≤100000):Len a=some ((qr (qd a):Nat):Int):=qhA a (by omega)
theorem quD{a:List Int}{v:Nat}(hl:a.length≤1000000)(h2:qr v≤100000):y8 (a,ofN v)=some (ofN (qd a*v)):=by
 unfold y8;have l2:=Z7 v;simp only[valN_ofN];rw[zK (by omega)];rfl
theorem qqp(p:Bool×List Int×List Int×Int)(y:Int×Int)(hg:(dc cB (dc (cQ 1 1) (dc (cQ 1 1) (d1 (cI .u8))))).good p)(h:JH p=some y):ql7 p.1 p.2.1 p.2.2.1 p.2.2.2=some y:=by
 obtain⟨neg,num,den,mode⟩:=p;simp only[];have ln:num.length≤maxLen:=hg.2.1.2
 have ld:den.length≤maxLen:=hg.2.2.1.2
 unfold JH at h;simp only[]at h;generalize hN:qd num=N at *
 generalize hD:qd den=D at *
 cases hz:Nat.beq N 0||Nat.beq D 0 with
 | true=>
  rw[hz,zd]at h;obtain⟨h1,h2⟩:=qI h;have:=soi h2;subst this
  rw[zh]at h1;have b1:=zw h1.1;have b2:=zw h1.2;have L1:=ql8 (a:=num) (by rw[hN];exact b1)
  have L2:=ql8 (a:=den) (by rw[hD];exact b2)
  rw[hN]at L1;rw[hD]at L2;unfold ql7 qbV;rw[L1,zk];by_cases h0:N=0
  · subst h0;rfl
  · have hd:D=0:=by
     rw[qcE h0,WO]at hz;exact zb hz
    subst hd;have:=jY h0
    rw[zp (show¬((qr N:Nat):Int)=0 by omega),zo,L2];rfl
 | false=>
  rw[hz,zo]at h;obtain⟨h1,h2⟩:=qI h;have:=soi h2;subst this
  simp only[zh,zM]at h1;obtain⟨⟨⟨l1,l2⟩,b1,b2⟩,e1,e2⟩:=h1;have l1:=zw l1;have l2:=zw l2;have b1:=zw b1;have b2:=zw b2;rw[Bool.or_eq_false_iff]at hz;have hN0:N≠0:=fun e=>by rw[e]at hz;exact absurd hz.1 (by decide)
  have hD0:D≠0:=fun e=>by rw[e]at hz;exact absurd hz.2 (by decide)
  have L1:=ql8 (a:=num) (by rw[hN];omega)
  have L2:=ql8 (a:=den) (by rw[hD];omega)
  rw[hN]at L1;rw[hD]at L2;have p1:=jY hN0;have p2:=jY hD0;have w1:IntKind.i64.wrap (63-IntKind.i64.wrap (((qr N:Nat):Int)-((qr D:Nat):Int))) = -jw N D:=by
   unfold jw;rw[w64 (n:=((qr N:Nat):Int)-((qr D:Nat):Int)) (by omega) (by omega),w64 (by omega) (by omega)];omega
  have w2:IntKind.i64.wrap (0 - -jw N D)=jw N D:=by rw[w64 (by omega) (by omega)];omega
  have e11:qr 1=1:=by decide
  have s1:Z8 (-jw N D)=some (ofN (2^(-jw N D).toNat)):=by unfold Z8;rw[zf (by omega)];rfl
  have s2:Z8 (jw N D)=some (ofN (2^(jw N D).toNat)):=by unfold Z8;rw[zf (by omega)];rfl
  have bA:qr (Zw N D)≤100000:=by
   have:=Jr N (2^(-jw N D).toNat)
   rw[Q9]at this;unfold Zw;omega
  have bB:qr (YY N D)≤100000:=by
   have:=Jr D (2^(jw N D).toNat)
   rw[Q9]at this;unfold YY;omega
  have m1:y8 (num,ofN (2^(-jw N D).toNat))=some (ofN (Zw N D)):=by
   rw[quD (by omega) (by rw[Q9];omega),hN];rfl
  have m2:y8 (den,ofN (2^(jw N D).toNat))=some (ofN (YY N D)):=by
   rw[quD (by omega) (by rw[Q9];omega),hD];rfl
  have hB:=qax (N:=N) hD0
  have dv:=quB bA bB (by omega)
  have u:=qwi (qqo (N:=N) hD0)
  have hM:=qjk hN0 hD0;have bR:qr (Zw N D % YY N D)≤100000:=KF (qay (Nat.mod_le _ _)) bA
  have lR:=qeZ bR;have d1:decide (((qr N:Nat):Int)=0)=false:=zp (by omega)
  have d2:decide (((qr D:Nat):Int)=0)=false:=zp (by omega)
  have d3:decide (-jw N D < -5000)=false:=zp (by omega)
  have d4:decide ((5000:Int) < -jw N D)=false:=zp (by omega)
  have vw:jG ((0:Int),((Zx N D:Nat):Int))=Zx N D:=by rw[YX];simp
  have rf:Z6 ((neg,(0:Int),((Zx N D:Nat):Int),jw N D,qe0 N D),mode)=some (((J9 neg mode N D:Nat):Int),qqn neg mode N D):=by
   unfold Z6;simp only[vw];rw[qcE (by omega),zf (show -5000≤jw N D by omega),zf (show jw N D≤5000 by omega),qjj];rfl
  unfold ql7 qbV;refine obs L1 ?_
  rw[d1,zo];refine obs L2 ?_
  rw[d2,zo];refine obs L1 (obs L2 ?_)
  rw[w1,d3,zo,d4,zo,w2];exact obs s1 (obs m1 (obs s2 (obs m2 (obs dv (obs u (obs lR (obs rf rfl)))))))
end
end Su
end
