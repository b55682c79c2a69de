/-
  What functions of the program compute, in plain Lean, and that the evaluator finds it.
-/
import Derived.Test.YtldhknmacepeiaaGreatDoorSuXl
import Derived.Test.YtldhknmacepeiaaGreatDoorNB10
import Derived.Test.YtldhknmacepeiaaGreatDoorSuSd
set_option linter.unusedVariables false
set_option linter.unusedSimpArgs false
set_option maxRecDepth 10000
section
namespace Su
open Go Fly
noncomputable section
def qj5  (x:(Bool×Int×Int×Int×Bool))(mode:Int):Option (Int×Int) :=
 (bif(decide (0<(IntKind.wrap .i64 ((max (IntKind.wrap .i64 ((IntKind.wrap .i64 ((((qj (jz (x.2.1,x.2.2.1))):Nat):Int)-53))+x.2.2.2.1)) (-1074))-x.2.2.2.1))))then
 (bif x.2.2.2.2 then
 some (mode,(((qj (jz (x.2.1,x.2.2.1))):Nat):Int),(max (IntKind.wrap .i64 ((IntKind.wrap .i64 ((((qj (jz (x.2.1,x.2.2.1))):Nat):Int)-53))+x.2.2.2.1)) (-1074)),(decide ((Fly.qB Go.BinOp.and .u64 (loW ((jz (x.2.1,x.2.2.1)) / (2^(Int.toNat (IntKind.wrap .i64 ((IntKind.wrap .i64 ((max (IntKind.wrap .i64 ((IntKind.wrap .i64 ((((qj (jz (x.2.1,x.2.2.1))):Nat):Int)-53))+x.2.2.2.1)) (-1074))-x.2.2.2.1))-1)))))) 1)=1)),true,x.1,x.2.1,x.2.2.1,x.2.2.2.1,x.2.2.2.2,(hiW ((jz ((hiW ((jz (x.2.1,x.2.2.1)) / (2^(Int.toNat (IntKind.wrap .i64 ((IntKind.wrap .i64 ((max (IntKind.wrap .i64 ((IntKind.wrap .i64 ((((qj (jz (x.2.1,x.2.2.1))):Nat):Int)-53))+x.2.2.2.1)) (-1074))-x.2.2.2.1))-1)))))),(loW ((jz (x.2.1,x.2.2.1)) / (2^(Int.toNat (IntKind.wrap .i64 ((IntKind.wrap .i64 ((max (IntKind.wrap .i64 ((IntKind.wrap .i64 ((((qj (jz (x.2.1,x.2.2.1))):Nat):Int)-53))+x.2.2.2.1)) (-1074))-x.2.2.2.1))-1)))))))) / (2^(Int.toNat 1)))),(loW ((jz ((hiW ((jz (x.2.1,x.2.2.1)) / (2^(Int.toNat (IntKind.wrap .i64 ((IntKind.wrap .i64 ((max (IntKind.wrap .i64 ((IntKind.wrap .i64 ((((qj (jz (x.2.1,x.2.2.1))):Nat):Int)-53))+x.2.2.2.1)) (-1074))-x.2.2.2.1))-1)))))),(loW ((jz (x.2.1,x.2.2.1)) / (2^(Int.toNat (IntKind.wrap .i64 ((IntKind.wrap .i64 ((max (IntKind.wrap .i64 ((IntKind.wrap .i64 ((((qj (jz (x.2.1,x.2.2.1))):Nat):Int)-53))+x.2.2.2.1)) (-1074))-x.2.2.2.1))-1)))))))) / (2^(Int.toNat 1)))),())
 else
  some (mode,(((qj (jz (x.2.1,x.2.2.1))):Nat):Int),(max (IntKind.wrap .i64 ((IntKind.wrap .i64 ((((qj (jz (x.2.1,x.2.2.1))):Nat):Int)-53))+x.2.2.2.1)) (-1074)),(decide ((Fly.qB Go.BinOp.and .u64 (loW ((jz (x.2.1,x.2.2.1)) / (2^(Int.toNat (IntKind.wrap .i64 ((IntKind.wrap .i64 ((max (IntKind.wrap .i64 ((IntKind.wrap .i64 ((((qj (jz (x.2.1,x.2.2.1))):Nat):Int)-53))+x.2.2.2.1)) (-1074))-x.2.2.2.1))-1)))))) 1)=1)),(!(Nat.beq ((jz (x.2.1,x.2.2.1)) % (2^(Int.toNat (IntKind.wrap .i64 ((IntKind.wrap .i64 ((max (IntKind.wrap .i64 ((IntKind.wrap .i64 ((((qj (jz (x.2.1,x.2.2.1))):Nat):Int)-53))+x.2.2.2.1)) (-1074))-x.2.2.2.1))-1))))) 0)),x.1,x.2.1,x.2.2.1,x.2.2.2.1,x.2.2.2.2,(hiW ((jz ((hiW ((jz (x.2.1,x.2.2.1)) / (2^(Int.toNat (IntKind.wrap .i64 ((IntKind.wrap .i64 ((max (IntKind.wrap .i64 ((IntKind.wrap .i64 ((((qj (jz (x.2.1,x.2.2.1))):Nat):Int)-53))+x.2.2.2.1)) (-1074))-x.2.2.2.1))-1)))))),(loW ((jz (x.2.1,x.2.2.1)) / (2^(Int.toNat (IntKind.wrap .i64 ((IntKind.wrap .i64 ((max (IntKind.wrap .i64 ((IntKind.wrap .i64 ((((qj (jz (x.2.1,x.2.2.1))):Nat):Int)-53))+x.2.2.2.1)) (-1074))-x.2.2.2.1))-1)))))))) / (2^(Int.toNat 1)))),(loW ((jz ((hiW ((jz (x.2.1,x.2.2.1)) / (2^(Int.toNat (IntKind.wrap .i64 ((IntKind.wrap .i64 ((max (IntKind.wrap .i64 ((IntKind.wrap .i64 ((((qj (jz (x.2.1,x.2.2.1))):Nat):Int)-53))+x.2.2.2.1)) (-1074))-x.2.2.2.1))-1)))))),(loW ((jz (x.2.1,x.2.2.1)) / (2^(Int.toNat (IntKind.wrap .i64 ((IntKind.wrap .i64 ((max (IntKind.wrap .i64 ((IntKind.wrap .i64 ((((qj (jz (x.2.1,x.2.2.1))):Nat):Int)-53))+x.2.2.2.1)) (-1074))-x.2.2.2.1))-1)))))))) / (2^(Int.toNat 1)))),()))
 else
  some (mode,(((qj (jz (x.2.1,x.2.2.1))):Nat):Int),(max (IntKind.wrap .i64 ((IntKind.wrap .i64 ((((qj (jz (x.2.1,x.2.2.1))):Nat):Int)-53))+x.2.2.2.1)) (-1074)),false,x.2.2.2.2,x.1,x.2.1,x.2.2.1,x.2.2.2.1,x.2.2.2.2,(hiW ((2^(Int.toNat (IntKind.wrap .i64 (0-(IntKind.wrap .i64 ((max (IntKind.wrap .i64 ((IntKind.wrap .i64 ((((qj (jz (x.2.1,x.2.2.1))):Nat):Int)-53))+x.2.2.2.1)) (-1074))-x.2.2.2.1))))))*(jz (x.2.1,x.2.2.1)))),(loW ((2^(Int.toNat (IntKind.wrap .i64 (0-(IntKind.wrap .i64 ((max (IntKind.wrap .i64 ((IntKind.wrap .i64 ((((qj (jz (x.2.1,x.2.2.1))):Nat):Int)-53))+x.2.2.2.1)) (-1074))-x.2.2.2.1))))))*(jz (x.2.1,x.2.2.1)))),())).bind fun x0=>
  (bif(upN x0.2.2.2.2.2.1 x0.1 (decide ((Fly.qB Go.BinOp.and .u64 x0.2.2.2.2.2.2.2.2.2.2.2.1 1)=1)) x0.2.2.2.1 x0.2.2.2.2.1)then
  some (x0.1,x0.2.1,x0.2.2.1,x0.2.2.2.1,x0.2.2.2.2.1,(IntKind.wrap .u64 (x0.2.2.2.2.2.2.2.2.2.2.2.1+1)),x0.2.2.2.2.2.1,x0.2.2.2.2.2.2.1,x0.2.2.2.2.2.2.2.1,x0.2.2.2.2.2.2.2.2.1,x0.2.2.2.2.2.2.2.2.2.1,x0.2.2.2.2.2.2.2.2.2.2.1,x0.2.2.2.2.2.2.2.2.2.2.2.1,())
 else
  some (x0.1,x0.2.1,x0.2.2.1,x0.2.2.2.1,x0.2.2.2.2.1,x0.2.2.2.2.2.2.2.2.2.2.2.1,x0.2.2.2.2.2.1,x0.2.2.2.2.2.2.1,x0.2.2.2.2.2.2.2.1,x0.2.2.2.2.2.2.2.2.1,x0.2.2.2.2.2.2.2.2.2.1,x0.2.2.2.2.2.2.2.2.2.2.1,x0.2.2.2.2.2.2.2.2.2.2.2.1,())).bind fun x1=>
  (bif(decide (x1.2.2.2.2.2.1=9007199254740992))then
  some (x1.1,x1.2.1,(IntKind.wrap .i64 (x1.2.2.1+1)),x1.2.2.2.1,x1.2.2.2.2.1,(Int.fdiv x1.2.2.2.2.2.1 (2^1)),x1.2.2.2.2.2.2.1,x1.2.2.2.2.2.2.2.1,x1.2.2.2.2.2.2.2.2.1,x1.2.2.2.2.2.2.2.2.2.1,x1.2.2.2.2.2.2.2.2.2.2.1,x1.2.2.2.2.2.2.2.2.2.2.2.1,x1.2.2.2.2.2.2.2.2.2.2.2.2.1,())
 else
  some (x1.1,x1.2.1,x1.2.2.1,x1.2.2.2.1,x1.2.2.2.2.1,x1.2.2.2.2.2.1,x1.2.2.2.2.2.2.1,x1.2.2.2.2.2.2.2.1,x1.2.2.2.2.2.2.2.2.1,x1.2.2.2.2.2.2.2.2.2.1,x1.2.2.2.2.2.2.2.2.2.2.1,x1.2.2.2.2.2.2.2.2.2.2.2.1,x1.2.2.2.2.2.2.2.2.2.2.2.2.1,())).bind fun x2=>
  (bif(decide (971<x2.2.2.1))then
  some ((ovN x2.2.2.2.2.2.2.1 x2.1:Int),(5:Int))
 else
  (bif x2.2.2.2.1 then
  ((bif(decide ((IntKind.wrap .i64 (x2.2.1+x2.2.2.2.2.2.2.2.2.2.1))≤(-1022)))then
  some (x2.1,x2.2.1,x2.2.2.1,x2.2.2.2.1,x2.2.2.2.2.1,x2.2.2.2.2.2.1,(Fly.qB Go.BinOp.or .u8 1 2),x2.2.2.2.2.2.2.1,x2.2.2.2.2.2.2.2.1,x2.2.2.2.2.2.2.2.2.1,x2.2.2.2.2.2.2.2.2.2.1,x2.2.2.2.2.2.2.2.2.2.2.1,x2.2.2.2.2.2.2.2.2.2.2.2.1,x2.2.2.2.2.2.2.2.2.2.2.2.2.1,())
 else
  some (x2.1,x2.2.1,x2.2.2.1,x2.2.2.2.1,x2.2.2.2.2.1,x2.2.2.2.2.2.1,(1:Int),x2.2.2.2.2.2.2.1,x2.2.2.2.2.2.2.2.1,x2.2.2.2.2.2.2.2.2.1,x2.2.2.2.2.2.2.2.2.2.1,x2.2.2.2.2.2.2.2.2.2.2.1,x2.2.2.2.2.2.2.2.2.2.2.2.1,x2.2.2.2.2.2.2.2.2.2.2.2.2.1,())).bind fun x3=>
  some (x3.1,x3.2.1,x3.2.2.1,x3.2.2.2.1,x3.2.2.2.2.1,x3.2.2.2.2.2.1,x3.2.2.2.2.2.2.1,x3.2.2.2.2.2.2.2.1,x3.2.2.2.2.2.2.2.2.1,x3.2.2.2.2.2.2.2.2.2.1,x3.2.2.2.2.2.2.2.2.2.2.1,x3.2.2.2.2.2.2.2.2.2.2.2.1,x3.2.2.2.2.2.2.2.2.2.2.2.2.1,x3.2.2.2.2.2.2.2.2.2.2.2.2.2.1,())).bind fun x4=>
  (bif(decide ((Int.fdiv x4.2.2.2.2.2.1 (2^52))=1))then
  some (x4.1,x4.2.1,x4.2.2.1,x4.2.2.2.1,x4.2.2.2.2.1,x4.2.2.2.2.2.1,x4.2.2.2.2.2.2.1,(IntKind.wrap .i64 ((IntKind.wrap .i64 (x4.2.2.1-(-1074)))+1)),x4.2.2.2.2.2.2.2.1,x4.2.2.2.2.2.2.2.2.1,x4.2.2.2.2.2.2.2.2.2.1,x4.2.2.2.2.2.2.2.2.2.2.1,x4.2.2.2.2.2.2.2.2.2.2.2.1,x4.2.2.2.2.2.2.2.2.2.2.2.2.1,x4.2.2.2.2.2.2.2.2.2.2.2.2.2.1,())
 else
  some (x4.1,x4.2.1,x4.2.2.1,x4.2.2.2.1,x4.2.2.2.2.1,x4.2.2.2.2.2.1,x4.2.2.2.2.2.2.1,(0:Int),x4.2.2.2.2.2.2.2.1,x4.2.2.2.2.2.2.2.2.1,x4.2.2.2.2.2.2.2.2.2.1,x4.2.2.2.2.2.2.2.2.2.2.1,x4.2.2.2.2.2.2.2.2.2.2.2.1,x4.2.2.2.2.2.2.2.2.2.2.2.2.1,x4.2.2.2.2.2.2.2.2.2.2.2.2.2.1,())).bind fun x5=>
  (Ym (x5.2.2.2.2.2.2.2.2.1,x5.2.2.2.2.2.2.2.1,(Fly.qB Go.BinOp.and .u64 x5.2.2.2.2.2.1 4503599627370495))).bind fun x6=>
  some (x6.1,x5.2.2.2.2.2.2.1)
 else
  (bif x2.2.2.2.2.1 then
  (bif(decide ((IntKind.wrap .i64 (x2.2.1+x2.2.2.2.2.2.2.2.2.2.1))≤(-1022)))then
  some (x2.1,x2.2.1,x2.2.2.1,x2.2.2.2.1,x2.2.2.2.2.1,x2.2.2.2.2.2.1,(Fly.qB Go.BinOp.or .u8 1 2),x2.2.2.2.2.2.2.1,x2.2.2.2.2.2.2.2.1,x2.2.2.2.2.2.2.2.2.1,x2.2.2.2.2.2.2.2.2.2.1,x2.2.2.2.2.2.2.2.2.2.2.1,x2.2.2.2.2.2.2.2.2.2.2.2.1,x2.2.2.2.2.2.2.2.2.2.2.2.2.1,())
 else
  some (x2.1,x2.2.1,x2.2.2.1,x2.2.2.2.1,x2.2.2.2.2.1,x2.2.2.2.2.2.1,(1:Int),x2.2.2.2.2.2.2.1,x2.2.2.2.2.2.2.2.1,x2.2.2.2.2.2.2.2.2.1,x2.2.2.2.2.2.2.2.2.2.1,x2.2.2.2.2.2.2.2.2.2.2.1,x2.2.2.2.2.2.2.2.2.2.2.2.1,x2.2.2.2.2.2.2.2.2.2.2.2.2.1,())).bind fun x7=>
  some (x7.1,x7.2.1,x7.2.2.1,x7.2.2.2.1,x7.2.2.2.2.1,x7.2.2.2.2.2.1,x7.2.2.2.2.2.2.1,x7.2.2.2.2.2.2.2.1,x7.2.2.2.2.2.2.2.2.1,x7.2.2.2.2.2.2.2.2.2.1,x7.2.2.2.2.2.2.2.2.2.2.1,x7.2.2.2.2.2.2.2.2.2.2.2.1,x7.2.2.2.2.2.2.2.2.2.2.2.2.1,x7.2.2.2.2.2.2.2.2.2.2.2.2.2.1,())
 else
  some (x2.1,x2.2.1,x2.2.2.1,x2.2.2.2.1,x2.2.2.2.2.1,x2.2.2.2.2.2.1,(0:Int),x2.2.2.2.2.2.2.1,x2.2.2.2.2.2.2.2.1,x2.2.2.2.2.2.2.2.2.1,x2.2.2.2.2.2.2.2.2.2.1,x2.2.2.2.2.2.2.2.2.2.2.1,x2.2.2.2.2.2.2.2.2.2.2.2.1,x2.2.2.2.2.2.2.2.2.2.2.2.2.1,())).bind fun x8=>
  (bif(decide ((Int.fdiv x8.2.2.2.2.2.1 (2^52))=1))then
  some (x8.1,x8.2.1,x8.2.2.1,x8.2.2.2.1,x8.2.2.2.2.1,x8.2.2.2.2.2.1,x8.2.2.2.2.2.2.1,(IntKind.wrap .i64 ((IntKind.wrap .i64 (x8.2.2.1-(-1074)))+1)),x8.2.2.2.2.2.2.2.1,x8.2.2.2.2.2.2.2.2.1,x8.2.2.2.2.2.2.2.2.2.1,x8.2.2.2.2.2.2.2.2.2.2.1,x8.2.2.2.2.2.2.2.2.2.2.2.1,x8.2.2.2.2.2.2.2.2.2.2.2.2.1,x8.2.2.2.2.2.2.2.2.2.2.2.2.2.1,())
 else
  some (x8.1,x8.2.1,x8.2.2.1,x8.2.2.2.1,x8.2.2.2.2.1,x8.2.2.2.2.2.1,x8.2.2.2.2.2.2.1,(0:Int),x8.2.2.2.2.2.2.2.1,x8.2.2.2.2.2.2.2.2.1,x8.2.2.2.2.2.2.2.2.2.1,x8.2.2.2.2.2.2.2.2.2.2.1,x8.2.2.2.2.2.2.2.2.2.2.2.1,x8.2.2.2.2.2.2.2.2.2.2.2.2.1,x8.2.2.2.2.2.2.2.2.2.2.2.2.2.1,())).bind fun x9=>
  (Ym (x9.2.2.2.2.2.2.2.2.1,x9.2.2.2.2.2.2.2.1,(Fly.qB Go.BinOp.and .u64 x9.2.2.2.2.2.1 4503599627370495))).bind fun x10=>
  some (x10.1,x9.2.2.2.2.2.2.1)))
def flN(neg:Bool)(mode:Int)(M E:Nat)(rest sm:Bool):Int :=
 bif Nat.ble (QA M E+(upN neg mode (yc M E % 2 == 1) (hfN M E) (rest||rsN M E)).toNat) yu then(bif hfN M E||(rest||rsN M E)then(bif sm then 3 else 1)else 0)else 5
def Y9(p:qmT×Int):Option (Int×Int) :=
 bif !Nat.beq (jz (p.1.2.1,p.1.2.2.1)) 0&&(decide (-5000≤p.1.2.2.2.1)&&decide (p.1.2.2.2.1≤5000))then
  some ((RN p.1.1 p.2 (jz (p.1.2.1,p.1.2.2.1)) (p.1.2.2.2.1+6000).toNat p.1.2.2.2.2:Int),flN p.1.1 p.2 (jz (p.1.2.1,p.1.2.2.1)) (p.1.2.2.2.1+6000).toNat p.1.2.2.2.2 (decide ((qj (jz (p.1.2.1,p.1.2.2.1)):Int)+p.1.2.2.2.1≤-1022)))
 else none
theorem qyO{X:Nat}(h:X<340282366920938463463374607431768211456):jz (hiW X,loW X)=X:=by
 rw[J1];unfold hiW loW;simp only[zg];omega
theorem qbg{X:Nat}(h:X<18446744073709551616):loW X=(X:Int):=by unfold loW;rw[Kf h]
theorem qem{X:Nat}(h:X<18446744073709551616):hiW X=0:=by unfold hiW;rw[KN h];rfl
theorem bit0(X:Nat):decide (qB .and .u64 (loW X) 1=1)=(X % 2 == 1):=by
 have h:=qgX (X % 18446744073709551616) 1 1 rfl (Vf _ (by decide)) (by decide)
 unfold loW;rw[show(1:Int)=((1:Nat):Int) from rfl,h,qpc];have:X % 18446744073709551616 % 2^1=X % 2:=by omega
 rw[this];by_cases hx:X % 2=1 <;> simp[hx]
theorem qBt(w:Nat)(hw:w<18446744073709551616):decide (qB .and .u64 (w:Int) 1=1)=(w % 2 == 1):=by
 have:=bit0 w
 rwa [qbg hw]at this
theorem qmU(p:qmT×Int)(y:Int×Int)(hg:(dc qmO (d1 (cI .u8))).good p)(h:Y9 p=some y):qj5 p.1 p.2=some y:=by
 obtain⟨⟨neg,hi,lo,e,rest⟩,mode⟩:=p;obtain⟨⟨_,hhi,hlo,he,_⟩,_⟩:=hg;obtain⟨H,rfl,hH⟩:=YA hhi;obtain⟨L,rfl,hL⟩:=YA hlo;obtain⟨hguard,h⟩:=qi h;have:=soi h;subst this
 simp only[zk,Vw,zD]at hguard;obtain⟨hM0,he1,he2⟩:=hguard;unfold qj5;simp only[]at *
 obtain⟨M,hM⟩:∃M,M=jz ((H:Int),(L:Int)):=⟨_,rfl⟩
 rw[← hM]at hM0 ⊢;have hMlt:M<340282366920938463463374607431768211456:=by rw[hM,J1];simp only[zg];omega
 have hMne:M≠0:=fun e=>by rw[e]at hM0;simp at hM0
 have hbl:qj M≤128:=j9.2 hMlt
 have hbp:=jE hMne;obtain⟨E,hE⟩:∃E:Nat,(e+6000).toNat=E:=⟨_,rfl⟩
 have hEe:e=(E:Int)-6000:=by omega
 rw[hE];have hSH:=qo5;obtain⟨Q,hQ⟩:∃Q,qN M E=Q:=⟨_,rfl⟩
 have hQv:Q=qj M+E-53-4926:=by rw[← hQ];unfold qN;rw[hSH]
 have q0:IntKind.i64.wrap (IntKind.i64.wrap ((qj M:Int)-53)+e)=(qj M:Int)-53+e:=by
  rw[w64 (n:=(qj M:Int)-53) (by omega) (by omega),w64 (by omega) (by omega)]
 have qv:max ((qj M:Int)-53+e) (-1074)=(Q:Int)-1074:=by omega
 have hdv:IntKind.i64.wrap ((Q:Int)-1074-e)=(Q:Int)+4926-E:=by rw[w64 (by omega) (by omega)];omega
 rw[q0,qv,hdv];have hkl:=qa8 M E;have hkg:=qa9 (E:=E) hMne
 rw[hQ]at hkg;have hDN:dN M E=Q+4926-E:=by unfold dN;rw[hQ,hSH]
 -- the first part
 refine obs (t:=(mode,(qj M:Int),(Q:Int)-1074,hfN M E,(rest||rsN M E),neg,(H:Int),(L:Int),e,rest,(0:Int),((yc M E:Nat):Int),())) ?_ ?_
 · by_cases hd:(0:Int)<(Q:Int)+4926-E
   · obtain⟨D,hD⟩:∃D,dN M E=D+1:=⟨dN M E-1,by omega⟩
     have e1:IntKind.i64.wrap ((Q:Int)+4926-E-1)=(D:Int):=by rw[w64 (by omega) (by omega)];omega
     have e2:hfN M E=(M / 2^D % 2 == 1):=by unfold hfN;rw[hD];rfl
     have e3:rsN M E = !(M % 2^D == 0):=by unfold rsN;rw[hD];rfl
     have e4:yc M E=M / 2^D / 2:=by
      unfold yc;rw[hQ,hSH,show E-(Q+4926)=0 by omega,show Q+4926-E=D+1 by omega,KS,K8,zU,zS]
     have hX:M / 2^D<340282366920938463463374607431768211456:=KW (VA _ _) hMlt
     have e5:∀x:Nat,(x == 0)=Nat.beq x 0:=fun x=>by rw[beq_dec];rfl
     rw[za hd,zf,e1,zg,bit0,qyO hX,e2,e3,e5,e4];have e6:M / 2^D / 2^Int.toNat 1=M / 2^D / 2:=by rw[Int.toNat_one,Nat.pow_one]
     rw[e4]at hkl;cases rest with
     | true=>
      rw[zf,Bool.true_or,e6,qbg (by omega),qem (by omega)]
     | false=>
      rw[zj,VP,e6,qbg (by omega),qem (by omega)]
   · have hD:dN M E=0:=by omega
     have e1:IntKind.i64.wrap (0-((Q:Int)+4926-E))=((E-(Q+4926):Nat):Int):=by rw[w64 (by omega) (by omega)];omega
     have e2:hfN M E=false:=by unfold hfN;rw[hD];rfl
     have e3:rsN M E=false:=by unfold rsN;rw[hD];rfl
     have e4:yc M E=M*2^(E-(Q+4926)):=by
      unfold yc;rw[hQ,hSH,show Q+4926-E=0 by omega,KS,Wm]
     rw[zi hd,zj,e1,zg,e2,e3,e4,Bool.or_false,zB (2^_)];rw[e4]at hkl;rw[qbg (by omega),qem (by omega)]
 · -- up or not
   simp only[];obtain⟨u,hu⟩:∃u,upN neg mode (yc M E % 2 == 1) (hfN M E) (rest||rsN M E)=u:=⟨_,rfl⟩
   rw[qBt _ (by omega),hu];obtain⟨w,hw⟩:∃w,yc M E=w:=⟨_,rfl⟩
   have hfl:QA M E=Q*4503599627370496+w:=by rw[Jp,hQ,hw]
   have hRN:RN neg mode M E rest=sgN neg+qmP (twN neg mode) (Q*4503599627370496+w+u.toNat):=by
    unfold RN;rw[hM0,zj,hu,hfl]
   have hflN:∀sm,flN neg mode M E rest sm=(bif Nat.ble (Q*4503599627370496+w+u.toNat) yu then(bif hfN M E||(rest||rsN M E)then(bif sm then 3 else 1)else 0)else 5):=fun sm=>by
    unfold flN;rw[hu,hfl]
   rw[hRN,hflN,hw];rw[hw]at hkl hkg;generalize hfN M E=hf
   generalize (rest||rsN M E)=rs
   refine obs (t:=(mode,(qj M:Int),(Q:Int)-1074,hf,rs,((w+u.toNat:Nat):Int),neg,(H:Int),(L:Int),e,rest,(0:Int),(w:Int),())) ?_ ?_
   · cases u with
     | true=>rw[zf,jH (by omega) (by omega)];rfl
     | false=>rw[zj];rfl
   · simp only[]
     have hu1:u.toNat≤1:=by cases u <;> decide
     obtain⟨w1,hw1⟩:∃w1,w+u.toNat=w1:=⟨_,rfl⟩
     rw[Ku,hw1];have hw1l:w1≤9007199254740992:=by omega
     have hw1g:4503599627370496≤w1∨Q=0:=by rcases hkg with h | h;exact .inl (by omega);exact .inr h
     -- normalized
     obtain⟨Q2,w2,hK,hw2,hw2g,hQ2,hn⟩:∃Q2 w2:Nat,Q2*4503599627370496+w2=Q*4503599627370496+w1∧w2<9007199254740992∧(4503599627370496≤w2∨Q2=0)∧Q2≤Q+1 ∧
      (if w1=9007199254740992 then Q2=Q+1∧w2=4503599627370496 else Q2=Q∧w2=w1):=by
      by_cases h5:w1=9007199254740992
      · exact⟨Q+1,4503599627370496,by omega,by omega,.inl (by omega),by omega,by rw[zr h5];exact⟨rfl,rfl⟩⟩
      · exact⟨Q,w1,rfl,by omega,hw1g,by omega,by rw[zp h5];exact⟨rfl,rfl⟩⟩
     refine obs (t:=(mode,(qj M:Int),(Q2:Int)-1074,hf,rs,(w2:Int),neg,(H:Int),(L:Int),e,rest,(0:Int),(w:Int),())) ?_ ?_
     · by_cases h5:w1=9007199254740992
       · rw[zr h5]at hn
         obtain⟨rfl,rfl⟩:=hn;rw[za (by omega),zf,h5,w64 (by omega) (by omega)];have:Int.fdiv ((9007199254740992:Nat):Int) (2^1)=((4503599627370496:Nat):Int):=by rw[qao]
         rw[this,show(Q:Int)-1074+1=((Q+1:Nat):Int)-1074 by omega]
       · rw[zp h5]at hn
         obtain⟨rfl,rfl⟩:=hn;rw[zi (by omega),zj]
     · simp only[]
       rw[← hK];unfold qmP yu;by_cases hov:(971:Int)<(Q2:Int)-1074
       · have hb:Nat.ble (Q2*4503599627370496+w2) 9218868437227405311=false:=by
          rw[qgY];exact zi (by omega)
         rw[za hov,zf,hb,zj,zj];unfold ovN;rw[show(9218868437227405311:Nat)+1=9218868437227405312 from rfl]
       · have hb:Nat.ble (Q2*4503599627370496+w2) 9218868437227405311=true:=by
          rw[qgY];exact za (by omega)
         rw[zi hov,zj,hb,zf,zf]
         -- the float is put together
         have hsm:decide (IntKind.i64.wrap ((qj M:Int)+e)≤-1022)=decide ((qj M:Int)+e≤-1022):=by rw[w64 (by omega) (by omega)]
         have hmake:∀(ex:Int),ex=(if 4503599627370496≤w2 then(Q2:Int)+1 else 0)→Ym (neg,(ex,(qB .and .u64 (w2:Int) 4503599627370495)))=some (((sgN neg+(Q2*4503599627370496+w2):Nat):Int),0):=by
          intro ex hex;have hm:=qgX w2 4503599627370495 52 rfl (by omega) (by omega)
          rw[show((4503599627370495:Nat):Int)=4503599627370495 from rfl]at hm;unfold Ym;simp only[hm];have hr:0≤ex∧ex≤2047:=by rw[hex];split <;> omega
          rw[za hr.1,za hr.2,za (by omega)];simp only[Kq,zf]
          congr 2
          rw[hex];split <;> omega
         rw[hsm];generalize decide ((qj M:Int)+e≤-1022)=sm
         have hor:qB .or .u8 1 2=3:=by decide
         have hexp:IntKind.i64.wrap (IntKind.i64.wrap ((Q2:Int)-1074-(-1074))+1)=(Q2:Int)+1:=by
          rw[w64 (n:=(Q2:Int)-1074-(-1074)) (by omega) (by omega),w64 (by omega) (by omega)];omega
         have hfd:decide (Int.fdiv (w2:Int) (2^52)=1)=decide (4503599627370496≤w2):=by
          rw[qao,show(1:Int)=((1:Nat):Int) from rfl,qpc];by_cases h4:4503599627370496≤w2
          · rw[za h4,za (by omega)]
          · rw[zi h4,zi (by omega)]
         by_cases h4:4503599627370496≤w2
         · have hm:=hmake ((Q2:Int)+1) (by rw[zr h4])
           rw[za h4]at hfd;cases hf <;> cases rs <;> cases sm <;> simp only[zf,zj,zd,hfd,hexp,hm,hor,Bool.or_true,Bool.or_false,Bool.or_self]
         · have hm:=hmake 0 (by rw[zp h4])
           rw[zi h4]at hfd;cases hf <;> cases rs <;> cases sm <;> simp only[zf,zj,zd,hfd,hexp,hm,hor,Bool.or_true,Bool.or_false,Bool.or_self]
end
end Su
end
section
namespace Su
open Go Fly
def bs(l:List UInt8):ByteArray:=⟨l.toArray⟩
def lb(b:ByteArray):List UInt8:=b.data.toList
theorem qfM(b:ByteArray):bs (lb b)=b:=by
 apply ByteArray.ext
 show b.data.toList.toArray=b.data
 exact Vj
theorem jB(l:List UInt8):lb (bs l)=l:=rfl
theorem qe(l:List UInt8):(bs l).size=l.length:=by
 show l.toArray.size=_
 simp
theorem qW(l:List UInt8)(i:Nat):(bs l)[i]?=l[i]?:=by
 by_cases h:i<l.length
 · rw[zl h,getElem?_pos (bs l) i (by rw[qe];exact h)]
   rfl
 · rw[zA (by omega),getElem?_neg (bs l) i (by rw[qe];exact h)]
theorem jZ(l:List UInt8)(a b:Nat):(bs l).extract a b=bs ((l.drop a).take (b-a)):=by
 apply ByteArray.ext
 rw[ByteArray.data_extract];apply Array.toList_inj.1
 simp[bs,List.extract_eq_take_drop]
theorem qpF(l m:List UInt8):bs l++bs m=bs (l++m):=by
 apply ByteArray.ext
 rw[ByteArray.data_append];simp[bs]
theorem qen{l m:List UInt8}:bs l=bs m↔l=m:=⟨fun h=>by
 have:=congrArg lb h
 exact this,fun h=>by rw[h]⟩
theorem qcO(l:List UInt8):ByteArray.mk (List.toArray l)=bs l:=rfl
theorem onB{P:ByteArray→Prop}(h:∀l,P (bs l))(b:ByteArray):P b:=by rw[← qfM b];exact h _
theorem qg8(l m:List UInt8):decide (bs l=bs m)=decide (l=m):=by
 by_cases h:l=m
 · rw[za h,za (qen.2 h)]
 · rw[zi h,zi (fun e=>h (qen.1 e))]
def dgT:Nat→Nat→List UInt8
 | 0,n=>[UInt8.ofNat (48+n % 10)]
 | f+1,n=>bif Nat.blt n 10 then[UInt8.ofNat (48+n)]else dgT f (n / 10)++[UInt8.ofNat (48+n % 10)]
def dg(n:Nat):List UInt8:=dgT n n
theorem qpG:∀(f g n:Nat),n≤f→n≤g→dgT f n=dgT g n
 | 0,0,_,_,_=>rfl
 | 0,g+1,n,h,_=>by
  have:n=0:=by omega
  subst this;rfl
 | f+1,0,n,_,h=>by
  have:n=0:=by omega
  subst this;rfl
 | f+1,g+1,n,h1,h2=>by
  unfold dgT;cases h:Nat.blt n 10 with
  | true=>rfl
  | false=>
   rw[zj,zj,qpG f g (n / 10) (by omega) (by omega)]
theorem qw3{n:Nat}(h:n<10):dg n=[UInt8.ofNat (48+n)]:=by
 unfold dg;cases n with
 | zero=>rfl
 | succ n=>
  unfold dgT;rw[show Nat.blt (n+1) 10=true by rw[Vk];exact h,zf]
theorem qw4{n:Nat}(h:10≤n):dg n=dg (n / 10)++[UInt8.ofNat (48+n % 10)]:=by
 obtain⟨m,rfl⟩:∃m,n=m+1:=⟨n-1,by omega⟩
 have hb:Nat.blt (m+1) 10=false:=by
  cases hb:Nat.blt (m+1) 10 with
  | false=>rfl
  | true=>rw[Vk]at hb;omega
 have e:dgT (m+1) (m+1)=dgT m ((m+1) / 10)++[UInt8.ofNat (48+(m+1) % 10)]:=by
  rw[dgT,hb,zj]
 unfold dg;rw[e,qpG m _ _ (by omega) (zw _)]
def dv(l:List UInt8):Nat:=l.foldl (fun n c=>n*10+(c.toNat-48)) 0
theorem quF(l:List UInt8)(c:UInt8):dv (l++[c])=dv l*10+(c.toNat-48):=by
 unfold dv;rw[List.foldl_append];rfl
def isD(c:UInt8):Bool:=Nat.ble 48 c.toNat&&Nat.ble c.toNat 57
theorem jP{c:UInt8}:isD c=true↔48≤c.toNat∧c.toNat≤57:=by
 unfold isD;rw[zk,K9,K9]
theorem qg9:∀(l:List UInt8) (n:Nat),l.foldl (fun n c=>n*10+(c.toNat-48)) n=n*10^l.length+dv l
 | [],n=>by simp[dv]
 | c::l,n=>by
  have h1:=qg9 l (n*10+(c.toNat-48))
  have h2:=qg9 l (0*10+(c.toNat-48))
  unfold dv;simp only[List.foldl_cons,zy];rw[h1,h2,zU];simp only[K7,zF,zR];rw[zt n 10,zB 10];omega
theorem qas(l m:List UInt8):dv (l++m)=dv l*10^m.length+dv m:=by
 have:dv (l++m)=m.foldl (fun n c=>n*10+(c.toNat-48)) (dv l):=by unfold dv;rw[List.foldl_append]
 rw[this,qg9]
theorem qfN:∀(l:List UInt8),(∀c∈l,isD c=true)→dv l<10^l.length
 | [],_=>by decide
 | c::l,h=>by
  have h1:=qfN l fun d hd=>h d (zq _ hd)
  obtain⟨h2,h3⟩:=jP.1 (h c (zE ..))
  have e:dv (c::l)=dv [c]*10^l.length+dv l:=qas [c] l
  have e1:dv [c]=c.toNat-48:=by show 0*10+(c.toNat-48)=_;omega
  rw[e,e1,zy,zU];have:(c.toNat-48)*10^l.length≤9*10^l.length:=zu _ (by omega)
  omega
def yf(c:UInt8):List UInt8→Int
 | []=>-1
 | b::l=>bif b == c then 0 else bif decide (yf c l = -1)then -1 else yf c l+1
def qpH(p:ByteArray×Int):Option Int:=some (yf (UInt8.ofNat p.2.toNat) (lb p.1))
theorem ZH(c:UInt8):∀l,-1≤yf c l∧yf c l<(l.length:Int)
 | []=>⟨Wv _,by show(-1:Int)<0;omega⟩
 | b::l=>by
  obtain⟨h1,h2⟩:=ZH c l;unfold yf;rw[zy];cases b == c with
  | true=>exact⟨by simp only[zf];omega,by simp only[zf];omega⟩
  | false=>
   simp only[zj];by_cases h:yf c l = -1
   · rw[za h];exact⟨by simp only[zf];omega,by simp only[zf];omega⟩
   · rw[zi h];exact⟨by simp only[zj];omega,by simp only[zj];omega⟩
def itT(n:Int):List UInt8:=bif decide (n<0)then 45::dg n.natAbs else dg n.toNat
def qw5(n:Int):Option ByteArray:=bif decide (-1000000≤n)&&decide (n≤1000000)then some (bs (itT n))else none
theorem quG{n:Int}(h : -1000000≤n)(h2:n≤1000000):(itT n).length≤1000002:=by
 have key:∀m,(dg m).length≤m+1:=by
  intro m;induction m using Nat.strongRecOn with
  | ind m ih=>
   by_cases h:m<10
   · rw[qw3 h];simp
   · rw[qw4 (by omega)]
     have:=ih (m / 10) (by omega)
     simp;omega
 unfold itT;have k1:=key n.natAbs;have k2:=key n.toNat;cases decide (n<0) <;> simp <;> omega
end Su
end
section
namespace Su
open Go Fly
noncomputable section
def qha:Stp (ByteArray×Int×Unit):=fun p0=>(bif(decide (0<(ByteArray.size p0.1:Int)))then
 ((p0.1)[0]?).bind fun x1=>
 (bif(decide ((UInt8.toNat x1:Int)=p0.2.1))then
 (bif((true&&(decide (1≤(ByteArray.size p0.1:Int))))&&(decide ((ByteArray.size p0.1:Int)≤(ByteArray.size p0.1:Int))))then
 some (.inl ((ByteArray.extract p0.1 1 (Int.toNat (ByteArray.size p0.1:Int))),p0.2.1,()))
 else none)
 else
  some (.inr (p0.1,p0.2.1,())))
 else
  some (.inr (p0.1,p0.2.1,())))
def tLB  (fu:Nat)(s:ByteArray)(c:Int):Option ByteArray :=
 (itP fu (qha) (s,c,())).bind fun x2=>
 some x2.1
theorem qw6(x:UInt8)(c:UInt8):decide (((x.toNat:Nat):Int)=((c.toNat:Nat):Int))=(x == c):=by
 by_cases h:x=c
 · subst h;simp
 · have : ¬(((x.toNat:Nat):Int)=((c.toNat:Nat):Int)):=fun e=>h (KJ.1 (by omega))
   rw[zi this];simp[h]
theorem asU8{c:Int}(h:inR .u8 c=true):∃d:UInt8,c=((d.toNat:Nat):Int):=by
 unfold inR at h;simp only[zk,zD]at h;obtain⟨h1,h2⟩:=h;have h1:0≤c:=h1
 have h2:c≤255:=h2
 refine⟨UInt8.ofNat c.toNat,?_⟩
 rw[UInt8.toNat_ofNat'];omega
theorem qls(c:UInt8):∀(l:List UInt8),l.length≤9223372036854775807→∃n,itP n qha (bs l,((c.toNat:Nat):Int),())=some (bs (l.dropWhile (· == c)),((c.toNat:Nat):Int),())
 | [],_=>⟨1,rfl⟩
 | x::l,h=>by
  have h:l.length+1≤9223372036854775807:=h
  have d0:decide ((0:Int)<(((bs (x::l)).size:Nat):Int))=true:=za (by rw[qe,zy];omega)
  have d1:decide ((1:Int)≤(((bs (x::l)).size:Nat):Int))=true:=za (by rw[qe,zy];omega)
  have d2:decide ((((bs (x::l)).size:Nat):Int)≤(((bs (x::l)).size:Nat):Int))=true:=za (Wv _)
  have g:(bs (x::l))[0]?=some x:=by rw[qW];rfl
  have e:(bs (x::l)).extract 1 (Int.toNat (((bs (x::l)).size:Nat):Int))=bs l:=by
   rw[jZ,zg,qe];show bs (l.take (l.length+1-1))=_
   rw[KQ,List.take_length]
  cases hx:x == c with
  | true=>
   obtain⟨n,q⟩:=qls c l (by omega)
   refine⟨n+1,?_⟩
   rw[jD];simp only[qha,d0,d1,d2,g,e,qw6,hx,zf,zd,Kq,List.dropWhile_cons,ite_true];exact q
  | false=>
   refine⟨1,?_⟩
   rw[jD];simp only[qha,d0,g,qw6,hx,zf,zj,zd,List.dropWhile_cons];rfl
def qiI(p:ByteArray×Int):Option ByteArray:=bif decide (0≤p.2)&&Nat.ble (lb p.1).length 549755813888 then some (bs ((lb p.1).dropWhile (· == UInt8.ofNat p.2.toNat)))else none
theorem qyP(p:ByteArray×Int)(y:ByteArray)(hg:(dc cS (d1 (cI .u8))).good p)(h:qiI p=some y):∃n,tLB n p.1 p.2=some y:=by
 obtain⟨s,c⟩:=p;obtain⟨d,rfl⟩:=asU8 hg.2;obtain⟨h1,h2⟩:=qi h;have:=soi h2;subst this
 rw[zk]at h1;obtain⟨n,q⟩:=qls d (lb s) (by have:=zm h1.2;simp only[]at this;omega)
 refine⟨n,?_⟩
 rw[qfM]at q;show tLB n s _=_
 unfold tLB;refine obs q ?_
 simp only[zg,Vh]
def zs(n:Nat):List UInt8:=List.replicate n 48
theorem b1(k:Nat)(h:k<10):IntKind.u8.wrap (IntKind.i64.wrap (48+(k:Int)))=((48+k:Nat):Int):=by
 rw[w64 (by omega) (by omega)];have:IntKind.u8.wrap ((48+k:Nat):Int)=((48+k:Nat):Int):=yB (by unfold inR;simp;exact⟨by show(0:Int)≤_;omega,by show _≤(255:Int);omega⟩)
 rw[show(48+(k:Int))=((48+k:Nat):Int) by omega,this]
end
end Su
end
section
namespace Su
open Go Fly
noncomputable section
def bLen  (x:Int):Option Int :=
 some (qj x.toNat:Int)
end
end Su
end
section
namespace Su
open Go Fly
noncomputable section
def quH:(Int×(List Int)×(List Int)×Int×Unit)→Option ((Int×(List Int)×(List Int)×Int×Unit) ⊕ (Lp (Int×(List Int)×(List Int)×Int×Unit) ((List Int)×Int))):=fun p0=>(bif(decide (0≤p0.2.2.2.1))then
 (yV (p0.2.1,p0.2.1)).bind fun x1=>
 (bif(decide (0≤p0.2.2.2.1))then
 (bif(decide ((Fly.qB Go.BinOp.and .i64 (Int.fdiv p0.1 (2^(min p0.2.2.2.1.toNat 64))) 1)=1))then
 (yV (x1,p0.2.2.1)).bind fun x2=>
 (Len x2).bind fun x3=>
 (bif(decide (65536<x3))then
 some (.inr (.ret ([],(20:Int))))
 else
  some (.inl (p0.1,x2,p0.2.2.1,(IntKind.wrap .i64 (p0.2.2.2.1-1)),())))
 else
  (Len x1).bind fun x4=>
  (bif(decide (65536<x4))then
  some (.inr (.ret ([],(20:Int))))
 else
  some (.inl (p0.1,x1,p0.2.2.1,(IntKind.wrap .i64 (p0.2.2.2.1-1)),()))))
 else none)
 else
  some (.inr (.exit 1 (p0.1,p0.2.1,p0.2.2.1,p0.2.2.2.1,()))))
def qbh:(Int×(List Int)×(List Int)×Int×Unit)→Option ((Int×(List Int)×(List Int)×Int×Unit) ⊕ (Lp (Int×(List Int)×(List Int)×Int×Unit) ((List Int)×Int))):=fun p10=>(bif(decide (0≤p10.2.2.2.1))then
 (yV (p10.2.1,p10.2.1)).bind fun x11=>
 (bif(decide (0≤p10.2.2.2.1))then
 (bif(decide ((Fly.qB Go.BinOp.and .i64 (Int.fdiv p10.1 (2^(min p10.2.2.2.1.toNat 64))) 1)=1))then
 (yV (x11,p10.2.2.1)).bind fun x12=>
 (Len x12).bind fun x13=>
 (bif(decide (65536<x13))then
 some (.inr (.ret ([],(20:Int))))
 else
  some (.inl (p10.1,x12,p10.2.2.1,(IntKind.wrap .i64 (p10.2.2.2.1-1)),())))
 else
  (Len x11).bind fun x14=>
  (bif(decide (65536<x14))then
  some (.inr (.ret ([],(20:Int))))
 else
  some (.inl (p10.1,x11,p10.2.2.1,(IntKind.wrap .i64 (p10.2.2.2.1-1)),()))))
 else none)
 else
  some (.inr (.exit 1 (p10.1,p10.2.1,p10.2.2.1,p10.2.2.2.1,()))))
def quI  (fu:Nat)(x:Int)(n:Int):Option ((List Int)×Int) :=
 (bif(decide (n≤0))then
 some ((ofN 1),(0:Int))
 else
  (bif(decide (x<2))then
  some ((ofN (qd [(IntKind.wrap .u32 x),(IntKind.wrap .u32 (Int.fdiv x (2^32)))])),(0:Int))
 else
  (bif(decide (65536<n))then
  (bif(decide (65536<n))then
  some ([],(20:Int))
 else
  (itP fu (quH) (n,(ofN 1),(ofN (qd [(IntKind.wrap .u32 x),(IntKind.wrap .u32 (Int.fdiv x (2^32)))])),(IntKind.wrap .i64 ((((qj (Int.toNat (IntKind.wrap .u64 n))):Nat):Int)-1)),())).bind fun x5=>
  (match x5 with
 | .exit i6 p7=>(bif(Nat.beq i6 1)then
  some (p7.2.1,(0:Int))
 else none)
 | .ret o8=>some o8))
 else
  (Len (ofN (qd [(IntKind.wrap .u32 x),(IntKind.wrap .u32 (Int.fdiv x (2^32)))]))).bind fun x9=>
  (bif(decide (65536≤(IntKind.wrap .i64 ((IntKind.wrap .i64 (x9-1))*n))))then
  some ([],(20:Int))
 else
  (itP fu (qbh) (n,(ofN 1),(ofN (qd [(IntKind.wrap .u32 x),(IntKind.wrap .u32 (Int.fdiv x (2^32)))])),(IntKind.wrap .i64 ((((qj (Int.toNat (IntKind.wrap .u64 n))):Nat):Int)-1)),())).bind fun x15=>
  (match x15 with
 | .exit i16 p17=>(bif(Nat.beq i16 1)then
  some (p17.2.1,(0:Int))
 else none)
 | .ret o18=>some o18)))))
def qyQ  (n:Int):Option (List Int) :=
 (qiD ((ofN 1),n)).bind fun x0=>
 some x0.1
theorem J2(a b:Nat):qj (a*b)≤qj a+qj b:=by
 rw[j9,zP];have h1:=yI a;have h2:=yI b;exact Nat.mul_lt_mul'' h1 h2
theorem qbi(v:Nat):(ofN v).length≤qj v / 32+1:=by
 refine quB ?_
 rw[qcN];exact Kk (yI v) (Ka (by omega) (by omega))
theorem qlt{u v:Nat}(h1:qj u≤100000)(h2:qj v≤100000):yV (ofN u,ofN v)=some (ofN (u*v)):=by
 unfold yV;have l1:=qbi u;have l2:=qbi v;simp only[valN_ofN];rw[zo (by omega)];rfl
theorem qBu{u v:Nat}(h1:qj u≤100000)(h2:qj v≤100000):qfI (ofN u,ofN v)=some (ofN (u+v)):=by
 unfold qfI;have l1:=qbi u;have l2:=qbi v;simp only[valN_ofN];rw[zo (by omega)];rfl
theorem qBv{u v:Nat}(h1:qj u≤100000)(h2:qj v≤100000)(hv:v≠0):qfL (ofN u,ofN v)=some (ofN (u / v),ofN (u % v),0):=by
 have l1:=qbi u;have l2:=qbi v;exact qyI (by omega) (by omega) hv
theorem qiJ{v:Nat}(h:qj v≤100000):Len (ofN v)=some ((qj v:Nat):Int):=by
 have:=qg4 (ofN v) (by rw[valN_ofN];omega)
 rwa [valN_ofN]at this
theorem Qm(m:Nat):qj (10^m)≤4*m+1:=by
 have h:10^m≤2^(4*m):=by
  rw[Nat.pow_mul];exact Nat.pow_le_pow_left (by decide) m
 rw[j9];have:=Nat.pow_lt_pow_right (a:=2) (by omega) (show 4*m<4*m+1 by omega)
 omega
theorem quJ{a:Nat}(ha:a<9223372036854775808):decide (Fly.qB .and .i64 (a:Int) 1=1)=decide (a % 2=1):=by
 have:Fly.qB .and .i64 (a:Int) 1=((a % 2:Nat):Int):=by
  show IntKind.i64.wrap (((BitVec.ofInt 64 (a:Int) &&& BitVec.ofInt 64 ((1:Nat):Int)).toNat:Nat):Int)=_
  have h:=and_mask a 1
  rw[show 2^1-1=1 from rfl,show 2^1=2 from rfl]at h;rw[BitVec.toNat_and,y9 a (by omega),y9 _ (by omega),h];exact w64 (by omega) (by omega)
 rw[this];by_cases h:a % 2=1
 · rw[za h,za (by omega)]
 · rw[zi h,zi (by omega)]
theorem qlu:qj 10≤4:=by decide
theorem qlv(N:Nat)(hN:N≤10000):∀(j:Nat),j≤60 →
 ∃n,itP n qbh ((N:Int),ofN (10^(N / 2^j)),ofN 10,(j:Int)-1,())=some (.exit 1 ((N:Int),ofN (10^N),ofN 10,-1,()))
 | 0,_=>by
  refine⟨1,?_⟩
  have d0:decide ((0:Int)≤((0:Nat):Int)-1)=false:=by decide
  rw[jD];simp only[qbh,d0,zj,KS,Wm];rfl
 | j+1,hj=>by
  have ej:(((j+1:Nat):Int)-1)=(j:Int):=by omega
  have d0:decide ((0:Int)≤(j:Int))=true:=za (by omega)
  have hm:N / 2^(j+1)≤N:=VA ..
  have hb:=Qm (N / 2^(j+1))
  have m1:=qlt (u:=10^(N / 2^(j+1))) (v:=10^(N / 2^(j+1))) (by omega) (by omega)
  have hq:N / 2^(j+1)=N / 2^j / 2:=by rw[zU,zS]
  have hw:IntKind.i64.wrap ((j:Int)-1)=(j:Int)-1:=w64 (by omega) (by omega)
  have hmin:min (Int.toNat (j:Int)) 64=j:=by rw[zg];omega
  have hbit:decide (Fly.qB .and .i64 (Int.fdiv (N:Int) (2^j)) 1=1)=decide (N / 2^j % 2=1):=by
   rw[Y5];have:N / 2^j≤N:=VA ..
   exact quJ (by omega)
  obtain⟨n,q⟩:=qlv N hN j (by omega)
  have hk:N / 2^j≤N:=VA ..
  have hkb:=Qm (N / 2^j)
  refine⟨n+1,?_⟩
  rw[jD,ej];by_cases h:N / 2^j % 2=1
  · rw[za h]at hbit
    have e:10^(N / 2^(j+1))*10^(N / 2^(j+1))*10=10^(N / 2^j):=by
     rw[← zP,← zU]
     congr 1;omega
    have b2:=J2 (10^(N / 2^(j+1))) (10^(N / 2^(j+1)))
    have m2:=qlt (u:=10^(N / 2^(j+1))*10^(N / 2^(j+1))) (v:=10) (by omega) (by have:=qlu;omega)
    rw[e]at m2;have l3:=qiJ (v:=10^(N / 2^j)) (by omega)
    have d3:decide ((65536:Int)<((qj (10^(N / 2^j)):Nat):Int))=false:=zi (by omega)
    simp only[qbh,d0,m1,hmin,hbit,m2,l3,d3,hw,zf,zj,zd];exact q
  · rw[zi h]at hbit
    have e:10^(N / 2^(j+1))*10^(N / 2^(j+1))=10^(N / 2^j):=by
     rw[← zP]
     congr 1;omega
    rw[e]at m1;have l3:=qiJ (v:=10^(N / 2^j)) (by omega)
    have d3:decide ((65536:Int)<((qj (10^(N / 2^j)):Nat):Int))=false:=zi (by omega)
    simp only[qbh,d0,m1,hmin,hbit,l3,d3,hw,zf,zj,zd];exact q
theorem quK:ofN (qd [(IntKind.wrap .u32 10),(IntKind.wrap .u32 (Int.fdiv 10 (2^32)))])=ofN 10:=by decide
def qhb(p:Int×Int):Option (List Int×Int):=bif decide (p.1=10)&&decide (p.2≤10000)then some (ofN (10^p.2.toNat),0)else none
theorem quL(p:Int×Int)(y:List Int×Int)(hg:(dc (cI .u64) (d1 (cI .i64))).good p)(h:qhb p=some y):∃n,quI n p.1 p.2=some y:=by
 obtain⟨x,n⟩:=p;obtain⟨h1,h2⟩:=qi h;have:=soi h2;subst this
 simp only[zk,zD]at h1;obtain⟨rfl,hn⟩:=h1;simp only[];by_cases h0:n≤0
 · refine⟨0,?_⟩
   unfold quI;rw[za h0,zf,show n.toNat=0 by omega]
 · obtain⟨N,rfl⟩:=zV (show 0≤n by omega)
   have hb:qj N≤60:=j9.2 (by omega)
   obtain⟨m,q⟩:=qlv N (by omega) (qj N) hb
   rw[KN (yI N)]at q;refine⟨m,?_⟩
   unfold quI;have d1:decide ((10:Int)<2)=false:=by decide
   have d2:decide ((65536:Int)<(N:Int))=false:=zi (by omega)
   have l10:=qiJ (v:=10) (by have:=qlu;omega)
   have e10:qj 10=4:=by decide
   rw[e10]at l10;have w1:IntKind.i64.wrap (((4:Nat):Int)-1)=3:=by decide
   have w2:IntKind.i64.wrap (3*(N:Int))=3*(N:Int):=w64 (by omega) (by omega)
   have d3:decide ((65536:Int)≤3*(N:Int))=false:=zi (by omega)
   have w3:IntKind.u64.wrap (N:Int)=(N:Int):=jH (by omega) (by omega)
   have w4:IntKind.i64.wrap (((qj N:Nat):Int)-1)=((qj N:Nat):Int)-1:=w64 (by omega) (by omega)
   rw[zi h0,zj,d1,zj,d2,zj,quK,l10,zd,w1,w2,d3,zj,w3,zg,w4];exact obs q rfl
def Za(n:Int):Option (List Int):=bif decide (n≤60000)then some (ofN (2^n.toNat))else none
theorem ZI(k:Nat):qj (2^k)=k+1:=qgV (zw _) (Nat.pow_lt_pow_right (by omega) (by omega))
theorem qBw{v:Nat}(h:qj v≤100000):okS (ofN v)=true:=by
 rw[qj3];have:=qbi v
 exact zo (by omega)
theorem qBx{v:Nat}{n:Int}(hv:v≠0)(h:qj v+n.toNat≤65536):qiD (ofN v,n)=some (ofN (v*2^n.toNat),0):=by
 unfold qiD;simp only[];have e:(max n 0).toNat=n.toNat:=by omega
 rw[qBw (by omega),zf,valN_ofN,e,qle];unfold qld;rw[zp hv,zp (by omega)]
theorem quM(n:Int)(y:List Int)(hg:(d1 (cI .i64)).good n)(h:Za n=some y):qyQ n=some y:=by
 obtain⟨h1,h2⟩:=qi h;have:=soi h2;subst this
 have h1:n≤60000:=zW h1
 have e1:qj 1=1:=by decide
 unfold qyQ;have:=qBx (v:=1) (n:=n) (by omega) (by omega)
 rw[this,zd,KC]
end
end Su
end
