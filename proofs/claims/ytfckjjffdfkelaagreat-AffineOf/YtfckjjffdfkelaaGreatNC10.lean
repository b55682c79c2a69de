/-
  What functions of the program compute, in plain Lean, and that the evaluator finds it.
-/
import Derived.Test.YtfckjjffdfkelaaGreatSuSd
import Derived.Test.YtfckjjffdfkelaaGreatNC07
import Derived.Test.YtfckjjffdfkelaaGreatNB10
set_option linter.unusedVariables false
set_option linter.unusedSimpArgs false
set_option maxRecDepth 10000
section
namespace Su
open Go Fly
noncomputable section
def qoc  (x:(Bool×Int×Int×Int×Bool))(mode:Int):Option (Int×Int) :=
 (bif(decide (0<(IntKind.wrap .i64 ((max (IntKind.wrap .i64 ((IntKind.wrap .i64 ((((qo (qe (x.2.1,x.2.2.1))):Nat):Int)-53))+x.2.2.2.1)) (-1074))-x.2.2.2.1))))then
 (bif x.2.2.2.2 then
 some (mode,(((qo (qe (x.2.1,x.2.2.1))):Nat):Int),(max (IntKind.wrap .i64 ((IntKind.wrap .i64 ((((qo (qe (x.2.1,x.2.2.1))):Nat):Int)-53))+x.2.2.2.1)) (-1074)),(decide ((Fly.qD Go.BinOp.and .u64 (loW ((qe (x.2.1,x.2.2.1)) / (2^(Int.toNat (IntKind.wrap .i64 ((IntKind.wrap .i64 ((max (IntKind.wrap .i64 ((IntKind.wrap .i64 ((((qo (qe (x.2.1,x.2.2.1))):Nat):Int)-53))+x.2.2.2.1)) (-1074))-x.2.2.2.1))-1)))))) 1)=1)),true,x.1,x.2.1,x.2.2.1,x.2.2.2.1,x.2.2.2.2,(hiW ((qe ((hiW ((qe (x.2.1,x.2.2.1)) / (2^(Int.toNat (IntKind.wrap .i64 ((IntKind.wrap .i64 ((max (IntKind.wrap .i64 ((IntKind.wrap .i64 ((((qo (qe (x.2.1,x.2.2.1))):Nat):Int)-53))+x.2.2.2.1)) (-1074))-x.2.2.2.1))-1)))))),(loW ((qe (x.2.1,x.2.2.1)) / (2^(Int.toNat (IntKind.wrap .i64 ((IntKind.wrap .i64 ((max (IntKind.wrap .i64 ((IntKind.wrap .i64 ((((qo (qe (x.2.1,x.2.2.1))):Nat):Int)-53))+x.2.2.2.1)) (-1074))-x.2.2.2.1))-1)))))))) / (2^(Int.toNat 1)))),(loW ((qe ((hiW ((qe (x.2.1,x.2.2.1)) / (2^(Int.toNat (IntKind.wrap .i64 ((IntKind.wrap .i64 ((max (IntKind.wrap .i64 ((IntKind.wrap .i64 ((((qo (qe (x.2.1,x.2.2.1))):Nat):Int)-53))+x.2.2.2.1)) (-1074))-x.2.2.2.1))-1)))))),(loW ((qe (x.2.1,x.2.2.1)) / (2^(Int.toNat (IntKind.wrap .i64 ((IntKind.wrap .i64 ((max (IntKind.wrap .i64 ((IntKind.wrap .i64 ((((qo (qe (x.2.1,x.2.2.1))):Nat):Int)-53))+x.2.2.2.1)) (-1074))-x.2.2.2.1))-1)))))))) / (2^(Int.toNat 1)))),())
 else
  some (mode,(((qo (qe (x.2.1,x.2.2.1))):Nat):Int),(max (IntKind.wrap .i64 ((IntKind.wrap .i64 ((((qo (qe (x.2.1,x.2.2.1))):Nat):Int)-53))+x.2.2.2.1)) (-1074)),(decide ((Fly.qD Go.BinOp.and .u64 (loW ((qe (x.2.1,x.2.2.1)) / (2^(Int.toNat (IntKind.wrap .i64 ((IntKind.wrap .i64 ((max (IntKind.wrap .i64 ((IntKind.wrap .i64 ((((qo (qe (x.2.1,x.2.2.1))):Nat):Int)-53))+x.2.2.2.1)) (-1074))-x.2.2.2.1))-1)))))) 1)=1)),(!(Nat.beq ((qe (x.2.1,x.2.2.1)) % (2^(Int.toNat (IntKind.wrap .i64 ((IntKind.wrap .i64 ((max (IntKind.wrap .i64 ((IntKind.wrap .i64 ((((qo (qe (x.2.1,x.2.2.1))):Nat):Int)-53))+x.2.2.2.1)) (-1074))-x.2.2.2.1))-1))))) 0)),x.1,x.2.1,x.2.2.1,x.2.2.2.1,x.2.2.2.2,(hiW ((qe ((hiW ((qe (x.2.1,x.2.2.1)) / (2^(Int.toNat (IntKind.wrap .i64 ((IntKind.wrap .i64 ((max (IntKind.wrap .i64 ((IntKind.wrap .i64 ((((qo (qe (x.2.1,x.2.2.1))):Nat):Int)-53))+x.2.2.2.1)) (-1074))-x.2.2.2.1))-1)))))),(loW ((qe (x.2.1,x.2.2.1)) / (2^(Int.toNat (IntKind.wrap .i64 ((IntKind.wrap .i64 ((max (IntKind.wrap .i64 ((IntKind.wrap .i64 ((((qo (qe (x.2.1,x.2.2.1))):Nat):Int)-53))+x.2.2.2.1)) (-1074))-x.2.2.2.1))-1)))))))) / (2^(Int.toNat 1)))),(loW ((qe ((hiW ((qe (x.2.1,x.2.2.1)) / (2^(Int.toNat (IntKind.wrap .i64 ((IntKind.wrap .i64 ((max (IntKind.wrap .i64 ((IntKind.wrap .i64 ((((qo (qe (x.2.1,x.2.2.1))):Nat):Int)-53))+x.2.2.2.1)) (-1074))-x.2.2.2.1))-1)))))),(loW ((qe (x.2.1,x.2.2.1)) / (2^(Int.toNat (IntKind.wrap .i64 ((IntKind.wrap .i64 ((max (IntKind.wrap .i64 ((IntKind.wrap .i64 ((((qo (qe (x.2.1,x.2.2.1))):Nat):Int)-53))+x.2.2.2.1)) (-1074))-x.2.2.2.1))-1)))))))) / (2^(Int.toNat 1)))),()))
 else
  some (mode,(((qo (qe (x.2.1,x.2.2.1))):Nat):Int),(max (IntKind.wrap .i64 ((IntKind.wrap .i64 ((((qo (qe (x.2.1,x.2.2.1))):Nat):Int)-53))+x.2.2.2.1)) (-1074)),false,x.2.2.2.2,x.1,x.2.1,x.2.2.1,x.2.2.2.1,x.2.2.2.2,(hiW ((2^(Int.toNat (IntKind.wrap .i64 (0-(IntKind.wrap .i64 ((max (IntKind.wrap .i64 ((IntKind.wrap .i64 ((((qo (qe (x.2.1,x.2.2.1))):Nat):Int)-53))+x.2.2.2.1)) (-1074))-x.2.2.2.1))))))*(qe (x.2.1,x.2.2.1)))),(loW ((2^(Int.toNat (IntKind.wrap .i64 (0-(IntKind.wrap .i64 ((max (IntKind.wrap .i64 ((IntKind.wrap .i64 ((((qo (qe (x.2.1,x.2.2.1))):Nat):Int)-53))+x.2.2.2.1)) (-1074))-x.2.2.2.1))))))*(qe (x.2.1,x.2.2.1)))),())).bind fun x0=>
  (bif(upN x0.2.2.2.2.2.1 x0.1 (decide ((Fly.qD Go.BinOp.and .u64 x0.2.2.2.2.2.2.2.2.2.2.2.1 1)=1)) x0.2.2.2.1 x0.2.2.2.2.1)then
  some (x0.1,x0.2.1,x0.2.2.1,x0.2.2.2.1,x0.2.2.2.2.1,(IntKind.wrap .u64 (x0.2.2.2.2.2.2.2.2.2.2.2.1+1)),x0.2.2.2.2.2.1,x0.2.2.2.2.2.2.1,x0.2.2.2.2.2.2.2.1,x0.2.2.2.2.2.2.2.2.1,x0.2.2.2.2.2.2.2.2.2.1,x0.2.2.2.2.2.2.2.2.2.2.1,x0.2.2.2.2.2.2.2.2.2.2.2.1,())
 else
  some (x0.1,x0.2.1,x0.2.2.1,x0.2.2.2.1,x0.2.2.2.2.1,x0.2.2.2.2.2.2.2.2.2.2.2.1,x0.2.2.2.2.2.1,x0.2.2.2.2.2.2.1,x0.2.2.2.2.2.2.2.1,x0.2.2.2.2.2.2.2.2.1,x0.2.2.2.2.2.2.2.2.2.1,x0.2.2.2.2.2.2.2.2.2.2.1,x0.2.2.2.2.2.2.2.2.2.2.2.1,())).bind fun x1=>
  (bif(decide (x1.2.2.2.2.2.1=9007199254740992))then
  some (x1.1,x1.2.1,(IntKind.wrap .i64 (x1.2.2.1+1)),x1.2.2.2.1,x1.2.2.2.2.1,(Int.fdiv x1.2.2.2.2.2.1 (2^1)),x1.2.2.2.2.2.2.1,x1.2.2.2.2.2.2.2.1,x1.2.2.2.2.2.2.2.2.1,x1.2.2.2.2.2.2.2.2.2.1,x1.2.2.2.2.2.2.2.2.2.2.1,x1.2.2.2.2.2.2.2.2.2.2.2.1,x1.2.2.2.2.2.2.2.2.2.2.2.2.1,())
 else
  some (x1.1,x1.2.1,x1.2.2.1,x1.2.2.2.1,x1.2.2.2.2.1,x1.2.2.2.2.2.1,x1.2.2.2.2.2.2.1,x1.2.2.2.2.2.2.2.1,x1.2.2.2.2.2.2.2.2.1,x1.2.2.2.2.2.2.2.2.2.1,x1.2.2.2.2.2.2.2.2.2.2.1,x1.2.2.2.2.2.2.2.2.2.2.2.1,x1.2.2.2.2.2.2.2.2.2.2.2.2.1,())).bind fun x2=>
  (bif(decide (971<x2.2.2.1))then
  some ((ovN x2.2.2.2.2.2.2.1 x2.1:Int),(5:Int))
 else
  (bif x2.2.2.2.1 then
  ((bif(decide ((IntKind.wrap .i64 (x2.2.1+x2.2.2.2.2.2.2.2.2.2.1))≤(-1022)))then
  some (x2.1,x2.2.1,x2.2.2.1,x2.2.2.2.1,x2.2.2.2.2.1,x2.2.2.2.2.2.1,(Fly.qD Go.BinOp.or .u8 1 2),x2.2.2.2.2.2.2.1,x2.2.2.2.2.2.2.2.1,x2.2.2.2.2.2.2.2.2.1,x2.2.2.2.2.2.2.2.2.2.1,x2.2.2.2.2.2.2.2.2.2.2.1,x2.2.2.2.2.2.2.2.2.2.2.2.1,x2.2.2.2.2.2.2.2.2.2.2.2.2.1,())
 else
  some (x2.1,x2.2.1,x2.2.2.1,x2.2.2.2.1,x2.2.2.2.2.1,x2.2.2.2.2.2.1,(1:Int),x2.2.2.2.2.2.2.1,x2.2.2.2.2.2.2.2.1,x2.2.2.2.2.2.2.2.2.1,x2.2.2.2.2.2.2.2.2.2.1,x2.2.2.2.2.2.2.2.2.2.2.1,x2.2.2.2.2.2.2.2.2.2.2.2.1,x2.2.2.2.2.2.2.2.2.2.2.2.2.1,())).bind fun x3=>
  some (x3.1,x3.2.1,x3.2.2.1,x3.2.2.2.1,x3.2.2.2.2.1,x3.2.2.2.2.2.1,x3.2.2.2.2.2.2.1,x3.2.2.2.2.2.2.2.1,x3.2.2.2.2.2.2.2.2.1,x3.2.2.2.2.2.2.2.2.2.1,x3.2.2.2.2.2.2.2.2.2.2.1,x3.2.2.2.2.2.2.2.2.2.2.2.1,x3.2.2.2.2.2.2.2.2.2.2.2.2.1,x3.2.2.2.2.2.2.2.2.2.2.2.2.2.1,())).bind fun x4=>
  (bif(decide ((Int.fdiv x4.2.2.2.2.2.1 (2^52))=1))then
  some (x4.1,x4.2.1,x4.2.2.1,x4.2.2.2.1,x4.2.2.2.2.1,x4.2.2.2.2.2.1,x4.2.2.2.2.2.2.1,(IntKind.wrap .i64 ((IntKind.wrap .i64 (x4.2.2.1-(-1074)))+1)),x4.2.2.2.2.2.2.2.1,x4.2.2.2.2.2.2.2.2.1,x4.2.2.2.2.2.2.2.2.2.1,x4.2.2.2.2.2.2.2.2.2.2.1,x4.2.2.2.2.2.2.2.2.2.2.2.1,x4.2.2.2.2.2.2.2.2.2.2.2.2.1,x4.2.2.2.2.2.2.2.2.2.2.2.2.2.1,())
 else
  some (x4.1,x4.2.1,x4.2.2.1,x4.2.2.2.1,x4.2.2.2.2.1,x4.2.2.2.2.2.1,x4.2.2.2.2.2.2.1,(0:Int),x4.2.2.2.2.2.2.2.1,x4.2.2.2.2.2.2.2.2.1,x4.2.2.2.2.2.2.2.2.2.1,x4.2.2.2.2.2.2.2.2.2.2.1,x4.2.2.2.2.2.2.2.2.2.2.2.1,x4.2.2.2.2.2.2.2.2.2.2.2.2.1,x4.2.2.2.2.2.2.2.2.2.2.2.2.2.1,())).bind fun x5=>
  (ZX (x5.2.2.2.2.2.2.2.2.1,x5.2.2.2.2.2.2.2.1,(Fly.qD Go.BinOp.and .u64 x5.2.2.2.2.2.1 4503599627370495))).bind fun x6=>
  some (x6.1,x5.2.2.2.2.2.2.1)
 else
  (bif x2.2.2.2.2.1 then
  (bif(decide ((IntKind.wrap .i64 (x2.2.1+x2.2.2.2.2.2.2.2.2.2.1))≤(-1022)))then
  some (x2.1,x2.2.1,x2.2.2.1,x2.2.2.2.1,x2.2.2.2.2.1,x2.2.2.2.2.2.1,(Fly.qD Go.BinOp.or .u8 1 2),x2.2.2.2.2.2.2.1,x2.2.2.2.2.2.2.2.1,x2.2.2.2.2.2.2.2.2.1,x2.2.2.2.2.2.2.2.2.2.1,x2.2.2.2.2.2.2.2.2.2.2.1,x2.2.2.2.2.2.2.2.2.2.2.2.1,x2.2.2.2.2.2.2.2.2.2.2.2.2.1,())
 else
  some (x2.1,x2.2.1,x2.2.2.1,x2.2.2.2.1,x2.2.2.2.2.1,x2.2.2.2.2.2.1,(1:Int),x2.2.2.2.2.2.2.1,x2.2.2.2.2.2.2.2.1,x2.2.2.2.2.2.2.2.2.1,x2.2.2.2.2.2.2.2.2.2.1,x2.2.2.2.2.2.2.2.2.2.2.1,x2.2.2.2.2.2.2.2.2.2.2.2.1,x2.2.2.2.2.2.2.2.2.2.2.2.2.1,())).bind fun x7=>
  some (x7.1,x7.2.1,x7.2.2.1,x7.2.2.2.1,x7.2.2.2.2.1,x7.2.2.2.2.2.1,x7.2.2.2.2.2.2.1,x7.2.2.2.2.2.2.2.1,x7.2.2.2.2.2.2.2.2.1,x7.2.2.2.2.2.2.2.2.2.1,x7.2.2.2.2.2.2.2.2.2.2.1,x7.2.2.2.2.2.2.2.2.2.2.2.1,x7.2.2.2.2.2.2.2.2.2.2.2.2.1,x7.2.2.2.2.2.2.2.2.2.2.2.2.2.1,())
 else
  some (x2.1,x2.2.1,x2.2.2.1,x2.2.2.2.1,x2.2.2.2.2.1,x2.2.2.2.2.2.1,(0:Int),x2.2.2.2.2.2.2.1,x2.2.2.2.2.2.2.2.1,x2.2.2.2.2.2.2.2.2.1,x2.2.2.2.2.2.2.2.2.2.1,x2.2.2.2.2.2.2.2.2.2.2.1,x2.2.2.2.2.2.2.2.2.2.2.2.1,x2.2.2.2.2.2.2.2.2.2.2.2.2.1,())).bind fun x8=>
  (bif(decide ((Int.fdiv x8.2.2.2.2.2.1 (2^52))=1))then
  some (x8.1,x8.2.1,x8.2.2.1,x8.2.2.2.1,x8.2.2.2.2.1,x8.2.2.2.2.2.1,x8.2.2.2.2.2.2.1,(IntKind.wrap .i64 ((IntKind.wrap .i64 (x8.2.2.1-(-1074)))+1)),x8.2.2.2.2.2.2.2.1,x8.2.2.2.2.2.2.2.2.1,x8.2.2.2.2.2.2.2.2.2.1,x8.2.2.2.2.2.2.2.2.2.2.1,x8.2.2.2.2.2.2.2.2.2.2.2.1,x8.2.2.2.2.2.2.2.2.2.2.2.2.1,x8.2.2.2.2.2.2.2.2.2.2.2.2.2.1,())
 else
  some (x8.1,x8.2.1,x8.2.2.1,x8.2.2.2.1,x8.2.2.2.2.1,x8.2.2.2.2.2.1,x8.2.2.2.2.2.2.1,(0:Int),x8.2.2.2.2.2.2.2.1,x8.2.2.2.2.2.2.2.2.1,x8.2.2.2.2.2.2.2.2.2.1,x8.2.2.2.2.2.2.2.2.2.2.1,x8.2.2.2.2.2.2.2.2.2.2.2.1,x8.2.2.2.2.2.2.2.2.2.2.2.2.1,x8.2.2.2.2.2.2.2.2.2.2.2.2.2.1,())).bind fun x9=>
  (ZX (x9.2.2.2.2.2.2.2.2.1,x9.2.2.2.2.2.2.2.1,(Fly.qD Go.BinOp.and .u64 x9.2.2.2.2.2.1 4503599627370495))).bind fun x10=>
  some (x10.1,x9.2.2.2.2.2.2.1)))
def flN(neg:Bool)(mode:Int)(M E:Nat)(rest sm:Bool):Int :=
 bif Nat.ble (yd M E+(upN neg mode (jj M E % 2 == 1) (hfN M E) (rest||rsN M E)).toNat) js then(bif hfN M E||(rest||rsN M E)then(bif sm then 3 else 1)else 0)else 5
def Zw(p:qrO×Int):Option (Int×Int) :=
 bif !Nat.beq (qe (p.1.2.1,p.1.2.2.1)) 0&&(decide (-5000≤p.1.2.2.2.1)&&decide (p.1.2.2.2.1≤5000))then
  some ((RN p.1.1 p.2 (qe (p.1.2.1,p.1.2.2.1)) (p.1.2.2.2.1+6000).toNat p.1.2.2.2.2:Int),flN p.1.1 p.2 (qe (p.1.2.1,p.1.2.2.1)) (p.1.2.2.2.1+6000).toNat p.1.2.2.2.2 (decide ((qo (qe (p.1.2.1,p.1.2.2.1)):Int)+p.1.2.2.2.1≤-1022)))
 else none
theorem qEv{X:Nat}(h:X<340282366920938463463374607431768211456):qe (hiW X,loW X)=X:=by
 rw[QO];unfold hiW loW;simp only[zl];omega
theorem qcR{X:Nat}(h:X<18446744073709551616):loW X=(X:Int):=by unfold loW;rw[KA h]
theorem qgr{X:Nat}(h:X<18446744073709551616):hiW X=0:=by unfold hiW;rw[Vu h];rfl
theorem bit0(X:Nat):decide (qD .and .u64 (loW X) 1=1)=(X % 2 == 1):=by
 have h:=qcF (X % 18446744073709551616) 1 1 rfl (Vr _ (by decide)) (by decide)
 unfold loW;rw[show(1:Int)=((1:Nat):Int) from rfl,h,qdu];have:X % 18446744073709551616 % 2^1=X % 2:=by omega
 rw[this];by_cases hx:X % 2=1 <;> simp[hx]
theorem qG0(w:Nat)(hw:w<18446744073709551616):decide (qD .and .u64 (w:Int) 1=1)=(w % 2 == 1):=by
 have:=bit0 w
 rwa [qcR hw]at this
theorem qrP(p:qrO×Int)(y:Int×Int)(hg:(dc qjv (d1 (cI .u8))).good p)(h:Zw p=some y):qoc p.1 p.2=some y:=by
 obtain⟨⟨neg,hi,lo,e,rest⟩,mode⟩:=p;obtain⟨⟨_,hhi,hlo,he,_⟩,_⟩:=hg;obtain⟨H,rfl,hH⟩:=q9 hhi;obtain⟨L,rfl,hL⟩:=q9 hlo;obtain⟨hguard,h⟩:=qi h;have:=soi h;subst this
 simp only[zm,KR,zF]at hguard;obtain⟨hM0,he1,he2⟩:=hguard;unfold qoc;simp only[]at *
 obtain⟨M,hM⟩:∃M,M=qe ((H:Int),(L:Int)):=⟨_,rfl⟩
 rw[← hM]at hM0 ⊢;have hMlt:M<340282366920938463463374607431768211456:=by rw[hM,QO];simp only[zl];omega
 have hMne:M≠0:=fun e=>by rw[e]at hM0;simp at hM0
 have hbl:qo M≤128:=yC.2 hMlt
 have hbp:=Yt hMne;obtain⟨E,hE⟩:∃E:Nat,(e+6000).toNat=E:=⟨_,rfl⟩
 have hEe:e=(E:Int)-6000:=by omega
 rw[hE];have hSH:=qCp;obtain⟨Q,hQ⟩:∃Q,qN M E=Q:=⟨_,rfl⟩
 have hQv:Q=qo M+E-53-4926:=by rw[← hQ];unfold qN;rw[hSH]
 have q0:IntKind.i64.wrap (IntKind.i64.wrap ((qo M:Int)-53)+e)=(qo M:Int)-53+e:=by
  rw[w64 (n:=(qo M:Int)-53) (by omega) (by omega),w64 (by omega) (by omega)]
 have qv:max ((qo M:Int)-53+e) (-1074)=(Q:Int)-1074:=by omega
 have hdv:IntKind.i64.wrap ((Q:Int)-1074-e)=(Q:Int)+4926-E:=by rw[w64 (by omega) (by omega)];omega
 rw[q0,qv,hdv];have hkl:=qcA M E;have hkg:=qcB (E:=E) hMne
 rw[hQ]at hkg;have hDN:dN M E=Q+4926-E:=by unfold dN;rw[hQ,hSH]
 -- the first part
 refine obs (t:=(mode,(qo M:Int),(Q:Int)-1074,hfN M E,(rest||rsN M E),neg,(H:Int),(L:Int),e,rest,(0:Int),((jj M E:Nat):Int),())) ?_ ?_
 · by_cases hd:(0:Int)<(Q:Int)+4926-E
   · obtain⟨D,hD⟩:∃D,dN M E=D+1:=⟨dN M E-1,by omega⟩
     have e1:IntKind.i64.wrap ((Q:Int)+4926-E-1)=(D:Int):=by rw[w64 (by omega) (by omega)];omega
     have e2:hfN M E=(M / 2^D % 2 == 1):=by unfold hfN;rw[hD];rfl
     have e3:rsN M E = !(M % 2^D == 0):=by unfold rsN;rw[hD];rfl
     have e4:jj M E=M / 2^D / 2:=by
      unfold jj;rw[hQ,hSH,show E-(Q+4926)=0 by omega,show Q+4926-E=D+1 by omega,Vp,Wb,Kx,Kv]
     have hX:M / 2^D<340282366920938463463374607431768211456:=KX (VG _ _) hMlt
     have e5:∀x:Nat,(x == 0)=Nat.beq x 0:=fun x=>by rw[beq_dec];rfl
     rw[zf hd,zd,e1,zl,bit0,qEv hX,e2,e3,e5,e4];have e6:M / 2^D / 2^Int.toNat 1=M / 2^D / 2:=by rw[Int.toNat_one,Nat.pow_one]
     rw[e4]at hkl;cases rest with
     | true=>
      rw[zd,Xb,e6,qcR (by omega),qgr (by omega)]
     | false=>
      rw[zh,VL,e6,qcR (by omega),qgr (by omega)]
   · have hD:dN M E=0:=by omega
     have e1:IntKind.i64.wrap (0-((Q:Int)+4926-E))=((E-(Q+4926):Nat):Int):=by rw[w64 (by omega) (by omega)];omega
     have e2:hfN M E=false:=by unfold hfN;rw[hD];rfl
     have e3:rsN M E=false:=by unfold rsN;rw[hD];rfl
     have e4:jj M E=M*2^(E-(Q+4926)):=by
      unfold jj;rw[hQ,hSH,show Q+4926-E=0 by omega,Vp,Xv]
     rw[zk hd,zh,e1,zl,e2,e3,e4,Xf,zL (2^_)];rw[e4]at hkl;rw[qcR (by omega),qgr (by omega)]
 · -- up or not
   simp only[];obtain⟨u,hu⟩:∃u,upN neg mode (jj M E % 2 == 1) (hfN M E) (rest||rsN M E)=u:=⟨_,rfl⟩
   rw[qG0 _ (by omega),hu];obtain⟨w,hw⟩:∃w,jj M E=w:=⟨_,rfl⟩
   have hfl:yd M E=Q*4503599627370496+w:=by rw[Yv,hQ,hw]
   have hRN:RN neg mode M E rest=sgN neg+qcC (twN neg mode) (Q*4503599627370496+w+u.toNat):=by
    unfold RN;rw[hM0,zh,hu,hfl]
   have hflN:∀sm,flN neg mode M E rest sm=(bif Nat.ble (Q*4503599627370496+w+u.toNat) js then(bif hfN M E||(rest||rsN M E)then(bif sm then 3 else 1)else 0)else 5):=fun sm=>by
    unfold flN;rw[hu,hfl]
   rw[hRN,hflN,hw];rw[hw]at hkl hkg;generalize hfN M E=hf
   generalize (rest||rsN M E)=rs
   refine obs (t:=(mode,(qo M:Int),(Q:Int)-1074,hf,rs,((w+u.toNat:Nat):Int),neg,(H:Int),(L:Int),e,rest,(0:Int),(w:Int),())) ?_ ?_
   · cases u with
     | true=>rw[zd,jS (by omega) (by omega)];rfl
     | false=>rw[zh];rfl
   · simp only[]
     have hu1:u.toNat≤1:=by cases u <;> decide
     obtain⟨w1,hw1⟩:∃w1,w+u.toNat=w1:=⟨_,rfl⟩
     rw[KD,hw1];have hw1l:w1≤9007199254740992:=by omega
     have hw1g:4503599627370496≤w1∨Q=0:=by rcases hkg with h | h;exact .inl (by omega);exact .inr h
     -- normalized
     obtain⟨Q2,w2,hK,hw2,hw2g,hQ2,hn⟩:∃Q2 w2:Nat,Q2*4503599627370496+w2=Q*4503599627370496+w1∧w2<9007199254740992∧(4503599627370496≤w2∨Q2=0)∧Q2≤Q+1 ∧
      (if w1=9007199254740992 then Q2=Q+1∧w2=4503599627370496 else Q2=Q∧w2=w1):=by
      by_cases h5:w1=9007199254740992
      · exact⟨Q+1,4503599627370496,by omega,by omega,.inl (by omega),by omega,by rw[Kp h5];exact⟨rfl,rfl⟩⟩
      · exact⟨Q,w1,rfl,by omega,hw1g,by omega,by rw[zZ h5];exact⟨rfl,rfl⟩⟩
     refine obs (t:=(mode,(qo M:Int),(Q2:Int)-1074,hf,rs,(w2:Int),neg,(H:Int),(L:Int),e,rest,(0:Int),(w:Int),())) ?_ ?_
     · by_cases h5:w1=9007199254740992
       · rw[Kp h5]at hn
         obtain⟨rfl,rfl⟩:=hn;rw[zf (by omega),zd,h5,w64 (by omega) (by omega)];have:Int.fdiv ((9007199254740992:Nat):Int) (2^1)=((4503599627370496:Nat):Int):=by rw[JD]
         rw[this,show(Q:Int)-1074+1=((Q+1:Nat):Int)-1074 by omega]
       · rw[zZ h5]at hn
         obtain⟨rfl,rfl⟩:=hn;rw[zk (by omega),zh]
     · simp only[]
       rw[← hK];unfold qcC js;by_cases hov:(971:Int)<(Q2:Int)-1074
       · have hb:Nat.ble (Q2*4503599627370496+w2) 9218868437227405311=false:=by
          rw[qcH];exact zk (by omega)
         rw[zf hov,zd,hb,zh,zh];unfold ovN;rw[show(9218868437227405311:Nat)+1=9218868437227405312 from rfl]
       · have hb:Nat.ble (Q2*4503599627370496+w2) 9218868437227405311=true:=by
          rw[qcH];exact zf (by omega)
         rw[zk hov,zh,hb,zd,zd]
         -- the float is put together
         have hsm:decide (IntKind.i64.wrap ((qo M:Int)+e)≤-1022)=decide ((qo M:Int)+e≤-1022):=by rw[w64 (by omega) (by omega)]
         have hmake:∀(ex:Int),ex=(if 4503599627370496≤w2 then(Q2:Int)+1 else 0)→ZX (neg,(ex,(qD .and .u64 (w2:Int) 4503599627370495)))=some (((sgN neg+(Q2*4503599627370496+w2):Nat):Int),0):=by
          intro ex hex;have hm:=qcF w2 4503599627370495 52 rfl (by omega) (by omega)
          rw[show((4503599627370495:Nat):Int)=4503599627370495 from rfl]at hm;unfold ZX;simp only[hm];have hr:0≤ex∧ex≤2047:=by rw[hex];split <;> omega
          rw[zf hr.1,zf hr.2,zf (by omega)];simp only[zY,zd]
          congr 2
          rw[hex];split <;> omega
         rw[hsm];generalize decide ((qo M:Int)+e≤-1022)=sm
         have hor:qD .or .u8 1 2=3:=by decide
         have hexp:IntKind.i64.wrap (IntKind.i64.wrap ((Q2:Int)-1074-(-1074))+1)=(Q2:Int)+1:=by
          rw[w64 (n:=(Q2:Int)-1074-(-1074)) (by omega) (by omega),w64 (by omega) (by omega)];omega
         have hfd:decide (Int.fdiv (w2:Int) (2^52)=1)=decide (4503599627370496≤w2):=by
          rw[JD,show(1:Int)=((1:Nat):Int) from rfl,qdu];by_cases h4:4503599627370496≤w2
          · rw[zf h4,zf (by omega)]
          · rw[zk h4,zk (by omega)]
         by_cases h4:4503599627370496≤w2
         · have hm:=hmake ((Q2:Int)+1) (by rw[Kp h4])
           rw[zf h4]at hfd;cases hf <;> cases rs <;> cases sm <;> simp only[zd,zh,zi,hfd,hexp,hm,hor,Xk,Xf,Xc]
         · have hm:=hmake 0 (by rw[zZ h4])
           rw[zk h4]at hfd;cases hf <;> cases rs <;> cases sm <;> simp only[zd,zh,zi,hfd,hexp,hm,hor,Xk,Xf,Xc]
end
end Su
end
section
namespace Su
open Go Fly
noncomputable section
def qod  (neg:Bool)(m:(Int×Int))(e:Int)(rest:Bool)(mode:Int):Option (Int×Int) :=
 (bif(decide ((((qo (qe (m.1,m.2))):Nat):Int)=0))then
 some ((((((sgN neg)+(4503599627370496*(Int.toNat 0)))+(Int.toNat 0)):Nat):Int),(0:Int))
 else
  (bif rest then
  (Zw ((neg,m.1,m.2,(min (max e (-5000)) 5000),(decide (53<(((qo (qe (m.1,m.2))):Nat):Int)))),mode)).bind fun x0=>
  some (x0.1,x0.2)
 else
  (Zw ((neg,m.1,m.2,(min (max e (-5000)) 5000),false),mode)).bind fun x1=>
  some (x1.1,x1.2)))
def sOf  (f:Int):Option (Int×Int×Bool×Int×Int) :=
 some (f,(((qE (bK f.toNat)):Nat):Int),(decide ((Int.fdiv f (2^63))=1)),(((spM (bK f.toNat)):Nat):Int),(spE (bK f.toNat)))
def qCx  (neg:Bool):Option Int :=
 some (((((sgN neg)+(4503599627370496*(Int.toNat 0)))+(Int.toNat 0)):Nat):Int)
def flgL:{f:Bool→Int→Nat→Int→Bool→Int // ∀neg mode M e rest,f neg mode M e rest=bif Nat.beq M 0 then 0 else flN neg mode M (min (max e (-5000)) 5000+6000).toNat (rest&&decide (53<qo M)) (decide ((qo M:Int)+min (max e (-5000)) 5000≤-1022))}:=Classical.choice ⟨⟨_,fun _ _ _ _ _=>rfl⟩⟩
def flg(neg:Bool)(mode:Int)(M:Nat)(e:Int)(rest:Bool):Int:=flgL.1 neg mode M e rest
theorem qEw(neg:Bool)(mode:Int)(M:Nat)(e:Int)(rest:Bool):flg neg mode M e rest=bif Nat.beq M 0 then 0 else flN neg mode M (min (max e (-5000)) 5000+6000).toNat (rest&&decide (53<qo M)) (decide ((qo M:Int)+min (max e (-5000)) 5000≤-1022)):=flgL.2 neg mode M e rest
def qmh(p:Bool×(Int×Int)×Int×Bool×Int):Option (Int×Int):=some ((rnd p.1 p.2.2.2.2 (qe p.2.1) p.2.2.1 p.2.2.2.1:Int),flg p.1 p.2.2.2.2 (qe p.2.1) p.2.2.1 p.2.2.2.1)
theorem qrQ(p:Bool×(Int×Int)×Int×Bool×Int)(y:Int×Int)(hg:(dc cB (dc cW (dc (cI .i64) (dc cB (d1 (cI .u8)))))).good p)(h:qmh p=some y):qod p.1 p.2.1 p.2.2.1 p.2.2.2.1 p.2.2.2.2=some y:=by
 obtain⟨neg,⟨hi,lo⟩,e,rest,mode⟩:=p;have:=soi h;subst this
 unfold qod;simp only[qgc,qEw];have hE1 : -5000≤min (max e (-5000)) 5000:=by omega
 have hE2:min (max e (-5000)) 5000≤5000:=by omega
 generalize min (max e (-5000)) 5000=E at *
 have hF:∀r,Nat.beq (qe (hi,lo)) 0=false→Zw ((neg,hi,lo,E,r),mode)=some ((RN neg mode (qe (hi,lo)) (E+6000).toNat r:Int),flN neg mode (qe (hi,lo)) (E+6000).toNat r (decide ((qo (qe (hi,lo)):Int)+E≤-1022))):=by
  intro r hb;unfold Zw;simp only[hb,zf hE1,zf hE2,Kl,zY,zd]
 generalize qe (hi,lo)=M at *
 have hz:decide (((qo M:Nat):Int)=0)=Nat.beq M 0:=by
  rw[show(0:Int)=((0:Nat):Int) from rfl,qdu,beq_dec];by_cases h0:M=0
  · subst h0;rfl
  · have:=Yt h0
    rw[zk h0,zk (by omega)]
 have h53:decide ((53:Int)<((qo M:Nat):Int))=decide (53<qo M):=by
  by_cases h0:53<qo M
  · rw[zf h0,zf (by omega)]
  · rw[zk h0,zk (by omega)]
 rw[hz,h53];cases hb:Nat.beq M 0 with
 | true=>
  have:=zj hb;subst this
  rw[zd,zd,qcD,W5,VB,Kr]
 | false=>
  rw[zh,zh];cases rest with
  | true=>rw[zd,hF _ hb,zG];rfl
  | false=>rw[zh,hF _ hb,KW];rfl
end
end Su
end
section
namespace Su
open Go Fly
theorem qp4(n:Nat):qe (hiW n,loW n)=n % 340282366920938463463374607431768211456:=by
 rw[QO];unfold hiW loW;simp only[zl];omega
theorem beqe(x:Nat):(x == 0)=Nat.beq x 0:=by rw[beq_dec];rfl
theorem qjL{neg:Bool}{mode:Int}{Z D E:Nat}(h0:2^70*Z / 2^D≠0)(h:54≤qo (2^70*Z / 2^D)∨2^70*Z % 2^D=0) :
 RN neg mode (2^70*Z / 2^D) (E+D) (!(2^70*Z % 2^D == 0))=RN neg mode Z (E+70) false:=by
 rw[qt5 h0 h];have e1:2^70*Z / 2^70=Z:=WI _ (zK 70)
 have e2:2^70*Z % 2^70=0:=Xm _ _
 have hz:Z≠0:=fun e=>by subst e;rw[VB,XX]at h0;exact h0 rfl
 have:=qt5 (neg:=neg) (mode:=mode) (M:=2^70*Z) (E:=E) (t:=70) (by rw[e1];exact hz) (.inr e2)
 rw[e1,e2]at this;exact this.symm
theorem qhW{n:Nat}(h:2^53≤n):54≤qo n:=by
 refine Wg fun hlt=>?_
 have:=yC.1 (show qo n≤53 by omega)
 omega
theorem qu4{neg:Bool}{mode:Int}{X Y D:Nat}{e:Int}(hX:1≤X)(hX2:X<9007199254740992)(hY2:Y<9007199254740992)(he1 : -1074≤e)(he2:e+D≤971) :
 rnd neg mode (2^70*X+2^70*Y / 2^D) (e+D-70) (!Nat.beq (2^70*Y % 2^D) 0)=RN neg mode (2^D*X+Y) (e+6000).toNat false:=by
 have hD:=zK D;have hz:2^70*(2^D*X+Y)=2^70*Y+2^D*(2^70*X):=by rw[KO,WB,Wz]
 have hdiv:2^70*(2^D*X+Y) / 2^D=2^70*X+2^70*Y / 2^D:=by rw[hz,VU _ _ hD,Wz]
 have hmod:2^70*(2^D*X+Y) % 2^D=2^70*Y % 2^D:=by rw[hz,Ww]
 have hbig:2^53≤2^70*X+2^70*Y / 2^D:=by
  generalize 2^70*Y / 2^D=z
  omega
 have hb:=qhW hbig;rw[qgc,zf (show 53<qo (2^70*X+2^70*Y / 2^D) by omega),zN];have hE:(min (max (e+D-70) (-5000)) 5000+6000).toNat=(e+5930).toNat+D:=by omega
 have hE2:(e+6000).toNat=(e+5930).toNat+70:=by omega
 rw[hE,hE2,← qjL (D:=D) (by rw[hdiv];omega) (.inl (by rw[hdiv];exact hb)),hdiv,hmod,beqe]
theorem qu5{neg:Bool}{mode:Int}{X Y D:Nat}{e:Int}(hX2:X<9007199254740992)(hY2:Y<9007199254740992)(he1 : -1074≤e)(he2:e+D≤971)(hn:0<D→4503599627370496≤X)(hlt:Y<2^D*X) :
 2^70*Y / 2^D<2^70*X∧(2^70*Y % 2^D=0→rnd neg mode (2^70*X-2^70*Y / 2^D) (e+D-70) false=RN neg mode (2^D*X-Y) (e+6000).toNat false) ∧
  (2^70*Y % 2^D≠0→1≤2^70*X-2^70*Y / 2^D∧rnd neg mode (2^70*X-2^70*Y / 2^D-1) (e+D-70) true=RN neg mode (2^D*X-Y) (e+6000).toNat false):=by
 have hD:=zK D;have hE:(min (max (e+D-70) (-5000)) 5000+6000).toNat=(e+5930).toNat+D:=by omega
 have hE2:(e+6000).toNat=(e+5930).toNat+70:=by omega
 have hz:2^70*(2^D*X-Y)=2^D*(2^70*X)-2^70*Y:=by rw[Nat.mul_sub,WB]
 have hzlt:2^70*Y<2^D*(2^70*X):=by
  rw[WB];exact Nat.mul_lt_mul_of_pos_left hlt (zK 70)
 have hY0:=Vb (2^70*Y) (2^D)
 have hmlt:=Vr (2^70*Y) hD
 have h1:2^70*Y / 2^D<2^70*X:=by
  rw[KP hD,zL (2^70*X)];exact hzlt
 refine⟨h1,fun hr=>?_,fun hr=>?_⟩
 · -- nothing is lost
   rw[hr,Kr]at hY0;have hZ:2^70*(2^D*X-Y)=2^D*(2^70*X-2^70*Y / 2^D):=by
    rw[hz,Nat.mul_sub,hY0]
   have hdiv:2^70*(2^D*X-Y) / 2^D=2^70*X-2^70*Y / 2^D:=by rw[hZ,WI _ hD]
   have hmod:2^70*(2^D*X-Y) % 2^D=0:=by rw[hZ,Xm]
   rw[qgc,KW,hE,hE2,← qjL (D:=D) (by rw[hdiv];omega) (.inr hmod),hdiv,hmod];rfl
 · -- something is lost: so they lie far apart
   have hDbig:70<D:=by
    refine Vx fun h=>hr ?_
    have:2^70=2^D*2^(70-D):=by rw[← zW];congr 1;omega
    rw[this,zR,Xm]
   have hXn:=hn (by omega)
   have hq:2^70*Y / 2^D<4503599627370496:=by
    rw[KP hD];have h2:2^71≤2^D:=Kf (by omega) (by omega)
    have h3:4503599627370496*2^71≤4503599627370496*2^D:=KB _ h2
    omega
   have hZ:2^70*(2^D*X-Y)=2^D*(2^70*X-2^70*Y / 2^D-1)+(2^D-2^70*Y % 2^D):=by
    rw[hz];have e1:2^D*(2^70*X-2^70*Y / 2^D-1)+2^D+2^D*(2^70*Y / 2^D)=2^D*(2^70*X):=by
     rw[← qHN,← KO];congr 1;omega
    omega
   have hr2:2^D-2^70*Y % 2^D<2^D:=by omega
   have hdiv:2^70*(2^D*X-Y) / 2^D=2^70*X-2^70*Y / 2^D-1:=by
    rw[hZ,Nat.mul_add_div hD,Vu hr2,Kr]
   have hmod:2^70*(2^D*X-Y) % 2^D=2^D-2^70*Y % 2^D:=by
    rw[hZ,Xh,KA hr2]
   have hbig:2^53≤2^70*X-2^70*Y / 2^D-1:=by
    generalize 2^70*Y / 2^D=z at *
    omega
   have hb:=qhW hbig;refine⟨by omega,?_⟩
   have hne:(2^D-2^70*Y % 2^D == 0)=false:=by
    have:2^D-2^70*Y % 2^D≠0:=by omega
    generalize 2^D-2^70*Y % 2^D=w at *
    simp[this]
   rw[qgc,zf (show 53<qo (2^70*X-2^70*Y / 2^D-1) by omega),zN,hE,hE2,← qjL (D:=D) (by rw[hdiv];omega) (.inl (by rw[hdiv];exact hb)),hdiv,hmod,hne];rfl
end Su
end
section
namespace Su
open Go Fly
noncomputable section
def qcS  (x:(Int×Int×Bool×Int×Int))(y:(Int×Int×Bool×Int×Int))(mode:Int):Option (Int×Int) :=
 (bif(decide (x.2.2.1=y.2.2.1))then
 some ((((rnd x.2.2.1 mode (qe ((hiW ((qe ((hiW ((2^(Int.toNat 70))*(qe ((0:Int),x.2.2.2.1)))),(loW ((2^(Int.toNat 70))*(qe ((0:Int),x.2.2.2.1))))))+(qe ((hiW ((qe ((hiW ((2^(Int.toNat 70))*(qe ((0:Int),y.2.2.2.1)))),(loW ((2^(Int.toNat 70))*(qe ((0:Int),y.2.2.2.1)))))) / (2^(Int.toNat (IntKind.wrap .i64 (x.2.2.2.2-y.2.2.2.2)))))),(loW ((qe ((hiW ((2^(Int.toNat 70))*(qe ((0:Int),y.2.2.2.1)))),(loW ((2^(Int.toNat 70))*(qe ((0:Int),y.2.2.2.1)))))) / (2^(Int.toNat (IntKind.wrap .i64 (x.2.2.2.2-y.2.2.2.2)))))))))),(loW ((qe ((hiW ((2^(Int.toNat 70))*(qe ((0:Int),x.2.2.2.1)))),(loW ((2^(Int.toNat 70))*(qe ((0:Int),x.2.2.2.1))))))+(qe ((hiW ((qe ((hiW ((2^(Int.toNat 70))*(qe ((0:Int),y.2.2.2.1)))),(loW ((2^(Int.toNat 70))*(qe ((0:Int),y.2.2.2.1)))))) / (2^(Int.toNat (IntKind.wrap .i64 (x.2.2.2.2-y.2.2.2.2)))))),(loW ((qe ((hiW ((2^(Int.toNat 70))*(qe ((0:Int),y.2.2.2.1)))),(loW ((2^(Int.toNat 70))*(qe ((0:Int),y.2.2.2.1)))))) / (2^(Int.toNat (IntKind.wrap .i64 (x.2.2.2.2-y.2.2.2.2)))))))))))) (IntKind.wrap .i64 (x.2.2.2.2-70)) (!(Nat.beq ((qe ((hiW ((2^(Int.toNat 70))*(qe ((0:Int),y.2.2.2.1)))),(loW ((2^(Int.toNat 70))*(qe ((0:Int),y.2.2.2.1)))))) % (2^(Int.toNat (IntKind.wrap .i64 (x.2.2.2.2-y.2.2.2.2))))) 0))):Nat):Int),(flg x.2.2.1 mode (qe ((hiW ((qe ((hiW ((2^(Int.toNat 70))*(qe ((0:Int),x.2.2.2.1)))),(loW ((2^(Int.toNat 70))*(qe ((0:Int),x.2.2.2.1))))))+(qe ((hiW ((qe ((hiW ((2^(Int.toNat 70))*(qe ((0:Int),y.2.2.2.1)))),(loW ((2^(Int.toNat 70))*(qe ((0:Int),y.2.2.2.1)))))) / (2^(Int.toNat (IntKind.wrap .i64 (x.2.2.2.2-y.2.2.2.2)))))),(loW ((qe ((hiW ((2^(Int.toNat 70))*(qe ((0:Int),y.2.2.2.1)))),(loW ((2^(Int.toNat 70))*(qe ((0:Int),y.2.2.2.1)))))) / (2^(Int.toNat (IntKind.wrap .i64 (x.2.2.2.2-y.2.2.2.2)))))))))),(loW ((qe ((hiW ((2^(Int.toNat 70))*(qe ((0:Int),x.2.2.2.1)))),(loW ((2^(Int.toNat 70))*(qe ((0:Int),x.2.2.2.1))))))+(qe ((hiW ((qe ((hiW ((2^(Int.toNat 70))*(qe ((0:Int),y.2.2.2.1)))),(loW ((2^(Int.toNat 70))*(qe ((0:Int),y.2.2.2.1)))))) / (2^(Int.toNat (IntKind.wrap .i64 (x.2.2.2.2-y.2.2.2.2)))))),(loW ((qe ((hiW ((2^(Int.toNat 70))*(qe ((0:Int),y.2.2.2.1)))),(loW ((2^(Int.toNat 70))*(qe ((0:Int),y.2.2.2.1)))))) / (2^(Int.toNat (IntKind.wrap .i64 (x.2.2.2.2-y.2.2.2.2)))))))))))) (IntKind.wrap .i64 (x.2.2.2.2-70)) (!(Nat.beq ((qe ((hiW ((2^(Int.toNat 70))*(qe ((0:Int),y.2.2.2.1)))),(loW ((2^(Int.toNat 70))*(qe ((0:Int),y.2.2.2.1)))))) % (2^(Int.toNat (IntKind.wrap .i64 (x.2.2.2.2-y.2.2.2.2))))) 0))))
 else
  (bif((decide ((hiW (JE (qe ((hiW ((2^(Int.toNat 70))*(qe ((0:Int),x.2.2.2.1)))),(loW ((2^(Int.toNat 70))*(qe ((0:Int),x.2.2.2.1)))))) (qe ((hiW ((qe ((hiW ((2^(Int.toNat 70))*(qe ((0:Int),y.2.2.2.1)))),(loW ((2^(Int.toNat 70))*(qe ((0:Int),y.2.2.2.1)))))) / (2^(Int.toNat (IntKind.wrap .i64 (x.2.2.2.2-y.2.2.2.2)))))),(loW ((qe ((hiW ((2^(Int.toNat 70))*(qe ((0:Int),y.2.2.2.1)))),(loW ((2^(Int.toNat 70))*(qe ((0:Int),y.2.2.2.1)))))) / (2^(Int.toNat (IntKind.wrap .i64 (x.2.2.2.2-y.2.2.2.2))))))))))=0))&&((decide ((loW (JE (qe ((hiW ((2^(Int.toNat 70))*(qe ((0:Int),x.2.2.2.1)))),(loW ((2^(Int.toNat 70))*(qe ((0:Int),x.2.2.2.1)))))) (qe ((hiW ((qe ((hiW ((2^(Int.toNat 70))*(qe ((0:Int),y.2.2.2.1)))),(loW ((2^(Int.toNat 70))*(qe ((0:Int),y.2.2.2.1)))))) / (2^(Int.toNat (IntKind.wrap .i64 (x.2.2.2.2-y.2.2.2.2)))))),(loW ((qe ((hiW ((2^(Int.toNat 70))*(qe ((0:Int),y.2.2.2.1)))),(loW ((2^(Int.toNat 70))*(qe ((0:Int),y.2.2.2.1)))))) / (2^(Int.toNat (IntKind.wrap .i64 (x.2.2.2.2-y.2.2.2.2))))))))))=0))&&true))then
  some ((((((sgN (decide (mode=2)))+0)+0):Nat):Int),(0:Int))
 else
  (bif(!(Nat.beq ((qe ((hiW ((2^(Int.toNat 70))*(qe ((0:Int),y.2.2.2.1)))),(loW ((2^(Int.toNat 70))*(qe ((0:Int),y.2.2.2.1)))))) % (2^(Int.toNat (IntKind.wrap .i64 (x.2.2.2.2-y.2.2.2.2))))) 0))then
  some ((((rnd x.2.2.1 mode (qe ((hiW (JE (qe ((hiW (JE (qe ((hiW ((2^(Int.toNat 70))*(qe ((0:Int),x.2.2.2.1)))),(loW ((2^(Int.toNat 70))*(qe ((0:Int),x.2.2.2.1)))))) (qe ((hiW ((qe ((hiW ((2^(Int.toNat 70))*(qe ((0:Int),y.2.2.2.1)))),(loW ((2^(Int.toNat 70))*(qe ((0:Int),y.2.2.2.1)))))) / (2^(Int.toNat (IntKind.wrap .i64 (x.2.2.2.2-y.2.2.2.2)))))),(loW ((qe ((hiW ((2^(Int.toNat 70))*(qe ((0:Int),y.2.2.2.1)))),(loW ((2^(Int.toNat 70))*(qe ((0:Int),y.2.2.2.1)))))) / (2^(Int.toNat (IntKind.wrap .i64 (x.2.2.2.2-y.2.2.2.2)))))))))),(loW (JE (qe ((hiW ((2^(Int.toNat 70))*(qe ((0:Int),x.2.2.2.1)))),(loW ((2^(Int.toNat 70))*(qe ((0:Int),x.2.2.2.1)))))) (qe ((hiW ((qe ((hiW ((2^(Int.toNat 70))*(qe ((0:Int),y.2.2.2.1)))),(loW ((2^(Int.toNat 70))*(qe ((0:Int),y.2.2.2.1)))))) / (2^(Int.toNat (IntKind.wrap .i64 (x.2.2.2.2-y.2.2.2.2)))))),(loW ((qe ((hiW ((2^(Int.toNat 70))*(qe ((0:Int),y.2.2.2.1)))),(loW ((2^(Int.toNat 70))*(qe ((0:Int),y.2.2.2.1)))))) / (2^(Int.toNat (IntKind.wrap .i64 (x.2.2.2.2-y.2.2.2.2)))))))))))) (qe ((0:Int),(1:Int))))),(loW (JE (qe ((hiW (JE (qe ((hiW ((2^(Int.toNat 70))*(qe ((0:Int),x.2.2.2.1)))),(loW ((2^(Int.toNat 70))*(qe ((0:Int),x.2.2.2.1)))))) (qe ((hiW ((qe ((hiW ((2^(Int.toNat 70))*(qe ((0:Int),y.2.2.2.1)))),(loW ((2^(Int.toNat 70))*(qe ((0:Int),y.2.2.2.1)))))) / (2^(Int.toNat (IntKind.wrap .i64 (x.2.2.2.2-y.2.2.2.2)))))),(loW ((qe ((hiW ((2^(Int.toNat 70))*(qe ((0:Int),y.2.2.2.1)))),(loW ((2^(Int.toNat 70))*(qe ((0:Int),y.2.2.2.1)))))) / (2^(Int.toNat (IntKind.wrap .i64 (x.2.2.2.2-y.2.2.2.2)))))))))),(loW (JE (qe ((hiW ((2^(Int.toNat 70))*(qe ((0:Int),x.2.2.2.1)))),(loW ((2^(Int.toNat 70))*(qe ((0:Int),x.2.2.2.1)))))) (qe ((hiW ((qe ((hiW ((2^(Int.toNat 70))*(qe ((0:Int),y.2.2.2.1)))),(loW ((2^(Int.toNat 70))*(qe ((0:Int),y.2.2.2.1)))))) / (2^(Int.toNat (IntKind.wrap .i64 (x.2.2.2.2-y.2.2.2.2)))))),(loW ((qe ((hiW ((2^(Int.toNat 70))*(qe ((0:Int),y.2.2.2.1)))),(loW ((2^(Int.toNat 70))*(qe ((0:Int),y.2.2.2.1)))))) / (2^(Int.toNat (IntKind.wrap .i64 (x.2.2.2.2-y.2.2.2.2)))))))))))) (qe ((0:Int),(1:Int))))))) (IntKind.wrap .i64 (x.2.2.2.2-70)) (!(Nat.beq ((qe ((hiW ((2^(Int.toNat 70))*(qe ((0:Int),y.2.2.2.1)))),(loW ((2^(Int.toNat 70))*(qe ((0:Int),y.2.2.2.1)))))) % (2^(Int.toNat (IntKind.wrap .i64 (x.2.2.2.2-y.2.2.2.2))))) 0))):Nat):Int),(flg x.2.2.1 mode (qe ((hiW (JE (qe ((hiW (JE (qe ((hiW ((2^(Int.toNat 70))*(qe ((0:Int),x.2.2.2.1)))),(loW ((2^(Int.toNat 70))*(qe ((0:Int),x.2.2.2.1)))))) (qe ((hiW ((qe ((hiW ((2^(Int.toNat 70))*(qe ((0:Int),y.2.2.2.1)))),(loW ((2^(Int.toNat 70))*(qe ((0:Int),y.2.2.2.1)))))) / (2^(Int.toNat (IntKind.wrap .i64 (x.2.2.2.2-y.2.2.2.2)))))),(loW ((qe ((hiW ((2^(Int.toNat 70))*(qe ((0:Int),y.2.2.2.1)))),(loW ((2^(Int.toNat 70))*(qe ((0:Int),y.2.2.2.1)))))) / (2^(Int.toNat (IntKind.wrap .i64 (x.2.2.2.2-y.2.2.2.2)))))))))),(loW (JE (qe ((hiW ((2^(Int.toNat 70))*(qe ((0:Int),x.2.2.2.1)))),(loW ((2^(Int.toNat 70))*(qe ((0:Int),x.2.2.2.1)))))) (qe ((hiW ((qe ((hiW ((2^(Int.toNat 70))*(qe ((0:Int),y.2.2.2.1)))),(loW ((2^(Int.toNat 70))*(qe ((0:Int),y.2.2.2.1)))))) / (2^(Int.toNat (IntKind.wrap .i64 (x.2.2.2.2-y.2.2.2.2)))))),(loW ((qe ((hiW ((2^(Int.toNat 70))*(qe ((0:Int),y.2.2.2.1)))),(loW ((2^(Int.toNat 70))*(qe ((0:Int),y.2.2.2.1)))))) / (2^(Int.toNat (IntKind.wrap .i64 (x.2.2.2.2-y.2.2.2.2)))))))))))) (qe ((0:Int),(1:Int))))),(loW (JE (qe ((hiW (JE (qe ((hiW ((2^(Int.toNat 70))*(qe ((0:Int),x.2.2.2.1)))),(loW ((2^(Int.toNat 70))*(qe ((0:Int),x.2.2.2.1)))))) (qe ((hiW ((qe ((hiW ((2^(Int.toNat 70))*(qe ((0:Int),y.2.2.2.1)))),(loW ((2^(Int.toNat 70))*(qe ((0:Int),y.2.2.2.1)))))) / (2^(Int.toNat (IntKind.wrap .i64 (x.2.2.2.2-y.2.2.2.2)))))),(loW ((qe ((hiW ((2^(Int.toNat 70))*(qe ((0:Int),y.2.2.2.1)))),(loW ((2^(Int.toNat 70))*(qe ((0:Int),y.2.2.2.1)))))) / (2^(Int.toNat (IntKind.wrap .i64 (x.2.2.2.2-y.2.2.2.2)))))))))),(loW (JE (qe ((hiW ((2^(Int.toNat 70))*(qe ((0:Int),x.2.2.2.1)))),(loW ((2^(Int.toNat 70))*(qe ((0:Int),x.2.2.2.1)))))) (qe ((hiW ((qe ((hiW ((2^(Int.toNat 70))*(qe ((0:Int),y.2.2.2.1)))),(loW ((2^(Int.toNat 70))*(qe ((0:Int),y.2.2.2.1)))))) / (2^(Int.toNat (IntKind.wrap .i64 (x.2.2.2.2-y.2.2.2.2)))))),(loW ((qe ((hiW ((2^(Int.toNat 70))*(qe ((0:Int),y.2.2.2.1)))),(loW ((2^(Int.toNat 70))*(qe ((0:Int),y.2.2.2.1)))))) / (2^(Int.toNat (IntKind.wrap .i64 (x.2.2.2.2-y.2.2.2.2)))))))))))) (qe ((0:Int),(1:Int))))))) (IntKind.wrap .i64 (x.2.2.2.2-70)) (!(Nat.beq ((qe ((hiW ((2^(Int.toNat 70))*(qe ((0:Int),y.2.2.2.1)))),(loW ((2^(Int.toNat 70))*(qe ((0:Int),y.2.2.2.1)))))) % (2^(Int.toNat (IntKind.wrap .i64 (x.2.2.2.2-y.2.2.2.2))))) 0))))
 else
  some ((((rnd x.2.2.1 mode (qe ((hiW (JE (qe ((hiW ((2^(Int.toNat 70))*(qe ((0:Int),x.2.2.2.1)))),(loW ((2^(Int.toNat 70))*(qe ((0:Int),x.2.2.2.1)))))) (qe ((hiW ((qe ((hiW ((2^(Int.toNat 70))*(qe ((0:Int),y.2.2.2.1)))),(loW ((2^(Int.toNat 70))*(qe ((0:Int),y.2.2.2.1)))))) / (2^(Int.toNat (IntKind.wrap .i64 (x.2.2.2.2-y.2.2.2.2)))))),(loW ((qe ((hiW ((2^(Int.toNat 70))*(qe ((0:Int),y.2.2.2.1)))),(loW ((2^(Int.toNat 70))*(qe ((0:Int),y.2.2.2.1)))))) / (2^(Int.toNat (IntKind.wrap .i64 (x.2.2.2.2-y.2.2.2.2)))))))))),(loW (JE (qe ((hiW ((2^(Int.toNat 70))*(qe ((0:Int),x.2.2.2.1)))),(loW ((2^(Int.toNat 70))*(qe ((0:Int),x.2.2.2.1)))))) (qe ((hiW ((qe ((hiW ((2^(Int.toNat 70))*(qe ((0:Int),y.2.2.2.1)))),(loW ((2^(Int.toNat 70))*(qe ((0:Int),y.2.2.2.1)))))) / (2^(Int.toNat (IntKind.wrap .i64 (x.2.2.2.2-y.2.2.2.2)))))),(loW ((qe ((hiW ((2^(Int.toNat 70))*(qe ((0:Int),y.2.2.2.1)))),(loW ((2^(Int.toNat 70))*(qe ((0:Int),y.2.2.2.1)))))) / (2^(Int.toNat (IntKind.wrap .i64 (x.2.2.2.2-y.2.2.2.2)))))))))))) (IntKind.wrap .i64 (x.2.2.2.2-70)) (!(Nat.beq ((qe ((hiW ((2^(Int.toNat 70))*(qe ((0:Int),y.2.2.2.1)))),(loW ((2^(Int.toNat 70))*(qe ((0:Int),y.2.2.2.1)))))) % (2^(Int.toNat (IntKind.wrap .i64 (x.2.2.2.2-y.2.2.2.2))))) 0))):Nat):Int),(flg x.2.2.1 mode (qe ((hiW (JE (qe ((hiW ((2^(Int.toNat 70))*(qe ((0:Int),x.2.2.2.1)))),(loW ((2^(Int.toNat 70))*(qe ((0:Int),x.2.2.2.1)))))) (qe ((hiW ((qe ((hiW ((2^(Int.toNat 70))*(qe ((0:Int),y.2.2.2.1)))),(loW ((2^(Int.toNat 70))*(qe ((0:Int),y.2.2.2.1)))))) / (2^(Int.toNat (IntKind.wrap .i64 (x.2.2.2.2-y.2.2.2.2)))))),(loW ((qe ((hiW ((2^(Int.toNat 70))*(qe ((0:Int),y.2.2.2.1)))),(loW ((2^(Int.toNat 70))*(qe ((0:Int),y.2.2.2.1)))))) / (2^(Int.toNat (IntKind.wrap .i64 (x.2.2.2.2-y.2.2.2.2)))))))))),(loW (JE (qe ((hiW ((2^(Int.toNat 70))*(qe ((0:Int),x.2.2.2.1)))),(loW ((2^(Int.toNat 70))*(qe ((0:Int),x.2.2.2.1)))))) (qe ((hiW ((qe ((hiW ((2^(Int.toNat 70))*(qe ((0:Int),y.2.2.2.1)))),(loW ((2^(Int.toNat 70))*(qe ((0:Int),y.2.2.2.1)))))) / (2^(Int.toNat (IntKind.wrap .i64 (x.2.2.2.2-y.2.2.2.2)))))),(loW ((qe ((hiW ((2^(Int.toNat 70))*(qe ((0:Int),y.2.2.2.1)))),(loW ((2^(Int.toNat 70))*(qe ((0:Int),y.2.2.2.1)))))) / (2^(Int.toNat (IntKind.wrap .i64 (x.2.2.2.2-y.2.2.2.2)))))))))))) (IntKind.wrap .i64 (x.2.2.2.2-70)) (!(Nat.beq ((qe ((hiW ((2^(Int.toNat 70))*(qe ((0:Int),y.2.2.2.1)))),(loW ((2^(Int.toNat 70))*(qe ((0:Int),y.2.2.2.1)))))) % (2^(Int.toNat (IntKind.wrap .i64 (x.2.2.2.2-y.2.2.2.2))))) 0)))))))
def qmi(nx ny:Bool)(mode:Int)(X Y D:Nat)(ey:Int):Nat:=if nx=ny then RN nx mode (2^D*X+Y) (ey+6000).toNat false else if 2^D*X=Y then sgN (decide (mode=2))else RN nx mode (2^D*X-Y) (ey+6000).toNat false
theorem qrR{nx ny:Bool}{fx cx fy cy:Int}{X Y D:Nat}{ey mode:Int}(hX1:1≤X)(hX2:X<9007199254740992)(hY2:Y<9007199254740992)(he1 : -1074≤ey)(he2:ey+D≤971)(hn:0<D→4503599627370496≤X)(hle:Y≤2^D*X) :
 ∃fl,qcS (fx,(cx,(nx,((X:Int),ey+D)))) (fy,(cy,(ny,((Y:Int),ey)))) mode=some ((qmi nx ny mode X Y D ey:Int),fl):=by
 unfold qcS;simp only[];have v0:∀m:Nat,m<18446744073709551616→qe (0,(m:Int))=m:=fun m hm=>by rw[QO];simp only[W5,zl];omega
 have v1:qe (0,1)=1:=v0 1 (by decide)
 have t70:Int.toNat 70=70:=rfl
 have hwd:IntKind.i64.wrap (ey+D-ey)=(D:Int):=by rw[w64 (by omega) (by omega)];omega
 have hwe:IntKind.i64.wrap (ey+D-70)=ey+D-70:=w64 (by omega) (by omega)
 have hD:=zK D;have bP:2^70*X<170141183460469231731687303715884105728:=by omega
 have bQ0:2^70*Y<170141183460469231731687303715884105728:=by omega
 have bQ:2^70*Y / 2^D<170141183460469231731687303715884105728:=KX (VG _ _) bQ0
 have hP:2^70*X % 340282366920938463463374607431768211456=2^70*X:=KA (by omega)
 have hQ0:2^70*Y % 340282366920938463463374607431768211456=2^70*Y:=KA (by omega)
 have hQ:2^70*Y / 2^D % 340282366920938463463374607431768211456=2^70*Y / 2^D:=KA (by omega)
 simp only[v0 X (by omega),v0 Y (by omega),v1,t70,qp4,hP,hQ0,hQ,hwd,hwe,zl];unfold qmi;by_cases hs:nx=ny
 · have hsum:(2^70*X+2^70*Y / 2^D) % 340282366920938463463374607431768211456=2^70*X+2^70*Y / 2^D:=KA (by omega)
   rw[zf hs,zd,Kp hs];rw[hsum,qu4 hX1 hX2 hY2 he1 he2];exact⟨_,rfl⟩
 · rw[zk hs,zh,zZ hs]
   have hQP:2^70*Y / 2^D≤2^70*X:=by
    have:2^70*Y≤2^70*X*2^D:=by rw[zR,zL X];exact KB _ hle
    exact(Nat.div_le_iff_le_mul_add_pred hD).2 (by rw[zL (2^D)];omega)
   have hsub:JE (2^70*X) (2^70*Y / 2^D) % 340282366920938463463374607431768211456=2^70*X-2^70*Y / 2^D:=by rw[qe2];omega
   have hzero:(decide (hiW (JE (2^70*X) (2^70*Y / 2^D))=0)&&(decide (loW (JE (2^70*X) (2^70*Y / 2^D))=0)&&true))=decide (2^70*X=2^70*Y / 2^D):=by
    rw[zN,← Bool.decide_and];refine Xt.2 ?_
    unfold hiW loW;rw[qe2];generalize 2^70*X=p at *
    generalize 2^70*Y / 2^D=q at *
    omega
   rw[hzero,hsub];by_cases hz:2^D*X=Y
   · -- nothing is left
     have e:2^70*X=2^70*Y / 2^D:=by rw[← hz,WB,WI _ hD]
     rw[zf e,zd,Kp hz];exact⟨0,by simp only[Kr]⟩
   · obtain⟨h1,h2,h3⟩:=qu5 (neg:=nx) (mode:=mode) hX2 hY2 he1 he2 hn (by omega)
     have e:2^70*X≠2^70*Y / 2^D:=by omega
     rw[zk e,zh,zZ hz];by_cases hr:2^70*Y % 2^D=0
     · rw[hr,show(!Nat.beq 0 0)=false from rfl,zh,h2 hr]
       exact⟨_,rfl⟩
     · rw[qbW hr,Kl,zd]
       obtain⟨g1,g2⟩:=h3 hr;have hsub2:JE (2^70*X-2^70*Y / 2^D) 1 % 340282366920938463463374607431768211456=2^70*X-2^70*Y / 2^D-1:=by rw[qe2];omega
       rw[hsub2,g2];exact⟨_,rfl⟩
end
end Su
end
