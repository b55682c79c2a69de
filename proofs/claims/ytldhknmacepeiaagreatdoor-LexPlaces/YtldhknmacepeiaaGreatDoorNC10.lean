/-
  What functions of the program compute, in plain Lean, and that the evaluator finds it.
-/
import Derived.Test.YtldhknmacepeiaaGreatDoorSuXl
import Derived.Test.YtldhknmacepeiaaGreatDoorNB10
import Derived.Test.YtldhknmacepeiaaGreatDoorSuSd
set_option linter.unusedVariables false
set_option linter.unusedSimpArgs false
set_option maxRecDepth 10000
section
namespace Su
open Go Fly
noncomputable section
def qjf  (x:(Bool×Int×Int×Int×Bool))(mode:Int):Option (Int×Int) :=
 (bif(decide (0<(IntKind.wrap .i64 ((max (IntKind.wrap .i64 ((IntKind.wrap .i64 ((((qm (jB (x.2.1,x.2.2.1))):Nat):Int)-53))+x.2.2.2.1)) (-1074))-x.2.2.2.1))))then
 (bif x.2.2.2.2 then
 some (mode,(((qm (jB (x.2.1,x.2.2.1))):Nat):Int),(max (IntKind.wrap .i64 ((IntKind.wrap .i64 ((((qm (jB (x.2.1,x.2.2.1))):Nat):Int)-53))+x.2.2.2.1)) (-1074)),(decide ((Fly.qX Go.BinOp.and .u64 (loW ((jB (x.2.1,x.2.2.1)) / (2^(Int.toNat (IntKind.wrap .i64 ((IntKind.wrap .i64 ((max (IntKind.wrap .i64 ((IntKind.wrap .i64 ((((qm (jB (x.2.1,x.2.2.1))):Nat):Int)-53))+x.2.2.2.1)) (-1074))-x.2.2.2.1))-1)))))) 1)=1)),true,x.1,x.2.1,x.2.2.1,x.2.2.2.1,x.2.2.2.2,(hiW ((jB ((hiW ((jB (x.2.1,x.2.2.1)) / (2^(Int.toNat (IntKind.wrap .i64 ((IntKind.wrap .i64 ((max (IntKind.wrap .i64 ((IntKind.wrap .i64 ((((qm (jB (x.2.1,x.2.2.1))):Nat):Int)-53))+x.2.2.2.1)) (-1074))-x.2.2.2.1))-1)))))),(loW ((jB (x.2.1,x.2.2.1)) / (2^(Int.toNat (IntKind.wrap .i64 ((IntKind.wrap .i64 ((max (IntKind.wrap .i64 ((IntKind.wrap .i64 ((((qm (jB (x.2.1,x.2.2.1))):Nat):Int)-53))+x.2.2.2.1)) (-1074))-x.2.2.2.1))-1)))))))) / (2^(Int.toNat 1)))),(loW ((jB ((hiW ((jB (x.2.1,x.2.2.1)) / (2^(Int.toNat (IntKind.wrap .i64 ((IntKind.wrap .i64 ((max (IntKind.wrap .i64 ((IntKind.wrap .i64 ((((qm (jB (x.2.1,x.2.2.1))):Nat):Int)-53))+x.2.2.2.1)) (-1074))-x.2.2.2.1))-1)))))),(loW ((jB (x.2.1,x.2.2.1)) / (2^(Int.toNat (IntKind.wrap .i64 ((IntKind.wrap .i64 ((max (IntKind.wrap .i64 ((IntKind.wrap .i64 ((((qm (jB (x.2.1,x.2.2.1))):Nat):Int)-53))+x.2.2.2.1)) (-1074))-x.2.2.2.1))-1)))))))) / (2^(Int.toNat 1)))),())
 else
  some (mode,(((qm (jB (x.2.1,x.2.2.1))):Nat):Int),(max (IntKind.wrap .i64 ((IntKind.wrap .i64 ((((qm (jB (x.2.1,x.2.2.1))):Nat):Int)-53))+x.2.2.2.1)) (-1074)),(decide ((Fly.qX Go.BinOp.and .u64 (loW ((jB (x.2.1,x.2.2.1)) / (2^(Int.toNat (IntKind.wrap .i64 ((IntKind.wrap .i64 ((max (IntKind.wrap .i64 ((IntKind.wrap .i64 ((((qm (jB (x.2.1,x.2.2.1))):Nat):Int)-53))+x.2.2.2.1)) (-1074))-x.2.2.2.1))-1)))))) 1)=1)),(!(Nat.beq ((jB (x.2.1,x.2.2.1)) % (2^(Int.toNat (IntKind.wrap .i64 ((IntKind.wrap .i64 ((max (IntKind.wrap .i64 ((IntKind.wrap .i64 ((((qm (jB (x.2.1,x.2.2.1))):Nat):Int)-53))+x.2.2.2.1)) (-1074))-x.2.2.2.1))-1))))) 0)),x.1,x.2.1,x.2.2.1,x.2.2.2.1,x.2.2.2.2,(hiW ((jB ((hiW ((jB (x.2.1,x.2.2.1)) / (2^(Int.toNat (IntKind.wrap .i64 ((IntKind.wrap .i64 ((max (IntKind.wrap .i64 ((IntKind.wrap .i64 ((((qm (jB (x.2.1,x.2.2.1))):Nat):Int)-53))+x.2.2.2.1)) (-1074))-x.2.2.2.1))-1)))))),(loW ((jB (x.2.1,x.2.2.1)) / (2^(Int.toNat (IntKind.wrap .i64 ((IntKind.wrap .i64 ((max (IntKind.wrap .i64 ((IntKind.wrap .i64 ((((qm (jB (x.2.1,x.2.2.1))):Nat):Int)-53))+x.2.2.2.1)) (-1074))-x.2.2.2.1))-1)))))))) / (2^(Int.toNat 1)))),(loW ((jB ((hiW ((jB (x.2.1,x.2.2.1)) / (2^(Int.toNat (IntKind.wrap .i64 ((IntKind.wrap .i64 ((max (IntKind.wrap .i64 ((IntKind.wrap .i64 ((((qm (jB (x.2.1,x.2.2.1))):Nat):Int)-53))+x.2.2.2.1)) (-1074))-x.2.2.2.1))-1)))))),(loW ((jB (x.2.1,x.2.2.1)) / (2^(Int.toNat (IntKind.wrap .i64 ((IntKind.wrap .i64 ((max (IntKind.wrap .i64 ((IntKind.wrap .i64 ((((qm (jB (x.2.1,x.2.2.1))):Nat):Int)-53))+x.2.2.2.1)) (-1074))-x.2.2.2.1))-1)))))))) / (2^(Int.toNat 1)))),()))
 else
  some (mode,(((qm (jB (x.2.1,x.2.2.1))):Nat):Int),(max (IntKind.wrap .i64 ((IntKind.wrap .i64 ((((qm (jB (x.2.1,x.2.2.1))):Nat):Int)-53))+x.2.2.2.1)) (-1074)),false,x.2.2.2.2,x.1,x.2.1,x.2.2.1,x.2.2.2.1,x.2.2.2.2,(hiW ((2^(Int.toNat (IntKind.wrap .i64 (0-(IntKind.wrap .i64 ((max (IntKind.wrap .i64 ((IntKind.wrap .i64 ((((qm (jB (x.2.1,x.2.2.1))):Nat):Int)-53))+x.2.2.2.1)) (-1074))-x.2.2.2.1))))))*(jB (x.2.1,x.2.2.1)))),(loW ((2^(Int.toNat (IntKind.wrap .i64 (0-(IntKind.wrap .i64 ((max (IntKind.wrap .i64 ((IntKind.wrap .i64 ((((qm (jB (x.2.1,x.2.2.1))):Nat):Int)-53))+x.2.2.2.1)) (-1074))-x.2.2.2.1))))))*(jB (x.2.1,x.2.2.1)))),())).bind fun x0=>
  (bif(upN x0.2.2.2.2.2.1 x0.1 (decide ((Fly.qX Go.BinOp.and .u64 x0.2.2.2.2.2.2.2.2.2.2.2.1 1)=1)) x0.2.2.2.1 x0.2.2.2.2.1)then
  some (x0.1,x0.2.1,x0.2.2.1,x0.2.2.2.1,x0.2.2.2.2.1,(IntKind.wrap .u64 (x0.2.2.2.2.2.2.2.2.2.2.2.1+1)),x0.2.2.2.2.2.1,x0.2.2.2.2.2.2.1,x0.2.2.2.2.2.2.2.1,x0.2.2.2.2.2.2.2.2.1,x0.2.2.2.2.2.2.2.2.2.1,x0.2.2.2.2.2.2.2.2.2.2.1,x0.2.2.2.2.2.2.2.2.2.2.2.1,())
 else
  some (x0.1,x0.2.1,x0.2.2.1,x0.2.2.2.1,x0.2.2.2.2.1,x0.2.2.2.2.2.2.2.2.2.2.2.1,x0.2.2.2.2.2.1,x0.2.2.2.2.2.2.1,x0.2.2.2.2.2.2.2.1,x0.2.2.2.2.2.2.2.2.1,x0.2.2.2.2.2.2.2.2.2.1,x0.2.2.2.2.2.2.2.2.2.2.1,x0.2.2.2.2.2.2.2.2.2.2.2.1,())).bind fun x1=>
  (bif(decide (x1.2.2.2.2.2.1=9007199254740992))then
  some (x1.1,x1.2.1,(IntKind.wrap .i64 (x1.2.2.1+1)),x1.2.2.2.1,x1.2.2.2.2.1,(Int.fdiv x1.2.2.2.2.2.1 (2^1)),x1.2.2.2.2.2.2.1,x1.2.2.2.2.2.2.2.1,x1.2.2.2.2.2.2.2.2.1,x1.2.2.2.2.2.2.2.2.2.1,x1.2.2.2.2.2.2.2.2.2.2.1,x1.2.2.2.2.2.2.2.2.2.2.2.1,x1.2.2.2.2.2.2.2.2.2.2.2.2.1,())
 else
  some (x1.1,x1.2.1,x1.2.2.1,x1.2.2.2.1,x1.2.2.2.2.1,x1.2.2.2.2.2.1,x1.2.2.2.2.2.2.1,x1.2.2.2.2.2.2.2.1,x1.2.2.2.2.2.2.2.2.1,x1.2.2.2.2.2.2.2.2.2.1,x1.2.2.2.2.2.2.2.2.2.2.1,x1.2.2.2.2.2.2.2.2.2.2.2.1,x1.2.2.2.2.2.2.2.2.2.2.2.2.1,())).bind fun x2=>
  (bif(decide (971<x2.2.2.1))then
  some ((ovN x2.2.2.2.2.2.2.1 x2.1:Int),(5:Int))
 else
  (bif x2.2.2.2.1 then
  ((bif(decide ((IntKind.wrap .i64 (x2.2.1+x2.2.2.2.2.2.2.2.2.2.1))≤(-1022)))then
  some (x2.1,x2.2.1,x2.2.2.1,x2.2.2.2.1,x2.2.2.2.2.1,x2.2.2.2.2.2.1,(Fly.qX Go.BinOp.or .u8 1 2),x2.2.2.2.2.2.2.1,x2.2.2.2.2.2.2.2.1,x2.2.2.2.2.2.2.2.2.1,x2.2.2.2.2.2.2.2.2.2.1,x2.2.2.2.2.2.2.2.2.2.2.1,x2.2.2.2.2.2.2.2.2.2.2.2.1,x2.2.2.2.2.2.2.2.2.2.2.2.2.1,())
 else
  some (x2.1,x2.2.1,x2.2.2.1,x2.2.2.2.1,x2.2.2.2.2.1,x2.2.2.2.2.2.1,(1:Int),x2.2.2.2.2.2.2.1,x2.2.2.2.2.2.2.2.1,x2.2.2.2.2.2.2.2.2.1,x2.2.2.2.2.2.2.2.2.2.1,x2.2.2.2.2.2.2.2.2.2.2.1,x2.2.2.2.2.2.2.2.2.2.2.2.1,x2.2.2.2.2.2.2.2.2.2.2.2.2.1,())).bind fun x3=>
  some (x3.1,x3.2.1,x3.2.2.1,x3.2.2.2.1,x3.2.2.2.2.1,x3.2.2.2.2.2.1,x3.2.2.2.2.2.2.1,x3.2.2.2.2.2.2.2.1,x3.2.2.2.2.2.2.2.2.1,x3.2.2.2.2.2.2.2.2.2.1,x3.2.2.2.2.2.2.2.2.2.2.1,x3.2.2.2.2.2.2.2.2.2.2.2.1,x3.2.2.2.2.2.2.2.2.2.2.2.2.1,x3.2.2.2.2.2.2.2.2.2.2.2.2.2.1,())).bind fun x4=>
  (bif(decide ((Int.fdiv x4.2.2.2.2.2.1 (2^52))=1))then
  some (x4.1,x4.2.1,x4.2.2.1,x4.2.2.2.1,x4.2.2.2.2.1,x4.2.2.2.2.2.1,x4.2.2.2.2.2.2.1,(IntKind.wrap .i64 ((IntKind.wrap .i64 (x4.2.2.1-(-1074)))+1)),x4.2.2.2.2.2.2.2.1,x4.2.2.2.2.2.2.2.2.1,x4.2.2.2.2.2.2.2.2.2.1,x4.2.2.2.2.2.2.2.2.2.2.1,x4.2.2.2.2.2.2.2.2.2.2.2.1,x4.2.2.2.2.2.2.2.2.2.2.2.2.1,x4.2.2.2.2.2.2.2.2.2.2.2.2.2.1,())
 else
  some (x4.1,x4.2.1,x4.2.2.1,x4.2.2.2.1,x4.2.2.2.2.1,x4.2.2.2.2.2.1,x4.2.2.2.2.2.2.1,(0:Int),x4.2.2.2.2.2.2.2.1,x4.2.2.2.2.2.2.2.2.1,x4.2.2.2.2.2.2.2.2.2.1,x4.2.2.2.2.2.2.2.2.2.2.1,x4.2.2.2.2.2.2.2.2.2.2.2.1,x4.2.2.2.2.2.2.2.2.2.2.2.2.1,x4.2.2.2.2.2.2.2.2.2.2.2.2.2.1,())).bind fun x5=>
  (Yc (x5.2.2.2.2.2.2.2.2.1,x5.2.2.2.2.2.2.2.1,(Fly.qX Go.BinOp.and .u64 x5.2.2.2.2.2.1 4503599627370495))).bind fun x6=>
  some (x6.1,x5.2.2.2.2.2.2.1)
 else
  (bif x2.2.2.2.2.1 then
  (bif(decide ((IntKind.wrap .i64 (x2.2.1+x2.2.2.2.2.2.2.2.2.2.1))≤(-1022)))then
  some (x2.1,x2.2.1,x2.2.2.1,x2.2.2.2.1,x2.2.2.2.2.1,x2.2.2.2.2.2.1,(Fly.qX Go.BinOp.or .u8 1 2),x2.2.2.2.2.2.2.1,x2.2.2.2.2.2.2.2.1,x2.2.2.2.2.2.2.2.2.1,x2.2.2.2.2.2.2.2.2.2.1,x2.2.2.2.2.2.2.2.2.2.2.1,x2.2.2.2.2.2.2.2.2.2.2.2.1,x2.2.2.2.2.2.2.2.2.2.2.2.2.1,())
 else
  some (x2.1,x2.2.1,x2.2.2.1,x2.2.2.2.1,x2.2.2.2.2.1,x2.2.2.2.2.2.1,(1:Int),x2.2.2.2.2.2.2.1,x2.2.2.2.2.2.2.2.1,x2.2.2.2.2.2.2.2.2.1,x2.2.2.2.2.2.2.2.2.2.1,x2.2.2.2.2.2.2.2.2.2.2.1,x2.2.2.2.2.2.2.2.2.2.2.2.1,x2.2.2.2.2.2.2.2.2.2.2.2.2.1,())).bind fun x7=>
  some (x7.1,x7.2.1,x7.2.2.1,x7.2.2.2.1,x7.2.2.2.2.1,x7.2.2.2.2.2.1,x7.2.2.2.2.2.2.1,x7.2.2.2.2.2.2.2.1,x7.2.2.2.2.2.2.2.2.1,x7.2.2.2.2.2.2.2.2.2.1,x7.2.2.2.2.2.2.2.2.2.2.1,x7.2.2.2.2.2.2.2.2.2.2.2.1,x7.2.2.2.2.2.2.2.2.2.2.2.2.1,x7.2.2.2.2.2.2.2.2.2.2.2.2.2.1,())
 else
  some (x2.1,x2.2.1,x2.2.2.1,x2.2.2.2.1,x2.2.2.2.2.1,x2.2.2.2.2.2.1,(0:Int),x2.2.2.2.2.2.2.1,x2.2.2.2.2.2.2.2.1,x2.2.2.2.2.2.2.2.2.1,x2.2.2.2.2.2.2.2.2.2.1,x2.2.2.2.2.2.2.2.2.2.2.1,x2.2.2.2.2.2.2.2.2.2.2.2.1,x2.2.2.2.2.2.2.2.2.2.2.2.2.1,())).bind fun x8=>
  (bif(decide ((Int.fdiv x8.2.2.2.2.2.1 (2^52))=1))then
  some (x8.1,x8.2.1,x8.2.2.1,x8.2.2.2.1,x8.2.2.2.2.1,x8.2.2.2.2.2.1,x8.2.2.2.2.2.2.1,(IntKind.wrap .i64 ((IntKind.wrap .i64 (x8.2.2.1-(-1074)))+1)),x8.2.2.2.2.2.2.2.1,x8.2.2.2.2.2.2.2.2.1,x8.2.2.2.2.2.2.2.2.2.1,x8.2.2.2.2.2.2.2.2.2.2.1,x8.2.2.2.2.2.2.2.2.2.2.2.1,x8.2.2.2.2.2.2.2.2.2.2.2.2.1,x8.2.2.2.2.2.2.2.2.2.2.2.2.2.1,())
 else
  some (x8.1,x8.2.1,x8.2.2.1,x8.2.2.2.1,x8.2.2.2.2.1,x8.2.2.2.2.2.1,x8.2.2.2.2.2.2.1,(0:Int),x8.2.2.2.2.2.2.2.1,x8.2.2.2.2.2.2.2.2.1,x8.2.2.2.2.2.2.2.2.2.1,x8.2.2.2.2.2.2.2.2.2.2.1,x8.2.2.2.2.2.2.2.2.2.2.2.1,x8.2.2.2.2.2.2.2.2.2.2.2.2.1,x8.2.2.2.2.2.2.2.2.2.2.2.2.2.1,())).bind fun x9=>
  (Yc (x9.2.2.2.2.2.2.2.2.1,x9.2.2.2.2.2.2.2.1,(Fly.qX Go.BinOp.and .u64 x9.2.2.2.2.2.1 4503599627370495))).bind fun x10=>
  some (x10.1,x9.2.2.2.2.2.2.1)))
def flN(neg:Bool)(mode:Int)(M E:Nat)(rest sm:Bool):Int :=
 bif Nat.ble (qdC M E+(upN neg mode (Jo M E % 2 == 1) (hfN M E) (rest||rsN M E)).toNat) qhw then(bif hfN M E||(rest||rsN M E)then(bif sm then 3 else 1)else 0)else 5
def YW(p:ql8×Int):Option (Int×Int) :=
 bif !Nat.beq (jB (p.1.2.1,p.1.2.2.1)) 0&&(decide (-5000≤p.1.2.2.2.1)&&decide (p.1.2.2.2.1≤5000))then
  some ((RN p.1.1 p.2 (jB (p.1.2.1,p.1.2.2.1)) (p.1.2.2.2.1+6000).toNat p.1.2.2.2.2:Int),flN p.1.1 p.2 (jB (p.1.2.1,p.1.2.2.1)) (p.1.2.2.2.1+6000).toNat p.1.2.2.2.2 (decide ((qm (jB (p.1.2.1,p.1.2.2.1)):Int)+p.1.2.2.2.1≤-1022)))
 else none
theorem qvY{X:Nat}(h:X<340282366920938463463374607431768211456):jB (hiW X,loW X)=X:=by
 rw[JW];unfold hiW loW;simp only[zd];omega
theorem qaO{X:Nat}(h:X<18446744073709551616):loW X=(X:Int):=by unfold loW;rw[KM h]
theorem qdM{X:Nat}(h:X<18446744073709551616):hiW X=0:=by unfold hiW;rw[Vk h];rfl
theorem bit0(X:Nat):decide (qX .and .u64 (loW X) 1=1)=(X % 2 == 1):=by
 have h:=qcA (X % 18446744073709551616) 1 1 rfl (Vf _ (by decide)) (by decide)
 unfold loW;rw[show(1:Int)=((1:Nat):Int) from rfl,h,yq];have:X % 18446744073709551616 % 2^1=X % 2:=by omega
 rw[this];by_cases hx:X % 2=1 <;> simp[hx]
theorem qx2(w:Nat)(hw:w<18446744073709551616):decide (qX .and .u64 (w:Int) 1=1)=(w % 2 == 1):=by
 have:=bit0 w
 rwa [qaO hw]at this
theorem ql9(p:ql8×Int)(y:Int×Int)(hg:(dc ql1 (d1 (cI .u8))).good p)(h:YW p=some y):qjf p.1 p.2=some y:=by
 obtain⟨⟨neg,hi,lo,e,rest⟩,mode⟩:=p;obtain⟨⟨_,hhi,hlo,he,_⟩,_⟩:=hg;obtain⟨H,rfl,hH⟩:=QY hhi;obtain⟨L,rfl,hL⟩:=QY hlo;obtain⟨hguard,h⟩:=qh h;have:=soi h;subst this
 simp only[zn,V8,zL]at hguard;obtain⟨hM0,he1,he2⟩:=hguard;unfold qjf;simp only[]at *
 obtain⟨M,hM⟩:∃M,M=jB ((H:Int),(L:Int)):=⟨_,rfl⟩
 rw[← hM]at hM0 ⊢;have hMlt:M<340282366920938463463374607431768211456:=by rw[hM,JW];simp only[zd];omega
 have hMne:M≠0:=fun e=>by rw[e]at hM0;simp at hM0
 have hbl:qm M≤128:=yp.2 hMlt
 have hbp:=yj hMne;obtain⟨E,hE⟩:∃E:Nat,(e+6000).toNat=E:=⟨_,rfl⟩
 have hEe:e=(E:Int)-6000:=by omega
 rw[hE];have hSH:=qxW;obtain⟨Q,hQ⟩:∃Q,qN M E=Q:=⟨_,rfl⟩
 have hQv:Q=qm M+E-53-4926:=by rw[← hQ];unfold qN;rw[hSH]
 have q0:IntKind.i64.wrap (IntKind.i64.wrap ((qm M:Int)-53)+e)=(qm M:Int)-53+e:=by
  rw[w64 (n:=(qm M:Int)-53) (by omega) (by omega),w64 (by omega) (by omega)]
 have qv:max ((qm M:Int)-53+e) (-1074)=(Q:Int)-1074:=by omega
 have hdv:IntKind.i64.wrap ((Q:Int)-1074-e)=(Q:Int)+4926-E:=by rw[w64 (by omega) (by omega)];omega
 rw[q0,qv,hdv];have hkl:=qsn M E;have hkg:=qso (E:=E) hMne
 rw[hQ]at hkg;have hDN:dN M E=Q+4926-E:=by unfold dN;rw[hQ,hSH]
 -- the first part
 refine obs (t:=(mode,(qm M:Int),(Q:Int)-1074,hfN M E,(rest||rsN M E),neg,(H:Int),(L:Int),e,rest,(0:Int),((Jo M E:Nat):Int),())) ?_ ?_
 · by_cases hd:(0:Int)<(Q:Int)+4926-E
   · obtain⟨D,hD⟩:∃D,dN M E=D+1:=⟨dN M E-1,by omega⟩
     have e1:IntKind.i64.wrap ((Q:Int)+4926-E-1)=(D:Int):=by rw[w64 (by omega) (by omega)];omega
     have e2:hfN M E=(M / 2^D % 2 == 1):=by unfold hfN;rw[hD];rfl
     have e3:rsN M E = !(M % 2^D == 0):=by unfold rsN;rw[hD];rfl
     have e4:Jo M E=M / 2^D / 2:=by
      unfold Jo;rw[hQ,hSH,show E-(Q+4926)=0 by omega,show Q+4926-E=D+1 by omega,Vr,Vx,z6,Kl]
     have hX:M / 2^D<340282366920938463463374607431768211456:=K4 (VC _ _) hMlt
     have e5:∀x:Nat,(x == 0)=Nat.beq x 0:=fun x=>by rw[beq_dec];rfl
     rw[za hd,zg,e1,zd,bit0,qvY hX,e2,e3,e5,e4];have e6:M / 2^D / 2^Int.toNat 1=M / 2^D / 2:=by rw[Int.toNat_one,Nat.pow_one]
     rw[e4]at hkl;cases rest with
     | true=>
      rw[zg,Bool.true_or,e6,qaO (by omega),qdM (by omega)]
     | false=>
      rw[zm,VU,e6,qaO (by omega),qdM (by omega)]
   · have hD:dN M E=0:=by omega
     have e1:IntKind.i64.wrap (0-((Q:Int)+4926-E))=((E-(Q+4926):Nat):Int):=by rw[w64 (by omega) (by omega)];omega
     have e2:hfN M E=false:=by unfold hfN;rw[hD];rfl
     have e3:rsN M E=false:=by unfold rsN;rw[hD];rfl
     have e4:Jo M E=M*2^(E-(Q+4926)):=by
      unfold Jo;rw[hQ,hSH,show Q+4926-E=0 by omega,Vr,Nat.div_one]
     rw[zk hd,zm,e1,zd,e2,e3,e4,Bool.or_false,zN (2^_)];rw[e4]at hkl;rw[qaO (by omega),qdM (by omega)]
 · -- up or not
   simp only[];obtain⟨u,hu⟩:∃u,upN neg mode (Jo M E % 2 == 1) (hfN M E) (rest||rsN M E)=u:=⟨_,rfl⟩
   rw[qx2 _ (by omega),hu];obtain⟨w,hw⟩:∃w,Jo M E=w:=⟨_,rfl⟩
   have hfl:qdC M E=Q*4503599627370496+w:=by rw[qi7,hQ,hw]
   have hRN:RN neg mode M E rest=sgN neg+qvA (twN neg mode) (Q*4503599627370496+w+u.toNat):=by
    unfold RN;rw[hM0,zm,hu,hfl]
   have hflN:∀sm,flN neg mode M E rest sm=(bif Nat.ble (Q*4503599627370496+w+u.toNat) qhw then(bif hfN M E||(rest||rsN M E)then(bif sm then 3 else 1)else 0)else 5):=fun sm=>by
    unfold flN;rw[hu,hfl]
   rw[hRN,hflN,hw];rw[hw]at hkl hkg;generalize hfN M E=hf
   generalize (rest||rsN M E)=rs
   refine obs (t:=(mode,(qm M:Int),(Q:Int)-1074,hf,rs,((w+u.toNat:Nat):Int),neg,(H:Int),(L:Int),e,rest,(0:Int),(w:Int),())) ?_ ?_
   · cases u with
     | true=>rw[zg,jR (by omega) (by omega)];rfl
     | false=>rw[zm];rfl
   · simp only[]
     have hu1:u.toNat≤1:=by cases u <;> decide
     obtain⟨w1,hw1⟩:∃w1,w+u.toNat=w1:=⟨_,rfl⟩
     rw[KD,hw1];have hw1l:w1≤9007199254740992:=by omega
     have hw1g:4503599627370496≤w1∨Q=0:=by rcases hkg with h | h;exact .inl (by omega);exact .inr h
     -- normalized
     obtain⟨Q2,w2,hK,hw2,hw2g,hQ2,hn⟩:∃Q2 w2:Nat,Q2*4503599627370496+w2=Q*4503599627370496+w1∧w2<9007199254740992∧(4503599627370496≤w2∨Q2=0)∧Q2≤Q+1 ∧
      (if w1=9007199254740992 then Q2=Q+1∧w2=4503599627370496 else Q2=Q∧w2=w1):=by
      by_cases h5:w1=9007199254740992
      · exact⟨Q+1,4503599627370496,by omega,by omega,.inl (by omega),by omega,by rw[zA h5];exact⟨rfl,rfl⟩⟩
      · exact⟨Q,w1,rfl,by omega,hw1g,by omega,by rw[zx h5];exact⟨rfl,rfl⟩⟩
     refine obs (t:=(mode,(qm M:Int),(Q2:Int)-1074,hf,rs,(w2:Int),neg,(H:Int),(L:Int),e,rest,(0:Int),(w:Int),())) ?_ ?_
     · by_cases h5:w1=9007199254740992
       · rw[zA h5]at hn
         obtain⟨rfl,rfl⟩:=hn;rw[za (by omega),zg,h5,w64 (by omega) (by omega)];have:Int.fdiv ((9007199254740992:Nat):Int) (2^1)=((4503599627370496:Nat):Int):=by rw[Z4]
         rw[this,show(Q:Int)-1074+1=((Q+1:Nat):Int)-1074 by omega]
       · rw[zx h5]at hn
         obtain⟨rfl,rfl⟩:=hn;rw[zk (by omega),zm]
     · simp only[]
       rw[← hK];unfold qvA qhw;by_cases hov:(971:Int)<(Q2:Int)-1074
       · have hb:Nat.ble (Q2*4503599627370496+w2) 9218868437227405311=false:=by
          rw[qaI];exact zk (by omega)
         rw[za hov,zg,hb,zm,zm];unfold ovN;rw[show(9218868437227405311:Nat)+1=9218868437227405312 from rfl]
       · have hb:Nat.ble (Q2*4503599627370496+w2) 9218868437227405311=true:=by
          rw[qaI];exact za (by omega)
         rw[zk hov,zm,hb,zg,zg]
         -- the float is put together
         have hsm:decide (IntKind.i64.wrap ((qm M:Int)+e)≤-1022)=decide ((qm M:Int)+e≤-1022):=by rw[w64 (by omega) (by omega)]
         have hmake:∀(ex:Int),ex=(if 4503599627370496≤w2 then(Q2:Int)+1 else 0)→Yc (neg,(ex,(qX .and .u64 (w2:Int) 4503599627370495)))=some (((sgN neg+(Q2*4503599627370496+w2):Nat):Int),0):=by
          intro ex hex;have hm:=qcA w2 4503599627370495 52 rfl (by omega) (by omega)
          rw[show((4503599627370495:Nat):Int)=4503599627370495 from rfl]at hm;unfold Yc;simp only[hm];have hr:0≤ex∧ex≤2047:=by rw[hex];split <;> omega
          rw[za hr.1,za hr.2,za (by omega)];simp only[Ki,zg]
          congr 2
          rw[hex];split <;> omega
         rw[hsm];generalize decide ((qm M:Int)+e≤-1022)=sm
         have hor:qX .or .u8 1 2=3:=by decide
         have hexp:IntKind.i64.wrap (IntKind.i64.wrap ((Q2:Int)-1074-(-1074))+1)=(Q2:Int)+1:=by
          rw[w64 (n:=(Q2:Int)-1074-(-1074)) (by omega) (by omega),w64 (by omega) (by omega)];omega
         have hfd:decide (Int.fdiv (w2:Int) (2^52)=1)=decide (4503599627370496≤w2):=by
          rw[Z4,show(1:Int)=((1:Nat):Int) from rfl,yq];by_cases h4:4503599627370496≤w2
          · rw[za h4,za (by omega)]
          · rw[zk h4,zk (by omega)]
         by_cases h4:4503599627370496≤w2
         · have hm:=hmake ((Q2:Int)+1) (by rw[zA h4])
           rw[za h4]at hfd;cases hf <;> cases rs <;> cases sm <;> simp only[zg,zm,zh,hfd,hexp,hm,hor,Bool.or_true,Bool.or_false,Bool.or_self]
         · have hm:=hmake 0 (by rw[zx h4])
           rw[zk h4]at hfd;cases hf <;> cases rs <;> cases sm <;> simp only[zg,zm,zh,hfd,hexp,hm,hor,Bool.or_true,Bool.or_false,Bool.or_self]
end
end Su
end
section
namespace Su
open Go Fly
def bs(l:List UInt8):ByteArray:=⟨l.toArray⟩
def lb(b:ByteArray):List UInt8:=b.data.toList
theorem qb8(b:ByteArray):bs (lb b)=b:=by
 apply ByteArray.ext
 show b.data.toList.toArray=b.data
 exact Vd
theorem qD(l:List UInt8):lb (bs l)=l:=rfl
theorem qe(l:List UInt8):(bs l).size=l.length:=by
 show l.toArray.size=_
 simp
theorem qq(l:List UInt8)(i:Nat):(bs l)[i]?=l[i]?:=by
 by_cases h:i<l.length
 · rw[zq h,getElem?_pos (bs l) i (by rw[qe];exact h)]
   rfl
 · rw[zQ (by omega),getElem?_neg (bs l) i (by rw[qe];exact h)]
theorem jY(l:List UInt8)(a b:Nat):(bs l).extract a b=bs ((l.drop a).take (b-a)):=by
 apply ByteArray.ext
 rw[ByteArray.data_extract];apply Array.toList_inj.1
 simp[bs,List.extract_eq_take_drop]
theorem qC(l m:List UInt8):bs l++bs m=bs (l++m):=by
 apply ByteArray.ext
 rw[ByteArray.data_append];simp[bs]
theorem yC{l m:List UInt8}:bs l=bs m↔l=m:=⟨fun h=>by
 have:=congrArg lb h
 exact this,fun h=>by rw[h]⟩
theorem qQ(l:List UInt8):ByteArray.mk (List.toArray l)=bs l:=rfl
theorem qvZ(l:List Int):byI l=bs (l.map fun n=>UInt8.ofNat n.toNat):=rfl
theorem onB{P:ByteArray→Prop}(h:∀l,P (bs l))(b:ByteArray):P b:=by rw[← qb8 b];exact h _
theorem qr(l m:List UInt8):decide (bs l=bs m)=decide (l=m):=by
 by_cases h:l=m
 · rw[za h,za (yC.2 h)]
 · rw[zk h,zk (fun e=>h (yC.1 e))]
def yx(c:UInt8)(l:List UInt8):List UInt8:=(l.reverse.dropWhile (· == c)).reverse
theorem y9(c x:UInt8)(l:List UInt8):yx c (l++[x])=bif x == c then yx c l else l++[x]:=by
 unfold yx;rw[List.reverse_append,List.reverse_singleton,Ws,List.dropWhile_cons];cases h:x == c <;> simp
def dgT:Nat→Nat→List UInt8
 | 0,n=>[UInt8.ofNat (48+n % 10)]
 | f+1,n=>bif Nat.blt n 10 then[UInt8.ofNat (48+n)]else dgT f (n / 10)++[UInt8.ofNat (48+n % 10)]
def dg(n:Nat):List UInt8:=dgT n n
theorem qoQ:∀(f g n:Nat),n≤f→n≤g→dgT f n=dgT g n
 | 0,0,_,_,_=>rfl
 | 0,g+1,n,h,_=>by
  have:n=0:=by omega
  subst this;rfl
 | f+1,0,n,_,h=>by
  have:n=0:=by omega
  subst this;rfl
 | f+1,g+1,n,h1,h2=>by
  unfold dgT;cases h:Nat.blt n 10 with
  | true=>rfl
  | false=>
   rw[zm,zm,qoQ f g (n / 10) (by omega) (by omega)]
theorem qhO{n:Nat}(h:n<10):dg n=[UInt8.ofNat (48+n)]:=by
 unfold dg;cases n with
 | zero=>rfl
 | succ n=>
  unfold dgT;rw[show Nat.blt (n+1) 10=true by rw[Ve];exact h,zg]
theorem qhP{n:Nat}(h:10≤n):dg n=dg (n / 10)++[UInt8.ofNat (48+n % 10)]:=by
 obtain⟨m,rfl⟩:∃m,n=m+1:=⟨n-1,by omega⟩
 have hb:Nat.blt (m+1) 10=false:=by
  cases hb:Nat.blt (m+1) 10 with
  | false=>rfl
  | true=>rw[Ve]at hb;omega
 have e:dgT (m+1) (m+1)=dgT m ((m+1) / 10)++[UInt8.ofNat (48+(m+1) % 10)]:=by
  rw[dgT,hb,zm]
 unfold dg;rw[e,qoQ m _ _ (by omega) (zE _)]
def dv(l:List UInt8):Nat:=l.foldl (fun n c=>n*10+(c.toNat-48)) 0
theorem qsI(l:List UInt8)(c:UInt8):dv (l++[c])=dv l*10+(c.toNat-48):=by
 unfold dv;rw[List.foldl_append];rfl
theorem qkD{n:Nat}(h:n<10):(UInt8.ofNat (48+n)).toNat=48+n:=by
 rw[UInt8.toNat_ofNat'];omega
def isD(c:UInt8):Bool:=Nat.ble 48 c.toNat&&Nat.ble c.toNat 57
theorem qud(n:Nat):dg n≠[]:=by
 by_cases h:n<10
 · rw[qhO h];simp
 · rw[qhP (by omega)];simp
theorem jT{c:UInt8}:isD c=true↔48≤c.toNat∧c.toNat≤57:=by
 unfold isD;rw[zn,VA,VA]
theorem qgn:∀(l:List UInt8) (n:Nat),l.foldl (fun n c=>n*10+(c.toNat-48)) n=n*10^l.length+dv l
 | [],n=>by simp[dv]
 | c::l,n=>by
  have h1:=qgn l (n*10+(c.toNat-48))
  have h2:=qgn l (0*10+(c.toNat-48))
  unfold dv;simp only[List.foldl_cons,zt];rw[h1,h2,z6];simp only[K8,zD,zV];rw[Km n 10,zN 10];omega
theorem qjg(l m:List UInt8):dv (l++m)=dv l*10^m.length+dv m:=by
 have:dv (l++m)=m.foldl (fun n c=>n*10+(c.toNat-48)) (dv l):=by unfold dv;rw[List.foldl_append]
 rw[this,qgn]
theorem qoR:∀(l:List UInt8),(∀c∈l,isD c=true)→dv l<10^l.length
 | [],_=>by decide
 | c::l,h=>by
  have h1:=qoR l fun d hd=>h d (zw _ hd)
  obtain⟨h2,h3⟩:=jT.1 (h c (zI ..))
  have e:dv (c::l)=dv [c]*10^l.length+dv l:=qjg [c] l
  have e1:dv [c]=c.toNat-48:=by show 0*10+(c.toNat-48)=_;omega
  rw[e,e1,zt,z6];have:(c.toNat-48)*10^l.length≤9*10^l.length:=zG _ (by omega)
  omega
def jb(c:UInt8):List UInt8→Int
 | []=>-1
 | b::l=>bif b == c then 0 else bif decide (jb c l = -1)then -1 else jb c l+1
def qoS(p:ByteArray×Int):Option Int:=some (jb (UInt8.ofNat p.2.toNat) (lb p.1))
theorem Zt(c:UInt8):∀l,-1≤jb c l∧jb c l<(l.length:Int)
 | []=>⟨Wu _,by show(-1:Int)<0;omega⟩
 | b::l=>by
  obtain⟨h1,h2⟩:=Zt c l;unfold jb;rw[zt];cases b == c with
  | true=>exact⟨by simp only[zg];omega,by simp only[zg];omega⟩
  | false=>
   simp only[zm];by_cases h:jb c l = -1
   · rw[za h];exact⟨by simp only[zg];omega,by simp only[zg];omega⟩
   · rw[zk h];exact⟨by simp only[zm];omega,by simp only[zm];omega⟩
def itT(n:Int):List UInt8:=bif decide (n<0)then 45::dg n.natAbs else dg n.toNat
def qe3(n:Int):Option ByteArray:=bif decide (-1000000≤n)&&decide (n≤1000000)then some (bs (itT n))else none
theorem qcC{n:Int}(h : -1000000≤n)(h2:n≤1000000):(itT n).length≤1000002:=by
 have key:∀m,(dg m).length≤m+1:=by
  intro m;induction m using Nat.strongRecOn with
  | ind m ih=>
   by_cases h:m<10
   · rw[qhO h];simp
   · rw[qhP (by omega)]
     have:=ih (m / 10) (by omega)
     simp;omega
 unfold itT;have k1:=key n.natAbs;have k2:=key n.toNat;cases decide (n<0) <;> simp <;> omega
end Su
end
section
namespace Su
open Go Fly
noncomputable section
def qgo:Stp (ByteArray×Int×Unit):=fun p0=>(bif(decide (0<(ByteArray.size p0.1:Int)))then
 ((p0.1)[0]?).bind fun x1=>
 (bif(decide ((UInt8.toNat x1:Int)=p0.2.1))then
 (bif((true&&(decide (1≤(ByteArray.size p0.1:Int))))&&(decide ((ByteArray.size p0.1:Int)≤(ByteArray.size p0.1:Int))))then
 some (.inl ((ByteArray.extract p0.1 1 (Int.toNat (ByteArray.size p0.1:Int))),p0.2.1,()))
 else none)
 else
  some (.inr (p0.1,p0.2.1,())))
 else
  some (.inr (p0.1,p0.2.1,())))
def tLB  (fu:Nat)(s:ByteArray)(c:Int):Option ByteArray :=
 (itP fu (qgo) (s,c,())).bind fun x2=>
 some x2.1
def qgp:Stp (ByteArray×Int×Unit):=fun p0=>(bif(decide (0<(ByteArray.size p0.1:Int)))then
 (bif(decide (0≤(IntKind.wrap .i64 ((ByteArray.size p0.1:Int)-1))))then
 ((p0.1)[(Int.toNat (IntKind.wrap .i64 ((ByteArray.size p0.1:Int)-1)))]?).bind fun x1=>
 (bif(decide ((UInt8.toNat x1:Int)=p0.2.1))then
 (bif((true&&(decide (0≤(IntKind.wrap .i64 ((ByteArray.size p0.1:Int)-1)))))&&(decide ((IntKind.wrap .i64 ((ByteArray.size p0.1:Int)-1))≤(ByteArray.size p0.1:Int))))then
 some (.inl ((ByteArray.extract p0.1 0 (Int.toNat (IntKind.wrap .i64 ((ByteArray.size p0.1:Int)-1)))),p0.2.1,()))
 else none)
 else
  some (.inr (p0.1,p0.2.1,())))
 else none)
 else
  some (.inr (p0.1,p0.2.1,())))
def tRB  (fu:Nat)(s:ByteArray)(c:Int):Option ByteArray :=
 (itP fu (qgp) (s,c,())).bind fun x2=>
 some x2.1
def qcD:Stp (Int×ByteArray×Int×Unit):=fun p0=>(bif(decide (p0.2.2.1<p0.1))then
 (bif(Nat.ble ((ByteArray.size p0.2.1)+1) 549755813888)then
 some (.inl (p0.1,(p0.2.1++(ByteArray.mk (List.toArray [48]))),(IntKind.wrap .i64 (p0.2.2.1+1)),()))
 else none)
 else
  some (.inr (p0.1,p0.2.1,p0.2.2.1,())))
def qv0  (fu:Nat)(n:Int):Option ByteArray :=
 (itP fu (qcD) (n,(ByteArray.mk (List.toArray [])),(0:Int),())).bind fun x1=>
 some x1.2.1
def qgq:Stp (Int×ByteArray×Unit):=fun p0=>(bif(decide (10≤p0.1))then
 (bif(Nat.ble ((ByteArray.size (byI [(IntKind.wrap .u8 (IntKind.wrap .i64 (48+(Int.tmod (IntKind.wrap .i64 (Int.tdiv p0.1 10)) 10))))]))+(ByteArray.size p0.2.1)) 549755813888)then
 some (.inl ((IntKind.wrap .i64 (Int.tdiv p0.1 10)),((byI [(IntKind.wrap .u8 (IntKind.wrap .i64 (48+(Int.tmod (IntKind.wrap .i64 (Int.tdiv p0.1 10)) 10))))])++p0.2.1),()))
 else none)
 else
  some (.inr (p0.1,p0.2.1,())))
def tRd  (fu:Nat)(n:Int):Option ByteArray :=
 (itP fu (qgq) (n,(byI [(IntKind.wrap .u8 (IntKind.wrap .i64 (48+(Int.tmod n 10))))]),())).bind fun x1=>
 some x1.2.1
theorem qhQ(x:UInt8)(c:UInt8):decide (((x.toNat:Nat):Int)=((c.toNat:Nat):Int))=(x == c):=by
 by_cases h:x=c
 · subst h;simp
 · have : ¬(((x.toNat:Nat):Int)=((c.toNat:Nat):Int)):=fun e=>h (Wl.1 (by omega))
   rw[zk this];simp[h]
theorem asU8{c:Int}(h:inR .u8 c=true):∃d:UInt8,c=((d.toNat:Nat):Int):=by
 unfold inR at h;simp only[zn,zL]at h;obtain⟨h1,h2⟩:=h;have h1:0≤c:=h1
 have h2:c≤255:=h2
 refine⟨UInt8.ofNat c.toNat,?_⟩
 rw[UInt8.toNat_ofNat'];omega
theorem qkE(c:UInt8):∀(l:List UInt8),l.length≤9223372036854775807→∃n,itP n qgo (bs l,((c.toNat:Nat):Int),())=some (bs (l.dropWhile (· == c)),((c.toNat:Nat):Int),())
 | [],_=>⟨1,rfl⟩
 | x::l,h=>by
  have h:l.length+1≤9223372036854775807:=h
  have d0:decide ((0:Int)<(((bs (x::l)).size:Nat):Int))=true:=za (by rw[qe,zt];omega)
  have d1:decide ((1:Int)≤(((bs (x::l)).size:Nat):Int))=true:=za (by rw[qe,zt];omega)
  have d2:decide ((((bs (x::l)).size:Nat):Int)≤(((bs (x::l)).size:Nat):Int))=true:=za (Wu _)
  have g:(bs (x::l))[0]?=some x:=by rw[qq];rfl
  have e:(bs (x::l)).extract 1 (Int.toNat (((bs (x::l)).size:Nat):Int))=bs l:=by
   rw[jY,zd,qe];show bs (l.take (l.length+1-1))=_
   rw[Vo,List.take_length]
  cases hx:x == c with
  | true=>
   obtain⟨n,q⟩:=qkE c l (by omega)
   refine⟨n+1,?_⟩
   rw[jj];simp only[qgo,d0,d1,d2,g,e,qhQ,hx,zg,zh,Ki,List.dropWhile_cons,ite_true];exact q
  | false=>
   refine⟨1,?_⟩
   rw[jj];simp only[qgo,d0,g,qhQ,hx,zg,zm,zh,List.dropWhile_cons];rfl
def qhR(p:ByteArray×Int):Option ByteArray:=bif decide (0≤p.2)&&Nat.ble (lb p.1).length 549755813888 then some (bs ((lb p.1).dropWhile (· == UInt8.ofNat p.2.toNat)))else none
theorem qv1(p:ByteArray×Int)(y:ByteArray)(hg:(dc cS (d1 (cI .u8))).good p)(h:qhR p=some y):∃n,tLB n p.1 p.2=some y:=by
 obtain⟨s,c⟩:=p;obtain⟨d,rfl⟩:=asU8 hg.2;obtain⟨h1,h2⟩:=qh h;have:=soi h2;subst this
 rw[zn]at h1;obtain⟨n,q⟩:=qkE d (lb s) (by have:=zo h1.2;simp only[]at this;omega)
 refine⟨n,?_⟩
 rw[qb8]at q;show tLB n s _=_
 unfold tLB;refine obs q ?_
 simp only[zd,zu]
theorem qkF(c:UInt8):∀(k:Nat) (l:List UInt8),l.length=k→k≤9223372036854775807→∃n,itP n qgp (bs l,((c.toNat:Nat):Int),())=some (bs (yx c l),((c.toNat:Nat):Int),())
 | 0,l,h,_=>by
  have:l=[]:=KA.1 h
  subst this;exact⟨1,rfl⟩
 | k+1,l,h,hk=>by
  rcases V5 l with h0 | ⟨A,x,h0⟩
  · rw[h0]at h;cases h
  · rw[VZ]at h0
    subst h0;have hA:A.length=k:=by simpa using h
    have hs:(bs (A++[x])).size=k+1:=by rw[qe];exact h
    have hw:IntKind.i64.wrap ((((bs (A++[x])).size:Nat):Int)-1)=(k:Int):=by rw[hs,w64 (by omega) (by omega)];omega
    have d0:decide ((0:Int)<(((bs (A++[x])).size:Nat):Int))=true:=za (by rw[hs];omega)
    have d1:decide ((0:Int)≤(k:Int))=true:=za (by omega)
    have d2:decide ((k:Int)≤(((bs (A++[x])).size:Nat):Int))=true:=za (by rw[hs];omega)
    have g:(bs (A++[x]))[k]?=some x:=by rw[qq,← hA,zW (zE _),VI];rfl
    have e:(bs (A++[x])).extract 0 k=bs A:=by
     rw[jY,Kh,KJ,← hA,Wb]
    cases hx:x == c with
    | true=>
     obtain⟨n,q⟩:=qkF c k A hA (by omega)
     refine⟨n+1,?_⟩
     rw[jj];simp only[qgp,hw,d0,d1,d2,zd,g,e,qhQ,hx,zg,zh,Ki,y9];exact q
    | false=>
     refine⟨1,?_⟩
     rw[jj];simp only[qgp,hw,d0,d1,zd,g,qhQ,hx,zg,zm,zh,y9]
def qhS(p:ByteArray×Int):Option ByteArray:=bif decide (0≤p.2)&&Nat.ble (lb p.1).length 549755813888 then some (bs (yx (UInt8.ofNat p.2.toNat) (lb p.1)))else none
theorem qv2(p:ByteArray×Int)(y:ByteArray)(hg:(dc cS (d1 (cI .u8))).good p)(h:qhS p=some y):∃n,tRB n p.1 p.2=some y:=by
 obtain⟨s,c⟩:=p;obtain⟨d,rfl⟩:=asU8 hg.2;obtain⟨h1,h2⟩:=qh h;have:=soi h2;subst this
 rw[zn]at h1;obtain⟨n,q⟩:=qkF d (lb s).length (lb s) rfl (by have:=zo h1.2;simp only[]at this;omega)
 refine⟨n,?_⟩
 rw[qb8]at q;show tRB n s _=_
 unfold tRB;refine obs q ?_
 simp only[zd,zu]
def zs(n:Nat):List UInt8:=List.replicate n 48
theorem qkG(N:Nat)(hN:N≤1000000):∀(d k:Nat),k+d=N→∃n,itP n qcD ((N:Int),bs (zs k),(k:Int),())=some ((N:Int),bs (zs N),(N:Int),())
 | 0,k,h=>by
  have:k=N:=by omega
  subst this;refine⟨1,?_⟩
  rw[jj];simp only[qcD,Int.lt_irrefl,decide_false,zm];rfl
 | d+1,k,h=>by
  have d0:decide ((k:Int)<(N:Int))=true:=za (by omega)
  have hb:Nat.ble ((bs (zs k)).size+1) 549755813888=true:=zr (by rw[qe];unfold zs;rw[Wq];omega)
  have hw:IntKind.i64.wrap ((k:Int)+1)=((k+1:Nat):Int):=by rw[w64 (by omega) (by omega)];omega
  have e:bs (zs k)++ByteArray.mk (List.toArray [48])=bs (zs (k+1)):=by
   rw[qQ,qC];unfold zs;rw[List.replicate_succ']
  obtain⟨n,q⟩:=qkG N hN d (k+1) (by omega)
  refine⟨n+1,?_⟩
  rw[jj];simp only[qcD,d0,hb,hw,e,zg];exact q
def qbv(n:Int):Option ByteArray:=bif decide (0≤n)&&decide (n≤1000000)then some (bs (zs n.toNat))else none
theorem qsJ(n:Int)(y:ByteArray)(hg:(d1 (cI .i64)).good n)(h:qbv n=some y):∃m,qv0 m n=some y:=by
 obtain⟨h1,h2⟩:=qh h;have:=soi h2;subst this
 simp only[zn,zL]at h1;obtain⟨N,rfl⟩:=z8 h1.1;obtain⟨m,q⟩:=qkG N (by omega) N 0 (by omega)
 refine⟨m,?_⟩
 unfold qv0;exact obs q rfl
theorem b1(k:Nat)(h:k<10):IntKind.u8.wrap (IntKind.i64.wrap (48+(k:Int)))=((48+k:Nat):Int):=by
 rw[w64 (by omega) (by omega)];have:IntKind.u8.wrap ((48+k:Nat):Int)=((48+k:Nat):Int):=Qp (by unfold inR;simp;exact⟨by show(0:Int)≤_;omega,by show _≤(255:Int);omega⟩)
 rw[show(48+(k:Int))=((48+k:Nat):Int) by omega,this]
theorem tdN(n:Nat):Int.tdiv ((n:Nat):Int) 10=((n / 10:Nat):Int):=rfl
theorem tmN(n:Nat):Int.tmod ((n:Nat):Int) 10=((n % 10:Nat):Int):=rfl
theorem by1(k:Nat):byI [((48+k:Nat):Int)]=bs [UInt8.ofNat (48+k)]:=rfl
theorem qoT:∀(f N:Nat) (T:List UInt8),N≤f→N≤1000000→T.length+N≤2000000→∃n m,itP n qgq ((N:Int),bs (UInt8.ofNat (48+N % 10)::T),())=some ((m:Int),bs (dg N++T),())
 | f,N,T,hf,hN,hT=>by
  by_cases h:N<10
  · refine⟨1,(N:Int),?_⟩
    have d0:decide ((10:Int)≤(N:Int))=false:=zk (by omega)
    rw[jj];simp only[qgq,d0,zm,qhO h,Ws];rw[show N % 10=N by omega];rfl
  · obtain⟨g,rfl⟩:∃g,f=g+1:=⟨f-1,by omega⟩
    have d0:decide ((10:Int)≤(N:Int))=true:=za (by omega)
    have hw:IntKind.i64.wrap ((N / 10:Nat):Int)=((N / 10:Nat):Int):=w64 (by omega) (by omega)
    have hb:=b1 (N / 10 % 10) (by omega)
    have hl:Nat.ble ((bs [UInt8.ofNat (48+N / 10 % 10)]).size+(bs (UInt8.ofNat (48+N % 10)::T)).size) 549755813888=true:=zr (by rw[qe,qe];simp;omega)
    obtain⟨n,m,q⟩:=qoT g (N / 10) (UInt8.ofNat (48+N % 10)::T) (by omega) (by omega) (by simp;omega)
    refine⟨n+1,m,?_⟩
    rw[jj];simp only[qgq,d0,tdN,hw,tmN,hb,by1,hl,qC,zg];rw[qhP (by omega:10≤N),zR,Ws];exact q
def ZJ(n:Int):Option ByteArray:=bif decide (0≤n)&&decide (n≤1000000)then some (bs (dg n.toNat))else none
theorem qv3(n:Int)(y:ByteArray)(hg:(d1 (cI .i64)).good n)(h:ZJ n=some y):∃m,tRd m n=some y:=by
 obtain⟨h1,h2⟩:=qh h;have:=soi h2;subst this
 simp only[zn,zL]at h1;obtain⟨N,rfl⟩:=z8 h1.1;obtain⟨m,z,q⟩:=qoT N N [] (zE _) (by omega) (by simp;omega)
 refine⟨m,?_⟩
 unfold tRd;have hb:=b1 (N % 10) (by omega)
 rw[tmN,hb,by1];refine obs q ?_
 rw[KU];rfl
end
end Su
end
section
namespace Su
open Go Fly
noncomputable section
def bLen  (x:Int):Option Int :=
 some (qm x.toNat:Int)
end
end Su
end
section
namespace Su
open Go Fly
noncomputable section
def qsK:(Int×(List Int)×(List Int)×Int×Unit)→Option ((Int×(List Int)×(List Int)×Int×Unit) ⊕ (Lp (Int×(List Int)×(List Int)×Int×Unit) ((List Int)×Int))):=fun p0=>(bif(decide (0≤p0.2.2.2.1))then
 (ye (p0.2.1,p0.2.1)).bind fun x1=>
 (bif(decide (0≤p0.2.2.2.1))then
 (bif(decide ((Fly.qX Go.BinOp.and .i64 (Int.fdiv p0.1 (2^(min p0.2.2.2.1.toNat 64))) 1)=1))then
 (ye (x1,p0.2.2.1)).bind fun x2=>
 (Len x2).bind fun x3=>
 (bif(decide (65536<x3))then
 some (.inr (.ret ([],(20:Int))))
 else
  some (.inl (p0.1,x2,p0.2.2.1,(IntKind.wrap .i64 (p0.2.2.2.1-1)),())))
 else
  (Len x1).bind fun x4=>
  (bif(decide (65536<x4))then
  some (.inr (.ret ([],(20:Int))))
 else
  some (.inl (p0.1,x1,p0.2.2.1,(IntKind.wrap .i64 (p0.2.2.2.1-1)),()))))
 else none)
 else
  some (.inr (.exit 1 (p0.1,p0.2.1,p0.2.2.1,p0.2.2.2.1,()))))
def qaP:(Int×(List Int)×(List Int)×Int×Unit)→Option ((Int×(List Int)×(List Int)×Int×Unit) ⊕ (Lp (Int×(List Int)×(List Int)×Int×Unit) ((List Int)×Int))):=fun p10=>(bif(decide (0≤p10.2.2.2.1))then
 (ye (p10.2.1,p10.2.1)).bind fun x11=>
 (bif(decide (0≤p10.2.2.2.1))then
 (bif(decide ((Fly.qX Go.BinOp.and .i64 (Int.fdiv p10.1 (2^(min p10.2.2.2.1.toNat 64))) 1)=1))then
 (ye (x11,p10.2.2.1)).bind fun x12=>
 (Len x12).bind fun x13=>
 (bif(decide (65536<x13))then
 some (.inr (.ret ([],(20:Int))))
 else
  some (.inl (p10.1,x12,p10.2.2.1,(IntKind.wrap .i64 (p10.2.2.2.1-1)),())))
 else
  (Len x11).bind fun x14=>
  (bif(decide (65536<x14))then
  some (.inr (.ret ([],(20:Int))))
 else
  some (.inl (p10.1,x11,p10.2.2.1,(IntKind.wrap .i64 (p10.2.2.2.1-1)),()))))
 else none)
 else
  some (.inr (.exit 1 (p10.1,p10.2.1,p10.2.2.1,p10.2.2.2.1,()))))
def qsL  (fu:Nat)(x:Int)(n:Int):Option ((List Int)×Int) :=
 (bif(decide (n≤0))then
 some ((ofN 1),(0:Int))
 else
  (bif(decide (x<2))then
  some ((ofN (qc [(IntKind.wrap .u32 x),(IntKind.wrap .u32 (Int.fdiv x (2^32)))])),(0:Int))
 else
  (bif(decide (65536<n))then
  (bif(decide (65536<n))then
  some ([],(20:Int))
 else
  (itP fu (qsK) (n,(ofN 1),(ofN (qc [(IntKind.wrap .u32 x),(IntKind.wrap .u32 (Int.fdiv x (2^32)))])),(IntKind.wrap .i64 ((((qm (Int.toNat (IntKind.wrap .u64 n))):Nat):Int)-1)),())).bind fun x5=>
  (match x5 with
 | .exit i6 p7=>(bif(Nat.beq i6 1)then
  some (p7.2.1,(0:Int))
 else none)
 | .ret o8=>some o8))
 else
  (Len (ofN (qc [(IntKind.wrap .u32 x),(IntKind.wrap .u32 (Int.fdiv x (2^32)))]))).bind fun x9=>
  (bif(decide (65536≤(IntKind.wrap .i64 ((IntKind.wrap .i64 (x9-1))*n))))then
  some ([],(20:Int))
 else
  (itP fu (qaP) (n,(ofN 1),(ofN (qc [(IntKind.wrap .u32 x),(IntKind.wrap .u32 (Int.fdiv x (2^32)))])),(IntKind.wrap .i64 ((((qm (Int.toNat (IntKind.wrap .u64 n))):Nat):Int)-1)),())).bind fun x15=>
  (match x15 with
 | .exit i16 p17=>(bif(Nat.beq i16 1)then
  some (p17.2.1,(0:Int))
 else none)
 | .ret o18=>some o18)))))
def qv4  (n:Int):Option (List Int) :=
 (qaM ((ofN 1),n)).bind fun x0=>
 some x0.1
theorem YX(a b:Nat):qm (a*b)≤qm a+qm b:=by
 rw[yp,Ks];have h1:=y5 a;have h2:=y5 b;exact Nat.mul_lt_mul'' h1 h2
theorem ZK(v:Nat):(ofN v).length≤qm v / 32+1:=by
 refine qkw ?_
 rw[qb6];exact Kt (y5 v) (Kf (by omega) (by omega))
theorem qkH{u v:Nat}(h1:qm u≤100000)(h2:qm v≤100000):ye (ofN u,ofN v)=some (ofN (u*v)):=by
 unfold ye;have l1:=ZK u;have l2:=ZK v;simp only[valN_ofN];rw[zr (by omega)];rfl
theorem qx3{u v:Nat}(h1:qm u≤100000)(h2:qm v≤100000):qb5 (ofN u,ofN v)=some (ofN (u+v)):=by
 unfold qb5;have l1:=ZK u;have l2:=ZK v;simp only[valN_ofN];rw[zr (by omega)];rfl
theorem qx4{u v:Nat}(h1:qm u≤100000)(h2:qm v≤100000)(hv:v≠0):qb7 (ofN u,ofN v)=some (ofN (u / v),ofN (u % v),0):=by
 have l1:=ZK u;have l2:=ZK v;exact qoD (by omega) (by omega) hv
theorem qhT{v:Nat}(h:qm v≤100000):Len (ofN v)=some ((qm v:Nat):Int):=by
 have:=qgg (ofN v) (by rw[valN_ofN];omega)
 rwa [valN_ofN]at this
theorem YY(m:Nat):qm (10^m)≤4*m+1:=by
 have h:10^m≤2^(4*m):=by
  rw[Nat.pow_mul];exact Nat.pow_le_pow_left (by decide) m
 rw[yp];have:=Nat.pow_lt_pow_right (a:=2) (by omega) (show 4*m<4*m+1 by omega)
 omega
theorem qsM{a:Nat}(ha:a<9223372036854775808):decide (Fly.qX .and .i64 (a:Int) 1=1)=decide (a % 2=1):=by
 have:Fly.qX .and .i64 (a:Int) 1=((a % 2:Nat):Int):=by
  show IntKind.i64.wrap (((BitVec.ofInt 64 (a:Int) &&& BitVec.ofInt 64 ((1:Nat):Int)).toNat:Nat):Int)=_
  have h:=and_mask a 1
  rw[show 2^1-1=1 from rfl,show 2^1=2 from rfl]at h;rw[BitVec.toNat_and,Qd a (by omega),Qd _ (by omega),h];exact w64 (by omega) (by omega)
 rw[this];by_cases h:a % 2=1
 · rw[za h,za (by omega)]
 · rw[zk h,zk (by omega)]
theorem qkI:qm 10≤4:=by decide
theorem qkJ(N:Nat)(hN:N≤10000):∀(j:Nat),j≤60 →
 ∃n,itP n qaP ((N:Int),ofN (10^(N / 2^j)),ofN 10,(j:Int)-1,())=some (.exit 1 ((N:Int),ofN (10^N),ofN 10,-1,()))
 | 0,_=>by
  refine⟨1,?_⟩
  have d0:decide ((0:Int)≤((0:Nat):Int)-1)=false:=by decide
  rw[jj];simp only[qaP,d0,zm,Vr,Nat.div_one];rfl
 | j+1,hj=>by
  have ej:(((j+1:Nat):Int)-1)=(j:Int):=by omega
  have d0:decide ((0:Int)≤(j:Int))=true:=za (by omega)
  have hm:N / 2^(j+1)≤N:=VC ..
  have hb:=YY (N / 2^(j+1))
  have m1:=qkH (u:=10^(N / 2^(j+1))) (v:=10^(N / 2^(j+1))) (by omega) (by omega)
  have hq:N / 2^(j+1)=N / 2^j / 2:=by rw[z6,Kl]
  have hw:IntKind.i64.wrap ((j:Int)-1)=(j:Int)-1:=w64 (by omega) (by omega)
  have hmin:min (Int.toNat (j:Int)) 64=j:=by rw[zd];omega
  have hbit:decide (Fly.qX .and .i64 (Int.fdiv (N:Int) (2^j)) 1=1)=decide (N / 2^j % 2=1):=by
   rw[YR];have:N / 2^j≤N:=VC ..
   exact qsM (by omega)
  obtain⟨n,q⟩:=qkJ N hN j (by omega)
  have hk:N / 2^j≤N:=VC ..
  have hkb:=YY (N / 2^j)
  refine⟨n+1,?_⟩
  rw[jj,ej];by_cases h:N / 2^j % 2=1
  · rw[za h]at hbit
    have e:10^(N / 2^(j+1))*10^(N / 2^(j+1))*10=10^(N / 2^j):=by
     rw[← Ks,← z6]
     congr 1;omega
    have b2:=YX (10^(N / 2^(j+1))) (10^(N / 2^(j+1)))
    have m2:=qkH (u:=10^(N / 2^(j+1))*10^(N / 2^(j+1))) (v:=10) (by omega) (by have:=qkI;omega)
    rw[e]at m2;have l3:=qhT (v:=10^(N / 2^j)) (by omega)
    have d3:decide ((65536:Int)<((qm (10^(N / 2^j)):Nat):Int))=false:=zk (by omega)
    simp only[qaP,d0,m1,hmin,hbit,m2,l3,d3,hw,zg,zm,zh];exact q
  · rw[zk h]at hbit
    have e:10^(N / 2^(j+1))*10^(N / 2^(j+1))=10^(N / 2^j):=by
     rw[← Ks]
     congr 1;omega
    rw[e]at m1;have l3:=qhT (v:=10^(N / 2^j)) (by omega)
    have d3:decide ((65536:Int)<((qm (10^(N / 2^j)):Nat):Int))=false:=zk (by omega)
    simp only[qaP,d0,m1,hmin,hbit,l3,d3,hw,zg,zm,zh];exact q
theorem qsN:ofN (qc [(IntKind.wrap .u32 10),(IntKind.wrap .u32 (Int.fdiv 10 (2^32)))])=ofN 10:=by decide
def qgr(p:Int×Int):Option (List Int×Int):=bif decide (p.1=10)&&decide (p.2≤10000)then some (ofN (10^p.2.toNat),0)else none
theorem qsO(p:Int×Int)(y:List Int×Int)(hg:(dc (cI .u64) (d1 (cI .i64))).good p)(h:qgr p=some y):∃n,qsL n p.1 p.2=some y:=by
 obtain⟨x,n⟩:=p;obtain⟨h1,h2⟩:=qh h;have:=soi h2;subst this
 simp only[zn,zL]at h1;obtain⟨rfl,hn⟩:=h1;simp only[];by_cases h0:n≤0
 · refine⟨0,?_⟩
   unfold qsL;rw[za h0,zg,show n.toNat=0 by omega]
 · obtain⟨N,rfl⟩:=z8 (show 0≤n by omega)
   have hb:qm N≤60:=yp.2 (by omega)
   obtain⟨m,q⟩:=qkJ N (by omega) (qm N) hb
   rw[Vk (y5 N)]at q;refine⟨m,?_⟩
   unfold qsL;have d1:decide ((10:Int)<2)=false:=by decide
   have d2:decide ((65536:Int)<(N:Int))=false:=zk (by omega)
   have l10:=qhT (v:=10) (by have:=qkI;omega)
   have e10:qm 10=4:=by decide
   rw[e10]at l10;have w1:IntKind.i64.wrap (((4:Nat):Int)-1)=3:=by decide
   have w2:IntKind.i64.wrap (3*(N:Int))=3*(N:Int):=w64 (by omega) (by omega)
   have d3:decide ((65536:Int)≤3*(N:Int))=false:=zk (by omega)
   have w3:IntKind.u64.wrap (N:Int)=(N:Int):=jR (by omega) (by omega)
   have w4:IntKind.i64.wrap (((qm N:Nat):Int)-1)=((qm N:Nat):Int)-1:=w64 (by omega) (by omega)
   rw[zk h0,zm,d1,zm,d2,zm,qsN,l10,zh,w1,w2,d3,zm,w3,zd,w4];exact obs q rfl
def YZ(n:Int):Option (List Int):=bif decide (n≤60000)then some (ofN (2^n.toNat))else none
theorem Zu(k:Nat):qm (2^k)=k+1:=qkk (zE _) (Nat.pow_lt_pow_right (by omega) (by omega))
theorem qx5{v:Nat}(h:qm v≤100000):okS (ofN v)=true:=by
 rw[qgk];have:=ZK v
 exact zr (by omega)
theorem qx6{v:Nat}{n:Int}(hv:v≠0)(h:qm v+n.toNat≤65536):qaM (ofN v,n)=some (ofN (v*2^n.toNat),0):=by
 unfold qaM;simp only[];have e:(max n 0).toNat=n.toNat:=by omega
 rw[qx5 (by omega),zg,valN_ofN,e,qgj];unfold qhJ;rw[zx hv,zx (by omega)]
theorem qsP(n:Int)(y:List Int)(hg:(d1 (cI .i64)).good n)(h:YZ n=some y):qv4 n=some y:=by
 obtain⟨h1,h2⟩:=qh h;have:=soi h2;subst this
 have h1:n≤60000:=Ko h1
 have e1:qm 1=1:=by decide
 unfold qv4;have:=qx6 (v:=1) (n:=n) (by omega) (by omega)
 rw[this,zh,KX]
end
end Su
end
