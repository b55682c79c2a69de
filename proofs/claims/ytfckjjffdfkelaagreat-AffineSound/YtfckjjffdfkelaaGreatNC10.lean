/-
  What functions of the program compute, in plain Lean, and that the evaluator finds it.
-/
import Derived.Test.YtfckjjffdfkelaaGreatSuSd
import Derived.Test.YtfckjjffdfkelaaGreatNC07
import Derived.Test.YtfckjjffdfkelaaGreatNB10
set_option maxRecDepth 10000
section
namespace Su
open Go Fly
set_option linter.unusedVariables false
noncomputable section
def rFloat  (x:(Bool×(Int×(Int×(Int×Bool))))) (mode:Int):Option (Int×Int) :=
 ((bif (decide ((0<(Go.IntKind.wrap .i64 ((max (Go.IntKind.wrap .i64 ((Go.IntKind.wrap .i64 ((((Su.blen (Su.valW (x.2.1,x.2.2.1))):Nat):Int)-53))+x.2.2.2.1)) (-1074))-x.2.2.2.1))))) then
 (bif x.2.2.2.2 then
 some (mode,((((Su.blen (Su.valW (x.2.1,x.2.2.1))):Nat):Int),((max (Go.IntKind.wrap .i64 ((Go.IntKind.wrap .i64 ((((Su.blen (Su.valW (x.2.1,x.2.2.1))):Nat):Int)-53))+x.2.2.2.1)) (-1074)),((decide (((Fly.bitv Go.BinOp.and .u64 (Su.loW ((Su.valW (x.2.1,x.2.2.1)) / (2^(Int.toNat (Go.IntKind.wrap .i64 ((Go.IntKind.wrap .i64 ((max (Go.IntKind.wrap .i64 ((Go.IntKind.wrap .i64 ((((Su.blen (Su.valW (x.2.1,x.2.2.1))):Nat):Int)-53))+x.2.2.2.1)) (-1074))-x.2.2.2.1))-1)))))) 1)=1))),(true,(x.1,(x.2.1,(x.2.2.1,(x.2.2.2.1,(x.2.2.2.2,((Su.hiW ((Su.valW ((Su.hiW ((Su.valW (x.2.1,x.2.2.1)) / (2^(Int.toNat (Go.IntKind.wrap .i64 ((Go.IntKind.wrap .i64 ((max (Go.IntKind.wrap .i64 ((Go.IntKind.wrap .i64 ((((Su.blen (Su.valW (x.2.1,x.2.2.1))):Nat):Int)-53))+x.2.2.2.1)) (-1074))-x.2.2.2.1))-1)))))),(Su.loW ((Su.valW (x.2.1,x.2.2.1)) / (2^(Int.toNat (Go.IntKind.wrap .i64 ((Go.IntKind.wrap .i64 ((max (Go.IntKind.wrap .i64 ((Go.IntKind.wrap .i64 ((((Su.blen (Su.valW (x.2.1,x.2.2.1))):Nat):Int)-53))+x.2.2.2.1)) (-1074))-x.2.2.2.1))-1)))))))) / (2^(Int.toNat 1)))),((Su.loW ((Su.valW ((Su.hiW ((Su.valW (x.2.1,x.2.2.1)) / (2^(Int.toNat (Go.IntKind.wrap .i64 ((Go.IntKind.wrap .i64 ((max (Go.IntKind.wrap .i64 ((Go.IntKind.wrap .i64 ((((Su.blen (Su.valW (x.2.1,x.2.2.1))):Nat):Int)-53))+x.2.2.2.1)) (-1074))-x.2.2.2.1))-1)))))),(Su.loW ((Su.valW (x.2.1,x.2.2.1)) / (2^(Int.toNat (Go.IntKind.wrap .i64 ((Go.IntKind.wrap .i64 ((max (Go.IntKind.wrap .i64 ((Go.IntKind.wrap .i64 ((((Su.blen (Su.valW (x.2.1,x.2.2.1))):Nat):Int)-53))+x.2.2.2.1)) (-1074))-x.2.2.2.1))-1)))))))) / (2^(Int.toNat 1)))),()))))))))))))
 else
  some (mode,((((Su.blen (Su.valW (x.2.1,x.2.2.1))):Nat):Int),((max (Go.IntKind.wrap .i64 ((Go.IntKind.wrap .i64 ((((Su.blen (Su.valW (x.2.1,x.2.2.1))):Nat):Int)-53))+x.2.2.2.1)) (-1074)),((decide (((Fly.bitv Go.BinOp.and .u64 (Su.loW ((Su.valW (x.2.1,x.2.2.1)) / (2^(Int.toNat (Go.IntKind.wrap .i64 ((Go.IntKind.wrap .i64 ((max (Go.IntKind.wrap .i64 ((Go.IntKind.wrap .i64 ((((Su.blen (Su.valW (x.2.1,x.2.2.1))):Nat):Int)-53))+x.2.2.2.1)) (-1074))-x.2.2.2.1))-1)))))) 1)=1))),((!(Nat.beq ((Su.valW (x.2.1,x.2.2.1)) % (2^(Int.toNat (Go.IntKind.wrap .i64 ((Go.IntKind.wrap .i64 ((max (Go.IntKind.wrap .i64 ((Go.IntKind.wrap .i64 ((((Su.blen (Su.valW (x.2.1,x.2.2.1))):Nat):Int)-53))+x.2.2.2.1)) (-1074))-x.2.2.2.1))-1))))) 0)),(x.1,(x.2.1,(x.2.2.1,(x.2.2.2.1,(x.2.2.2.2,((Su.hiW ((Su.valW ((Su.hiW ((Su.valW (x.2.1,x.2.2.1)) / (2^(Int.toNat (Go.IntKind.wrap .i64 ((Go.IntKind.wrap .i64 ((max (Go.IntKind.wrap .i64 ((Go.IntKind.wrap .i64 ((((Su.blen (Su.valW (x.2.1,x.2.2.1))):Nat):Int)-53))+x.2.2.2.1)) (-1074))-x.2.2.2.1))-1)))))),(Su.loW ((Su.valW (x.2.1,x.2.2.1)) / (2^(Int.toNat (Go.IntKind.wrap .i64 ((Go.IntKind.wrap .i64 ((max (Go.IntKind.wrap .i64 ((Go.IntKind.wrap .i64 ((((Su.blen (Su.valW (x.2.1,x.2.2.1))):Nat):Int)-53))+x.2.2.2.1)) (-1074))-x.2.2.2.1))-1)))))))) / (2^(Int.toNat 1)))),((Su.loW ((Su.valW ((Su.hiW ((Su.valW (x.2.1,x.2.2.1)) / (2^(Int.toNat (Go.IntKind.wrap .i64 ((Go.IntKind.wrap .i64 ((max (Go.IntKind.wrap .i64 ((Go.IntKind.wrap .i64 ((((Su.blen (Su.valW (x.2.1,x.2.2.1))):Nat):Int)-53))+x.2.2.2.1)) (-1074))-x.2.2.2.1))-1)))))),(Su.loW ((Su.valW (x.2.1,x.2.2.1)) / (2^(Int.toNat (Go.IntKind.wrap .i64 ((Go.IntKind.wrap .i64 ((max (Go.IntKind.wrap .i64 ((Go.IntKind.wrap .i64 ((((Su.blen (Su.valW (x.2.1,x.2.2.1))):Nat):Int)-53))+x.2.2.2.1)) (-1074))-x.2.2.2.1))-1)))))))) / (2^(Int.toNat 1)))),())))))))))))))
 else
  some (mode,((((Su.blen (Su.valW (x.2.1,x.2.2.1))):Nat):Int),((max (Go.IntKind.wrap .i64 ((Go.IntKind.wrap .i64 ((((Su.blen (Su.valW (x.2.1,x.2.2.1))):Nat):Int)-53))+x.2.2.2.1)) (-1074)),(false,(x.2.2.2.2,(x.1,(x.2.1,(x.2.2.1,(x.2.2.2.1,(x.2.2.2.2,((Su.hiW ((2^(Int.toNat (Go.IntKind.wrap .i64 (0-(Go.IntKind.wrap .i64 ((max (Go.IntKind.wrap .i64 ((Go.IntKind.wrap .i64 ((((Su.blen (Su.valW (x.2.1,x.2.2.1))):Nat):Int)-53))+x.2.2.2.1)) (-1074))-x.2.2.2.1))))))*(Su.valW (x.2.1,x.2.2.1)))),((Su.loW ((2^(Int.toNat (Go.IntKind.wrap .i64 (0-(Go.IntKind.wrap .i64 ((max (Go.IntKind.wrap .i64 ((Go.IntKind.wrap .i64 ((((Su.blen (Su.valW (x.2.1,x.2.2.1))):Nat):Int)-53))+x.2.2.2.1)) (-1074))-x.2.2.2.1))))))*(Su.valW (x.2.1,x.2.2.1)))),())))))))))))))).bind fun x0 =>
  ((bif (Su.upN x0.2.2.2.2.2.1 x0.1 (decide (((Fly.bitv Go.BinOp.and .u64 x0.2.2.2.2.2.2.2.2.2.2.2.1 1)=1))) x0.2.2.2.1 x0.2.2.2.2.1) then
  some (x0.1,(x0.2.1,(x0.2.2.1,(x0.2.2.2.1,(x0.2.2.2.2.1,((Go.IntKind.wrap .u64 (x0.2.2.2.2.2.2.2.2.2.2.2.1+1)),(x0.2.2.2.2.2.1,(x0.2.2.2.2.2.2.1,(x0.2.2.2.2.2.2.2.1,(x0.2.2.2.2.2.2.2.2.1,(x0.2.2.2.2.2.2.2.2.2.1,(x0.2.2.2.2.2.2.2.2.2.2.1,(x0.2.2.2.2.2.2.2.2.2.2.2.1,())))))))))))))
 else
  some (x0.1,(x0.2.1,(x0.2.2.1,(x0.2.2.2.1,(x0.2.2.2.2.1,(x0.2.2.2.2.2.2.2.2.2.2.2.1,(x0.2.2.2.2.2.1,(x0.2.2.2.2.2.2.1,(x0.2.2.2.2.2.2.2.1,(x0.2.2.2.2.2.2.2.2.1,(x0.2.2.2.2.2.2.2.2.2.1,(x0.2.2.2.2.2.2.2.2.2.2.1,(x0.2.2.2.2.2.2.2.2.2.2.2.1,()))))))))))))))).bind fun x1 =>
  ((bif (decide ((x1.2.2.2.2.2.1=9007199254740992))) then
  some (x1.1,(x1.2.1,((Go.IntKind.wrap .i64 (x1.2.2.1+1)),(x1.2.2.2.1,(x1.2.2.2.2.1,((Int.fdiv x1.2.2.2.2.2.1 (2^1)),(x1.2.2.2.2.2.2.1,(x1.2.2.2.2.2.2.2.1,(x1.2.2.2.2.2.2.2.2.1,(x1.2.2.2.2.2.2.2.2.2.1,(x1.2.2.2.2.2.2.2.2.2.2.1,(x1.2.2.2.2.2.2.2.2.2.2.2.1,(x1.2.2.2.2.2.2.2.2.2.2.2.2.1,())))))))))))))
 else
  some (x1.1,(x1.2.1,(x1.2.2.1,(x1.2.2.2.1,(x1.2.2.2.2.1,(x1.2.2.2.2.2.1,(x1.2.2.2.2.2.2.1,(x1.2.2.2.2.2.2.2.1,(x1.2.2.2.2.2.2.2.2.1,(x1.2.2.2.2.2.2.2.2.2.1,(x1.2.2.2.2.2.2.2.2.2.2.1,(x1.2.2.2.2.2.2.2.2.2.2.2.1,(x1.2.2.2.2.2.2.2.2.2.2.2.2.1,()))))))))))))))).bind fun x2 =>
  (bif (decide ((971<x2.2.2.1))) then
  some ((((Su.ovN x2.2.2.2.2.2.2.1 x2.1):Nat):Int),(5:Int))
 else
  (bif x2.2.2.2.1 then
  (((bif (decide (((Go.IntKind.wrap .i64 (x2.2.1+x2.2.2.2.2.2.2.2.2.2.1))≤(-1022)))) then
  some (x2.1,(x2.2.1,(x2.2.2.1,(x2.2.2.2.1,(x2.2.2.2.2.1,(x2.2.2.2.2.2.1,((Fly.bitv Go.BinOp.or .u8 1 2),(x2.2.2.2.2.2.2.1,(x2.2.2.2.2.2.2.2.1,(x2.2.2.2.2.2.2.2.2.1,(x2.2.2.2.2.2.2.2.2.2.1,(x2.2.2.2.2.2.2.2.2.2.2.1,(x2.2.2.2.2.2.2.2.2.2.2.2.1,(x2.2.2.2.2.2.2.2.2.2.2.2.2.1,()))))))))))))))
 else
  some (x2.1,(x2.2.1,(x2.2.2.1,(x2.2.2.2.1,(x2.2.2.2.2.1,(x2.2.2.2.2.2.1,((1:Int),(x2.2.2.2.2.2.2.1,(x2.2.2.2.2.2.2.2.1,(x2.2.2.2.2.2.2.2.2.1,(x2.2.2.2.2.2.2.2.2.2.1,(x2.2.2.2.2.2.2.2.2.2.2.1,(x2.2.2.2.2.2.2.2.2.2.2.2.1,(x2.2.2.2.2.2.2.2.2.2.2.2.2.1,())))))))))))))))).bind fun x3 =>
  some (x3.1,(x3.2.1,(x3.2.2.1,(x3.2.2.2.1,(x3.2.2.2.2.1,(x3.2.2.2.2.2.1,(x3.2.2.2.2.2.2.1,(x3.2.2.2.2.2.2.2.1,(x3.2.2.2.2.2.2.2.2.1,(x3.2.2.2.2.2.2.2.2.2.1,(x3.2.2.2.2.2.2.2.2.2.2.1,(x3.2.2.2.2.2.2.2.2.2.2.2.1,(x3.2.2.2.2.2.2.2.2.2.2.2.2.1,(x3.2.2.2.2.2.2.2.2.2.2.2.2.2.1,()))))))))))))))).bind fun x4 =>
  ((bif (decide (((Int.fdiv x4.2.2.2.2.2.1 (2^52))=1))) then
  some (x4.1,(x4.2.1,(x4.2.2.1,(x4.2.2.2.1,(x4.2.2.2.2.1,(x4.2.2.2.2.2.1,(x4.2.2.2.2.2.2.1,((Go.IntKind.wrap .i64 ((Go.IntKind.wrap .i64 (x4.2.2.1-(-1074)))+1)),(x4.2.2.2.2.2.2.2.1,(x4.2.2.2.2.2.2.2.2.1,(x4.2.2.2.2.2.2.2.2.2.1,(x4.2.2.2.2.2.2.2.2.2.2.1,(x4.2.2.2.2.2.2.2.2.2.2.2.1,(x4.2.2.2.2.2.2.2.2.2.2.2.2.1,(x4.2.2.2.2.2.2.2.2.2.2.2.2.2.1,())))))))))))))))
 else
  some (x4.1,(x4.2.1,(x4.2.2.1,(x4.2.2.2.1,(x4.2.2.2.2.1,(x4.2.2.2.2.2.1,(x4.2.2.2.2.2.2.1,((0:Int),(x4.2.2.2.2.2.2.2.1,(x4.2.2.2.2.2.2.2.2.1,(x4.2.2.2.2.2.2.2.2.2.1,(x4.2.2.2.2.2.2.2.2.2.2.1,(x4.2.2.2.2.2.2.2.2.2.2.2.1,(x4.2.2.2.2.2.2.2.2.2.2.2.2.1,(x4.2.2.2.2.2.2.2.2.2.2.2.2.2.1,()))))))))))))))))).bind fun x5 =>
  ((Su.pMake_s (x5.2.2.2.2.2.2.2.2.1,(x5.2.2.2.2.2.2.2.1,(Fly.bitv Go.BinOp.and .u64 x5.2.2.2.2.2.1 4503599627370495))))).bind fun x6 =>
  some (x6.1,x5.2.2.2.2.2.2.1)
 else
  ((bif x2.2.2.2.2.1 then
  ((bif (decide (((Go.IntKind.wrap .i64 (x2.2.1+x2.2.2.2.2.2.2.2.2.2.1))≤(-1022)))) then
  some (x2.1,(x2.2.1,(x2.2.2.1,(x2.2.2.2.1,(x2.2.2.2.2.1,(x2.2.2.2.2.2.1,((Fly.bitv Go.BinOp.or .u8 1 2),(x2.2.2.2.2.2.2.1,(x2.2.2.2.2.2.2.2.1,(x2.2.2.2.2.2.2.2.2.1,(x2.2.2.2.2.2.2.2.2.2.1,(x2.2.2.2.2.2.2.2.2.2.2.1,(x2.2.2.2.2.2.2.2.2.2.2.2.1,(x2.2.2.2.2.2.2.2.2.2.2.2.2.1,()))))))))))))))
 else
  some (x2.1,(x2.2.1,(x2.2.2.1,(x2.2.2.2.1,(x2.2.2.2.2.1,(x2.2.2.2.2.2.1,((1:Int),(x2.2.2.2.2.2.2.1,(x2.2.2.2.2.2.2.2.1,(x2.2.2.2.2.2.2.2.2.1,(x2.2.2.2.2.2.2.2.2.2.1,(x2.2.2.2.2.2.2.2.2.2.2.1,(x2.2.2.2.2.2.2.2.2.2.2.2.1,(x2.2.2.2.2.2.2.2.2.2.2.2.2.1,())))))))))))))))).bind fun x7 =>
  some (x7.1,(x7.2.1,(x7.2.2.1,(x7.2.2.2.1,(x7.2.2.2.2.1,(x7.2.2.2.2.2.1,(x7.2.2.2.2.2.2.1,(x7.2.2.2.2.2.2.2.1,(x7.2.2.2.2.2.2.2.2.1,(x7.2.2.2.2.2.2.2.2.2.1,(x7.2.2.2.2.2.2.2.2.2.2.1,(x7.2.2.2.2.2.2.2.2.2.2.2.1,(x7.2.2.2.2.2.2.2.2.2.2.2.2.1,(x7.2.2.2.2.2.2.2.2.2.2.2.2.2.1,()))))))))))))))
 else
  some (x2.1,(x2.2.1,(x2.2.2.1,(x2.2.2.2.1,(x2.2.2.2.2.1,(x2.2.2.2.2.2.1,((0:Int),(x2.2.2.2.2.2.2.1,(x2.2.2.2.2.2.2.2.1,(x2.2.2.2.2.2.2.2.2.1,(x2.2.2.2.2.2.2.2.2.2.1,(x2.2.2.2.2.2.2.2.2.2.2.1,(x2.2.2.2.2.2.2.2.2.2.2.2.1,(x2.2.2.2.2.2.2.2.2.2.2.2.2.1,())))))))))))))))).bind fun x8 =>
  ((bif (decide (((Int.fdiv x8.2.2.2.2.2.1 (2^52))=1))) then
  some (x8.1,(x8.2.1,(x8.2.2.1,(x8.2.2.2.1,(x8.2.2.2.2.1,(x8.2.2.2.2.2.1,(x8.2.2.2.2.2.2.1,((Go.IntKind.wrap .i64 ((Go.IntKind.wrap .i64 (x8.2.2.1-(-1074)))+1)),(x8.2.2.2.2.2.2.2.1,(x8.2.2.2.2.2.2.2.2.1,(x8.2.2.2.2.2.2.2.2.2.1,(x8.2.2.2.2.2.2.2.2.2.2.1,(x8.2.2.2.2.2.2.2.2.2.2.2.1,(x8.2.2.2.2.2.2.2.2.2.2.2.2.1,(x8.2.2.2.2.2.2.2.2.2.2.2.2.2.1,())))))))))))))))
 else
  some (x8.1,(x8.2.1,(x8.2.2.1,(x8.2.2.2.1,(x8.2.2.2.2.1,(x8.2.2.2.2.2.1,(x8.2.2.2.2.2.2.1,((0:Int),(x8.2.2.2.2.2.2.2.1,(x8.2.2.2.2.2.2.2.2.1,(x8.2.2.2.2.2.2.2.2.2.1,(x8.2.2.2.2.2.2.2.2.2.2.1,(x8.2.2.2.2.2.2.2.2.2.2.2.1,(x8.2.2.2.2.2.2.2.2.2.2.2.2.1,(x8.2.2.2.2.2.2.2.2.2.2.2.2.2.1,()))))))))))))))))).bind fun x9 =>
  ((Su.pMake_s (x9.2.2.2.2.2.2.2.2.1,(x9.2.2.2.2.2.2.2.1,(Fly.bitv Go.BinOp.and .u64 x9.2.2.2.2.2.1 4503599627370495))))).bind fun x10 =>
  some (x10.1,x9.2.2.2.2.2.2.1)))
def flN (neg:Bool) (mode:Int) (M E:Nat) (rest sm:Bool):Int :=
 bif Nat.ble (floorN M E+(upN neg mode (keepN M E % 2 == 1) (hfN M E) (rest||rsN M E)).toNat) topN then (bif hfN M E||(rest||rsN M E) then (bif sm then 3 else 1) else 0) else 5
def rFloat_s (p:NmbT×Int):Option (Int×Int) :=
 bif !Nat.beq (valW (p.1.2.1,p.1.2.2.1)) 0&&(decide (-5000≤p.1.2.2.2.1)&&decide (p.1.2.2.2.1≤5000)) then
  some ((RN p.1.1 p.2 (valW (p.1.2.1,p.1.2.2.1)) (p.1.2.2.2.1+6000).toNat p.1.2.2.2.2:Int),flN p.1.1 p.2 (valW (p.1.2.1,p.1.2.2.1)) (p.1.2.2.2.1+6000).toNat p.1.2.2.2.2 (decide ((blen (valW (p.1.2.1,p.1.2.2.1)):Int)+p.1.2.2.2.1≤-1022)))
 else none
theorem val_hl {X:Nat} (h:X<340282366920938463463374607431768211456):valW (hiW X,loW X)=X:=by
 rw [valW_def];unfold hiW loW
 simp only [Int.toNat_natCast];omega
theorem lo_small {X:Nat} (h:X<18446744073709551616):loW X=(X:Int):=by unfold loW;rw [Nat.mod_eq_of_lt h]
theorem hi_small {X:Nat} (h:X<18446744073709551616):hiW X=0:=by unfold hiW;rw [Nat.div_eq_of_lt h];rfl
theorem bit0 (X:Nat):decide (bitv .and .u64 (loW X) 1=1)=(X % 2 == 1):=by
 have h:=bv_mask (X % 18446744073709551616) 1 1 rfl (Nat.mod_lt _ (by decide)) (by decide)
 unfold loW
 rw [show (1:Int)=((1:Nat):Int) from rfl,h,nat_eq]
 have:X % 18446744073709551616 % 2^1=X % 2:=by omega
 rw [this]
 by_cases hx:X % 2=1 <;> simp [hx]
theorem bit0n (w:Nat) (hw:w<18446744073709551616):decide (bitv .and .u64 (w:Int) 1=1)=(w % 2 == 1):=by
 have:=bit0 w
 rwa [lo_small hw] at this
theorem rFloat_ok (p:NmbT×Int) (y:Int×Int) (hg:(dc cNmb (d1 (cI .u8))).good p) (h:rFloat_s p=some y):rFloat p.1 p.2=some y:=by
 obtain ⟨⟨neg,hi,lo,e,rest⟩,mode⟩:=p
 obtain ⟨⟨_,hhi,hlo,he,_⟩,_⟩:=hg
 obtain ⟨H,rfl,hH⟩:=asN64 hhi
 obtain ⟨L,rfl,hL⟩:=asN64 hlo
 obtain ⟨hguard,h⟩:=bif_some h
 have:=soi h;subst this
 simp only [Bool.and_eq_true,Bool.not_eq_true',decide_eq_true_eq] at hguard
 obtain ⟨hM0,he1,he2⟩:=hguard
 unfold rFloat
 simp only [] at *
 obtain ⟨M,hM⟩:∃ M,M=valW ((H:Int),(L:Int)):=⟨_,rfl⟩
 rw [← hM] at hM0 ⊢
 have hMlt:M<340282366920938463463374607431768211456:=by rw [hM,valW_def];simp only [Int.toNat_natCast];omega
 have hMne:M≠0:=fun e=>by rw [e] at hM0;simp at hM0
 have hbl:blen M≤128:=blen_le.2 hMlt
 have hbp:=blen_pos hMne
 obtain ⟨E,hE⟩:∃ E:Nat,(e+6000).toNat=E:=⟨_,rfl⟩
 have hEe:e=(E:Int)-6000:=by omega
 rw [hE]
 have hSH:=SH_eq
 obtain ⟨Q,hQ⟩:∃ Q,qN M E=Q:=⟨_,rfl⟩
 have hQv:Q=blen M+E-53-4926:=by rw [← hQ];unfold qN;rw [hSH]
 have q0:IntKind.i64.wrap (IntKind.i64.wrap ((blen M:Int)-53)+e)=(blen M:Int)-53+e:=by
  rw [w64 (n:=(blen M:Int)-53) (by omega) (by omega),w64 (by omega) (by omega)]
 have qv:max ((blen M:Int)-53+e) (-1074)=(Q:Int)-1074:=by omega
 have hdv:IntKind.i64.wrap ((Q:Int)-1074-e)=(Q:Int)+4926-E:=by rw [w64 (by omega) (by omega)];omega
 rw [q0,qv,hdv]
 have hkl:=keep_lt M E
 have hkg:=keep_ge (E:=E) hMne
 rw [hQ] at hkg
 have hDN:dN M E=Q+4926-E:=by unfold dN;rw [hQ,hSH]
 -- the first part
 refine obs (t:=(mode,(blen M:Int),(Q:Int)-1074,hfN M E,(rest||rsN M E),neg,(H:Int),(L:Int),e,rest,(0:Int),((keepN M E:Nat):Int),())) ?_ ?_
 · by_cases hd:(0:Int)<(Q:Int)+4926-E
   · obtain ⟨D,hD⟩:∃ D,dN M E=D+1:=⟨dN M E-1,by omega⟩
     have e1:IntKind.i64.wrap ((Q:Int)+4926-E-1)=(D:Int):=by rw [w64 (by omega) (by omega)];omega
     have e2:hfN M E=(M / 2^D % 2 == 1):=by unfold hfN;rw [hD];rfl
     have e3:rsN M E = !(M % 2^D == 0):=by unfold rsN;rw [hD];rfl
     have e4:keepN M E=M / 2^D / 2:=by
      unfold keepN
      rw [hQ,hSH,show E-(Q+4926)=0 by omega,show Q+4926-E=D+1 by omega,Nat.pow_zero,Nat.mul_one,Nat.pow_succ,Nat.div_div_eq_div_mul]
     have hX:M / 2^D<340282366920938463463374607431768211456:=Nat.lt_of_le_of_lt (Nat.div_le_self _ _) hMlt
     have e5:∀ x:Nat,(x == 0)=Nat.beq x 0:=fun x=>by rw [beq_dec];rfl
     rw [decide_eq_true hd,cond_true,e1,Int.toNat_natCast,bit0,val_hl hX,e2,e3,e5,e4]
     have e6:M / 2^D / 2^Int.toNat 1=M / 2^D / 2:=by rw [Int.toNat_one,Nat.pow_one]
     rw [e4] at hkl
     cases rest with
     | true =>
      rw [cond_true,Bool.true_or,e6,lo_small (by omega),hi_small (by omega)]
     | false =>
      rw [cond_false,Bool.false_or,e6,lo_small (by omega),hi_small (by omega)]
   · have hD:dN M E=0:=by omega
     have e1:IntKind.i64.wrap (0-((Q:Int)+4926-E))=((E-(Q+4926):Nat):Int):=by rw [w64 (by omega) (by omega)];omega
     have e2:hfN M E=false:=by unfold hfN;rw [hD];rfl
     have e3:rsN M E=false:=by unfold rsN;rw [hD];rfl
     have e4:keepN M E=M*2^(E-(Q+4926)):=by
      unfold keepN
      rw [hQ,hSH,show Q+4926-E=0 by omega,Nat.pow_zero,Nat.div_one]
     rw [decide_eq_false hd,cond_false,e1,Int.toNat_natCast,e2,e3,e4,Bool.or_false,Nat.mul_comm (2^_)]
     rw [e4] at hkl
     rw [lo_small (by omega),hi_small (by omega)]
 · -- up or not
   simp only []
   obtain ⟨u,hu⟩:∃ u,upN neg mode (keepN M E % 2 == 1) (hfN M E) (rest||rsN M E)=u:=⟨_,rfl⟩
   rw [bit0n _ (by omega),hu]
   obtain ⟨w,hw⟩:∃ w,keepN M E=w:=⟨_,rfl⟩
   have hfl:floorN M E=Q*4503599627370496+w:=by rw [floorN_def,hQ,hw]
   have hRN:RN neg mode M E rest=sgN neg+finN (twN neg mode) (Q*4503599627370496+w+u.toNat):=by
    unfold RN;rw [hM0,cond_false,hu,hfl]
   have hflN:∀ sm,flN neg mode M E rest sm=(bif Nat.ble (Q*4503599627370496+w+u.toNat) topN then (bif hfN M E||(rest||rsN M E) then (bif sm then 3 else 1) else 0) else 5):=fun sm=>by
    unfold flN;rw [hu,hfl]
   rw [hRN,hflN,hw]
   rw [hw] at hkl hkg
   generalize hfN M E=hf
   generalize (rest||rsN M E)=rs
   refine obs (t:=(mode,(blen M:Int),(Q:Int)-1074,hf,rs,((w+u.toNat:Nat):Int),neg,(H:Int),(L:Int),e,rest,(0:Int),(w:Int),())) ?_ ?_
   · cases u with
     | true=>rw [cond_true,wu64 (by omega) (by omega)];rfl
     | false=>rw [cond_false];rfl
   · simp only []
     have hu1:u.toNat≤1:=by cases u <;> decide
     obtain ⟨w1,hw1⟩:∃ w1,w+u.toNat=w1:=⟨_,rfl⟩
     rw [Nat.add_assoc,hw1]
     have hw1l:w1≤9007199254740992:=by omega
     have hw1g:4503599627370496≤w1∨Q=0:=by rcases hkg with h | h;exact .inl (by omega);exact .inr h
     -- normalized
     obtain ⟨Q2,w2,hK,hw2,hw2g,hQ2,hn⟩:∃ Q2 w2:Nat,Q2*4503599627370496+w2=Q*4503599627370496+w1∧w2<9007199254740992∧(4503599627370496≤w2∨Q2=0)∧Q2≤Q+1 ∧
      (if w1=9007199254740992 then Q2=Q+1∧w2=4503599627370496 else Q2=Q∧w2=w1):=by
      by_cases h5:w1=9007199254740992
      · exact ⟨Q+1,4503599627370496,by omega,by omega,.inl (by omega),by omega,by rw [if_pos h5];exact ⟨rfl,rfl⟩⟩
      · exact ⟨Q,w1,rfl,by omega,hw1g,by omega,by rw [if_neg h5];exact ⟨rfl,rfl⟩⟩
     refine obs (t:=(mode,(blen M:Int),(Q2:Int)-1074,hf,rs,(w2:Int),neg,(H:Int),(L:Int),e,rest,(0:Int),(w:Int),())) ?_ ?_
     · by_cases h5:w1=9007199254740992
       · rw [if_pos h5] at hn
         obtain ⟨rfl,rfl⟩:=hn
         rw [decide_eq_true (by omega),cond_true,h5,w64 (by omega) (by omega)]
         have:Int.fdiv ((9007199254740992:Nat):Int) (2^1)=((4503599627370496:Nat):Int):=by rw [fd_pow]
         rw [this,show (Q:Int)-1074+1=((Q+1:Nat):Int)-1074 by omega]
       · rw [if_neg h5] at hn
         obtain ⟨rfl,rfl⟩:=hn
         rw [decide_eq_false (by omega),cond_false]
     · simp only []
       rw [← hK]
       unfold finN topN
       by_cases hov:(971:Int)<(Q2:Int)-1074
       · have hb:Nat.ble (Q2*4503599627370496+w2) 9218868437227405311=false:=by
          rw [ble_dec];exact decide_eq_false (by omega)
         rw [decide_eq_true hov,cond_true,hb,cond_false,cond_false]
         unfold ovN
         rw [show (9218868437227405311:Nat)+1=9218868437227405312 from rfl]
       · have hb:Nat.ble (Q2*4503599627370496+w2) 9218868437227405311=true:=by
          rw [ble_dec];exact decide_eq_true (by omega)
         rw [decide_eq_false hov,cond_false,hb,cond_true,cond_true]
         -- the float is put together
         have hsm:decide (IntKind.i64.wrap ((blen M:Int)+e)≤-1022)=decide ((blen M:Int)+e≤-1022):=by rw [w64 (by omega) (by omega)]
         have hmake:∀ (ex:Int),ex=(if 4503599627370496≤w2 then (Q2:Int)+1 else 0)→pMake_s (neg,(ex,(bitv .and .u64 (w2:Int) 4503599627370495)))=some (((sgN neg+(Q2*4503599627370496+w2):Nat):Int),0):=by
          intro ex hex
          have hm:=bv_mask w2 4503599627370495 52 rfl (by omega) (by omega)
          rw [show ((4503599627370495:Nat):Int)=4503599627370495 from rfl] at hm
          unfold pMake_s
          simp only [hm]
          have hr:0≤ex∧ex≤2047:=by rw [hex];split <;> omega
          rw [decide_eq_true hr.1,decide_eq_true hr.2,decide_eq_true (by omega)]
          simp only [Bool.and_self,cond_true]
          congr 2
          rw [hex]
          split <;> omega
         rw [hsm]
         generalize decide ((blen M:Int)+e≤-1022)=sm
         have hor:bitv .or .u8 1 2=3:=by decide
         have hexp:IntKind.i64.wrap (IntKind.i64.wrap ((Q2:Int)-1074-(-1074))+1)=(Q2:Int)+1:=by
          rw [w64 (n:=(Q2:Int)-1074-(-1074)) (by omega) (by omega),w64 (by omega) (by omega)];omega
         have hfd:decide (Int.fdiv (w2:Int) (2^52)=1)=decide (4503599627370496≤w2):=by
          rw [fd_pow,show (1:Int)=((1:Nat):Int) from rfl,nat_eq]
          by_cases h4:4503599627370496≤w2
          · rw [decide_eq_true h4,decide_eq_true (by omega)]
          · rw [decide_eq_false h4,decide_eq_false (by omega)]
         by_cases h4:4503599627370496≤w2
         · have hm:=hmake ((Q2:Int)+1) (by rw [if_pos h4])
           rw [decide_eq_true h4] at hfd
           cases hf <;> cases rs <;> cases sm <;> simp only [cond_true,cond_false,Option.bind_some,hfd,hexp,hm,hor,Bool.or_true,Bool.or_false,Bool.or_self]
         · have hm:=hmake 0 (by rw [if_neg h4])
           rw [decide_eq_false h4] at hfd
           cases hf <;> cases rs <;> cases sm <;> simp only [cond_true,cond_false,Option.bind_some,hfd,hexp,hm,hor,Bool.or_true,Bool.or_false,Bool.or_self]
end
end Su
end
section
namespace Su
open Go Fly
set_option linter.unusedVariables false
noncomputable section
def rRound  (neg:Bool) (m:(Int×Int)) (e:Int) (rest:Bool) (mode:Int):Option (Int×Int) :=
 (bif (decide (((((Su.blen (Su.valW (m.1,m.2))):Nat):Int)=0))) then
 some ((((((Su.sgN neg)+(4503599627370496*(Int.toNat 0)))+(Int.toNat 0)):Nat):Int),(0:Int))
 else
  (bif rest then
  ((Su.rFloat_s ((neg,(m.1,(m.2,((min (max e (-5000)) 5000),(decide ((53<(((Su.blen (Su.valW (m.1,m.2))):Nat):Int)))))))),mode))).bind fun x0 =>
  some (x0.1,x0.2)
 else
  ((Su.rFloat_s ((neg,(m.1,(m.2,((min (max e (-5000)) 5000),false)))),mode))).bind fun x1 =>
  some (x1.1,x1.2)))
def sOf  (f:Int):Option (Int×(Int×(Bool×(Int×Int)))) :=
 some (f,((((Su.clsK (Su.bK (Int.toNat f))):Nat):Int),((decide (((Int.fdiv f (2^63))=1))),((((Su.spM (Su.bK (Int.toNat f))):Nat):Int),(Su.spE (Su.bK (Int.toNat f)))))))
def sZero  (neg:Bool):Option Int :=
 some (((((Su.sgN neg)+(4503599627370496*(Int.toNat 0)))+(Int.toNat 0)):Nat):Int)
def flgL:{f:Bool→Int→Nat→Int→Bool→Int // ∀ neg mode M e rest,f neg mode M e rest=bif Nat.beq M 0 then 0 else flN neg mode M (min (max e (-5000)) 5000+6000).toNat (rest&&decide (53<blen M)) (decide ((blen M:Int)+min (max e (-5000)) 5000≤-1022))}:=Classical.choice ⟨⟨_,fun _ _ _ _ _=>rfl⟩⟩
def flg (neg:Bool) (mode:Int) (M:Nat) (e:Int) (rest:Bool):Int:=flgL.1 neg mode M e rest
theorem flg_eq (neg:Bool) (mode:Int) (M:Nat) (e:Int) (rest:Bool):flg neg mode M e rest=bif Nat.beq M 0 then 0 else flN neg mode M (min (max e (-5000)) 5000+6000).toNat (rest&&decide (53<blen M)) (decide ((blen M:Int)+min (max e (-5000)) 5000≤-1022)):=flgL.2 neg mode M e rest
def rRound_s (p:Bool×((Int×Int)×(Int×(Bool×Int)))):Option (Int×Int):=some ((rnd p.1 p.2.2.2.2 (valW p.2.1) p.2.2.1 p.2.2.2.1:Int),flg p.1 p.2.2.2.2 (valW p.2.1) p.2.2.1 p.2.2.2.1)
theorem rRound_ok (p:Bool×((Int×Int)×(Int×(Bool×Int)))) (y:Int×Int) (hg:(dc cB (dc cW (dc (cI .i64) (dc cB (d1 (cI .u8)))))).good p) (h:rRound_s p=some y):rRound p.1 p.2.1 p.2.2.1 p.2.2.2.1 p.2.2.2.2=some y:=by
 obtain ⟨neg,⟨hi,lo⟩,e,rest,mode⟩:=p
 have:=soi h;subst this
 unfold rRound
 simp only [rnd_eq,flg_eq]
 have hE1 : -5000≤min (max e (-5000)) 5000:=by omega
 have hE2:min (max e (-5000)) 5000≤5000:=by omega
 generalize min (max e (-5000)) 5000=E at *
 have hF:∀ r,Nat.beq (valW (hi,lo)) 0=false→rFloat_s ((neg,(hi,(lo,(E,r)))),mode)=some ((RN neg mode (valW (hi,lo)) (E+6000).toNat r:Int),flN neg mode (valW (hi,lo)) (E+6000).toNat r (decide ((blen (valW (hi,lo)):Int)+E≤-1022))):=by
  intro r hb
  unfold rFloat_s
  simp only [hb,decide_eq_true hE1,decide_eq_true hE2,Bool.not_false,Bool.and_self,cond_true]
 generalize valW (hi,lo)=M at *
 have hz:decide (((blen M:Nat):Int)=0)=Nat.beq M 0:=by
  rw [show (0:Int)=((0:Nat):Int) from rfl,nat_eq,beq_dec]
  by_cases h0:M=0
  · subst h0;rfl
  · have:=blen_pos h0
    rw [decide_eq_false h0,decide_eq_false (by omega)]
 have h53:decide ((53:Int)<((blen M:Nat):Int))=decide (53<blen M):=by
  by_cases h0:53<blen M
  · rw [decide_eq_true h0,decide_eq_true (by omega)]
  · rw [decide_eq_false h0,decide_eq_false (by omega)]
 rw [hz,h53]
 cases hb:Nat.beq M 0 with
 | true =>
  have:=Nat.eq_of_beq_eq_true hb;subst this
  rw [cond_true,cond_true,RN_zero,Int.toNat_zero,Nat.mul_zero,Nat.add_zero]
 | false =>
  rw [cond_false,cond_false]
  cases rest with
  | true=>rw [cond_true,hF _ hb,Bool.true_and];rfl
  | false=>rw [cond_false,hF _ hb,Bool.false_and];rfl
end
end Su
end
section
namespace Su
open Go Fly
theorem val_mod (n:Nat):valW (hiW n,loW n)=n % 340282366920938463463374607431768211456:=by
 rw [valW_def];unfold hiW loW
 simp only [Int.toNat_natCast];omega
theorem beqe (x:Nat):(x == 0)=Nat.beq x 0:=by rw [beq_dec];rfl
theorem RN_room {neg:Bool} {mode:Int} {Z D E:Nat} (h0:2^70*Z / 2^D≠0) (h:54≤blen (2^70*Z / 2^D)∨2^70*Z % 2^D=0) :
 RN neg mode (2^70*Z / 2^D) (E+D) (!(2^70*Z % 2^D == 0))=RN neg mode Z (E+70) false:=by
 rw [RN_shr h0 h]
 have e1:2^70*Z / 2^70=Z:=Nat.mul_div_cancel_left _ (Nat.two_pow_pos 70)
 have e2:2^70*Z % 2^70=0:=Nat.mul_mod_right _ _
 have hz:Z≠0:=fun e=>by subst e;rw [Nat.mul_zero,Nat.zero_div] at h0;exact h0 rfl
 have:=RN_shr (neg:=neg) (mode:=mode) (M:=2^70*Z) (E:=E) (t:=70) (by rw [e1];exact hz) (.inr e2)
 rw [e1,e2] at this
 exact this.symm
theorem blen_ge54 {n:Nat} (h:2^53≤n):54≤blen n:=by
 refine Nat.le_of_not_lt fun hlt=>?_
 have:=blen_le.1 (show blen n≤53 by omega)
 omega
theorem add_same {neg:Bool} {mode:Int} {X Y D:Nat} {e:Int} (hX:1≤X) (hX2:X<9007199254740992) (hY2:Y<9007199254740992) (he1 : -1074≤e) (he2:e+D≤971) :
 rnd neg mode (2^70*X+2^70*Y / 2^D) (e+D-70) (!Nat.beq (2^70*Y % 2^D) 0)=RN neg mode (2^D*X+Y) (e+6000).toNat false:=by
 have hD:=Nat.two_pow_pos D
 have hz:2^70*(2^D*X+Y)=2^70*Y+2^D*(2^70*X):=by rw [Nat.mul_add,Nat.mul_left_comm,Nat.add_comm]
 have hdiv:2^70*(2^D*X+Y) / 2^D=2^70*X+2^70*Y / 2^D:=by rw [hz,Nat.add_mul_div_left _ _ hD,Nat.add_comm]
 have hmod:2^70*(2^D*X+Y) % 2^D=2^70*Y % 2^D:=by rw [hz,Nat.add_mul_mod_self_left]
 have hbig:2^53≤2^70*X+2^70*Y / 2^D:=by
  generalize 2^70*Y / 2^D=z
  omega
 have hb:=blen_ge54 hbig
 rw [rnd_eq,decide_eq_true (show 53<blen (2^70*X+2^70*Y / 2^D) by omega),Bool.and_true]
 have hE:(min (max (e+D-70) (-5000)) 5000+6000).toNat=(e+5930).toNat+D:=by omega
 have hE2:(e+6000).toNat=(e+5930).toNat+70:=by omega
 rw [hE,hE2,← RN_room (D:=D) (by rw [hdiv];omega) (.inl (by rw [hdiv];exact hb)),hdiv,hmod,beqe]
theorem add_diff {neg:Bool} {mode:Int} {X Y D:Nat} {e:Int} (hX2:X<9007199254740992) (hY2:Y<9007199254740992) (he1 : -1074≤e) (he2:e+D≤971) (hn:0<D→4503599627370496≤X) (hlt:Y<2^D*X) :
 2^70*Y / 2^D<2^70*X∧(2^70*Y % 2^D=0→rnd neg mode (2^70*X-2^70*Y / 2^D) (e+D-70) false=RN neg mode (2^D*X-Y) (e+6000).toNat false) ∧
  (2^70*Y % 2^D≠0→1≤2^70*X-2^70*Y / 2^D∧rnd neg mode (2^70*X-2^70*Y / 2^D-1) (e+D-70) true=RN neg mode (2^D*X-Y) (e+6000).toNat false):=by
 have hD:=Nat.two_pow_pos D
 have hE:(min (max (e+D-70) (-5000)) 5000+6000).toNat=(e+5930).toNat+D:=by omega
 have hE2:(e+6000).toNat=(e+5930).toNat+70:=by omega
 have hz:2^70*(2^D*X-Y)=2^D*(2^70*X)-2^70*Y:=by rw [Nat.mul_sub,Nat.mul_left_comm]
 have hzlt:2^70*Y<2^D*(2^70*X):=by
  rw [Nat.mul_left_comm];exact Nat.mul_lt_mul_of_pos_left hlt (Nat.two_pow_pos 70)
 have hY0:=Nat.div_add_mod (2^70*Y) (2^D)
 have hmlt:=Nat.mod_lt (2^70*Y) hD
 have h1:2^70*Y / 2^D<2^70*X:=by
  rw [Nat.div_lt_iff_lt_mul hD,Nat.mul_comm (2^70*X)];exact hzlt
 refine ⟨h1,fun hr=>?_,fun hr=>?_⟩
 · -- nothing is lost
   rw [hr,Nat.add_zero] at hY0
   have hZ:2^70*(2^D*X-Y)=2^D*(2^70*X-2^70*Y / 2^D):=by
    rw [hz,Nat.mul_sub,hY0]
   have hdiv:2^70*(2^D*X-Y) / 2^D=2^70*X-2^70*Y / 2^D:=by rw [hZ,Nat.mul_div_cancel_left _ hD]
   have hmod:2^70*(2^D*X-Y) % 2^D=0:=by rw [hZ,Nat.mul_mod_right]
   rw [rnd_eq,Bool.false_and,hE,hE2,← RN_room (D:=D) (by rw [hdiv];omega) (.inr hmod),hdiv,hmod]
   rfl
 · -- something is lost: so they lie far apart
   have hDbig:70<D:=by
    refine Nat.lt_of_not_le fun h=>hr ?_
    have:2^70=2^D*2^(70-D):=by rw [← Nat.pow_add];congr 1;omega
    rw [this,Nat.mul_assoc,Nat.mul_mod_right]
   have hXn:=hn (by omega)
   have hq:2^70*Y / 2^D<4503599627370496:=by
    rw [Nat.div_lt_iff_lt_mul hD]
    have h2:2^71≤2^D:=Nat.pow_le_pow_right (by omega) (by omega)
    have h3:4503599627370496*2^71≤4503599627370496*2^D:=Nat.mul_le_mul_left _ h2
    omega
   have hZ:2^70*(2^D*X-Y)=2^D*(2^70*X-2^70*Y / 2^D-1)+(2^D-2^70*Y % 2^D):=by
    rw [hz]
    have e1:2^D*(2^70*X-2^70*Y / 2^D-1)+2^D+2^D*(2^70*Y / 2^D)=2^D*(2^70*X):=by
     rw [← Nat.mul_succ,← Nat.mul_add];congr 1;omega
    omega
   have hr2:2^D-2^70*Y % 2^D<2^D:=by omega
   have hdiv:2^70*(2^D*X-Y) / 2^D=2^70*X-2^70*Y / 2^D-1:=by
    rw [hZ,Nat.mul_add_div hD,Nat.div_eq_of_lt hr2,Nat.add_zero]
   have hmod:2^70*(2^D*X-Y) % 2^D=2^D-2^70*Y % 2^D:=by
    rw [hZ,Nat.mul_add_mod,Nat.mod_eq_of_lt hr2]
   have hbig:2^53≤2^70*X-2^70*Y / 2^D-1:=by
    generalize 2^70*Y / 2^D=z at *
    omega
   have hb:=blen_ge54 hbig
   refine ⟨by omega,?_⟩
   have hne:(2^D-2^70*Y % 2^D == 0)=false:=by
    have:2^D-2^70*Y % 2^D≠0:=by omega
    generalize 2^D-2^70*Y % 2^D=w at *
    simp [this]
   rw [rnd_eq,decide_eq_true (show 53<blen (2^70*X-2^70*Y / 2^D-1) by omega),Bool.and_true,hE,hE2,← RN_room (D:=D) (by rw [hdiv];omega) (.inl (by rw [hdiv];exact hb)),hdiv,hmod,hne]
   rfl
end Su
end
section
namespace Su
open Go Fly
set_option linter.unusedVariables false
noncomputable section
def sNadd  (x:(Int×(Int×(Bool×(Int×Int))))) (y:(Int×(Int×(Bool×(Int×Int))))) (mode:Int):Option (Int×Int) :=
 (bif (decide ((x.2.2.1=y.2.2.1))) then
 some ((((Su.rnd x.2.2.1 mode (Su.valW ((Su.hiW ((Su.valW ((Su.hiW ((2^(Int.toNat 70))*(Su.valW ((0:Int),x.2.2.2.1)))),(Su.loW ((2^(Int.toNat 70))*(Su.valW ((0:Int),x.2.2.2.1))))))+(Su.valW ((Su.hiW ((Su.valW ((Su.hiW ((2^(Int.toNat 70))*(Su.valW ((0:Int),y.2.2.2.1)))),(Su.loW ((2^(Int.toNat 70))*(Su.valW ((0:Int),y.2.2.2.1)))))) / (2^(Int.toNat (Go.IntKind.wrap .i64 (x.2.2.2.2-y.2.2.2.2)))))),(Su.loW ((Su.valW ((Su.hiW ((2^(Int.toNat 70))*(Su.valW ((0:Int),y.2.2.2.1)))),(Su.loW ((2^(Int.toNat 70))*(Su.valW ((0:Int),y.2.2.2.1)))))) / (2^(Int.toNat (Go.IntKind.wrap .i64 (x.2.2.2.2-y.2.2.2.2)))))))))),(Su.loW ((Su.valW ((Su.hiW ((2^(Int.toNat 70))*(Su.valW ((0:Int),x.2.2.2.1)))),(Su.loW ((2^(Int.toNat 70))*(Su.valW ((0:Int),x.2.2.2.1))))))+(Su.valW ((Su.hiW ((Su.valW ((Su.hiW ((2^(Int.toNat 70))*(Su.valW ((0:Int),y.2.2.2.1)))),(Su.loW ((2^(Int.toNat 70))*(Su.valW ((0:Int),y.2.2.2.1)))))) / (2^(Int.toNat (Go.IntKind.wrap .i64 (x.2.2.2.2-y.2.2.2.2)))))),(Su.loW ((Su.valW ((Su.hiW ((2^(Int.toNat 70))*(Su.valW ((0:Int),y.2.2.2.1)))),(Su.loW ((2^(Int.toNat 70))*(Su.valW ((0:Int),y.2.2.2.1)))))) / (2^(Int.toNat (Go.IntKind.wrap .i64 (x.2.2.2.2-y.2.2.2.2)))))))))))) (Go.IntKind.wrap .i64 (x.2.2.2.2-70)) (!(Nat.beq ((Su.valW ((Su.hiW ((2^(Int.toNat 70))*(Su.valW ((0:Int),y.2.2.2.1)))),(Su.loW ((2^(Int.toNat 70))*(Su.valW ((0:Int),y.2.2.2.1)))))) % (2^(Int.toNat (Go.IntKind.wrap .i64 (x.2.2.2.2-y.2.2.2.2))))) 0))):Nat):Int),(Su.flg x.2.2.1 mode (Su.valW ((Su.hiW ((Su.valW ((Su.hiW ((2^(Int.toNat 70))*(Su.valW ((0:Int),x.2.2.2.1)))),(Su.loW ((2^(Int.toNat 70))*(Su.valW ((0:Int),x.2.2.2.1))))))+(Su.valW ((Su.hiW ((Su.valW ((Su.hiW ((2^(Int.toNat 70))*(Su.valW ((0:Int),y.2.2.2.1)))),(Su.loW ((2^(Int.toNat 70))*(Su.valW ((0:Int),y.2.2.2.1)))))) / (2^(Int.toNat (Go.IntKind.wrap .i64 (x.2.2.2.2-y.2.2.2.2)))))),(Su.loW ((Su.valW ((Su.hiW ((2^(Int.toNat 70))*(Su.valW ((0:Int),y.2.2.2.1)))),(Su.loW ((2^(Int.toNat 70))*(Su.valW ((0:Int),y.2.2.2.1)))))) / (2^(Int.toNat (Go.IntKind.wrap .i64 (x.2.2.2.2-y.2.2.2.2)))))))))),(Su.loW ((Su.valW ((Su.hiW ((2^(Int.toNat 70))*(Su.valW ((0:Int),x.2.2.2.1)))),(Su.loW ((2^(Int.toNat 70))*(Su.valW ((0:Int),x.2.2.2.1))))))+(Su.valW ((Su.hiW ((Su.valW ((Su.hiW ((2^(Int.toNat 70))*(Su.valW ((0:Int),y.2.2.2.1)))),(Su.loW ((2^(Int.toNat 70))*(Su.valW ((0:Int),y.2.2.2.1)))))) / (2^(Int.toNat (Go.IntKind.wrap .i64 (x.2.2.2.2-y.2.2.2.2)))))),(Su.loW ((Su.valW ((Su.hiW ((2^(Int.toNat 70))*(Su.valW ((0:Int),y.2.2.2.1)))),(Su.loW ((2^(Int.toNat 70))*(Su.valW ((0:Int),y.2.2.2.1)))))) / (2^(Int.toNat (Go.IntKind.wrap .i64 (x.2.2.2.2-y.2.2.2.2)))))))))))) (Go.IntKind.wrap .i64 (x.2.2.2.2-70)) (!(Nat.beq ((Su.valW ((Su.hiW ((2^(Int.toNat 70))*(Su.valW ((0:Int),y.2.2.2.1)))),(Su.loW ((2^(Int.toNat 70))*(Su.valW ((0:Int),y.2.2.2.1)))))) % (2^(Int.toNat (Go.IntKind.wrap .i64 (x.2.2.2.2-y.2.2.2.2))))) 0))))
 else
  (bif ((decide (((Su.hiW (Su.subN (Su.valW ((Su.hiW ((2^(Int.toNat 70))*(Su.valW ((0:Int),x.2.2.2.1)))),(Su.loW ((2^(Int.toNat 70))*(Su.valW ((0:Int),x.2.2.2.1)))))) (Su.valW ((Su.hiW ((Su.valW ((Su.hiW ((2^(Int.toNat 70))*(Su.valW ((0:Int),y.2.2.2.1)))),(Su.loW ((2^(Int.toNat 70))*(Su.valW ((0:Int),y.2.2.2.1)))))) / (2^(Int.toNat (Go.IntKind.wrap .i64 (x.2.2.2.2-y.2.2.2.2)))))),(Su.loW ((Su.valW ((Su.hiW ((2^(Int.toNat 70))*(Su.valW ((0:Int),y.2.2.2.1)))),(Su.loW ((2^(Int.toNat 70))*(Su.valW ((0:Int),y.2.2.2.1)))))) / (2^(Int.toNat (Go.IntKind.wrap .i64 (x.2.2.2.2-y.2.2.2.2))))))))))=0)))&&((decide (((Su.loW (Su.subN (Su.valW ((Su.hiW ((2^(Int.toNat 70))*(Su.valW ((0:Int),x.2.2.2.1)))),(Su.loW ((2^(Int.toNat 70))*(Su.valW ((0:Int),x.2.2.2.1)))))) (Su.valW ((Su.hiW ((Su.valW ((Su.hiW ((2^(Int.toNat 70))*(Su.valW ((0:Int),y.2.2.2.1)))),(Su.loW ((2^(Int.toNat 70))*(Su.valW ((0:Int),y.2.2.2.1)))))) / (2^(Int.toNat (Go.IntKind.wrap .i64 (x.2.2.2.2-y.2.2.2.2)))))),(Su.loW ((Su.valW ((Su.hiW ((2^(Int.toNat 70))*(Su.valW ((0:Int),y.2.2.2.1)))),(Su.loW ((2^(Int.toNat 70))*(Su.valW ((0:Int),y.2.2.2.1)))))) / (2^(Int.toNat (Go.IntKind.wrap .i64 (x.2.2.2.2-y.2.2.2.2))))))))))=0)))&&true)) then
  some ((((((Su.sgN (decide ((mode=2))))+0)+0):Nat):Int),(0:Int))
 else
  (bif (!(Nat.beq ((Su.valW ((Su.hiW ((2^(Int.toNat 70))*(Su.valW ((0:Int),y.2.2.2.1)))),(Su.loW ((2^(Int.toNat 70))*(Su.valW ((0:Int),y.2.2.2.1)))))) % (2^(Int.toNat (Go.IntKind.wrap .i64 (x.2.2.2.2-y.2.2.2.2))))) 0)) then
  some ((((Su.rnd x.2.2.1 mode (Su.valW ((Su.hiW (Su.subN (Su.valW ((Su.hiW (Su.subN (Su.valW ((Su.hiW ((2^(Int.toNat 70))*(Su.valW ((0:Int),x.2.2.2.1)))),(Su.loW ((2^(Int.toNat 70))*(Su.valW ((0:Int),x.2.2.2.1)))))) (Su.valW ((Su.hiW ((Su.valW ((Su.hiW ((2^(Int.toNat 70))*(Su.valW ((0:Int),y.2.2.2.1)))),(Su.loW ((2^(Int.toNat 70))*(Su.valW ((0:Int),y.2.2.2.1)))))) / (2^(Int.toNat (Go.IntKind.wrap .i64 (x.2.2.2.2-y.2.2.2.2)))))),(Su.loW ((Su.valW ((Su.hiW ((2^(Int.toNat 70))*(Su.valW ((0:Int),y.2.2.2.1)))),(Su.loW ((2^(Int.toNat 70))*(Su.valW ((0:Int),y.2.2.2.1)))))) / (2^(Int.toNat (Go.IntKind.wrap .i64 (x.2.2.2.2-y.2.2.2.2)))))))))),(Su.loW (Su.subN (Su.valW ((Su.hiW ((2^(Int.toNat 70))*(Su.valW ((0:Int),x.2.2.2.1)))),(Su.loW ((2^(Int.toNat 70))*(Su.valW ((0:Int),x.2.2.2.1)))))) (Su.valW ((Su.hiW ((Su.valW ((Su.hiW ((2^(Int.toNat 70))*(Su.valW ((0:Int),y.2.2.2.1)))),(Su.loW ((2^(Int.toNat 70))*(Su.valW ((0:Int),y.2.2.2.1)))))) / (2^(Int.toNat (Go.IntKind.wrap .i64 (x.2.2.2.2-y.2.2.2.2)))))),(Su.loW ((Su.valW ((Su.hiW ((2^(Int.toNat 70))*(Su.valW ((0:Int),y.2.2.2.1)))),(Su.loW ((2^(Int.toNat 70))*(Su.valW ((0:Int),y.2.2.2.1)))))) / (2^(Int.toNat (Go.IntKind.wrap .i64 (x.2.2.2.2-y.2.2.2.2)))))))))))) (Su.valW ((0:Int),(1:Int))))),(Su.loW (Su.subN (Su.valW ((Su.hiW (Su.subN (Su.valW ((Su.hiW ((2^(Int.toNat 70))*(Su.valW ((0:Int),x.2.2.2.1)))),(Su.loW ((2^(Int.toNat 70))*(Su.valW ((0:Int),x.2.2.2.1)))))) (Su.valW ((Su.hiW ((Su.valW ((Su.hiW ((2^(Int.toNat 70))*(Su.valW ((0:Int),y.2.2.2.1)))),(Su.loW ((2^(Int.toNat 70))*(Su.valW ((0:Int),y.2.2.2.1)))))) / (2^(Int.toNat (Go.IntKind.wrap .i64 (x.2.2.2.2-y.2.2.2.2)))))),(Su.loW ((Su.valW ((Su.hiW ((2^(Int.toNat 70))*(Su.valW ((0:Int),y.2.2.2.1)))),(Su.loW ((2^(Int.toNat 70))*(Su.valW ((0:Int),y.2.2.2.1)))))) / (2^(Int.toNat (Go.IntKind.wrap .i64 (x.2.2.2.2-y.2.2.2.2)))))))))),(Su.loW (Su.subN (Su.valW ((Su.hiW ((2^(Int.toNat 70))*(Su.valW ((0:Int),x.2.2.2.1)))),(Su.loW ((2^(Int.toNat 70))*(Su.valW ((0:Int),x.2.2.2.1)))))) (Su.valW ((Su.hiW ((Su.valW ((Su.hiW ((2^(Int.toNat 70))*(Su.valW ((0:Int),y.2.2.2.1)))),(Su.loW ((2^(Int.toNat 70))*(Su.valW ((0:Int),y.2.2.2.1)))))) / (2^(Int.toNat (Go.IntKind.wrap .i64 (x.2.2.2.2-y.2.2.2.2)))))),(Su.loW ((Su.valW ((Su.hiW ((2^(Int.toNat 70))*(Su.valW ((0:Int),y.2.2.2.1)))),(Su.loW ((2^(Int.toNat 70))*(Su.valW ((0:Int),y.2.2.2.1)))))) / (2^(Int.toNat (Go.IntKind.wrap .i64 (x.2.2.2.2-y.2.2.2.2)))))))))))) (Su.valW ((0:Int),(1:Int))))))) (Go.IntKind.wrap .i64 (x.2.2.2.2-70)) (!(Nat.beq ((Su.valW ((Su.hiW ((2^(Int.toNat 70))*(Su.valW ((0:Int),y.2.2.2.1)))),(Su.loW ((2^(Int.toNat 70))*(Su.valW ((0:Int),y.2.2.2.1)))))) % (2^(Int.toNat (Go.IntKind.wrap .i64 (x.2.2.2.2-y.2.2.2.2))))) 0))):Nat):Int),(Su.flg x.2.2.1 mode (Su.valW ((Su.hiW (Su.subN (Su.valW ((Su.hiW (Su.subN (Su.valW ((Su.hiW ((2^(Int.toNat 70))*(Su.valW ((0:Int),x.2.2.2.1)))),(Su.loW ((2^(Int.toNat 70))*(Su.valW ((0:Int),x.2.2.2.1)))))) (Su.valW ((Su.hiW ((Su.valW ((Su.hiW ((2^(Int.toNat 70))*(Su.valW ((0:Int),y.2.2.2.1)))),(Su.loW ((2^(Int.toNat 70))*(Su.valW ((0:Int),y.2.2.2.1)))))) / (2^(Int.toNat (Go.IntKind.wrap .i64 (x.2.2.2.2-y.2.2.2.2)))))),(Su.loW ((Su.valW ((Su.hiW ((2^(Int.toNat 70))*(Su.valW ((0:Int),y.2.2.2.1)))),(Su.loW ((2^(Int.toNat 70))*(Su.valW ((0:Int),y.2.2.2.1)))))) / (2^(Int.toNat (Go.IntKind.wrap .i64 (x.2.2.2.2-y.2.2.2.2)))))))))),(Su.loW (Su.subN (Su.valW ((Su.hiW ((2^(Int.toNat 70))*(Su.valW ((0:Int),x.2.2.2.1)))),(Su.loW ((2^(Int.toNat 70))*(Su.valW ((0:Int),x.2.2.2.1)))))) (Su.valW ((Su.hiW ((Su.valW ((Su.hiW ((2^(Int.toNat 70))*(Su.valW ((0:Int),y.2.2.2.1)))),(Su.loW ((2^(Int.toNat 70))*(Su.valW ((0:Int),y.2.2.2.1)))))) / (2^(Int.toNat (Go.IntKind.wrap .i64 (x.2.2.2.2-y.2.2.2.2)))))),(Su.loW ((Su.valW ((Su.hiW ((2^(Int.toNat 70))*(Su.valW ((0:Int),y.2.2.2.1)))),(Su.loW ((2^(Int.toNat 70))*(Su.valW ((0:Int),y.2.2.2.1)))))) / (2^(Int.toNat (Go.IntKind.wrap .i64 (x.2.2.2.2-y.2.2.2.2)))))))))))) (Su.valW ((0:Int),(1:Int))))),(Su.loW (Su.subN (Su.valW ((Su.hiW (Su.subN (Su.valW ((Su.hiW ((2^(Int.toNat 70))*(Su.valW ((0:Int),x.2.2.2.1)))),(Su.loW ((2^(Int.toNat 70))*(Su.valW ((0:Int),x.2.2.2.1)))))) (Su.valW ((Su.hiW ((Su.valW ((Su.hiW ((2^(Int.toNat 70))*(Su.valW ((0:Int),y.2.2.2.1)))),(Su.loW ((2^(Int.toNat 70))*(Su.valW ((0:Int),y.2.2.2.1)))))) / (2^(Int.toNat (Go.IntKind.wrap .i64 (x.2.2.2.2-y.2.2.2.2)))))),(Su.loW ((Su.valW ((Su.hiW ((2^(Int.toNat 70))*(Su.valW ((0:Int),y.2.2.2.1)))),(Su.loW ((2^(Int.toNat 70))*(Su.valW ((0:Int),y.2.2.2.1)))))) / (2^(Int.toNat (Go.IntKind.wrap .i64 (x.2.2.2.2-y.2.2.2.2)))))))))),(Su.loW (Su.subN (Su.valW ((Su.hiW ((2^(Int.toNat 70))*(Su.valW ((0:Int),x.2.2.2.1)))),(Su.loW ((2^(Int.toNat 70))*(Su.valW ((0:Int),x.2.2.2.1)))))) (Su.valW ((Su.hiW ((Su.valW ((Su.hiW ((2^(Int.toNat 70))*(Su.valW ((0:Int),y.2.2.2.1)))),(Su.loW ((2^(Int.toNat 70))*(Su.valW ((0:Int),y.2.2.2.1)))))) / (2^(Int.toNat (Go.IntKind.wrap .i64 (x.2.2.2.2-y.2.2.2.2)))))),(Su.loW ((Su.valW ((Su.hiW ((2^(Int.toNat 70))*(Su.valW ((0:Int),y.2.2.2.1)))),(Su.loW ((2^(Int.toNat 70))*(Su.valW ((0:Int),y.2.2.2.1)))))) / (2^(Int.toNat (Go.IntKind.wrap .i64 (x.2.2.2.2-y.2.2.2.2)))))))))))) (Su.valW ((0:Int),(1:Int))))))) (Go.IntKind.wrap .i64 (x.2.2.2.2-70)) (!(Nat.beq ((Su.valW ((Su.hiW ((2^(Int.toNat 70))*(Su.valW ((0:Int),y.2.2.2.1)))),(Su.loW ((2^(Int.toNat 70))*(Su.valW ((0:Int),y.2.2.2.1)))))) % (2^(Int.toNat (Go.IntKind.wrap .i64 (x.2.2.2.2-y.2.2.2.2))))) 0))))
 else
  some ((((Su.rnd x.2.2.1 mode (Su.valW ((Su.hiW (Su.subN (Su.valW ((Su.hiW ((2^(Int.toNat 70))*(Su.valW ((0:Int),x.2.2.2.1)))),(Su.loW ((2^(Int.toNat 70))*(Su.valW ((0:Int),x.2.2.2.1)))))) (Su.valW ((Su.hiW ((Su.valW ((Su.hiW ((2^(Int.toNat 70))*(Su.valW ((0:Int),y.2.2.2.1)))),(Su.loW ((2^(Int.toNat 70))*(Su.valW ((0:Int),y.2.2.2.1)))))) / (2^(Int.toNat (Go.IntKind.wrap .i64 (x.2.2.2.2-y.2.2.2.2)))))),(Su.loW ((Su.valW ((Su.hiW ((2^(Int.toNat 70))*(Su.valW ((0:Int),y.2.2.2.1)))),(Su.loW ((2^(Int.toNat 70))*(Su.valW ((0:Int),y.2.2.2.1)))))) / (2^(Int.toNat (Go.IntKind.wrap .i64 (x.2.2.2.2-y.2.2.2.2)))))))))),(Su.loW (Su.subN (Su.valW ((Su.hiW ((2^(Int.toNat 70))*(Su.valW ((0:Int),x.2.2.2.1)))),(Su.loW ((2^(Int.toNat 70))*(Su.valW ((0:Int),x.2.2.2.1)))))) (Su.valW ((Su.hiW ((Su.valW ((Su.hiW ((2^(Int.toNat 70))*(Su.valW ((0:Int),y.2.2.2.1)))),(Su.loW ((2^(Int.toNat 70))*(Su.valW ((0:Int),y.2.2.2.1)))))) / (2^(Int.toNat (Go.IntKind.wrap .i64 (x.2.2.2.2-y.2.2.2.2)))))),(Su.loW ((Su.valW ((Su.hiW ((2^(Int.toNat 70))*(Su.valW ((0:Int),y.2.2.2.1)))),(Su.loW ((2^(Int.toNat 70))*(Su.valW ((0:Int),y.2.2.2.1)))))) / (2^(Int.toNat (Go.IntKind.wrap .i64 (x.2.2.2.2-y.2.2.2.2)))))))))))) (Go.IntKind.wrap .i64 (x.2.2.2.2-70)) (!(Nat.beq ((Su.valW ((Su.hiW ((2^(Int.toNat 70))*(Su.valW ((0:Int),y.2.2.2.1)))),(Su.loW ((2^(Int.toNat 70))*(Su.valW ((0:Int),y.2.2.2.1)))))) % (2^(Int.toNat (Go.IntKind.wrap .i64 (x.2.2.2.2-y.2.2.2.2))))) 0))):Nat):Int),(Su.flg x.2.2.1 mode (Su.valW ((Su.hiW (Su.subN (Su.valW ((Su.hiW ((2^(Int.toNat 70))*(Su.valW ((0:Int),x.2.2.2.1)))),(Su.loW ((2^(Int.toNat 70))*(Su.valW ((0:Int),x.2.2.2.1)))))) (Su.valW ((Su.hiW ((Su.valW ((Su.hiW ((2^(Int.toNat 70))*(Su.valW ((0:Int),y.2.2.2.1)))),(Su.loW ((2^(Int.toNat 70))*(Su.valW ((0:Int),y.2.2.2.1)))))) / (2^(Int.toNat (Go.IntKind.wrap .i64 (x.2.2.2.2-y.2.2.2.2)))))),(Su.loW ((Su.valW ((Su.hiW ((2^(Int.toNat 70))*(Su.valW ((0:Int),y.2.2.2.1)))),(Su.loW ((2^(Int.toNat 70))*(Su.valW ((0:Int),y.2.2.2.1)))))) / (2^(Int.toNat (Go.IntKind.wrap .i64 (x.2.2.2.2-y.2.2.2.2)))))))))),(Su.loW (Su.subN (Su.valW ((Su.hiW ((2^(Int.toNat 70))*(Su.valW ((0:Int),x.2.2.2.1)))),(Su.loW ((2^(Int.toNat 70))*(Su.valW ((0:Int),x.2.2.2.1)))))) (Su.valW ((Su.hiW ((Su.valW ((Su.hiW ((2^(Int.toNat 70))*(Su.valW ((0:Int),y.2.2.2.1)))),(Su.loW ((2^(Int.toNat 70))*(Su.valW ((0:Int),y.2.2.2.1)))))) / (2^(Int.toNat (Go.IntKind.wrap .i64 (x.2.2.2.2-y.2.2.2.2)))))),(Su.loW ((Su.valW ((Su.hiW ((2^(Int.toNat 70))*(Su.valW ((0:Int),y.2.2.2.1)))),(Su.loW ((2^(Int.toNat 70))*(Su.valW ((0:Int),y.2.2.2.1)))))) / (2^(Int.toNat (Go.IntKind.wrap .i64 (x.2.2.2.2-y.2.2.2.2)))))))))))) (Go.IntKind.wrap .i64 (x.2.2.2.2-70)) (!(Nat.beq ((Su.valW ((Su.hiW ((2^(Int.toNat 70))*(Su.valW ((0:Int),y.2.2.2.1)))),(Su.loW ((2^(Int.toNat 70))*(Su.valW ((0:Int),y.2.2.2.1)))))) % (2^(Int.toNat (Go.IntKind.wrap .i64 (x.2.2.2.2-y.2.2.2.2))))) 0)))))))
def addX (nx ny:Bool) (mode:Int) (X Y D:Nat) (ey:Int):Nat:=if nx=ny then RN nx mode (2^D*X+Y) (ey+6000).toNat false else if 2^D*X=Y then sgN (decide (mode=2)) else RN nx mode (2^D*X-Y) (ey+6000).toNat false
theorem sNadd_val {nx ny:Bool} {fx cx fy cy:Int} {X Y D:Nat} {ey mode:Int} (hX1:1≤X) (hX2:X<9007199254740992) (hY2:Y<9007199254740992) (he1 : -1074≤ey) (he2:ey+D≤971) (hn:0<D→4503599627370496≤X) (hle:Y≤2^D*X) :
 ∃ fl,sNadd (fx,(cx,(nx,((X:Int),ey+D)))) (fy,(cy,(ny,((Y:Int),ey)))) mode=some ((addX nx ny mode X Y D ey:Int),fl):=by
 unfold sNadd
 simp only []
 have v0:∀ m:Nat,m<18446744073709551616→valW (0,(m:Int))=m:=fun m hm=>by rw [valW_def];simp only [Int.toNat_zero,Int.toNat_natCast];omega
 have v1:valW (0,1)=1:=v0 1 (by decide)
 have t70:Int.toNat 70=70:=rfl
 have hwd:IntKind.i64.wrap (ey+D-ey)=(D:Int):=by rw [w64 (by omega) (by omega)];omega
 have hwe:IntKind.i64.wrap (ey+D-70)=ey+D-70:=w64 (by omega) (by omega)
 have hD:=Nat.two_pow_pos D
 have bP:2^70*X<170141183460469231731687303715884105728:=by omega
 have bQ0:2^70*Y<170141183460469231731687303715884105728:=by omega
 have bQ:2^70*Y / 2^D<170141183460469231731687303715884105728:=Nat.lt_of_le_of_lt (Nat.div_le_self _ _) bQ0
 have hP:2^70*X % 340282366920938463463374607431768211456=2^70*X:=Nat.mod_eq_of_lt (by omega)
 have hQ0:2^70*Y % 340282366920938463463374607431768211456=2^70*Y:=Nat.mod_eq_of_lt (by omega)
 have hQ:2^70*Y / 2^D % 340282366920938463463374607431768211456=2^70*Y / 2^D:=Nat.mod_eq_of_lt (by omega)
 simp only [v0 X (by omega),v0 Y (by omega),v1,t70,val_mod,hP,hQ0,hQ,hwd,hwe,Int.toNat_natCast]
 unfold addX
 by_cases hs:nx=ny
 · have hsum:(2^70*X+2^70*Y / 2^D) % 340282366920938463463374607431768211456=2^70*X+2^70*Y / 2^D:=Nat.mod_eq_of_lt (by omega)
   rw [decide_eq_true hs,cond_true,if_pos hs]
   rw [hsum,add_same hX1 hX2 hY2 he1 he2]
   exact ⟨_,rfl⟩
 · rw [decide_eq_false hs,cond_false,if_neg hs]
   have hQP:2^70*Y / 2^D≤2^70*X:=by
    have:2^70*Y≤2^70*X*2^D:=by rw [Nat.mul_assoc,Nat.mul_comm X];exact Nat.mul_le_mul_left _ hle
    exact (Nat.div_le_iff_le_mul_add_pred hD).2 (by rw [Nat.mul_comm (2^D)];omega)
   have hsub:subN (2^70*X) (2^70*Y / 2^D) % 340282366920938463463374607431768211456=2^70*X-2^70*Y / 2^D:=by rw [subN_eq];omega
   have hzero:(decide (hiW (subN (2^70*X) (2^70*Y / 2^D))=0)&&(decide (loW (subN (2^70*X) (2^70*Y / 2^D))=0)&&true))=decide (2^70*X=2^70*Y / 2^D):=by
    rw [Bool.and_true,← Bool.decide_and]
    refine decide_eq_decide.2 ?_
    unfold hiW loW
    rw [subN_eq]
    generalize 2^70*X=p at *
    generalize 2^70*Y / 2^D=q at *
    omega
   rw [hzero,hsub]
   by_cases hz:2^D*X=Y
   · -- nothing is left
     have e:2^70*X=2^70*Y / 2^D:=by rw [← hz,Nat.mul_left_comm,Nat.mul_div_cancel_left _ hD]
     rw [decide_eq_true e,cond_true,if_pos hz]
     exact ⟨0,by simp only [Nat.add_zero]⟩
   · obtain ⟨h1,h2,h3⟩:=add_diff (neg:=nx) (mode:=mode) hX2 hY2 he1 he2 hn (by omega)
     have e:2^70*X≠2^70*Y / 2^D:=by omega
     rw [decide_eq_false e,cond_false,if_neg hz]
     by_cases hr:2^70*Y % 2^D=0
     · rw [hr,show (!Nat.beq 0 0)=false from rfl,cond_false,h2 hr]
       exact ⟨_,rfl⟩
     · rw [beq0 hr,Bool.not_false,cond_true]
       obtain ⟨g1,g2⟩:=h3 hr
       have hsub2:subN (2^70*X-2^70*Y / 2^D) 1 % 340282366920938463463374607431768211456=2^70*X-2^70*Y / 2^D-1:=by rw [subN_eq];omega
       rw [hsub2,g2]
       exact ⟨_,rfl⟩
end
end Su
end
