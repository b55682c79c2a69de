/-
  What functions of the program compute, in plain Lean, and that the evaluator finds it.
-/
import Derived.Test.YtldhknmacepeiaaGreatDoorSuXl
import Derived.Test.YtldhknmacepeiaaGreatDoorNX03
import Derived.Test.YtldhknmacepeiaaGreatDoorRly
set_option linter.unusedVariables false
set_option linter.unusedSimpArgs false
set_option maxRecDepth 10000
namespace Su
open Go Fly
noncomputable section
def JC:Stp (ByteArray×Bool×(List (Int×Int×ByteArray×Int×Int))×Int×Int×Unit):=fun p11=>(bif(decide (p11.2.2.2.1<(ByteArray.size p11.1:Int)))then
 (idx p11.2.2.1 p11.2.2.2.2.1).bind fun x12=>
 (bif(decide (p11.2.2.2.1<(IntKind.wrap .i64 (x12.2.1+1))))then
 some (.inl (p11.1,p11.2.1,p11.2.2.1,(IntKind.wrap .i64 (p11.2.2.2.1+1)),p11.2.2.2.2.1,()))
 else
  some (.inr (p11.1,p11.2.1,p11.2.2.1,p11.2.2.2.1,p11.2.2.2.2.1,())))
 else
  some (.inr (p11.1,p11.2.1,p11.2.2.1,p11.2.2.2.1,p11.2.2.2.2.1,())))
def Q5:Stp (ByteArray×Bool×(List (Int×Int×ByteArray×Int×Int))×Int×Int×Unit):=fun p14=>(bif(decide (p14.2.2.2.1<(ByteArray.size p14.1:Int)))then
 (bif(decide (0≤p14.2.2.2.1))then
 ((p14.1)[p14.2.2.2.1.toNat]?).bind fun x15=>
 (bif(decide (48≤(UInt8.toNat x15:Int)))then
 (bif(decide (0≤p14.2.2.2.1))then
 ((p14.1)[p14.2.2.2.1.toNat]?).bind fun x16=>
 (bif(decide ((UInt8.toNat x16:Int)≤57))then
 some (.inl (p14.1,p14.2.1,p14.2.2.1,(IntKind.wrap .i64 (p14.2.2.2.1+1)),p14.2.2.2.2.1,()))
 else
  (bif(decide (0≤p14.2.2.2.1))then
  ((p14.1)[p14.2.2.2.1.toNat]?).bind fun x17=>
  (bif(decide ((UInt8.toNat x17:Int)=46))then
  (bif(decide ((IntKind.wrap .i64 (p14.2.2.2.1+1))<(ByteArray.size p14.1:Int)))then
  (bif(decide (0≤(IntKind.wrap .i64 (p14.2.2.2.1+1))))then
  ((p14.1)[(Int.toNat (IntKind.wrap .i64 (p14.2.2.2.1+1)))]?).bind fun x18=>
  (bif(decide (48≤(UInt8.toNat x18:Int)))then
  (bif(decide (0≤(IntKind.wrap .i64 (p14.2.2.2.1+1))))then
  ((p14.1)[(Int.toNat (IntKind.wrap .i64 (p14.2.2.2.1+1)))]?).bind fun x19=>
  (bif(decide ((UInt8.toNat x19:Int)≤57))then
  some (.inl (p14.1,p14.2.1,p14.2.2.1,(IntKind.wrap .i64 (p14.2.2.2.1+1)),p14.2.2.2.2.1,()))
 else
  (idx p14.2.2.1 p14.2.2.2.2.1).bind fun x20=>
  (bif(decide (x20.1=3))then
  (bif(decide (0≤p14.2.2.2.1))then
  ((p14.1)[p14.2.2.2.1.toNat]?).bind fun x21=>
  (bif(decide ((UInt8.toNat x21:Int)=101))then
  (bif(decide ((List.length p14.2.2.1:Int)≤(IntKind.wrap .i64 (p14.2.2.2.2.1+1))))then
  some (.inl (p14.1,p14.2.1,p14.2.2.1,(IntKind.wrap .i64 (p14.2.2.2.1+1)),p14.2.2.2.2.1,()))
 else
  (idx p14.2.2.1 (IntKind.wrap .i64 (p14.2.2.2.2.1+1))).bind fun x22=>
  (bif(decide (p14.2.2.2.1<x22.2.1))then
  some (.inl (p14.1,p14.2.1,p14.2.2.1,(IntKind.wrap .i64 (p14.2.2.2.1+1)),p14.2.2.2.2.1,()))
 else
  some (.inr (p14.1,p14.2.1,p14.2.2.1,p14.2.2.2.1,p14.2.2.2.2.1,()))))
 else
  (bif(decide (0≤p14.2.2.2.1))then
  ((p14.1)[p14.2.2.2.1.toNat]?).bind fun x23=>
  (bif(decide ((UInt8.toNat x23:Int)=69))then
  (bif(decide ((List.length p14.2.2.1:Int)≤(IntKind.wrap .i64 (p14.2.2.2.2.1+1))))then
  some (.inl (p14.1,p14.2.1,p14.2.2.1,(IntKind.wrap .i64 (p14.2.2.2.1+1)),p14.2.2.2.2.1,()))
 else
  (idx p14.2.2.1 (IntKind.wrap .i64 (p14.2.2.2.2.1+1))).bind fun x24=>
  (bif(decide (p14.2.2.2.1<x24.2.1))then
  some (.inl (p14.1,p14.2.1,p14.2.2.1,(IntKind.wrap .i64 (p14.2.2.2.1+1)),p14.2.2.2.2.1,()))
 else
  some (.inr (p14.1,p14.2.1,p14.2.2.1,p14.2.2.2.1,p14.2.2.2.2.1,()))))
 else
  (bif(decide (0≤p14.2.2.2.1))then
  ((p14.1)[p14.2.2.2.1.toNat]?).bind fun x25=>
  (bif(decide ((UInt8.toNat x25:Int)=43))then
  (bif(decide (0≤(IntKind.wrap .i64 (p14.2.2.2.1-1))))then
  ((p14.1)[(Int.toNat (IntKind.wrap .i64 (p14.2.2.2.1-1)))]?).bind fun x26=>
  (bif(decide ((UInt8.toNat x26:Int)=101))then
  (bif(decide ((List.length p14.2.2.1:Int)≤(IntKind.wrap .i64 (p14.2.2.2.2.1+1))))then
  some (.inl (p14.1,p14.2.1,p14.2.2.1,(IntKind.wrap .i64 (p14.2.2.2.1+1)),p14.2.2.2.2.1,()))
 else
  (idx p14.2.2.1 (IntKind.wrap .i64 (p14.2.2.2.2.1+1))).bind fun x27=>
  (bif(decide (p14.2.2.2.1<x27.2.1))then
  some (.inl (p14.1,p14.2.1,p14.2.2.1,(IntKind.wrap .i64 (p14.2.2.2.1+1)),p14.2.2.2.2.1,()))
 else
  some (.inr (p14.1,p14.2.1,p14.2.2.1,p14.2.2.2.1,p14.2.2.2.2.1,()))))
 else
  (bif(decide (0≤(IntKind.wrap .i64 (p14.2.2.2.1-1))))then
  ((p14.1)[(Int.toNat (IntKind.wrap .i64 (p14.2.2.2.1-1)))]?).bind fun x28=>
  (bif(decide ((UInt8.toNat x28:Int)=69))then
  (bif(decide ((List.length p14.2.2.1:Int)≤(IntKind.wrap .i64 (p14.2.2.2.2.1+1))))then
  some (.inl (p14.1,p14.2.1,p14.2.2.1,(IntKind.wrap .i64 (p14.2.2.2.1+1)),p14.2.2.2.2.1,()))
 else
  (idx p14.2.2.1 (IntKind.wrap .i64 (p14.2.2.2.2.1+1))).bind fun x29=>
  (bif(decide (p14.2.2.2.1<x29.2.1))then
  some (.inl (p14.1,p14.2.1,p14.2.2.1,(IntKind.wrap .i64 (p14.2.2.2.1+1)),p14.2.2.2.2.1,()))
 else
  some (.inr (p14.1,p14.2.1,p14.2.2.1,p14.2.2.2.1,p14.2.2.2.2.1,()))))
 else
  some (.inr (p14.1,p14.2.1,p14.2.2.1,p14.2.2.2.1,p14.2.2.2.2.1,())))
 else none))
 else none)
 else
  (bif(decide (0≤p14.2.2.2.1))then
  ((p14.1)[p14.2.2.2.1.toNat]?).bind fun x30=>
  (bif(decide ((UInt8.toNat x30:Int)=45))then
  (bif(decide (0≤(IntKind.wrap .i64 (p14.2.2.2.1-1))))then
  ((p14.1)[(Int.toNat (IntKind.wrap .i64 (p14.2.2.2.1-1)))]?).bind fun x31=>
  (bif(decide ((UInt8.toNat x31:Int)=101))then
  (bif(decide ((List.length p14.2.2.1:Int)≤(IntKind.wrap .i64 (p14.2.2.2.2.1+1))))then
  some (.inl (p14.1,p14.2.1,p14.2.2.1,(IntKind.wrap .i64 (p14.2.2.2.1+1)),p14.2.2.2.2.1,()))
 else
  (idx p14.2.2.1 (IntKind.wrap .i64 (p14.2.2.2.2.1+1))).bind fun x32=>
  (bif(decide (p14.2.2.2.1<x32.2.1))then
  some (.inl (p14.1,p14.2.1,p14.2.2.1,(IntKind.wrap .i64 (p14.2.2.2.1+1)),p14.2.2.2.2.1,()))
 else
  some (.inr (p14.1,p14.2.1,p14.2.2.1,p14.2.2.2.1,p14.2.2.2.2.1,()))))
 else
  (bif(decide (0≤(IntKind.wrap .i64 (p14.2.2.2.1-1))))then
  ((p14.1)[(Int.toNat (IntKind.wrap .i64 (p14.2.2.2.1-1)))]?).bind fun x33=>
  (bif(decide ((UInt8.toNat x33:Int)=69))then
  (bif(decide ((List.length p14.2.2.1:Int)≤(IntKind.wrap .i64 (p14.2.2.2.2.1+1))))then
  some (.inl (p14.1,p14.2.1,p14.2.2.1,(IntKind.wrap .i64 (p14.2.2.2.1+1)),p14.2.2.2.2.1,()))
 else
  (idx p14.2.2.1 (IntKind.wrap .i64 (p14.2.2.2.2.1+1))).bind fun x34=>
  (bif(decide (p14.2.2.2.1<x34.2.1))then
  some (.inl (p14.1,p14.2.1,p14.2.2.1,(IntKind.wrap .i64 (p14.2.2.2.1+1)),p14.2.2.2.2.1,()))
 else
  some (.inr (p14.1,p14.2.1,p14.2.2.1,p14.2.2.2.1,p14.2.2.2.2.1,()))))
 else
  some (.inr (p14.1,p14.2.1,p14.2.2.1,p14.2.2.2.1,p14.2.2.2.2.1,())))
 else none))
 else none)
 else
  some (.inr (p14.1,p14.2.1,p14.2.2.1,p14.2.2.2.1,p14.2.2.2.2.1,())))
 else none))
 else none))
 else none))
 else none)
 else
  some (.inr (p14.1,p14.2.1,p14.2.2.1,p14.2.2.2.1,p14.2.2.2.2.1,()))))
 else none)
 else
  (idx p14.2.2.1 p14.2.2.2.2.1).bind fun x35=>
  (bif(decide (x35.1=3))then
  (bif(decide (0≤p14.2.2.2.1))then
  ((p14.1)[p14.2.2.2.1.toNat]?).bind fun x36=>
  (bif(decide ((UInt8.toNat x36:Int)=101))then
  (bif(decide ((List.length p14.2.2.1:Int)≤(IntKind.wrap .i64 (p14.2.2.2.2.1+1))))then
  some (.inl (p14.1,p14.2.1,p14.2.2.1,(IntKind.wrap .i64 (p14.2.2.2.1+1)),p14.2.2.2.2.1,()))
 else
  (idx p14.2.2.1 (IntKind.wrap .i64 (p14.2.2.2.2.1+1))).bind fun x37=>
  (bif(decide (p14.2.2.2.1<x37.2.1))then
  some (.inl (p14.1,p14.2.1,p14.2.2.1,(IntKind.wrap .i64 (p14.2.2.2.1+1)),p14.2.2.2.2.1,()))
 else
  some (.inr (p14.1,p14.2.1,p14.2.2.1,p14.2.2.2.1,p14.2.2.2.2.1,()))))
 else
  (bif(decide (0≤p14.2.2.2.1))then
  ((p14.1)[p14.2.2.2.1.toNat]?).bind fun x38=>
  (bif(decide ((UInt8.toNat x38:Int)=69))then
  (bif(decide ((List.length p14.2.2.1:Int)≤(IntKind.wrap .i64 (p14.2.2.2.2.1+1))))then
  some (.inl (p14.1,p14.2.1,p14.2.2.1,(IntKind.wrap .i64 (p14.2.2.2.1+1)),p14.2.2.2.2.1,()))
 else
  (idx p14.2.2.1 (IntKind.wrap .i64 (p14.2.2.2.2.1+1))).bind fun x39=>
  (bif(decide (p14.2.2.2.1<x39.2.1))then
  some (.inl (p14.1,p14.2.1,p14.2.2.1,(IntKind.wrap .i64 (p14.2.2.2.1+1)),p14.2.2.2.2.1,()))
 else
  some (.inr (p14.1,p14.2.1,p14.2.2.1,p14.2.2.2.1,p14.2.2.2.2.1,()))))
 else
  (bif(decide (0≤p14.2.2.2.1))then
  ((p14.1)[p14.2.2.2.1.toNat]?).bind fun x40=>
  (bif(decide ((UInt8.toNat x40:Int)=43))then
  (bif(decide (0≤(IntKind.wrap .i64 (p14.2.2.2.1-1))))then
  ((p14.1)[(Int.toNat (IntKind.wrap .i64 (p14.2.2.2.1-1)))]?).bind fun x41=>
  (bif(decide ((UInt8.toNat x41:Int)=101))then
  (bif(decide ((List.length p14.2.2.1:Int)≤(IntKind.wrap .i64 (p14.2.2.2.2.1+1))))then
  some (.inl (p14.1,p14.2.1,p14.2.2.1,(IntKind.wrap .i64 (p14.2.2.2.1+1)),p14.2.2.2.2.1,()))
 else
  (idx p14.2.2.1 (IntKind.wrap .i64 (p14.2.2.2.2.1+1))).bind fun x42=>
  (bif(decide (p14.2.2.2.1<x42.2.1))then
  some (.inl (p14.1,p14.2.1,p14.2.2.1,(IntKind.wrap .i64 (p14.2.2.2.1+1)),p14.2.2.2.2.1,()))
 else
  some (.inr (p14.1,p14.2.1,p14.2.2.1,p14.2.2.2.1,p14.2.2.2.2.1,()))))
 else
  (bif(decide (0≤(IntKind.wrap .i64 (p14.2.2.2.1-1))))then
  ((p14.1)[(Int.toNat (IntKind.wrap .i64 (p14.2.2.2.1-1)))]?).bind fun x43=>
  (bif(decide ((UInt8.toNat x43:Int)=69))then
  (bif(decide ((List.length p14.2.2.1:Int)≤(IntKind.wrap .i64 (p14.2.2.2.2.1+1))))then
  some (.inl (p14.1,p14.2.1,p14.2.2.1,(IntKind.wrap .i64 (p14.2.2.2.1+1)),p14.2.2.2.2.1,()))
 else
  (idx p14.2.2.1 (IntKind.wrap .i64 (p14.2.2.2.2.1+1))).bind fun x44=>
  (bif(decide (p14.2.2.2.1<x44.2.1))then
  some (.inl (p14.1,p14.2.1,p14.2.2.1,(IntKind.wrap .i64 (p14.2.2.2.1+1)),p14.2.2.2.2.1,()))
 else
  some (.inr (p14.1,p14.2.1,p14.2.2.1,p14.2.2.2.1,p14.2.2.2.2.1,()))))
 else
  some (.inr (p14.1,p14.2.1,p14.2.2.1,p14.2.2.2.1,p14.2.2.2.2.1,())))
 else none))
 else none)
 else
  (bif(decide (0≤p14.2.2.2.1))then
  ((p14.1)[p14.2.2.2.1.toNat]?).bind fun x45=>
  (bif(decide ((UInt8.toNat x45:Int)=45))then
  (bif(decide (0≤(IntKind.wrap .i64 (p14.2.2.2.1-1))))then
  ((p14.1)[(Int.toNat (IntKind.wrap .i64 (p14.2.2.2.1-1)))]?).bind fun x46=>
  (bif(decide ((UInt8.toNat x46:Int)=101))then
  (bif(decide ((List.length p14.2.2.1:Int)≤(IntKind.wrap .i64 (p14.2.2.2.2.1+1))))then
  some (.inl (p14.1,p14.2.1,p14.2.2.1,(IntKind.wrap .i64 (p14.2.2.2.1+1)),p14.2.2.2.2.1,()))
 else
  (idx p14.2.2.1 (IntKind.wrap .i64 (p14.2.2.2.2.1+1))).bind fun x47=>
  (bif(decide (p14.2.2.2.1<x47.2.1))then
  some (.inl (p14.1,p14.2.1,p14.2.2.1,(IntKind.wrap .i64 (p14.2.2.2.1+1)),p14.2.2.2.2.1,()))
 else
  some (.inr (p14.1,p14.2.1,p14.2.2.1,p14.2.2.2.1,p14.2.2.2.2.1,()))))
 else
  (bif(decide (0≤(IntKind.wrap .i64 (p14.2.2.2.1-1))))then
  ((p14.1)[(Int.toNat (IntKind.wrap .i64 (p14.2.2.2.1-1)))]?).bind fun x48=>
  (bif(decide ((UInt8.toNat x48:Int)=69))then
  (bif(decide ((List.length p14.2.2.1:Int)≤(IntKind.wrap .i64 (p14.2.2.2.2.1+1))))then
  some (.inl (p14.1,p14.2.1,p14.2.2.1,(IntKind.wrap .i64 (p14.2.2.2.1+1)),p14.2.2.2.2.1,()))
 else
  (idx p14.2.2.1 (IntKind.wrap .i64 (p14.2.2.2.2.1+1))).bind fun x49=>
  (bif(decide (p14.2.2.2.1<x49.2.1))then
  some (.inl (p14.1,p14.2.1,p14.2.2.1,(IntKind.wrap .i64 (p14.2.2.2.1+1)),p14.2.2.2.2.1,()))
 else
  some (.inr (p14.1,p14.2.1,p14.2.2.1,p14.2.2.2.1,p14.2.2.2.2.1,()))))
 else
  some (.inr (p14.1,p14.2.1,p14.2.2.1,p14.2.2.2.1,p14.2.2.2.2.1,())))
 else none))
 else none)
 else
  some (.inr (p14.1,p14.2.1,p14.2.2.1,p14.2.2.2.1,p14.2.2.2.2.1,())))
 else none))
 else none))
 else none))
 else none)
 else
  some (.inr (p14.1,p14.2.1,p14.2.2.1,p14.2.2.2.1,p14.2.2.2.2.1,()))))
 else none)
 else
  (idx p14.2.2.1 p14.2.2.2.2.1).bind fun x50=>
  (bif(decide (x50.1=3))then
  (bif(decide (0≤p14.2.2.2.1))then
  ((p14.1)[p14.2.2.2.1.toNat]?).bind fun x51=>
  (bif(decide ((UInt8.toNat x51:Int)=101))then
  (bif(decide ((List.length p14.2.2.1:Int)≤(IntKind.wrap .i64 (p14.2.2.2.2.1+1))))then
  some (.inl (p14.1,p14.2.1,p14.2.2.1,(IntKind.wrap .i64 (p14.2.2.2.1+1)),p14.2.2.2.2.1,()))
 else
  (idx p14.2.2.1 (IntKind.wrap .i64 (p14.2.2.2.2.1+1))).bind fun x52=>
  (bif(decide (p14.2.2.2.1<x52.2.1))then
  some (.inl (p14.1,p14.2.1,p14.2.2.1,(IntKind.wrap .i64 (p14.2.2.2.1+1)),p14.2.2.2.2.1,()))
 else
  some (.inr (p14.1,p14.2.1,p14.2.2.1,p14.2.2.2.1,p14.2.2.2.2.1,()))))
 else
  (bif(decide (0≤p14.2.2.2.1))then
  ((p14.1)[p14.2.2.2.1.toNat]?).bind fun x53=>
  (bif(decide ((UInt8.toNat x53:Int)=69))then
  (bif(decide ((List.length p14.2.2.1:Int)≤(IntKind.wrap .i64 (p14.2.2.2.2.1+1))))then
  some (.inl (p14.1,p14.2.1,p14.2.2.1,(IntKind.wrap .i64 (p14.2.2.2.1+1)),p14.2.2.2.2.1,()))
 else
  (idx p14.2.2.1 (IntKind.wrap .i64 (p14.2.2.2.2.1+1))).bind fun x54=>
  (bif(decide (p14.2.2.2.1<x54.2.1))then
  some (.inl (p14.1,p14.2.1,p14.2.2.1,(IntKind.wrap .i64 (p14.2.2.2.1+1)),p14.2.2.2.2.1,()))
 else
  some (.inr (p14.1,p14.2.1,p14.2.2.1,p14.2.2.2.1,p14.2.2.2.2.1,()))))
 else
  (bif(decide (0≤p14.2.2.2.1))then
  ((p14.1)[p14.2.2.2.1.toNat]?).bind fun x55=>
  (bif(decide ((UInt8.toNat x55:Int)=43))then
  (bif(decide (0≤(IntKind.wrap .i64 (p14.2.2.2.1-1))))then
  ((p14.1)[(Int.toNat (IntKind.wrap .i64 (p14.2.2.2.1-1)))]?).bind fun x56=>
  (bif(decide ((UInt8.toNat x56:Int)=101))then
  (bif(decide ((List.length p14.2.2.1:Int)≤(IntKind.wrap .i64 (p14.2.2.2.2.1+1))))then
  some (.inl (p14.1,p14.2.1,p14.2.2.1,(IntKind.wrap .i64 (p14.2.2.2.1+1)),p14.2.2.2.2.1,()))
 else
  (idx p14.2.2.1 (IntKind.wrap .i64 (p14.2.2.2.2.1+1))).bind fun x57=>
  (bif(decide (p14.2.2.2.1<x57.2.1))then
  some (.inl (p14.1,p14.2.1,p14.2.2.1,(IntKind.wrap .i64 (p14.2.2.2.1+1)),p14.2.2.2.2.1,()))
 else
  some (.inr (p14.1,p14.2.1,p14.2.2.1,p14.2.2.2.1,p14.2.2.2.2.1,()))))
 else
  (bif(decide (0≤(IntKind.wrap .i64 (p14.2.2.2.1-1))))then
  ((p14.1)[(Int.toNat (IntKind.wrap .i64 (p14.2.2.2.1-1)))]?).bind fun x58=>
  (bif(decide ((UInt8.toNat x58:Int)=69))then
  (bif(decide ((List.length p14.2.2.1:Int)≤(IntKind.wrap .i64 (p14.2.2.2.2.1+1))))then
  some (.inl (p14.1,p14.2.1,p14.2.2.1,(IntKind.wrap .i64 (p14.2.2.2.1+1)),p14.2.2.2.2.1,()))
 else
  (idx p14.2.2.1 (IntKind.wrap .i64 (p14.2.2.2.2.1+1))).bind fun x59=>
  (bif(decide (p14.2.2.2.1<x59.2.1))then
  some (.inl (p14.1,p14.2.1,p14.2.2.1,(IntKind.wrap .i64 (p14.2.2.2.1+1)),p14.2.2.2.2.1,()))
 else
  some (.inr (p14.1,p14.2.1,p14.2.2.1,p14.2.2.2.1,p14.2.2.2.2.1,()))))
 else
  some (.inr (p14.1,p14.2.1,p14.2.2.1,p14.2.2.2.1,p14.2.2.2.2.1,())))
 else none))
 else none)
 else
  (bif(decide (0≤p14.2.2.2.1))then
  ((p14.1)[p14.2.2.2.1.toNat]?).bind fun x60=>
  (bif(decide ((UInt8.toNat x60:Int)=45))then
  (bif(decide (0≤(IntKind.wrap .i64 (p14.2.2.2.1-1))))then
  ((p14.1)[(Int.toNat (IntKind.wrap .i64 (p14.2.2.2.1-1)))]?).bind fun x61=>
  (bif(decide ((UInt8.toNat x61:Int)=101))then
  (bif(decide ((List.length p14.2.2.1:Int)≤(IntKind.wrap .i64 (p14.2.2.2.2.1+1))))then
  some (.inl (p14.1,p14.2.1,p14.2.2.1,(IntKind.wrap .i64 (p14.2.2.2.1+1)),p14.2.2.2.2.1,()))
 else
  (idx p14.2.2.1 (IntKind.wrap .i64 (p14.2.2.2.2.1+1))).bind fun x62=>
  (bif(decide (p14.2.2.2.1<x62.2.1))then
  some (.inl (p14.1,p14.2.1,p14.2.2.1,(IntKind.wrap .i64 (p14.2.2.2.1+1)),p14.2.2.2.2.1,()))
 else
  some (.inr (p14.1,p14.2.1,p14.2.2.1,p14.2.2.2.1,p14.2.2.2.2.1,()))))
 else
  (bif(decide (0≤(IntKind.wrap .i64 (p14.2.2.2.1-1))))then
  ((p14.1)[(Int.toNat (IntKind.wrap .i64 (p14.2.2.2.1-1)))]?).bind fun x63=>
  (bif(decide ((UInt8.toNat x63:Int)=69))then
  (bif(decide ((List.length p14.2.2.1:Int)≤(IntKind.wrap .i64 (p14.2.2.2.2.1+1))))then
  some (.inl (p14.1,p14.2.1,p14.2.2.1,(IntKind.wrap .i64 (p14.2.2.2.1+1)),p14.2.2.2.2.1,()))
 else
  (idx p14.2.2.1 (IntKind.wrap .i64 (p14.2.2.2.2.1+1))).bind fun x64=>
  (bif(decide (p14.2.2.2.1<x64.2.1))then
  some (.inl (p14.1,p14.2.1,p14.2.2.1,(IntKind.wrap .i64 (p14.2.2.2.1+1)),p14.2.2.2.2.1,()))
 else
  some (.inr (p14.1,p14.2.1,p14.2.2.1,p14.2.2.2.1,p14.2.2.2.2.1,()))))
 else
  some (.inr (p14.1,p14.2.1,p14.2.2.1,p14.2.2.2.1,p14.2.2.2.2.1,())))
 else none))
 else none)
 else
  some (.inr (p14.1,p14.2.1,p14.2.2.1,p14.2.2.2.1,p14.2.2.2.2.1,())))
 else none))
 else none))
 else none))
 else none)
 else
  some (.inr (p14.1,p14.2.1,p14.2.2.1,p14.2.2.2.1,p14.2.2.2.2.1,()))))
 else
  (idx p14.2.2.1 p14.2.2.2.2.1).bind fun x65=>
  (bif(decide (x65.1=3))then
  (bif(decide (0≤p14.2.2.2.1))then
  ((p14.1)[p14.2.2.2.1.toNat]?).bind fun x66=>
  (bif(decide ((UInt8.toNat x66:Int)=101))then
  (bif(decide ((List.length p14.2.2.1:Int)≤(IntKind.wrap .i64 (p14.2.2.2.2.1+1))))then
  some (.inl (p14.1,p14.2.1,p14.2.2.1,(IntKind.wrap .i64 (p14.2.2.2.1+1)),p14.2.2.2.2.1,()))
 else
  (idx p14.2.2.1 (IntKind.wrap .i64 (p14.2.2.2.2.1+1))).bind fun x67=>
  (bif(decide (p14.2.2.2.1<x67.2.1))then
  some (.inl (p14.1,p14.2.1,p14.2.2.1,(IntKind.wrap .i64 (p14.2.2.2.1+1)),p14.2.2.2.2.1,()))
 else
  some (.inr (p14.1,p14.2.1,p14.2.2.1,p14.2.2.2.1,p14.2.2.2.2.1,()))))
 else
  (bif(decide (0≤p14.2.2.2.1))then
  ((p14.1)[p14.2.2.2.1.toNat]?).bind fun x68=>
  (bif(decide ((UInt8.toNat x68:Int)=69))then
  (bif(decide ((List.length p14.2.2.1:Int)≤(IntKind.wrap .i64 (p14.2.2.2.2.1+1))))then
  some (.inl (p14.1,p14.2.1,p14.2.2.1,(IntKind.wrap .i64 (p14.2.2.2.1+1)),p14.2.2.2.2.1,()))
 else
  (idx p14.2.2.1 (IntKind.wrap .i64 (p14.2.2.2.2.1+1))).bind fun x69=>
  (bif(decide (p14.2.2.2.1<x69.2.1))then
  some (.inl (p14.1,p14.2.1,p14.2.2.1,(IntKind.wrap .i64 (p14.2.2.2.1+1)),p14.2.2.2.2.1,()))
 else
  some (.inr (p14.1,p14.2.1,p14.2.2.1,p14.2.2.2.1,p14.2.2.2.2.1,()))))
 else
  (bif(decide (0≤p14.2.2.2.1))then
  ((p14.1)[p14.2.2.2.1.toNat]?).bind fun x70=>
  (bif(decide ((UInt8.toNat x70:Int)=43))then
  (bif(decide (0≤(IntKind.wrap .i64 (p14.2.2.2.1-1))))then
  ((p14.1)[(Int.toNat (IntKind.wrap .i64 (p14.2.2.2.1-1)))]?).bind fun x71=>
  (bif(decide ((UInt8.toNat x71:Int)=101))then
  (bif(decide ((List.length p14.2.2.1:Int)≤(IntKind.wrap .i64 (p14.2.2.2.2.1+1))))then
  some (.inl (p14.1,p14.2.1,p14.2.2.1,(IntKind.wrap .i64 (p14.2.2.2.1+1)),p14.2.2.2.2.1,()))
 else
  (idx p14.2.2.1 (IntKind.wrap .i64 (p14.2.2.2.2.1+1))).bind fun x72=>
  (bif(decide (p14.2.2.2.1<x72.2.1))then
  some (.inl (p14.1,p14.2.1,p14.2.2.1,(IntKind.wrap .i64 (p14.2.2.2.1+1)),p14.2.2.2.2.1,()))
 else
  some (.inr (p14.1,p14.2.1,p14.2.2.1,p14.2.2.2.1,p14.2.2.2.2.1,()))))
 else
  (bif(decide (0≤(IntKind.wrap .i64 (p14.2.2.2.1-1))))then
  ((p14.1)[(Int.toNat (IntKind.wrap .i64 (p14.2.2.2.1-1)))]?).bind fun x73=>
  (bif(decide ((UInt8.toNat x73:Int)=69))then
  (bif(decide ((List.length p14.2.2.1:Int)≤(IntKind.wrap .i64 (p14.2.2.2.2.1+1))))then
  some (.inl (p14.1,p14.2.1,p14.2.2.1,(IntKind.wrap .i64 (p14.2.2.2.1+1)),p14.2.2.2.2.1,()))
 else
  (idx p14.2.2.1 (IntKind.wrap .i64 (p14.2.2.2.2.1+1))).bind fun x74=>
  (bif(decide (p14.2.2.2.1<x74.2.1))then
  some (.inl (p14.1,p14.2.1,p14.2.2.1,(IntKind.wrap .i64 (p14.2.2.2.1+1)),p14.2.2.2.2.1,()))
 else
  some (.inr (p14.1,p14.2.1,p14.2.2.1,p14.2.2.2.1,p14.2.2.2.2.1,()))))
 else
  some (.inr (p14.1,p14.2.1,p14.2.2.1,p14.2.2.2.1,p14.2.2.2.2.1,())))
 else none))
 else none)
 else
  (bif(decide (0≤p14.2.2.2.1))then
  ((p14.1)[p14.2.2.2.1.toNat]?).bind fun x75=>
  (bif(decide ((UInt8.toNat x75:Int)=45))then
  (bif(decide (0≤(IntKind.wrap .i64 (p14.2.2.2.1-1))))then
  ((p14.1)[(Int.toNat (IntKind.wrap .i64 (p14.2.2.2.1-1)))]?).bind fun x76=>
  (bif(decide ((UInt8.toNat x76:Int)=101))then
  (bif(decide ((List.length p14.2.2.1:Int)≤(IntKind.wrap .i64 (p14.2.2.2.2.1+1))))then
  some (.inl (p14.1,p14.2.1,p14.2.2.1,(IntKind.wrap .i64 (p14.2.2.2.1+1)),p14.2.2.2.2.1,()))
 else
  (idx p14.2.2.1 (IntKind.wrap .i64 (p14.2.2.2.2.1+1))).bind fun x77=>
  (bif(decide (p14.2.2.2.1<x77.2.1))then
  some (.inl (p14.1,p14.2.1,p14.2.2.1,(IntKind.wrap .i64 (p14.2.2.2.1+1)),p14.2.2.2.2.1,()))
 else
  some (.inr (p14.1,p14.2.1,p14.2.2.1,p14.2.2.2.1,p14.2.2.2.2.1,()))))
 else
  (bif(decide (0≤(IntKind.wrap .i64 (p14.2.2.2.1-1))))then
  ((p14.1)[(Int.toNat (IntKind.wrap .i64 (p14.2.2.2.1-1)))]?).bind fun x78=>
  (bif(decide ((UInt8.toNat x78:Int)=69))then
  (bif(decide ((List.length p14.2.2.1:Int)≤(IntKind.wrap .i64 (p14.2.2.2.2.1+1))))then
  some (.inl (p14.1,p14.2.1,p14.2.2.1,(IntKind.wrap .i64 (p14.2.2.2.1+1)),p14.2.2.2.2.1,()))
 else
  (idx p14.2.2.1 (IntKind.wrap .i64 (p14.2.2.2.2.1+1))).bind fun x79=>
  (bif(decide (p14.2.2.2.1<x79.2.1))then
  some (.inl (p14.1,p14.2.1,p14.2.2.1,(IntKind.wrap .i64 (p14.2.2.2.1+1)),p14.2.2.2.2.1,()))
 else
  some (.inr (p14.1,p14.2.1,p14.2.2.1,p14.2.2.2.1,p14.2.2.2.2.1,()))))
 else
  some (.inr (p14.1,p14.2.1,p14.2.2.1,p14.2.2.2.1,p14.2.2.2.2.1,())))
 else none))
 else none)
 else
  some (.inr (p14.1,p14.2.1,p14.2.2.1,p14.2.2.2.1,p14.2.2.2.2.1,())))
 else none))
 else none))
 else none))
 else none)
 else
  some (.inr (p14.1,p14.2.1,p14.2.2.1,p14.2.2.2.1,p14.2.2.2.2.1,()))))
 else none))
 else none)
 else
  (bif(decide (0≤p14.2.2.2.1))then
  ((p14.1)[p14.2.2.2.1.toNat]?).bind fun x80=>
  (bif(decide ((UInt8.toNat x80:Int)=46))then
  (bif(decide ((IntKind.wrap .i64 (p14.2.2.2.1+1))<(ByteArray.size p14.1:Int)))then
  (bif(decide (0≤(IntKind.wrap .i64 (p14.2.2.2.1+1))))then
  ((p14.1)[(Int.toNat (IntKind.wrap .i64 (p14.2.2.2.1+1)))]?).bind fun x81=>
  (bif(decide (48≤(UInt8.toNat x81:Int)))then
  (bif(decide (0≤(IntKind.wrap .i64 (p14.2.2.2.1+1))))then
  ((p14.1)[(Int.toNat (IntKind.wrap .i64 (p14.2.2.2.1+1)))]?).bind fun x82=>
  (bif(decide ((UInt8.toNat x82:Int)≤57))then
  some (.inl (p14.1,p14.2.1,p14.2.2.1,(IntKind.wrap .i64 (p14.2.2.2.1+1)),p14.2.2.2.2.1,()))
 else
  (idx p14.2.2.1 p14.2.2.2.2.1).bind fun x83=>
  (bif(decide (x83.1=3))then
  (bif(decide (0≤p14.2.2.2.1))then
  ((p14.1)[p14.2.2.2.1.toNat]?).bind fun x84=>
  (bif(decide ((UInt8.toNat x84:Int)=101))then
  (bif(decide ((List.length p14.2.2.1:Int)≤(IntKind.wrap .i64 (p14.2.2.2.2.1+1))))then
  some (.inl (p14.1,p14.2.1,p14.2.2.1,(IntKind.wrap .i64 (p14.2.2.2.1+1)),p14.2.2.2.2.1,()))
 else
  (idx p14.2.2.1 (IntKind.wrap .i64 (p14.2.2.2.2.1+1))).bind fun x85=>
  (bif(decide (p14.2.2.2.1<x85.2.1))then
  some (.inl (p14.1,p14.2.1,p14.2.2.1,(IntKind.wrap .i64 (p14.2.2.2.1+1)),p14.2.2.2.2.1,()))
 else
  some (.inr (p14.1,p14.2.1,p14.2.2.1,p14.2.2.2.1,p14.2.2.2.2.1,()))))
 else
  (bif(decide (0≤p14.2.2.2.1))then
  ((p14.1)[p14.2.2.2.1.toNat]?).bind fun x86=>
  (bif(decide ((UInt8.toNat x86:Int)=69))then
  (bif(decide ((List.length p14.2.2.1:Int)≤(IntKind.wrap .i64 (p14.2.2.2.2.1+1))))then
  some (.inl (p14.1,p14.2.1,p14.2.2.1,(IntKind.wrap .i64 (p14.2.2.2.1+1)),p14.2.2.2.2.1,()))
 else
  (idx p14.2.2.1 (IntKind.wrap .i64 (p14.2.2.2.2.1+1))).bind fun x87=>
  (bif(decide (p14.2.2.2.1<x87.2.1))then
  some (.inl (p14.1,p14.2.1,p14.2.2.1,(IntKind.wrap .i64 (p14.2.2.2.1+1)),p14.2.2.2.2.1,()))
 else
  some (.inr (p14.1,p14.2.1,p14.2.2.1,p14.2.2.2.1,p14.2.2.2.2.1,()))))
 else
  (bif(decide (0≤p14.2.2.2.1))then
  ((p14.1)[p14.2.2.2.1.toNat]?).bind fun x88=>
  (bif(decide ((UInt8.toNat x88:Int)=43))then
  (bif(decide (0≤(IntKind.wrap .i64 (p14.2.2.2.1-1))))then
  ((p14.1)[(Int.toNat (IntKind.wrap .i64 (p14.2.2.2.1-1)))]?).bind fun x89=>
  (bif(decide ((UInt8.toNat x89:Int)=101))then
  (bif(decide ((List.length p14.2.2.1:Int)≤(IntKind.wrap .i64 (p14.2.2.2.2.1+1))))then
  some (.inl (p14.1,p14.2.1,p14.2.2.1,(IntKind.wrap .i64 (p14.2.2.2.1+1)),p14.2.2.2.2.1,()))
 else
  (idx p14.2.2.1 (IntKind.wrap .i64 (p14.2.2.2.2.1+1))).bind fun x90=>
  (bif(decide (p14.2.2.2.1<x90.2.1))then
  some (.inl (p14.1,p14.2.1,p14.2.2.1,(IntKind.wrap .i64 (p14.2.2.2.1+1)),p14.2.2.2.2.1,()))
 else
  some (.inr (p14.1,p14.2.1,p14.2.2.1,p14.2.2.2.1,p14.2.2.2.2.1,()))))
 else
  (bif(decide (0≤(IntKind.wrap .i64 (p14.2.2.2.1-1))))then
  ((p14.1)[(Int.toNat (IntKind.wrap .i64 (p14.2.2.2.1-1)))]?).bind fun x91=>
  (bif(decide ((UInt8.toNat x91:Int)=69))then
  (bif(decide ((List.length p14.2.2.1:Int)≤(IntKind.wrap .i64 (p14.2.2.2.2.1+1))))then
  some (.inl (p14.1,p14.2.1,p14.2.2.1,(IntKind.wrap .i64 (p14.2.2.2.1+1)),p14.2.2.2.2.1,()))
 else
  (idx p14.2.2.1 (IntKind.wrap .i64 (p14.2.2.2.2.1+1))).bind fun x92=>
  (bif(decide (p14.2.2.2.1<x92.2.1))then
  some (.inl (p14.1,p14.2.1,p14.2.2.1,(IntKind.wrap .i64 (p14.2.2.2.1+1)),p14.2.2.2.2.1,()))
 else
  some (.inr (p14.1,p14.2.1,p14.2.2.1,p14.2.2.2.1,p14.2.2.2.2.1,()))))
 else
  some (.inr (p14.1,p14.2.1,p14.2.2.1,p14.2.2.2.1,p14.2.2.2.2.1,())))
 else none))
 else none)
 else
  (bif(decide (0≤p14.2.2.2.1))then
  ((p14.1)[p14.2.2.2.1.toNat]?).bind fun x93=>
  (bif(decide ((UInt8.toNat x93:Int)=45))then
  (bif(decide (0≤(IntKind.wrap .i64 (p14.2.2.2.1-1))))then
  ((p14.1)[(Int.toNat (IntKind.wrap .i64 (p14.2.2.2.1-1)))]?).bind fun x94=>
  (bif(decide ((UInt8.toNat x94:Int)=101))then
  (bif(decide ((List.length p14.2.2.1:Int)≤(IntKind.wrap .i64 (p14.2.2.2.2.1+1))))then
  some (.inl (p14.1,p14.2.1,p14.2.2.1,(IntKind.wrap .i64 (p14.2.2.2.1+1)),p14.2.2.2.2.1,()))
 else
  (idx p14.2.2.1 (IntKind.wrap .i64 (p14.2.2.2.2.1+1))).bind fun x95=>
  (bif(decide (p14.2.2.2.1<x95.2.1))then
  some (.inl (p14.1,p14.2.1,p14.2.2.1,(IntKind.wrap .i64 (p14.2.2.2.1+1)),p14.2.2.2.2.1,()))
 else
  some (.inr (p14.1,p14.2.1,p14.2.2.1,p14.2.2.2.1,p14.2.2.2.2.1,()))))
 else
  (bif(decide (0≤(IntKind.wrap .i64 (p14.2.2.2.1-1))))then
  ((p14.1)[(Int.toNat (IntKind.wrap .i64 (p14.2.2.2.1-1)))]?).bind fun x96=>
  (bif(decide ((UInt8.toNat x96:Int)=69))then
  (bif(decide ((List.length p14.2.2.1:Int)≤(IntKind.wrap .i64 (p14.2.2.2.2.1+1))))then
  some (.inl (p14.1,p14.2.1,p14.2.2.1,(IntKind.wrap .i64 (p14.2.2.2.1+1)),p14.2.2.2.2.1,()))
 else
  (idx p14.2.2.1 (IntKind.wrap .i64 (p14.2.2.2.2.1+1))).bind fun x97=>
  (bif(decide (p14.2.2.2.1<x97.2.1))then
  some (.inl (p14.1,p14.2.1,p14.2.2.1,(IntKind.wrap .i64 (p14.2.2.2.1+1)),p14.2.2.2.2.1,()))
 else
  some (.inr (p14.1,p14.2.1,p14.2.2.1,p14.2.2.2.1,p14.2.2.2.2.1,()))))
 else
  some (.inr (p14.1,p14.2.1,p14.2.2.1,p14.2.2.2.1,p14.2.2.2.2.1,())))
 else none))
 else none)
 else
  some (.inr (p14.1,p14.2.1,p14.2.2.1,p14.2.2.2.1,p14.2.2.2.2.1,())))
 else none))
 else none))
 else none))
 else none)
 else
  some (.inr (p14.1,p14.2.1,p14.2.2.1,p14.2.2.2.1,p14.2.2.2.2.1,()))))
 else none)
 else
  (idx p14.2.2.1 p14.2.2.2.2.1).bind fun x98=>
  (bif(decide (x98.1=3))then
  (bif(decide (0≤p14.2.2.2.1))then
  ((p14.1)[p14.2.2.2.1.toNat]?).bind fun x99=>
  (bif(decide ((UInt8.toNat x99:Int)=101))then
  (bif(decide ((List.length p14.2.2.1:Int)≤(IntKind.wrap .i64 (p14.2.2.2.2.1+1))))then
  some (.inl (p14.1,p14.2.1,p14.2.2.1,(IntKind.wrap .i64 (p14.2.2.2.1+1)),p14.2.2.2.2.1,()))
 else
  (idx p14.2.2.1 (IntKind.wrap .i64 (p14.2.2.2.2.1+1))).bind fun x100=>
  (bif(decide (p14.2.2.2.1<x100.2.1))then
  some (.inl (p14.1,p14.2.1,p14.2.2.1,(IntKind.wrap .i64 (p14.2.2.2.1+1)),p14.2.2.2.2.1,()))
 else
  some (.inr (p14.1,p14.2.1,p14.2.2.1,p14.2.2.2.1,p14.2.2.2.2.1,()))))
 else
  (bif(decide (0≤p14.2.2.2.1))then
  ((p14.1)[p14.2.2.2.1.toNat]?).bind fun x101=>
  (bif(decide ((UInt8.toNat x101:Int)=69))then
  (bif(decide ((List.length p14.2.2.1:Int)≤(IntKind.wrap .i64 (p14.2.2.2.2.1+1))))then
  some (.inl (p14.1,p14.2.1,p14.2.2.1,(IntKind.wrap .i64 (p14.2.2.2.1+1)),p14.2.2.2.2.1,()))
 else
  (idx p14.2.2.1 (IntKind.wrap .i64 (p14.2.2.2.2.1+1))).bind fun x102=>
  (bif(decide (p14.2.2.2.1<x102.2.1))then
  some (.inl (p14.1,p14.2.1,p14.2.2.1,(IntKind.wrap .i64 (p14.2.2.2.1+1)),p14.2.2.2.2.1,()))
 else
  some (.inr (p14.1,p14.2.1,p14.2.2.1,p14.2.2.2.1,p14.2.2.2.2.1,()))))
 else
  (bif(decide (0≤p14.2.2.2.1))then
  ((p14.1)[p14.2.2.2.1.toNat]?).bind fun x103=>
  (bif(decide ((UInt8.toNat x103:Int)=43))then
  (bif(decide (0≤(IntKind.wrap .i64 (p14.2.2.2.1-1))))then
  ((p14.1)[(Int.toNat (IntKind.wrap .i64 (p14.2.2.2.1-1)))]?).bind fun x104=>
  (bif(decide ((UInt8.toNat x104:Int)=101))then
  (bif(decide ((List.length p14.2.2.1:Int)≤(IntKind.wrap .i64 (p14.2.2.2.2.1+1))))then
  some (.inl (p14.1,p14.2.1,p14.2.2.1,(IntKind.wrap .i64 (p14.2.2.2.1+1)),p14.2.2.2.2.1,()))
 else
  (idx p14.2.2.1 (IntKind.wrap .i64 (p14.2.2.2.2.1+1))).bind fun x105=>
  (bif(decide (p14.2.2.2.1<x105.2.1))then
  some (.inl (p14.1,p14.2.1,p14.2.2.1,(IntKind.wrap .i64 (p14.2.2.2.1+1)),p14.2.2.2.2.1,()))
 else
  some (.inr (p14.1,p14.2.1,p14.2.2.1,p14.2.2.2.1,p14.2.2.2.2.1,()))))
 else
  (bif(decide (0≤(IntKind.wrap .i64 (p14.2.2.2.1-1))))then
  ((p14.1)[(Int.toNat (IntKind.wrap .i64 (p14.2.2.2.1-1)))]?).bind fun x106=>
  (bif(decide ((UInt8.toNat x106:Int)=69))then
  (bif(decide ((List.length p14.2.2.1:Int)≤(IntKind.wrap .i64 (p14.2.2.2.2.1+1))))then
  some (.inl (p14.1,p14.2.1,p14.2.2.1,(IntKind.wrap .i64 (p14.2.2.2.1+1)),p14.2.2.2.2.1,()))
 else
  (idx p14.2.2.1 (IntKind.wrap .i64 (p14.2.2.2.2.1+1))).bind fun x107=>
  (bif(decide (p14.2.2.2.1<x107.2.1))then
  some (.inl (p14.1,p14.2.1,p14.2.2.1,(IntKind.wrap .i64 (p14.2.2.2.1+1)),p14.2.2.2.2.1,()))
 else
  some (.inr (p14.1,p14.2.1,p14.2.2.1,p14.2.2.2.1,p14.2.2.2.2.1,()))))
 else
  some (.inr (p14.1,p14.2.1,p14.2.2.1,p14.2.2.2.1,p14.2.2.2.2.1,())))
 else none))
 else none)
 else
  (bif(decide (0≤p14.2.2.2.1))then
  ((p14.1)[p14.2.2.2.1.toNat]?).bind fun x108=>
  (bif(decide ((UInt8.toNat x108:Int)=45))then
  (bif(decide (0≤(IntKind.wrap .i64 (p14.2.2.2.1-1))))then
  ((p14.1)[(Int.toNat (IntKind.wrap .i64 (p14.2.2.2.1-1)))]?).bind fun x109=>
  (bif(decide ((UInt8.toNat x109:Int)=101))then
  (bif(decide ((List.length p14.2.2.1:Int)≤(IntKind.wrap .i64 (p14.2.2.2.2.1+1))))then
  some (.inl (p14.1,p14.2.1,p14.2.2.1,(IntKind.wrap .i64 (p14.2.2.2.1+1)),p14.2.2.2.2.1,()))
 else
  (idx p14.2.2.1 (IntKind.wrap .i64 (p14.2.2.2.2.1+1))).bind fun x110=>
  (bif(decide (p14.2.2.2.1<x110.2.1))then
  some (.inl (p14.1,p14.2.1,p14.2.2.1,(IntKind.wrap .i64 (p14.2.2.2.1+1)),p14.2.2.2.2.1,()))
 else
  some (.inr (p14.1,p14.2.1,p14.2.2.1,p14.2.2.2.1,p14.2.2.2.2.1,()))))
 else
  (bif(decide (0≤(IntKind.wrap .i64 (p14.2.2.2.1-1))))then
  ((p14.1)[(Int.toNat (IntKind.wrap .i64 (p14.2.2.2.1-1)))]?).bind fun x111=>
  (bif(decide ((UInt8.toNat x111:Int)=69))then
  (bif(decide ((List.length p14.2.2.1:Int)≤(IntKind.wrap .i64 (p14.2.2.2.2.1+1))))then
  some (.inl (p14.1,p14.2.1,p14.2.2.1,(IntKind.wrap .i64 (p14.2.2.2.1+1)),p14.2.2.2.2.1,()))
 else
  (idx p14.2.2.1 (IntKind.wrap .i64 (p14.2.2.2.2.1+1))).bind fun x112=>
  (bif(decide (p14.2.2.2.1<x112.2.1))then
  some (.inl (p14.1,p14.2.1,p14.2.2.1,(IntKind.wrap .i64 (p14.2.2.2.1+1)),p14.2.2.2.2.1,()))
 else
  some (.inr (p14.1,p14.2.1,p14.2.2.1,p14.2.2.2.1,p14.2.2.2.2.1,()))))
 else
  some (.inr (p14.1,p14.2.1,p14.2.2.1,p14.2.2.2.1,p14.2.2.2.2.1,())))
 else none))
 else none)
 else
  some (.inr (p14.1,p14.2.1,p14.2.2.1,p14.2.2.2.1,p14.2.2.2.2.1,())))
 else none))
 else none))
 else none))
 else none)
 else
  some (.inr (p14.1,p14.2.1,p14.2.2.1,p14.2.2.2.1,p14.2.2.2.2.1,()))))
 else none)
 else
  (idx p14.2.2.1 p14.2.2.2.2.1).bind fun x113=>
  (bif(decide (x113.1=3))then
  (bif(decide (0≤p14.2.2.2.1))then
  ((p14.1)[p14.2.2.2.1.toNat]?).bind fun x114=>
  (bif(decide ((UInt8.toNat x114:Int)=101))then
  (bif(decide ((List.length p14.2.2.1:Int)≤(IntKind.wrap .i64 (p14.2.2.2.2.1+1))))then
  some (.inl (p14.1,p14.2.1,p14.2.2.1,(IntKind.wrap .i64 (p14.2.2.2.1+1)),p14.2.2.2.2.1,()))
 else
  (idx p14.2.2.1 (IntKind.wrap .i64 (p14.2.2.2.2.1+1))).bind fun x115=>
  (bif(decide (p14.2.2.2.1<x115.2.1))then
  some (.inl (p14.1,p14.2.1,p14.2.2.1,(IntKind.wrap .i64 (p14.2.2.2.1+1)),p14.2.2.2.2.1,()))
 else
  some (.inr (p14.1,p14.2.1,p14.2.2.1,p14.2.2.2.1,p14.2.2.2.2.1,()))))
 else
  (bif(decide (0≤p14.2.2.2.1))then
  ((p14.1)[p14.2.2.2.1.toNat]?).bind fun x116=>
  (bif(decide ((UInt8.toNat x116:Int)=69))then
  (bif(decide ((List.length p14.2.2.1:Int)≤(IntKind.wrap .i64 (p14.2.2.2.2.1+1))))then
  some (.inl (p14.1,p14.2.1,p14.2.2.1,(IntKind.wrap .i64 (p14.2.2.2.1+1)),p14.2.2.2.2.1,()))
 else
  (idx p14.2.2.1 (IntKind.wrap .i64 (p14.2.2.2.2.1+1))).bind fun x117=>
  (bif(decide (p14.2.2.2.1<x117.2.1))then
  some (.inl (p14.1,p14.2.1,p14.2.2.1,(IntKind.wrap .i64 (p14.2.2.2.1+1)),p14.2.2.2.2.1,()))
 else
  some (.inr (p14.1,p14.2.1,p14.2.2.1,p14.2.2.2.1,p14.2.2.2.2.1,()))))
 else
  (bif(decide (0≤p14.2.2.2.1))then
  ((p14.1)[p14.2.2.2.1.toNat]?).bind fun x118=>
  (bif(decide ((UInt8.toNat x118:Int)=43))then
  (bif(decide (0≤(IntKind.wrap .i64 (p14.2.2.2.1-1))))then
  ((p14.1)[(Int.toNat (IntKind.wrap .i64 (p14.2.2.2.1-1)))]?).bind fun x119=>
  (bif(decide ((UInt8.toNat x119:Int)=101))then
  (bif(decide ((List.length p14.2.2.1:Int)≤(IntKind.wrap .i64 (p14.2.2.2.2.1+1))))then
  some (.inl (p14.1,p14.2.1,p14.2.2.1,(IntKind.wrap .i64 (p14.2.2.2.1+1)),p14.2.2.2.2.1,()))
 else
  (idx p14.2.2.1 (IntKind.wrap .i64 (p14.2.2.2.2.1+1))).bind fun x120=>
  (bif(decide (p14.2.2.2.1<x120.2.1))then
  some (.inl (p14.1,p14.2.1,p14.2.2.1,(IntKind.wrap .i64 (p14.2.2.2.1+1)),p14.2.2.2.2.1,()))
 else
  some (.inr (p14.1,p14.2.1,p14.2.2.1,p14.2.2.2.1,p14.2.2.2.2.1,()))))
 else
  (bif(decide (0≤(IntKind.wrap .i64 (p14.2.2.2.1-1))))then
  ((p14.1)[(Int.toNat (IntKind.wrap .i64 (p14.2.2.2.1-1)))]?).bind fun x121=>
  (bif(decide ((UInt8.toNat x121:Int)=69))then
  (bif(decide ((List.length p14.2.2.1:Int)≤(IntKind.wrap .i64 (p14.2.2.2.2.1+1))))then
  some (.inl (p14.1,p14.2.1,p14.2.2.1,(IntKind.wrap .i64 (p14.2.2.2.1+1)),p14.2.2.2.2.1,()))
 else
  (idx p14.2.2.1 (IntKind.wrap .i64 (p14.2.2.2.2.1+1))).bind fun x122=>
  (bif(decide (p14.2.2.2.1<x122.2.1))then
  some (.inl (p14.1,p14.2.1,p14.2.2.1,(IntKind.wrap .i64 (p14.2.2.2.1+1)),p14.2.2.2.2.1,()))
 else
  some (.inr (p14.1,p14.2.1,p14.2.2.1,p14.2.2.2.1,p14.2.2.2.2.1,()))))
 else
  some (.inr (p14.1,p14.2.1,p14.2.2.1,p14.2.2.2.1,p14.2.2.2.2.1,())))
 else none))
 else none)
 else
  (bif(decide (0≤p14.2.2.2.1))then
  ((p14.1)[p14.2.2.2.1.toNat]?).bind fun x123=>
  (bif(decide ((UInt8.toNat x123:Int)=45))then
  (bif(decide (0≤(IntKind.wrap .i64 (p14.2.2.2.1-1))))then
  ((p14.1)[(Int.toNat (IntKind.wrap .i64 (p14.2.2.2.1-1)))]?).bind fun x124=>
  (bif(decide ((UInt8.toNat x124:Int)=101))then
  (bif(decide ((List.length p14.2.2.1:Int)≤(IntKind.wrap .i64 (p14.2.2.2.2.1+1))))then
  some (.inl (p14.1,p14.2.1,p14.2.2.1,(IntKind.wrap .i64 (p14.2.2.2.1+1)),p14.2.2.2.2.1,()))
 else
  (idx p14.2.2.1 (IntKind.wrap .i64 (p14.2.2.2.2.1+1))).bind fun x125=>
  (bif(decide (p14.2.2.2.1<x125.2.1))then
  some (.inl (p14.1,p14.2.1,p14.2.2.1,(IntKind.wrap .i64 (p14.2.2.2.1+1)),p14.2.2.2.2.1,()))
 else
  some (.inr (p14.1,p14.2.1,p14.2.2.1,p14.2.2.2.1,p14.2.2.2.2.1,()))))
 else
  (bif(decide (0≤(IntKind.wrap .i64 (p14.2.2.2.1-1))))then
  ((p14.1)[(Int.toNat (IntKind.wrap .i64 (p14.2.2.2.1-1)))]?).bind fun x126=>
  (bif(decide ((UInt8.toNat x126:Int)=69))then
  (bif(decide ((List.length p14.2.2.1:Int)≤(IntKind.wrap .i64 (p14.2.2.2.2.1+1))))then
  some (.inl (p14.1,p14.2.1,p14.2.2.1,(IntKind.wrap .i64 (p14.2.2.2.1+1)),p14.2.2.2.2.1,()))
 else
  (idx p14.2.2.1 (IntKind.wrap .i64 (p14.2.2.2.2.1+1))).bind fun x127=>
  (bif(decide (p14.2.2.2.1<x127.2.1))then
  some (.inl (p14.1,p14.2.1,p14.2.2.1,(IntKind.wrap .i64 (p14.2.2.2.1+1)),p14.2.2.2.2.1,()))
 else
  some (.inr (p14.1,p14.2.1,p14.2.2.1,p14.2.2.2.1,p14.2.2.2.2.1,()))))
 else
  some (.inr (p14.1,p14.2.1,p14.2.2.1,p14.2.2.2.1,p14.2.2.2.2.1,())))
 else none))
 else none)
 else
  some (.inr (p14.1,p14.2.1,p14.2.2.1,p14.2.2.2.1,p14.2.2.2.2.1,())))
 else none))
 else none))
 else none))
 else none)
 else
  some (.inr (p14.1,p14.2.1,p14.2.2.1,p14.2.2.2.1,p14.2.2.2.2.1,()))))
 else
  (idx p14.2.2.1 p14.2.2.2.2.1).bind fun x128=>
  (bif(decide (x128.1=3))then
  (bif(decide (0≤p14.2.2.2.1))then
  ((p14.1)[p14.2.2.2.1.toNat]?).bind fun x129=>
  (bif(decide ((UInt8.toNat x129:Int)=101))then
  (bif(decide ((List.length p14.2.2.1:Int)≤(IntKind.wrap .i64 (p14.2.2.2.2.1+1))))then
  some (.inl (p14.1,p14.2.1,p14.2.2.1,(IntKind.wrap .i64 (p14.2.2.2.1+1)),p14.2.2.2.2.1,()))
 else
  (idx p14.2.2.1 (IntKind.wrap .i64 (p14.2.2.2.2.1+1))).bind fun x130=>
  (bif(decide (p14.2.2.2.1<x130.2.1))then
  some (.inl (p14.1,p14.2.1,p14.2.2.1,(IntKind.wrap .i64 (p14.2.2.2.1+1)),p14.2.2.2.2.1,()))
 else
  some (.inr (p14.1,p14.2.1,p14.2.2.1,p14.2.2.2.1,p14.2.2.2.2.1,()))))
 else
  (bif(decide (0≤p14.2.2.2.1))then
  ((p14.1)[p14.2.2.2.1.toNat]?).bind fun x131=>
  (bif(decide ((UInt8.toNat x131:Int)=69))then
  (bif(decide ((List.length p14.2.2.1:Int)≤(IntKind.wrap .i64 (p14.2.2.2.2.1+1))))then
  some (.inl (p14.1,p14.2.1,p14.2.2.1,(IntKind.wrap .i64 (p14.2.2.2.1+1)),p14.2.2.2.2.1,()))
 else
  (idx p14.2.2.1 (IntKind.wrap .i64 (p14.2.2.2.2.1+1))).bind fun x132=>
  (bif(decide (p14.2.2.2.1<x132.2.1))then
  some (.inl (p14.1,p14.2.1,p14.2.2.1,(IntKind.wrap .i64 (p14.2.2.2.1+1)),p14.2.2.2.2.1,()))
 else
  some (.inr (p14.1,p14.2.1,p14.2.2.1,p14.2.2.2.1,p14.2.2.2.2.1,()))))
 else
  (bif(decide (0≤p14.2.2.2.1))then
  ((p14.1)[p14.2.2.2.1.toNat]?).bind fun x133=>
  (bif(decide ((UInt8.toNat x133:Int)=43))then
  (bif(decide (0≤(IntKind.wrap .i64 (p14.2.2.2.1-1))))then
  ((p14.1)[(Int.toNat (IntKind.wrap .i64 (p14.2.2.2.1-1)))]?).bind fun x134=>
  (bif(decide ((UInt8.toNat x134:Int)=101))then
  (bif(decide ((List.length p14.2.2.1:Int)≤(IntKind.wrap .i64 (p14.2.2.2.2.1+1))))then
  some (.inl (p14.1,p14.2.1,p14.2.2.1,(IntKind.wrap .i64 (p14.2.2.2.1+1)),p14.2.2.2.2.1,()))
 else
  (idx p14.2.2.1 (IntKind.wrap .i64 (p14.2.2.2.2.1+1))).bind fun x135=>
  (bif(decide (p14.2.2.2.1<x135.2.1))then
  some (.inl (p14.1,p14.2.1,p14.2.2.1,(IntKind.wrap .i64 (p14.2.2.2.1+1)),p14.2.2.2.2.1,()))
 else
  some (.inr (p14.1,p14.2.1,p14.2.2.1,p14.2.2.2.1,p14.2.2.2.2.1,()))))
 else
  (bif(decide (0≤(IntKind.wrap .i64 (p14.2.2.2.1-1))))then
  ((p14.1)[(Int.toNat (IntKind.wrap .i64 (p14.2.2.2.1-1)))]?).bind fun x136=>
  (bif(decide ((UInt8.toNat x136:Int)=69))then
  (bif(decide ((List.length p14.2.2.1:Int)≤(IntKind.wrap .i64 (p14.2.2.2.2.1+1))))then
  some (.inl (p14.1,p14.2.1,p14.2.2.1,(IntKind.wrap .i64 (p14.2.2.2.1+1)),p14.2.2.2.2.1,()))
 else
  (idx p14.2.2.1 (IntKind.wrap .i64 (p14.2.2.2.2.1+1))).bind fun x137=>
  (bif(decide (p14.2.2.2.1<x137.2.1))then
  some (.inl (p14.1,p14.2.1,p14.2.2.1,(IntKind.wrap .i64 (p14.2.2.2.1+1)),p14.2.2.2.2.1,()))
 else
  some (.inr (p14.1,p14.2.1,p14.2.2.1,p14.2.2.2.1,p14.2.2.2.2.1,()))))
 else
  some (.inr (p14.1,p14.2.1,p14.2.2.1,p14.2.2.2.1,p14.2.2.2.2.1,())))
 else none))
 else none)
 else
  (bif(decide (0≤p14.2.2.2.1))then
  ((p14.1)[p14.2.2.2.1.toNat]?).bind fun x138=>
  (bif(decide ((UInt8.toNat x138:Int)=45))then
  (bif(decide (0≤(IntKind.wrap .i64 (p14.2.2.2.1-1))))then
  ((p14.1)[(Int.toNat (IntKind.wrap .i64 (p14.2.2.2.1-1)))]?).bind fun x139=>
  (bif(decide ((UInt8.toNat x139:Int)=101))then
  (bif(decide ((List.length p14.2.2.1:Int)≤(IntKind.wrap .i64 (p14.2.2.2.2.1+1))))then
  some (.inl (p14.1,p14.2.1,p14.2.2.1,(IntKind.wrap .i64 (p14.2.2.2.1+1)),p14.2.2.2.2.1,()))
 else
  (idx p14.2.2.1 (IntKind.wrap .i64 (p14.2.2.2.2.1+1))).bind fun x140=>
  (bif(decide (p14.2.2.2.1<x140.2.1))then
  some (.inl (p14.1,p14.2.1,p14.2.2.1,(IntKind.wrap .i64 (p14.2.2.2.1+1)),p14.2.2.2.2.1,()))
 else
  some (.inr (p14.1,p14.2.1,p14.2.2.1,p14.2.2.2.1,p14.2.2.2.2.1,()))))
 else
  (bif(decide (0≤(IntKind.wrap .i64 (p14.2.2.2.1-1))))then
  ((p14.1)[(Int.toNat (IntKind.wrap .i64 (p14.2.2.2.1-1)))]?).bind fun x141=>
  (bif(decide ((UInt8.toNat x141:Int)=69))then
  (bif(decide ((List.length p14.2.2.1:Int)≤(IntKind.wrap .i64 (p14.2.2.2.2.1+1))))then
  some (.inl (p14.1,p14.2.1,p14.2.2.1,(IntKind.wrap .i64 (p14.2.2.2.1+1)),p14.2.2.2.2.1,()))
 else
  (idx p14.2.2.1 (IntKind.wrap .i64 (p14.2.2.2.2.1+1))).bind fun x142=>
  (bif(decide (p14.2.2.2.1<x142.2.1))then
  some (.inl (p14.1,p14.2.1,p14.2.2.1,(IntKind.wrap .i64 (p14.2.2.2.1+1)),p14.2.2.2.2.1,()))
 else
  some (.inr (p14.1,p14.2.1,p14.2.2.1,p14.2.2.2.1,p14.2.2.2.2.1,()))))
 else
  some (.inr (p14.1,p14.2.1,p14.2.2.1,p14.2.2.2.1,p14.2.2.2.2.1,())))
 else none))
 else none)
 else
  some (.inr (p14.1,p14.2.1,p14.2.2.1,p14.2.2.2.1,p14.2.2.2.2.1,())))
 else none))
 else none))
 else none))
 else none)
 else
  some (.inr (p14.1,p14.2.1,p14.2.2.1,p14.2.2.2.1,p14.2.2.2.2.1,()))))
 else none))
 else none)
 else
  some (.inr (p14.1,p14.2.1,p14.2.2.1,p14.2.2.2.1,p14.2.2.2.2.1,())))
abbrev qbH:=(ByteArray×Bool×(List (Int×Int×ByteArray×Int×Int))×Int×Int×Unit)
def QJ(fu:Nat):qbH→Option (qbH ⊕ (Lp qbH Bool)):=fun p2=>(bif(decide (p2.2.2.2.2.1<(List.length p2.2.2.1:Int)))then
 (idx p2.2.2.1 p2.2.2.2.2.1).bind fun x3=>
 (bif(decide (x3.2.1<p2.2.2.2.1))then
 some (.inr (.ret false))
 else
  (idx p2.2.2.1 p2.2.2.2.2.1).bind fun x4=>
  (bif(decide ((ByteArray.size p2.1:Int)<x4.2.1))then
  some (.inr (.ret false))
 else
  (idx p2.2.2.1 p2.2.2.2.2.1).bind fun x5=>
  (bif(!(decide ((decide (x5.1=0))=(decide (p2.2.2.2.2.1=(IntKind.wrap .i64 ((List.length p2.2.2.1:Int)-1)))))))then
  some (.inr (.ret false))
 else
  (idx p2.2.2.1 p2.2.2.2.2.1).bind fun x6=>
  (bif(((decide (0≤p2.2.2.2.1))&&(decide (p2.2.2.2.1≤x6.2.1)))&&(decide (x6.2.1≤(ByteArray.size p2.1:Int))))then
  (qac (ByteArray.extract p2.1 p2.2.2.2.1.toNat x6.2.1.toNat)).bind fun x7=>
  (bif(!(decide (x7.2.1=0)))then
  some (.inr (.ret false))
 else
  (bif(!(decide ((List.length x7.1:Int)=1)))then
  some (.inr (.ret false))
 else
  (idx p2.2.2.1 p2.2.2.2.2.1).bind fun x8=>
  (idx p2.2.2.1 p2.2.2.2.2.1).bind fun x9=>
  (idx p2.2.2.1 p2.2.2.2.2.1).bind fun x10=>
  (bif(decide (x10.1=2))then
  (itP fu (JC) (p2.1,p2.2.1,p2.2.2.1,(IntKind.wrap .i64 (x8.2.1+(ByteArray.size x9.2.2.1:Int))),p2.2.2.2.2.1,())).bind fun x13=>
  (itP fu (Q5) (x13.1,x13.2.1,x13.2.2.1,x13.2.2.2.1,x13.2.2.2.2.1,())).bind fun x143=>
  some (.inl (x143.1,x143.2.1,x143.2.2.1,x143.2.2.2.1,(IntKind.wrap .i64 (x143.2.2.2.2.1+1)),()))
 else
  (idx p2.2.2.1 p2.2.2.2.2.1).bind fun x144=>
  (bif(decide (x144.1=3))then
  (itP fu (JC) (p2.1,p2.2.1,p2.2.2.1,(IntKind.wrap .i64 (x8.2.1+(ByteArray.size x9.2.2.1:Int))),p2.2.2.2.2.1,())).bind fun x147=>
  (itP fu (Q5) (x147.1,x147.2.1,x147.2.2.1,x147.2.2.2.1,x147.2.2.2.2.1,())).bind fun x277=>
  some (.inl (x277.1,x277.2.1,x277.2.2.1,x277.2.2.2.1,(IntKind.wrap .i64 (x277.2.2.2.2.1+1)),()))
 else
  (idx p2.2.2.1 p2.2.2.2.2.1).bind fun x278=>
  (bif(!(decide (x278.1=0)))then
  (idx p2.2.2.1 p2.2.2.2.2.1).bind fun x279=>
  (bif(((decide (0≤x279.2.1))&&(decide (x279.2.1≤(IntKind.wrap .i64 (x8.2.1+(ByteArray.size x9.2.2.1:Int))))))&&(decide ((IntKind.wrap .i64 (x8.2.1+(ByteArray.size x9.2.2.1:Int)))≤(ByteArray.size p2.1:Int))))then
  (idx p2.2.2.1 p2.2.2.2.2.1).bind fun x280=>
  (bif(!(decide ((ByteArray.extract p2.1 x279.2.1.toNat (Int.toNat (IntKind.wrap .i64 (x8.2.1+(ByteArray.size x9.2.2.1:Int)))))=x280.2.2.1)))then
  some (.inr (.ret false))
 else
  some (.inl (p2.1,p2.2.1,p2.2.2.1,(IntKind.wrap .i64 (x8.2.1+(ByteArray.size x9.2.2.1:Int))),(IntKind.wrap .i64 (p2.2.2.2.2.1+1)),())))
 else none)
 else
  some (.inl (p2.1,p2.2.1,p2.2.2.1,(IntKind.wrap .i64 (x8.2.1+(ByteArray.size x9.2.2.1:Int))),(IntKind.wrap .i64 (p2.2.2.2.2.1+1)),())))))))
 else none))))
 else
  some (.inr (.exit 0 (p2.1,p2.2.1,p2.2.2.1,p2.2.2.2.1,p2.2.2.2.2.1,()))))
def qti  (fu:Nat)(s:ByteArray):Option Bool :=
 (bif(decide (1024<(ByteArray.size s:Int)))then
 some true
 else
  (qac s).bind fun x0=>
  (bif(!(decide (x0.2.1=0)))then
  (bif((true&&(decide (0≤(min (max x0.2.2 0) (ByteArray.size s:Int)))))&&(decide ((min (max x0.2.2 0) (ByteArray.size s:Int))≤(ByteArray.size s:Int))))then
  (qac (ByteArray.extract s 0 (Int.toNat (min (max x0.2.2 0) (ByteArray.size s:Int))))).bind fun x1=>
  (bif(decide ((List.length x0.1:Int)=0))then
  (bif(decide (0≤x0.2.2))then
  (bif(decide (x0.2.2<(ByteArray.size s:Int)))then
  some (decide (x1.2.1=0))
 else
  some false)
 else
  some false)
 else
  some false)
 else none)
 else
  (itP fu (QJ fu) (s,true,x0.1,(0:Int),(0:Int),())).bind fun x281=>
  (match x281 with
 | .exit i282 p283=>(bif(Nat.beq i282 0)then
  (bif p283.2.1 then
  (bif(decide (0<(List.length p283.2.2.1:Int)))then
  (idx p283.2.2.1 (IntKind.wrap .i64 ((List.length p283.2.2.1:Int)-1))).bind fun x284=>
  some (decide (x284.2.1=(ByteArray.size p283.1:Int)))
 else
  some false)
 else
  some false)
 else none)
 | .ret o285=>some o285)))
noncomputable section
abbrev PlS:=ByteArray×(Bool×(List Tk)×Int×Int×Unit)
abbrev plS(S:List UInt8)(fx:Bool)(a:List Tk)(e j:Nat):PlS:=(bs S,fx,a,(e:Int),(j:Int),())
set_option maxHeartbeats 4000000 in
theorem qk2{S:List UInt8}(hS:S.length≤1024){fx:Bool}{a:List Tk}{e j nx:Nat}{tk tn:Tk}{fl:Bool}(h1:idx a (j:Int)=some tk)(h2:idx a ((j+1:Nat):Int)=some tn)(hla:j+1<a.length)(hlb:a.length≤100000)
 (hk:tk.1=bif fl then 3 else 2) (hn:tn.2.1=(nx:Int)) (he0:1≤e) (he:e≤S.length) :
 Q5 (plS S fx a e j)=bif Qy S fl nx e then some (.inl (plS S fx a (e+1) j))else some (.inr (plS S fx a e j)):=by
 have w1:IntKind.i64.wrap ((e:Int)+1)=((e+1:Nat):Int):=by rw[w64 (by omega) (by omega)];omega
 have w2:IntKind.i64.wrap ((j:Int)+1)=((j+1:Nat):Int):=by rw[w64 (by omega) (by omega)];omega
 have w3:IntKind.i64.wrap ((e:Int)-1)=((e-1:Nat):Int):=by rw[w64 (by omega) (by omega)];omega
 by_cases hl:e<S.length
 · obtain⟨c,hc⟩:∃c,S[e]?=some c:=⟨_,zq hl⟩
   obtain⟨q,hq⟩:∃q,S[e-1]?=some q:=⟨_,zq (by omega)⟩
   have un:∀n:Nat,n<256→∀c:UInt8,c.toNat=n→c=UInt8.ofNat n:=fun n hn c hc=>by rw[← hc,zu]
   unfold Q5;simp only[qe,zd,qq,w1,w2,w3];cases hd:isD c with
   | true=>
    obtain⟨d1,d2⟩:=jT.1 hd;rw[qaX hc hd,zg]
    repeat' first
     | refine(bdT (by assumption) _ _).trans ?_
     | refine(bdF (by assumption) _ _).trans ?_
     | refine(bdT (by omega) _ _).trans ?_
     | refine(bdF (by omega) _ _).trans ?_
     | refine obs (by assumption) ?_
     | fail
    rfl
   | false=>
    have hd' : ¬(48≤c.toNat∧c.toNat≤57):=fun h=>by rw[jT.2 h]at hd;cases hd
    by_cases c46:c.toNat=46
    · have ec:c=46:=un 46 (by decide) c c46
      have e46:Qy S fl nx e=yy S (e+1):=by
       unfold Qy;rw[hc,ec];simp;intro h;cases h
      rw[e46];by_cases hl2:e+1<S.length
      · obtain⟨d,hcd⟩:∃d,S[e+1]?=some d:=⟨_,zq hl2⟩
        have ed:yy S (e+1)=isD d:=by unfold yy;rw[hcd];rfl
        rw[ed];cases hdd:isD d with
        | true=>
         obtain⟨d1,d2⟩:=jT.1 hdd;rw[zg]
         repeat' first
          | refine(bdT (by assumption) _ _).trans ?_
          | refine(bdF (by assumption) _ _).trans ?_
          | refine(bdT (by omega) _ _).trans ?_
          | refine(bdF (by omega) _ _).trans ?_
          | refine obs (by assumption) ?_
          | fail
         rfl
        | false=>
         have hdd' : ¬(48≤d.toNat∧d.toNat≤57):=fun h=>by rw[jT.2 h]at hdd;cases hdd
         rw[zm];by_cases d48:48≤d.toNat
         · cases fl with
           | true=>
            have hk3:tk.1=3:=hk
            repeat' first
             | refine(bdT (by assumption) _ _).trans ?_
             | refine(bdF (by assumption) _ _).trans ?_
             | refine(bdT (by omega) _ _).trans ?_
             | refine(bdF (by omega) _ _).trans ?_
             | refine obs (by assumption) ?_
             | fail
            rfl
           | false=>
            have hk3 : ¬tk.1=3:=by rw[hk];decide
            repeat' first
             | refine(bdT (by assumption) _ _).trans ?_
             | refine(bdF (by assumption) _ _).trans ?_
             | refine(bdT (by omega) _ _).trans ?_
             | refine(bdF (by omega) _ _).trans ?_
             | refine obs (by assumption) ?_
             | fail
            rfl
         · cases fl with
           | true=>
            have hk3:tk.1=3:=hk
            repeat' first
             | refine(bdT (by assumption) _ _).trans ?_
             | refine(bdF (by assumption) _ _).trans ?_
             | refine(bdT (by omega) _ _).trans ?_
             | refine(bdF (by omega) _ _).trans ?_
             | refine obs (by assumption) ?_
             | fail
            rfl
           | false=>
            have hk3 : ¬tk.1=3:=by rw[hk];decide
            repeat' first
             | refine(bdT (by assumption) _ _).trans ?_
             | refine(bdF (by assumption) _ _).trans ?_
             | refine(bdT (by omega) _ _).trans ?_
             | refine(bdF (by omega) _ _).trans ?_
             | refine obs (by assumption) ?_
             | fail
            rfl
      · have ed:yy S (e+1)=false:=by unfold yy;rw[zQ (by omega)];rfl
        rw[ed,zm];cases fl with
        | true=>
         have hk3:tk.1=3:=hk
         repeat' first
          | refine(bdT (by assumption) _ _).trans ?_
          | refine(bdF (by assumption) _ _).trans ?_
          | refine(bdT (by omega) _ _).trans ?_
          | refine(bdF (by omega) _ _).trans ?_
          | refine obs (by assumption) ?_
          | fail
         rfl
        | false=>
         have hk3 : ¬tk.1=3:=by rw[hk];decide
         repeat' first
          | refine(bdT (by assumption) _ _).trans ?_
          | refine(bdF (by assumption) _ _).trans ?_
          | refine(bdT (by omega) _ _).trans ?_
          | refine(bdF (by omega) _ _).trans ?_
          | refine obs (by assumption) ?_
          | fail
         rfl
    · have n46:(c == 46)=false:=by simpa using fun h:c=46=>c46 (by rw[h];rfl)
      have est:Qy S fl nx e=(fl&&(decide (e<nx)&&((c == 101||c == 69)||((c == 43||c == 45)&&(decide (q=101)||decide (q=69)))))):=by
       unfold Qy;rw[hc,hq];show(isD c||((c == 46&&yy S (e+1))||_))=_
       rw[hd,n46];simp
      rw[est];cases fl with
      | false=>
       have hk3 : ¬tk.1=3:=by rw[hk];decide
       rw[Vj,zm];by_cases d48:48≤c.toNat
       · repeat' first
          | refine(bdT (by assumption) _ _).trans ?_
          | refine(bdF (by assumption) _ _).trans ?_
          | refine(bdT (by omega) _ _).trans ?_
          | refine(bdF (by omega) _ _).trans ?_
          | refine obs (by assumption) ?_
          | fail
         rfl
       · repeat' first
          | refine(bdT (by assumption) _ _).trans ?_
          | refine(bdF (by assumption) _ _).trans ?_
          | refine(bdT (by omega) _ _).trans ?_
          | refine(bdF (by omega) _ _).trans ?_
          | refine obs (by assumption) ?_
          | fail
         rfl
      | true=>
       have hk3:tk.1=3:=hk
       rw[zZ];by_cases c101:c.toNat=101
       · have iv:((c == 101||c == 69)||((c == 43||c == 45)&&(decide (q=101)||decide (q=69))))=true:=by rw[un 101 (by decide) c c101];rfl
         by_cases hlt:e<nx
         · rw[za hlt,zZ,iv,zg]
           repeat' first
            | refine(bdT (by assumption) _ _).trans ?_
            | refine(bdF (by assumption) _ _).trans ?_
            | refine(bdT (by omega) _ _).trans ?_
            | refine(bdF (by omega) _ _).trans ?_
            | refine obs (by assumption) ?_
            | fail
           rfl
         · rw[zk hlt,Vj,zm]
           repeat' first
            | refine(bdT (by assumption) _ _).trans ?_
            | refine(bdF (by assumption) _ _).trans ?_
            | refine(bdT (by omega) _ _).trans ?_
            | refine(bdF (by omega) _ _).trans ?_
            | refine obs (by assumption) ?_
            | fail
           rfl
       by_cases c69:c.toNat=69
       · have iv:((c == 101||c == 69)||((c == 43||c == 45)&&(decide (q=101)||decide (q=69))))=true:=by rw[un 69 (by decide) c c69];rfl
         by_cases hlt:e<nx
         · rw[za hlt,zZ,iv,zg]
           repeat' first
            | refine(bdT (by assumption) _ _).trans ?_
            | refine(bdF (by assumption) _ _).trans ?_
            | refine(bdT (by omega) _ _).trans ?_
            | refine(bdF (by omega) _ _).trans ?_
            | refine obs (by assumption) ?_
            | fail
           rfl
         · rw[zk hlt,Vj,zm]
           repeat' first
            | refine(bdT (by assumption) _ _).trans ?_
            | refine(bdF (by assumption) _ _).trans ?_
            | refine(bdT (by omega) _ _).trans ?_
            | refine(bdF (by omega) _ _).trans ?_
            | refine obs (by assumption) ?_
            | fail
           rfl
       by_cases c43:c.toNat=43
       · by_cases q101:q.toNat=101
         · have iv:((c == 101||c == 69)||((c == 43||c == 45)&&(decide (q=101)||decide (q=69))))=true:=by rw[un 43 (by decide) c c43,un 101 (by decide) q q101];rfl
           by_cases hlt:e<nx
           · rw[za hlt,zZ,iv,zg]
             repeat' first
              | refine(bdT (by assumption) _ _).trans ?_
              | refine(bdF (by assumption) _ _).trans ?_
              | refine(bdT (by omega) _ _).trans ?_
              | refine(bdF (by omega) _ _).trans ?_
              | refine obs (by assumption) ?_
              | fail
             rfl
           · rw[zk hlt,Vj,zm]
             repeat' first
              | refine(bdT (by assumption) _ _).trans ?_
              | refine(bdF (by assumption) _ _).trans ?_
              | refine(bdT (by omega) _ _).trans ?_
              | refine(bdF (by omega) _ _).trans ?_
              | refine obs (by assumption) ?_
              | fail
             rfl
         · by_cases q69:q.toNat=69
           · have iv:((c == 101||c == 69)||((c == 43||c == 45)&&(decide (q=101)||decide (q=69))))=true:=by rw[un 43 (by decide) c c43,un 69 (by decide) q q69];rfl
             by_cases hlt:e<nx
             · rw[za hlt,zZ,iv,zg]
               repeat' first
                | refine(bdT (by assumption) _ _).trans ?_
                | refine(bdF (by assumption) _ _).trans ?_
                | refine(bdT (by omega) _ _).trans ?_
                | refine(bdF (by omega) _ _).trans ?_
                | refine obs (by assumption) ?_
                | fail
               rfl
             · rw[zk hlt,Vj,zm]
               repeat' first
                | refine(bdT (by assumption) _ _).trans ?_
                | refine(bdF (by assumption) _ _).trans ?_
                | refine(bdT (by omega) _ _).trans ?_
                | refine(bdF (by omega) _ _).trans ?_
                | refine obs (by assumption) ?_
                | fail
               rfl
           · have iv:((c == 101||c == 69)||((c == 43||c == 45)&&(decide (q=101)||decide (q=69))))=false:=by
              rw[zk (fun h:q=101=>q101 (by rw[h];rfl)),zk (fun h:q=69=>q69 (by rw[h];rfl)),un 43 (by decide) c c43];rfl
             rw[iv,Bool.and_false,zm]
             repeat' first
              | refine(bdT (by assumption) _ _).trans ?_
              | refine(bdF (by assumption) _ _).trans ?_
              | refine(bdT (by omega) _ _).trans ?_
              | refine(bdF (by omega) _ _).trans ?_
              | refine obs (by assumption) ?_
              | fail
             rfl
       by_cases c45:c.toNat=45
       · by_cases q101:q.toNat=101
         · have iv:((c == 101||c == 69)||((c == 43||c == 45)&&(decide (q=101)||decide (q=69))))=true:=by rw[un 45 (by decide) c c45,un 101 (by decide) q q101];rfl
           by_cases hlt:e<nx
           · rw[za hlt,zZ,iv,zg]
             repeat' first
              | refine(bdT (by assumption) _ _).trans ?_
              | refine(bdF (by assumption) _ _).trans ?_
              | refine(bdT (by omega) _ _).trans ?_
              | refine(bdF (by omega) _ _).trans ?_
              | refine obs (by assumption) ?_
              | fail
             rfl
           · rw[zk hlt,Vj,zm]
             repeat' first
              | refine(bdT (by assumption) _ _).trans ?_
              | refine(bdF (by assumption) _ _).trans ?_
              | refine(bdT (by omega) _ _).trans ?_
              | refine(bdF (by omega) _ _).trans ?_
              | refine obs (by assumption) ?_
              | fail
             rfl
         · by_cases q69:q.toNat=69
           · have iv:((c == 101||c == 69)||((c == 43||c == 45)&&(decide (q=101)||decide (q=69))))=true:=by rw[un 45 (by decide) c c45,un 69 (by decide) q q69];rfl
             by_cases hlt:e<nx
             · rw[za hlt,zZ,iv,zg]
               repeat' first
                | refine(bdT (by assumption) _ _).trans ?_
                | refine(bdF (by assumption) _ _).trans ?_
                | refine(bdT (by omega) _ _).trans ?_
                | refine(bdF (by omega) _ _).trans ?_
                | refine obs (by assumption) ?_
                | fail
               rfl
             · rw[zk hlt,Vj,zm]
               repeat' first
                | refine(bdT (by assumption) _ _).trans ?_
                | refine(bdF (by assumption) _ _).trans ?_
                | refine(bdT (by omega) _ _).trans ?_
                | refine(bdF (by omega) _ _).trans ?_
                | refine obs (by assumption) ?_
                | fail
               rfl
           · have iv:((c == 101||c == 69)||((c == 43||c == 45)&&(decide (q=101)||decide (q=69))))=false:=by
              rw[zk (fun h:q=101=>q101 (by rw[h];rfl)),zk (fun h:q=69=>q69 (by rw[h];rfl)),un 45 (by decide) c c45];rfl
             rw[iv,Bool.and_false,zm]
             repeat' first
              | refine(bdT (by assumption) _ _).trans ?_
              | refine(bdF (by assumption) _ _).trans ?_
              | refine(bdT (by omega) _ _).trans ?_
              | refine(bdF (by omega) _ _).trans ?_
              | refine obs (by assumption) ?_
              | fail
             rfl
       have iv:((c == 101||c == 69)||((c == 43||c == 45)&&(decide (q=101)||decide (q=69))))=false:=by
        rw[show(c == 101)=false by simpa using fun h:c=101=>c101 (by rw[h];rfl),show(c == 69)=false by simpa using fun h:c=69=>c69 (by rw[h];rfl),show(c == 43)=false by simpa using fun h:c=43=>c43 (by rw[h];rfl),show(c == 45)=false by simpa using fun h:c=45=>c45 (by rw[h];rfl)];rfl
       rw[iv,Bool.and_false,zm];by_cases d48:48≤c.toNat
       · repeat' first
          | refine(bdT (by assumption) _ _).trans ?_
          | refine(bdF (by assumption) _ _).trans ?_
          | refine(bdT (by omega) _ _).trans ?_
          | refine(bdF (by omega) _ _).trans ?_
          | refine obs (by assumption) ?_
          | fail
         rfl
       · repeat' first
          | refine(bdT (by assumption) _ _).trans ?_
          | refine(bdF (by assumption) _ _).trans ?_
          | refine(bdT (by omega) _ _).trans ?_
          | refine(bdF (by omega) _ _).trans ?_
          | refine obs (by assumption) ?_
          | fail
         rfl
 · have es:Qy S fl nx e=false:=by
    unfold Qy;rw[zQ (by omega)]
   rw[es,zm];unfold Q5;simp only[qe];rw[bdF (by omega)]
theorem qww{S:List UInt8}(hS:S.length≤1024){fx:Bool}{a:List Tk}{i j:Nat}{tk:Tk}(h1:idx a (j:Int)=some tk)(hp:tk.2.1=(i:Int))(hi:i<S.length):yS 2 JC (plS S fx a i j) (plS S fx a (i+1) j):=by
 have w1:IntKind.i64.wrap ((i:Int)+1)=((i+1:Nat):Int):=by rw[w64 (by omega) (by omega)];omega
 refine yS.next (K:=1) (s':=plS S fx a (i+1) j) ?_ (yS.stop (K:=0) ?_)
 · unfold JC
   simp only[qe];rw[bdT (by omega)];refine obs h1 ?_
   rw[hp,w1,bdT (by omega)]
 · unfold JC
   simp only[qe];by_cases hl:i+1<S.length
   · rw[bdT (by omega)]
     refine obs h1 ?_
     rw[hp,w1,bdF (by omega)]
   · rw[bdF (by omega)]
theorem qpy{S:List UInt8}(hS:S.length≤1024){fx:Bool}{a:List Tk}{j nx N:Nat}{tk tn:Tk}{fl:Bool}(h1:idx a (j:Int)=some tk)(h2:idx a ((j+1:Nat):Int)=some tn)(hla:j+1<a.length)(hlb:a.length≤100000)
 (hk:tk.1=bif fl then 3 else 2) (hn:tn.2.1=(nx:Int)) (hN:N≤S.length) (hs:Qy S fl nx N=false):∀(d e:Nat),e+d=N→1≤e→(∀x,e≤x→x<N→Qy S fl nx x=true)→yS (d+1) Q5 (plS S fx a e j) (plS S fx a N j)
 | 0,e,h,he,_=>by
  have:e=N:=by omega
  subst this;refine yS.stop ?_
  rw[qk2 hS h1 h2 hla hlb hk hn he hN,hs];rfl
 | d+1,e,h,he,hst=>by
  refine yS.next ?_ (qpy hS h1 h2 hla hlb hk hn hN hs d (e+1) (by omega) (by omega) fun x h3 h4=>hst x (by omega) h4)
  rw[qk2 hS h1 h2 hla hlb hk hn he (by omega),hst e (zE e) (by omega)];rfl
theorem qgA{S:List UInt8}(hS:S.length≤1024){a:List Tk}{e j i:Nat}{kd n1 f1:Int}{tx:List UInt8}{fu:Nat}(h1:idx a (j:Int)=some (kd,(i:Int),bs tx,n1,f1))(hla:j<a.length)(hlb:a.length≤100000)(he:e≤S.length)(hi:i=skE S e)
 (hq:(kd=0∧j+1=a.length)∨(¬kd=0∧j+1<a.length)):∃K:Option (PlS ⊕ (Lp PlS Bool)),QJ fu (plS S true a e j)=K ∧
 K=(bif(decide (kd=2))then((itP fu (JC) (bs S,true,a,(IntKind.i64.wrap ((i:Int)+((tx.length:Nat):Int))),(j:Int),())).bind fun x13=>(itP fu (Q5) x13).bind fun x143=>some (.inl (x143.1,x143.2.1,x143.2.2.1,x143.2.2.2.1,(IntKind.i64.wrap (x143.2.2.2.2.1+1)),())))else
  (bif(decide (kd=3))then((itP fu (JC) (bs S,true,a,(IntKind.i64.wrap ((i:Int)+((tx.length:Nat):Int))),(j:Int),())).bind fun x13=>(itP fu (Q5) x13).bind fun x143=>some (.inl (x143.1,x143.2.1,x143.2.2.1,x143.2.2.2.1,(IntKind.i64.wrap (x143.2.2.2.2.1+1)),())))else
    (bif !(decide (kd=0))then(bif(((decide ((0:Int)≤(i:Int)))&&(decide ((i:Int)≤(IntKind.i64.wrap ((i:Int)+((tx.length:Nat):Int))))))&&(decide ((IntKind.i64.wrap ((i:Int)+((tx.length:Nat):Int)))≤((S.length:Nat):Int))))then
      (bif !(decide ((bs S).extract i (Int.toNat (IntKind.i64.wrap ((i:Int)+((tx.length:Nat):Int))))=bs tx))then some (.inr (.ret false))else some (.inl (bs S,true,a,(IntKind.i64.wrap ((i:Int)+((tx.length:Nat):Int))),((j+1:Nat):Int),())))else none)
     else some (.inl (bs S,true,a,(IntKind.i64.wrap ((i:Int)+((tx.length:Nat):Int))),((j+1:Nat):Int),()))))):=by
 refine⟨_,rfl,?_⟩
 obtain⟨g1,g2⟩:=qcb he;rw[← hi]at g1 g2;have w2:IntKind.i64.wrap ((j:Int)+1)=((j+1:Nat):Int):=by rw[w64 (by omega) (by omega)];omega
 have w4:IntKind.i64.wrap (((a.length:Nat):Int)-1)=((a.length-1:Nat):Int):=by rw[w64 (by omega) (by omega)];omega
 have hx:(bs S).extract e i=bs ((S.drop e).take (skE S e-e)):=by rw[jY,hi]
 obtain⟨q1,q2⟩:=qwu (S:=S) (e:=e) (by omega) he
 have hlx:=qgx (bs ((S.drop e).take (skE S e-e)))
 rw[qD]at hlx;have hend:(decide (kd=0))=(decide ((j:Int)=((a.length-1:Nat):Int))):=by
  rcases hq with⟨h,h'⟩ | ⟨h,h'⟩
  · rw[za h,za (by omega)]
  · rw[zk h,zk (by omega)]
 unfold QJ;simp only[qe,w2,w4];rw[bdT (by omega)];refine obs h1 ?_
 simp only[];rw[bdF (by omega)];refine obs h1 ?_
 simp only[];rw[bdF (by omega)];refine obs h1 ?_
 simp only[];rw[bdN,bdT hend];refine obs h1 ?_
 simp only[zd];rw[za (show(0:Int)≤(e:Int) by omega),za (show(e:Int)≤(i:Int) by omega),za (show(i:Int)≤((S.length:Nat):Int) by omega)];simp only[zZ,zg];rw[hx];refine obs hlx ?_
 rw[bdN,bdT q1,bdN,bdT (by rw[q2];rfl)];refine obs h1 (obs h1 (obs h1 ?_))
 simp only[qe];cases decide (kd=2)with
 | true=>rfl
 | false=>
  rw[zm,zm];refine obs h1 ?_
  simp only[];cases decide (kd=3)with
  | true=>rfl
  | false=>
   rw[zm,zm];refine obs h1 ?_
   simp only[];cases(!(decide (kd=0)))with
   | false=>rfl
   | true=>
    rw[zg,zg];refine obs h1 ?_
    simp only[zd];cases((decide ((0:Int)≤(i:Int))&&decide ((i:Int)≤IntKind.i64.wrap ((i:Int)+((tx.length:Nat):Int))))&&decide (IntKind.i64.wrap ((i:Int)+((tx.length:Nat):Int))≤((S.length:Nat):Int)))with
    | false=>rfl
    | true=>
     rw[zg,zg];exact obs h1 rfl
theorem qwx{S:List UInt8}(hS:S.length≤1024){a:List Tk}{e j i k:Nat}{kd n1 f1:Int}{tx:List UInt8}{fu:Nat}(h1:idx a (j:Int)=some (kd,(i:Int),bs tx,n1,f1))(hla:j+1<a.length)(hlb:a.length≤100000)(he:e≤S.length)(hi:i=skE S e)
 (k0 : ¬kd=0) (k2 : ¬kd=2) (k3 : ¬kd=3) (ik:i<k) (hk:k≤S.length) (ht:tx=(S.drop i).take (k-i)):QJ fu (plS S true a e j)=some (.inl (plS S true a k (j+1))):=by
 obtain⟨K,e1,e2⟩:=qgA (fu:=fu) hS h1 (by omega) hlb he hi (.inr ⟨k0,hla⟩)
 have hl:tx.length=k-i:=by rw[ht,zB,zP];omega
 have w:IntKind.i64.wrap ((i:Int)+((tx.length:Nat):Int))=(k:Int):=by rw[w64 (by omega) (by omega)];omega
 rw[e1,e2,bdF k2,bdF k3,bdN,bdF k0,w,zd];rw[za (show(0:Int)≤(i:Int) by omega),za (show(i:Int)≤(k:Int) by omega),za (show(k:Int)≤((S.length:Nat):Int) by omega)];simp only[zZ,zg];rw[bdN,bdT (by rw[jY,ht])]
theorem qwy{S:List UInt8}(hS:S.length≤1024){a:List Tk}{e j:Nat}{n1 f1:Int}{fu:Nat}(h1:idx a (j:Int)=some (0,((S.length:Nat):Int),bs [],n1,f1))(hla:j+1=a.length)(hlb:a.length≤100000)(he:e≤S.length)(hi:S.length=skE S e) :
 QJ fu (plS S true a e j)=some (.inl (plS S true a S.length (j+1))):=by
 obtain⟨K,e1,e2⟩:=qgA (fu:=fu) hS h1 (by omega) hlb he hi (.inl ⟨rfl,hla⟩)
 have w:IntKind.i64.wrap (((S.length:Nat):Int)+((([]:List UInt8).length:Nat):Int))=((S.length:Nat):Int):=by rw[zU,w64 (by omega) (by omega)];omega
 rw[e1,e2,bdF (by decide),bdF (by decide),bdN,bdT rfl,w]
theorem qwz{S:List UInt8}(hS:S.length≤1024){a:List Tk}{e j i:Nat}{kd n1 f1:Int}{tn:Tk}{fu:Nat}(hfu:2000≤fu)(h1:idx a (j:Int)=some (kd,(i:Int),bs [],n1,f1))(h2:idx a ((j+1:Nat):Int)=some tn)(hla:j+1<a.length)(hlb:a.length≤100000)(he:e≤S.length)(hi:i=skE S e)
 (hil:i<S.length) (hiN:i<(jx S i).1) (hkd:kd=bif(jx S i).2 then 3 else 2) (hn:tn.2.1=((skE S (jx S i).1:Nat):Int)) (hp : ¬(S[(jx S i).1]?=some 46∧yy S ((jx S i).1+1)=true)) :
 QJ fu (plS S true a e j)=some (.inl (plS S true a (jx S i).1 (j+1))):=by
 have hNl:=(qjo (S:=S) (i:=i) (by omega)).2
 have hsk:=(qcb hNl).1
 have k0 : ¬kd=0:=by rw[hkd];cases(jx S i).2 <;> decide
 obtain⟨K,e1,e2⟩:=qgA (fu:=fu) hS h1 (by omega) hlb he hi (.inr ⟨k0,hla⟩)
 have w:IntKind.i64.wrap ((i:Int)+((([]:List UInt8).length:Nat):Int))=(i:Int):=by rw[zU,w64 (by omega) (by omega)];omega
 have w2:IntKind.i64.wrap ((j:Int)+1)=((j+1:Nat):Int):=by rw[w64 (by omega) (by omega)];omega
 have r2:=qww hS (fx:=true) h1 rfl hil fu (by omega)
 have r3:=qpy hS (fx:=true) h1 h2 hla hlb hkd hn hNl (qpw hp _) ((jx S i).1-(i+1)) (i+1) (by omega) (by omega) (fun x h3 h4=>qmn hsk x (by omega) h4) fu (by omega)
 have fin:((itP fu JC (plS S true a i j)).bind fun x13=>(itP fu Q5 x13).bind fun x143=>(some (.inl (x143.1,x143.2.1,x143.2.2.1,x143.2.2.2.1,(IntKind.i64.wrap (x143.2.2.2.2.1+1)),())):Option (PlS ⊕ (Lp PlS Bool))))=some (.inl (plS S true a (jx S i).1 (j+1))):=by
  refine obs r2 (obs r3 ?_)
  simp only[w2]
 rw[e1,e2,w];by_cases k2:kd=2
 · rw[bdT k2];exact fin
 · have k3:kd=3:=by
    rw[hkd]at k2 ⊢;cases hb:(jx S i).2 with
    | true=>rfl
    | false=>rw[hb]at k2;exact absurd rfl k2
   rw[bdF k2,bdT k3];exact fin
theorem qcI{a:List Tk}{j:Nat}{t:Tk}(h:a[j]?=some t):idx a (j:Int)=some t:=by
 rw[Q4];exact h
theorem qd5{a:List Tk}{j:Nat}{t:Tk}{r:List Tk}(h:a.drop j=t::r):a[j]?=some t∧a.drop (j+1)=r∧a.length=j+1+r.length:=by
 have h1:(a.drop j)[0]?=a[j]?:=by rw[KO];rfl
 have h2:a.drop (j+1)=(a.drop j).drop 1:=by rw[List.drop_drop]
 have h3:=congrArg List.length h;rw[zP,zt]at h3;refine⟨by rw[← h1,h];rfl,by rw[h2,h];rfl,by omega⟩
theorem qpz{S:List UInt8}(hS:S.length≤1024){a:List Tk}(hlb:a.length≤100000){fu:Nat}(hfu:2000≤fu):∀(f e j:Nat),e≤S.length→S.length<f+skE S e→(yg S f (skE S e)).2.1=0→a.drop j=(yg S f (skE S e)).1 →
 yS (a.length-j+1) (QJ fu) (plS S true a e j) (.exit 0 (plS S true a S.length a.length))∧a[a.length-1]?=some (qpn S)
 | 0,e,j,he,hf,_,_=>by have:=qcb he;omega
 | f+1,e,j,he,hf,h0,hd=>by
  obtain⟨g1,g2⟩:=qcb he;generalize hi:skE S e=i at *
  rw[yg]at h0 hd;by_cases hl:i<S.length
  · rw[zA hl]at h0 hd
    by_cases hok:(jC S i).2.2=0
    · rw[zA hok]at h0 hd
      obtain⟨k,e1,e2,e3⟩:=Y4 hl hok;rw[e1,zd]at h0 hd;by_cases hq:(yg S f (skE S k)).2.1=0
      · rw[zA hq]at hd
        obtain⟨d1,d2,d3⟩:=qd5 hd;obtain⟨s1,s2⟩:=qcb e3;obtain⟨tn,r,hr,hn⟩:=qth s2 (show 0<f by omega) hq
        rw[hr]at d3;have d2':=d2;rw[hr]at d2';obtain⟨d4,_,_⟩:=qd5 d2';rw[zt]at d3;obtain⟨t1,t2⟩:=qe9 hl hok e1;have ih:=qpz hS hlb hfu f k (j+1) e3 (by omega) hq d2
        refine⟨?_,ih.2⟩
        have st:QJ fu (plS S true a e j)=some (.inl (plS S true a k (j+1))):=by
         have d1:=qcI d1;rcases t2 with⟨k0,k2,k3,ht⟩ | ⟨ht,hN,hkd⟩
         · refine qwx hS (kd:=(jC S i).1.1) (n1:=(jC S i).1.2.2.2.1) (f1:=(jC S i).1.2.2.2.2) (tx:=(S.drop i).take (k-i)) ?_ (by omega) hlb he hi.symm k0 k2 k3 e2 e3 rfl
           rw[d1,← t1,← ht]
         · subst hN
           refine qwz hS hfu (kd:=(jC S i).1.1) (n1:=(jC S i).1.2.2.2.1) (f1:=(jC S i).1.2.2.2.2) ?_ (qcI d4) (by omega) hlb he hi.symm hl e2 hkd hn (qpx (show 0<f by omega) hq)
           rw[d1,← t1,← ht]
        have:=yS.next st ih.1
        rwa [show a.length-(j+1)+1+1=a.length-j+1 by omega]at this
      · rw[zx hq]at h0;exact absurd h0 hq
    · rw[zx hok]at h0;exact absurd h0 hok
  · rw[zx hl]at hd
    have hiS:i=S.length:=by omega
    obtain⟨d1,d2,d3⟩:=qd5 hd;rw[zU]at d3;refine⟨?_,by rw[d3,KB,Vo];exact d1⟩
    have st:=qwy (fu:=fu) hS (qcI d1) (by omega) hlb he (by omega)
    have stp:QJ fu (plS S true a S.length (j+1))=some (.inr (.exit 0 (plS S true a S.length a.length))):=by
     rw[show j+1=a.length by omega];unfold QJ;simp only[];rw[bdF (by omega)]
    have:=yS.next st (yS.stop (K:=0) stp)
    rwa [show 0+1+1=a.length-j+1 by omega]at this
theorem qh1{S:List UInt8}:∀(f i:Nat),(yg S f i).1.length≤f+1
 | 0,_=>zE 1
 | f+1,i=>by
  rw[yg];split
  · split
    · split
      · have:=qh1 (S:=S) f (skE S (jC S i).2.1.toNat)
        simp only[zt];omega
      · exact Wc _
    · exact Wc _
  · show 1≤_;omega
def qpA(_:ByteArray):Option Bool:=some true
theorem qtj(s:ByteArray)(y:Bool)(hg:(d1 cS).good s)(h:qpA s=some y):∃n,qti n s=some y:=by
 have:=soi h;subst this
 clear h hg;refine⟨5000,?_⟩
 refine onB (P:=fun s=>qti 5000 s=some true) (fun S=>?_) s
 unfold qti;simp only[qe];by_cases hS:1024<S.length
 · rw[bdT (by omega)]
 · rw[bdF (by omega)]
   have hlx:=qgx (bs S)
   rw[qD]at hlx;refine obs hlx ?_
   by_cases h0:(qab S).2.1=0
   · rw[bdN,bdT h0]
     have e0:skE S 0=sk false S:=by unfold skE;rw[Kh,zD]
     have eS:qab S=yg S (S.length+1) (skE S 0):=by unfold qab;rw[zx (by omega),e0]
     have hlen:=qh1 (S:=S) (S.length+1) (skE S 0)
     rw[eS]at h0 ⊢;generalize hA:(yg S (S.length+1) (skE S 0)).1=A at *
     obtain⟨r1,r2⟩:=qpz (a:=A) (by omega) (by omega) (show 2000≤5000 by omega) (S.length+1) 0 0 (by omega) (by omega) h0 (by rw[Kh,hA])
     refine obs (r1 5000 (by omega)) ?_
     have hpos:0<A.length:=by
      have:=(zp.1 r2).1
      omega
     have w4:IntKind.i64.wrap (((A.length:Nat):Int)-1)=((A.length-1:Nat):Int):=by rw[w64 (by omega) (by omega)];omega
     show(bif(decide ((0:Int)<((A.length:Nat):Int)))then((idx A (IntKind.i64.wrap (((A.length:Nat):Int)-1))).bind fun x284=>some (decide (x284.2.1=(((bs S).size:Nat):Int))))else some false)=some true
     rw[bdT (by omega),w4];refine obs (qcI r2) ?_
     rw[qe];exact congrArg some (za rfl)
   · rw[bdN,bdF h0]
     obtain⟨l1,a,l2,l3,l4⟩:=qpt (S:=S) (by omega) h0
     rw[l1,l2];have em:min (max (a:Int) 0) ((S.length:Nat):Int)=(a:Int):=by omega
     rw[em,za (show(0:Int)≤(a:Int) by omega),za (show(a:Int)≤((S.length:Nat):Int) by omega)];simp only[zZ,zg,zd];have hx:(bs S).extract 0 a=bs (S.take a):=by rw[jY,Kh,KJ]
     rw[hx];have hly:=qgx (bs (S.take a))
     rw[qD]at hly;refine obs hly ?_
     rw[bdT (by rfl),bdT (by omega),za l4]
end
end
end Su
