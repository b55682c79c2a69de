/-
  What functions of the program compute, in plain Lean, and that the evaluator finds it.
-/
import Derived.Test.YtldhknmacepeiaaGreatDoorSuXl
import Derived.Test.YtldhknmacepeiaaGreatDoorNT13
import Derived.Test.YtldhknmacepeiaaGreatDoorRfc
set_option linter.unusedVariables false
set_option linter.unusedSimpArgs false
set_option maxRecDepth 10000
namespace Su
open Go Fly
noncomputable section
def jH:Stp (Int×ByteArray×Int×Unit):=fun p0=>(bif(decide (p0.2.2.1<(ByteArray.size p0.2.1:Int)))then
 (bif(decide (0≤p0.2.2.1))then
 ((p0.2.1)[p0.2.2.1.toNat]?).bind fun x1=>
 (bif(decide (48≤(UInt8.toNat x1:Int)))then
 (bif(decide ((UInt8.toNat x1:Int)≤57))then
 some (.inl (p0.1,p0.2.1,(IntKind.wrap .i64 (p0.2.2.1+1)),()))
 else
  some (.inr (p0.1,p0.2.1,p0.2.2.1,())))
 else
  some (.inr (p0.1,p0.2.1,p0.2.2.1,())))
 else none)
 else
  some (.inr (p0.1,p0.2.1,p0.2.2.1,())))
def jZ:Stp (ByteArray×ByteArray×Int×Bool×Int×Int×ByteArray×Int×Int×ByteArray×Int×Unit):=fun p15=>(bif(decide (p15.2.2.2.2.2.2.2.2.1<p15.2.2.2.2.2.2.2.1))then
 (bif(decide (0≤p15.2.2.2.2.2.2.2.2.1))then
 ((p15.2.2.2.2.2.2.1)[p15.2.2.2.2.2.2.2.2.1.toNat]?).bind fun x16=>
 some (.inl (p15.1,p15.2.1,p15.2.2.1,p15.2.2.2.1,p15.2.2.2.2.1,(min (IntKind.wrap .i64 ((IntKind.wrap .i64 (p15.2.2.2.2.2.1*10))+(IntKind.wrap .i64 (IntKind.wrap .u8 ((UInt8.toNat x16:Int)-48))))) 100000),p15.2.2.2.2.2.2.1,p15.2.2.2.2.2.2.2.1,(IntKind.wrap .i64 (p15.2.2.2.2.2.2.2.2.1+1)),p15.2.2.2.2.2.2.2.2.2.1,p15.2.2.2.2.2.2.2.2.2.2.1,()))
 else none)
 else
  some (.inr (p15.1,p15.2.1,p15.2.2.1,p15.2.2.2.1,p15.2.2.2.2.1,p15.2.2.2.2.2.1,p15.2.2.2.2.2.2.1,p15.2.2.2.2.2.2.2.1,p15.2.2.2.2.2.2.2.2.1,p15.2.2.2.2.2.2.2.2.2.1,p15.2.2.2.2.2.2.2.2.2.2.1,())))
def QJ  (fu:Nat)(s:ByteArray):Option (ByteArray×Int×Bool) :=
 (itP fu (jH) ((0:Int),s,(0:Int),())).bind fun x2=>
 (bif(((decide (0≤x2.1))&&(decide (x2.1≤x2.2.2.1)))&&(decide (x2.2.2.1≤(ByteArray.size x2.2.1:Int))))then
 (bif(decide (x2.2.2.1<(ByteArray.size x2.2.1:Int)))then
 (bif(decide (0≤x2.2.2.1))then
 ((x2.2.1)[x2.2.2.1.toNat]?).bind fun x3=>
 (bif(decide (0≤(jb (UInt8.ofNat (Int.toNat (UInt8.toNat x3:Int))) (lb (ByteArray.mk (List.toArray [46]))))))then
 (bif(decide (0≤(IntKind.wrap .i64 ((IntKind.wrap .i64 (x2.2.2.1+1))-1))))then
 ((x2.2.1)[(Int.toNat (IntKind.wrap .i64 ((IntKind.wrap .i64 (x2.2.2.1+1))-1)))]?).bind fun x4=>
 (bif(!(decide ((UInt8.toNat x4:Int)=0)))then
 (itP fu (jH) ((IntKind.wrap .i64 (x2.2.2.1+1)),x2.2.1,(IntKind.wrap .i64 (x2.2.2.1+1)),())).bind fun x7=>
 (bif(((decide (0≤x7.1))&&(decide (x7.1≤x7.2.2.1)))&&(decide (x7.2.2.1≤(ByteArray.size x7.2.1:Int))))then
 (bif(!(decide ((ByteArray.extract x2.2.1 x2.1.toNat x2.2.2.1.toNat)=(ByteArray.mk (List.toArray [])))))then
 (bif(Nat.ble ((ByteArray.size (ByteArray.extract x2.2.1 x2.1.toNat x2.2.2.1.toNat))+(ByteArray.size (ByteArray.extract x7.2.1 x7.1.toNat x7.2.2.1.toNat))) 549755813888)then
 (bif(decide (x7.2.2.1<(ByteArray.size x7.2.1:Int)))then
 (bif(decide (0≤x7.2.2.1))then
 ((x7.2.1)[x7.2.2.1.toNat]?).bind fun x8=>
 (bif(decide (0≤(jb (UInt8.ofNat (Int.toNat (UInt8.toNat x8:Int))) (lb (ByteArray.mk (List.toArray [101,69]))))))then
 (bif(decide (0≤(IntKind.wrap .i64 ((IntKind.wrap .i64 (x7.2.2.1+1))-1))))then
 ((x7.2.1)[(Int.toNat (IntKind.wrap .i64 ((IntKind.wrap .i64 (x7.2.2.1+1))-1)))]?).bind fun x9=>
 (bif(!(decide ((UInt8.toNat x9:Int)=0)))then
 (bif(decide ((IntKind.wrap .i64 (x7.2.2.1+1))<(ByteArray.size x7.2.1:Int)))then
 (bif(decide (0≤(IntKind.wrap .i64 (x7.2.2.1+1))))then
 ((x7.2.1)[(Int.toNat (IntKind.wrap .i64 (x7.2.2.1+1)))]?).bind fun x10=>
 (bif(decide (0≤(jb (UInt8.ofNat (Int.toNat (UInt8.toNat x10:Int))) (lb (ByteArray.mk (List.toArray [43,45]))))))then
 (bif(decide (0≤(IntKind.wrap .i64 ((IntKind.wrap .i64 ((IntKind.wrap .i64 (x7.2.2.1+1))+1))-1))))then
 ((x7.2.1)[(Int.toNat (IntKind.wrap .i64 ((IntKind.wrap .i64 ((IntKind.wrap .i64 (x7.2.2.1+1))+1))-1)))]?).bind fun x11=>
 (itP fu (jH) ((IntKind.wrap .i64 ((IntKind.wrap .i64 (x7.2.2.1+1))+1)),x7.2.1,(IntKind.wrap .i64 ((IntKind.wrap .i64 (x7.2.2.1+1))+1)),())).bind fun x14=>
 (bif(((decide (0≤x14.1))&&(decide (x14.1≤x14.2.2.1)))&&(decide (x14.2.2.1≤(ByteArray.size x14.2.1:Int))))then
 (itP fu (jZ) (s,((ByteArray.extract x2.2.1 x2.1.toNat x2.2.2.1.toNat)++(ByteArray.extract x7.2.1 x7.1.toNat x7.2.2.1.toNat)),(IntKind.wrap .i64 (0-(((ByteArray.size (ByteArray.extract x7.2.1 x7.1.toNat x7.2.2.1.toNat)):Nat):Int))),(!(decide ((ByteArray.extract x7.2.1 x7.1.toNat x7.2.2.1.toNat)=(ByteArray.mk (List.toArray []))))),(UInt8.toNat x11:Int),(0:Int),(ByteArray.extract x14.2.1 x14.1.toNat x14.2.2.1.toNat),(((ByteArray.size (ByteArray.extract x14.2.1 x14.1.toNat x14.2.2.1.toNat)):Nat):Int),(0:Int),x14.2.1,x14.2.2.1,())).bind fun x17=>
 (bif x17.2.2.2.1 then
 (bif(decide (x17.2.2.2.2.1=45))then
 (bif(!(decide (x17.2.2.2.2.2.2.1=(ByteArray.mk (List.toArray [])))))then
 some (x17.2.1,(IntKind.wrap .i64 (x17.2.2.1+(IntKind.wrap .i64 (0-x17.2.2.2.2.2.1)))),(decide (x17.2.2.2.2.2.2.2.2.2.2.1=(ByteArray.size x17.1:Int))))
 else
  some (x17.2.1,(IntKind.wrap .i64 (x17.2.2.1+(IntKind.wrap .i64 (0-x17.2.2.2.2.2.1)))),false))
 else
  (bif(!(decide (x17.2.2.2.2.2.2.1=(ByteArray.mk (List.toArray [])))))then
  some (x17.2.1,(IntKind.wrap .i64 (x17.2.2.1+x17.2.2.2.2.2.1)),(decide (x17.2.2.2.2.2.2.2.2.2.2.1=(ByteArray.size x17.1:Int))))
 else
  some (x17.2.1,(IntKind.wrap .i64 (x17.2.2.1+x17.2.2.2.2.2.1)),false)))
 else
  (bif(decide (x17.2.2.2.2.1=45))then
  some (x17.2.1,(IntKind.wrap .i64 (x17.2.2.1+(IntKind.wrap .i64 (0-x17.2.2.2.2.2.1)))),false)
 else
  some (x17.2.1,(IntKind.wrap .i64 (x17.2.2.1+x17.2.2.2.2.2.1)),false)))
 else none)
 else none)
 else
  (itP fu (jH) ((IntKind.wrap .i64 (x7.2.2.1+1)),x7.2.1,(IntKind.wrap .i64 (x7.2.2.1+1)),())).bind fun x20=>
  (bif(((decide (0≤x20.1))&&(decide (x20.1≤x20.2.2.1)))&&(decide (x20.2.2.1≤(ByteArray.size x20.2.1:Int))))then
  (itP fu (jZ) (s,((ByteArray.extract x2.2.1 x2.1.toNat x2.2.2.1.toNat)++(ByteArray.extract x7.2.1 x7.1.toNat x7.2.2.1.toNat)),(IntKind.wrap .i64 (0-(((ByteArray.size (ByteArray.extract x7.2.1 x7.1.toNat x7.2.2.1.toNat)):Nat):Int))),(!(decide ((ByteArray.extract x7.2.1 x7.1.toNat x7.2.2.1.toNat)=(ByteArray.mk (List.toArray []))))),(0:Int),(0:Int),(ByteArray.extract x20.2.1 x20.1.toNat x20.2.2.1.toNat),(((ByteArray.size (ByteArray.extract x20.2.1 x20.1.toNat x20.2.2.1.toNat)):Nat):Int),(0:Int),x20.2.1,x20.2.2.1,())).bind fun x23=>
  (bif x23.2.2.2.1 then
  (bif(decide (x23.2.2.2.2.1=45))then
  (bif(!(decide (x23.2.2.2.2.2.2.1=(ByteArray.mk (List.toArray [])))))then
  some (x23.2.1,(IntKind.wrap .i64 (x23.2.2.1+(IntKind.wrap .i64 (0-x23.2.2.2.2.2.1)))),(decide (x23.2.2.2.2.2.2.2.2.2.2.1=(ByteArray.size x23.1:Int))))
 else
  some (x23.2.1,(IntKind.wrap .i64 (x23.2.2.1+(IntKind.wrap .i64 (0-x23.2.2.2.2.2.1)))),false))
 else
  (bif(!(decide (x23.2.2.2.2.2.2.1=(ByteArray.mk (List.toArray [])))))then
  some (x23.2.1,(IntKind.wrap .i64 (x23.2.2.1+x23.2.2.2.2.2.1)),(decide (x23.2.2.2.2.2.2.2.2.2.2.1=(ByteArray.size x23.1:Int))))
 else
  some (x23.2.1,(IntKind.wrap .i64 (x23.2.2.1+x23.2.2.2.2.2.1)),false)))
 else
  (bif(decide (x23.2.2.2.2.1=45))then
  some (x23.2.1,(IntKind.wrap .i64 (x23.2.2.1+(IntKind.wrap .i64 (0-x23.2.2.2.2.2.1)))),false)
 else
  some (x23.2.1,(IntKind.wrap .i64 (x23.2.2.1+x23.2.2.2.2.2.1)),false)))
 else none))
 else none)
 else
  (itP fu (jH) ((IntKind.wrap .i64 (x7.2.2.1+1)),x7.2.1,(IntKind.wrap .i64 (x7.2.2.1+1)),())).bind fun x26=>
  (bif(((decide (0≤x26.1))&&(decide (x26.1≤x26.2.2.1)))&&(decide (x26.2.2.1≤(ByteArray.size x26.2.1:Int))))then
  (itP fu (jZ) (s,((ByteArray.extract x2.2.1 x2.1.toNat x2.2.2.1.toNat)++(ByteArray.extract x7.2.1 x7.1.toNat x7.2.2.1.toNat)),(IntKind.wrap .i64 (0-(((ByteArray.size (ByteArray.extract x7.2.1 x7.1.toNat x7.2.2.1.toNat)):Nat):Int))),(!(decide ((ByteArray.extract x7.2.1 x7.1.toNat x7.2.2.1.toNat)=(ByteArray.mk (List.toArray []))))),(0:Int),(0:Int),(ByteArray.extract x26.2.1 x26.1.toNat x26.2.2.1.toNat),(((ByteArray.size (ByteArray.extract x26.2.1 x26.1.toNat x26.2.2.1.toNat)):Nat):Int),(0:Int),x26.2.1,x26.2.2.1,())).bind fun x29=>
  (bif x29.2.2.2.1 then
  (bif(decide (x29.2.2.2.2.1=45))then
  (bif(!(decide (x29.2.2.2.2.2.2.1=(ByteArray.mk (List.toArray [])))))then
  some (x29.2.1,(IntKind.wrap .i64 (x29.2.2.1+(IntKind.wrap .i64 (0-x29.2.2.2.2.2.1)))),(decide (x29.2.2.2.2.2.2.2.2.2.2.1=(ByteArray.size x29.1:Int))))
 else
  some (x29.2.1,(IntKind.wrap .i64 (x29.2.2.1+(IntKind.wrap .i64 (0-x29.2.2.2.2.2.1)))),false))
 else
  (bif(!(decide (x29.2.2.2.2.2.2.1=(ByteArray.mk (List.toArray [])))))then
  some (x29.2.1,(IntKind.wrap .i64 (x29.2.2.1+x29.2.2.2.2.2.1)),(decide (x29.2.2.2.2.2.2.2.2.2.2.1=(ByteArray.size x29.1:Int))))
 else
  some (x29.2.1,(IntKind.wrap .i64 (x29.2.2.1+x29.2.2.2.2.2.1)),false)))
 else
  (bif(decide (x29.2.2.2.2.1=45))then
  some (x29.2.1,(IntKind.wrap .i64 (x29.2.2.1+(IntKind.wrap .i64 (0-x29.2.2.2.2.2.1)))),false)
 else
  some (x29.2.1,(IntKind.wrap .i64 (x29.2.2.1+x29.2.2.2.2.2.1)),false)))
 else none))
 else
  (bif(!(decide ((ByteArray.extract x7.2.1 x7.1.toNat x7.2.2.1.toNat)=(ByteArray.mk (List.toArray [])))))then
  some (((ByteArray.extract x2.2.1 x2.1.toNat x2.2.2.1.toNat)++(ByteArray.extract x7.2.1 x7.1.toNat x7.2.2.1.toNat)),(IntKind.wrap .i64 (0-(((ByteArray.size (ByteArray.extract x7.2.1 x7.1.toNat x7.2.2.1.toNat)):Nat):Int))),(decide ((IntKind.wrap .i64 (x7.2.2.1+1))=(ByteArray.size s:Int))))
 else
  some (((ByteArray.extract x2.2.1 x2.1.toNat x2.2.2.1.toNat)++(ByteArray.extract x7.2.1 x7.1.toNat x7.2.2.1.toNat)),(IntKind.wrap .i64 (0-(((ByteArray.size (ByteArray.extract x7.2.1 x7.1.toNat x7.2.2.1.toNat)):Nat):Int))),false)))
 else none)
 else
  (bif(!(decide ((ByteArray.extract x7.2.1 x7.1.toNat x7.2.2.1.toNat)=(ByteArray.mk (List.toArray [])))))then
  some (((ByteArray.extract x2.2.1 x2.1.toNat x2.2.2.1.toNat)++(ByteArray.extract x7.2.1 x7.1.toNat x7.2.2.1.toNat)),(IntKind.wrap .i64 (0-(((ByteArray.size (ByteArray.extract x7.2.1 x7.1.toNat x7.2.2.1.toNat)):Nat):Int))),(decide (x7.2.2.1=(ByteArray.size s:Int))))
 else
  some (((ByteArray.extract x2.2.1 x2.1.toNat x2.2.2.1.toNat)++(ByteArray.extract x7.2.1 x7.1.toNat x7.2.2.1.toNat)),(IntKind.wrap .i64 (0-(((ByteArray.size (ByteArray.extract x7.2.1 x7.1.toNat x7.2.2.1.toNat)):Nat):Int))),false)))
 else none)
 else
  (bif(!(decide ((ByteArray.extract x7.2.1 x7.1.toNat x7.2.2.1.toNat)=(ByteArray.mk (List.toArray [])))))then
  some (((ByteArray.extract x2.2.1 x2.1.toNat x2.2.2.1.toNat)++(ByteArray.extract x7.2.1 x7.1.toNat x7.2.2.1.toNat)),(IntKind.wrap .i64 (0-(((ByteArray.size (ByteArray.extract x7.2.1 x7.1.toNat x7.2.2.1.toNat)):Nat):Int))),(decide (x7.2.2.1=(ByteArray.size s:Int))))
 else
  some (((ByteArray.extract x2.2.1 x2.1.toNat x2.2.2.1.toNat)++(ByteArray.extract x7.2.1 x7.1.toNat x7.2.2.1.toNat)),(IntKind.wrap .i64 (0-(((ByteArray.size (ByteArray.extract x7.2.1 x7.1.toNat x7.2.2.1.toNat)):Nat):Int))),false)))
 else none)
 else
  (bif(Nat.ble ((ByteArray.size (ByteArray.extract x2.2.1 x2.1.toNat x2.2.2.1.toNat))+(ByteArray.size (ByteArray.extract x7.2.1 x7.1.toNat x7.2.2.1.toNat))) 549755813888)then
  (bif(decide (x7.2.2.1<(ByteArray.size x7.2.1:Int)))then
  (bif(decide (0≤x7.2.2.1))then
  ((x7.2.1)[x7.2.2.1.toNat]?).bind fun x30=>
  (bif(decide (0≤(jb (UInt8.ofNat (Int.toNat (UInt8.toNat x30:Int))) (lb (ByteArray.mk (List.toArray [101,69]))))))then
  (bif(decide (0≤(IntKind.wrap .i64 ((IntKind.wrap .i64 (x7.2.2.1+1))-1))))then
  ((x7.2.1)[(Int.toNat (IntKind.wrap .i64 ((IntKind.wrap .i64 (x7.2.2.1+1))-1)))]?).bind fun x31=>
  (bif(!(decide ((UInt8.toNat x31:Int)=0)))then
  (bif(decide ((IntKind.wrap .i64 (x7.2.2.1+1))<(ByteArray.size x7.2.1:Int)))then
  (bif(decide (0≤(IntKind.wrap .i64 (x7.2.2.1+1))))then
  ((x7.2.1)[(Int.toNat (IntKind.wrap .i64 (x7.2.2.1+1)))]?).bind fun x32=>
  (bif(decide (0≤(jb (UInt8.ofNat (Int.toNat (UInt8.toNat x32:Int))) (lb (ByteArray.mk (List.toArray [43,45]))))))then
  (bif(decide (0≤(IntKind.wrap .i64 ((IntKind.wrap .i64 ((IntKind.wrap .i64 (x7.2.2.1+1))+1))-1))))then
  ((x7.2.1)[(Int.toNat (IntKind.wrap .i64 ((IntKind.wrap .i64 ((IntKind.wrap .i64 (x7.2.2.1+1))+1))-1)))]?).bind fun x33=>
  (itP fu (jH) ((IntKind.wrap .i64 ((IntKind.wrap .i64 (x7.2.2.1+1))+1)),x7.2.1,(IntKind.wrap .i64 ((IntKind.wrap .i64 (x7.2.2.1+1))+1)),())).bind fun x36=>
  (bif(((decide (0≤x36.1))&&(decide (x36.1≤x36.2.2.1)))&&(decide (x36.2.2.1≤(ByteArray.size x36.2.1:Int))))then
  (itP fu (jZ) (s,((ByteArray.extract x2.2.1 x2.1.toNat x2.2.2.1.toNat)++(ByteArray.extract x7.2.1 x7.1.toNat x7.2.2.1.toNat)),(IntKind.wrap .i64 (0-(((ByteArray.size (ByteArray.extract x7.2.1 x7.1.toNat x7.2.2.1.toNat)):Nat):Int))),false,(UInt8.toNat x33:Int),(0:Int),(ByteArray.extract x36.2.1 x36.1.toNat x36.2.2.1.toNat),(((ByteArray.size (ByteArray.extract x36.2.1 x36.1.toNat x36.2.2.1.toNat)):Nat):Int),(0:Int),x36.2.1,x36.2.2.1,())).bind fun x39=>
  (bif x39.2.2.2.1 then
  (bif(decide (x39.2.2.2.2.1=45))then
  (bif(!(decide (x39.2.2.2.2.2.2.1=(ByteArray.mk (List.toArray [])))))then
  some (x39.2.1,(IntKind.wrap .i64 (x39.2.2.1+(IntKind.wrap .i64 (0-x39.2.2.2.2.2.1)))),(decide (x39.2.2.2.2.2.2.2.2.2.2.1=(ByteArray.size x39.1:Int))))
 else
  some (x39.2.1,(IntKind.wrap .i64 (x39.2.2.1+(IntKind.wrap .i64 (0-x39.2.2.2.2.2.1)))),false))
 else
  (bif(!(decide (x39.2.2.2.2.2.2.1=(ByteArray.mk (List.toArray [])))))then
  some (x39.2.1,(IntKind.wrap .i64 (x39.2.2.1+x39.2.2.2.2.2.1)),(decide (x39.2.2.2.2.2.2.2.2.2.2.1=(ByteArray.size x39.1:Int))))
 else
  some (x39.2.1,(IntKind.wrap .i64 (x39.2.2.1+x39.2.2.2.2.2.1)),false)))
 else
  (bif(decide (x39.2.2.2.2.1=45))then
  some (x39.2.1,(IntKind.wrap .i64 (x39.2.2.1+(IntKind.wrap .i64 (0-x39.2.2.2.2.2.1)))),false)
 else
  some (x39.2.1,(IntKind.wrap .i64 (x39.2.2.1+x39.2.2.2.2.2.1)),false)))
 else none)
 else none)
 else
  (itP fu (jH) ((IntKind.wrap .i64 (x7.2.2.1+1)),x7.2.1,(IntKind.wrap .i64 (x7.2.2.1+1)),())).bind fun x42=>
  (bif(((decide (0≤x42.1))&&(decide (x42.1≤x42.2.2.1)))&&(decide (x42.2.2.1≤(ByteArray.size x42.2.1:Int))))then
  (itP fu (jZ) (s,((ByteArray.extract x2.2.1 x2.1.toNat x2.2.2.1.toNat)++(ByteArray.extract x7.2.1 x7.1.toNat x7.2.2.1.toNat)),(IntKind.wrap .i64 (0-(((ByteArray.size (ByteArray.extract x7.2.1 x7.1.toNat x7.2.2.1.toNat)):Nat):Int))),false,(0:Int),(0:Int),(ByteArray.extract x42.2.1 x42.1.toNat x42.2.2.1.toNat),(((ByteArray.size (ByteArray.extract x42.2.1 x42.1.toNat x42.2.2.1.toNat)):Nat):Int),(0:Int),x42.2.1,x42.2.2.1,())).bind fun x45=>
  (bif x45.2.2.2.1 then
  (bif(decide (x45.2.2.2.2.1=45))then
  (bif(!(decide (x45.2.2.2.2.2.2.1=(ByteArray.mk (List.toArray [])))))then
  some (x45.2.1,(IntKind.wrap .i64 (x45.2.2.1+(IntKind.wrap .i64 (0-x45.2.2.2.2.2.1)))),(decide (x45.2.2.2.2.2.2.2.2.2.2.1=(ByteArray.size x45.1:Int))))
 else
  some (x45.2.1,(IntKind.wrap .i64 (x45.2.2.1+(IntKind.wrap .i64 (0-x45.2.2.2.2.2.1)))),false))
 else
  (bif(!(decide (x45.2.2.2.2.2.2.1=(ByteArray.mk (List.toArray [])))))then
  some (x45.2.1,(IntKind.wrap .i64 (x45.2.2.1+x45.2.2.2.2.2.1)),(decide (x45.2.2.2.2.2.2.2.2.2.2.1=(ByteArray.size x45.1:Int))))
 else
  some (x45.2.1,(IntKind.wrap .i64 (x45.2.2.1+x45.2.2.2.2.2.1)),false)))
 else
  (bif(decide (x45.2.2.2.2.1=45))then
  some (x45.2.1,(IntKind.wrap .i64 (x45.2.2.1+(IntKind.wrap .i64 (0-x45.2.2.2.2.2.1)))),false)
 else
  some (x45.2.1,(IntKind.wrap .i64 (x45.2.2.1+x45.2.2.2.2.2.1)),false)))
 else none))
 else none)
 else
  (itP fu (jH) ((IntKind.wrap .i64 (x7.2.2.1+1)),x7.2.1,(IntKind.wrap .i64 (x7.2.2.1+1)),())).bind fun x48=>
  (bif(((decide (0≤x48.1))&&(decide (x48.1≤x48.2.2.1)))&&(decide (x48.2.2.1≤(ByteArray.size x48.2.1:Int))))then
  (itP fu (jZ) (s,((ByteArray.extract x2.2.1 x2.1.toNat x2.2.2.1.toNat)++(ByteArray.extract x7.2.1 x7.1.toNat x7.2.2.1.toNat)),(IntKind.wrap .i64 (0-(((ByteArray.size (ByteArray.extract x7.2.1 x7.1.toNat x7.2.2.1.toNat)):Nat):Int))),false,(0:Int),(0:Int),(ByteArray.extract x48.2.1 x48.1.toNat x48.2.2.1.toNat),(((ByteArray.size (ByteArray.extract x48.2.1 x48.1.toNat x48.2.2.1.toNat)):Nat):Int),(0:Int),x48.2.1,x48.2.2.1,())).bind fun x51=>
  (bif x51.2.2.2.1 then
  (bif(decide (x51.2.2.2.2.1=45))then
  (bif(!(decide (x51.2.2.2.2.2.2.1=(ByteArray.mk (List.toArray [])))))then
  some (x51.2.1,(IntKind.wrap .i64 (x51.2.2.1+(IntKind.wrap .i64 (0-x51.2.2.2.2.2.1)))),(decide (x51.2.2.2.2.2.2.2.2.2.2.1=(ByteArray.size x51.1:Int))))
 else
  some (x51.2.1,(IntKind.wrap .i64 (x51.2.2.1+(IntKind.wrap .i64 (0-x51.2.2.2.2.2.1)))),false))
 else
  (bif(!(decide (x51.2.2.2.2.2.2.1=(ByteArray.mk (List.toArray [])))))then
  some (x51.2.1,(IntKind.wrap .i64 (x51.2.2.1+x51.2.2.2.2.2.1)),(decide (x51.2.2.2.2.2.2.2.2.2.2.1=(ByteArray.size x51.1:Int))))
 else
  some (x51.2.1,(IntKind.wrap .i64 (x51.2.2.1+x51.2.2.2.2.2.1)),false)))
 else
  (bif(decide (x51.2.2.2.2.1=45))then
  some (x51.2.1,(IntKind.wrap .i64 (x51.2.2.1+(IntKind.wrap .i64 (0-x51.2.2.2.2.2.1)))),false)
 else
  some (x51.2.1,(IntKind.wrap .i64 (x51.2.2.1+x51.2.2.2.2.2.1)),false)))
 else none))
 else
  some (((ByteArray.extract x2.2.1 x2.1.toNat x2.2.2.1.toNat)++(ByteArray.extract x7.2.1 x7.1.toNat x7.2.2.1.toNat)),(IntKind.wrap .i64 (0-(((ByteArray.size (ByteArray.extract x7.2.1 x7.1.toNat x7.2.2.1.toNat)):Nat):Int))),false))
 else none)
 else
  some (((ByteArray.extract x2.2.1 x2.1.toNat x2.2.2.1.toNat)++(ByteArray.extract x7.2.1 x7.1.toNat x7.2.2.1.toNat)),(IntKind.wrap .i64 (0-(((ByteArray.size (ByteArray.extract x7.2.1 x7.1.toNat x7.2.2.1.toNat)):Nat):Int))),false))
 else none)
 else
  some (((ByteArray.extract x2.2.1 x2.1.toNat x2.2.2.1.toNat)++(ByteArray.extract x7.2.1 x7.1.toNat x7.2.2.1.toNat)),(IntKind.wrap .i64 (0-(((ByteArray.size (ByteArray.extract x7.2.1 x7.1.toNat x7.2.2.1.toNat)):Nat):Int))),false))
 else none))
 else none)
 else
  (bif(decide ((IntKind.wrap .i64 (x2.2.2.1+1))<(ByteArray.size x2.2.1:Int)))then
  (bif(decide (0≤(IntKind.wrap .i64 (x2.2.2.1+1))))then
  ((x2.2.1)[(Int.toNat (IntKind.wrap .i64 (x2.2.2.1+1)))]?).bind fun x52=>
  (bif(decide (0≤(jb (UInt8.ofNat (Int.toNat (UInt8.toNat x52:Int))) (lb (ByteArray.mk (List.toArray [101,69]))))))then
  (bif(decide (0≤(IntKind.wrap .i64 ((IntKind.wrap .i64 ((IntKind.wrap .i64 (x2.2.2.1+1))+1))-1))))then
  ((x2.2.1)[(Int.toNat (IntKind.wrap .i64 ((IntKind.wrap .i64 ((IntKind.wrap .i64 (x2.2.2.1+1))+1))-1)))]?).bind fun x53=>
  (bif(!(decide ((UInt8.toNat x53:Int)=0)))then
  (bif(decide ((IntKind.wrap .i64 ((IntKind.wrap .i64 (x2.2.2.1+1))+1))<(ByteArray.size x2.2.1:Int)))then
  (bif(decide (0≤(IntKind.wrap .i64 ((IntKind.wrap .i64 (x2.2.2.1+1))+1))))then
  ((x2.2.1)[(Int.toNat (IntKind.wrap .i64 ((IntKind.wrap .i64 (x2.2.2.1+1))+1)))]?).bind fun x54=>
  (bif(decide (0≤(jb (UInt8.ofNat (Int.toNat (UInt8.toNat x54:Int))) (lb (ByteArray.mk (List.toArray [43,45]))))))then
  (bif(decide (0≤(IntKind.wrap .i64 ((IntKind.wrap .i64 ((IntKind.wrap .i64 ((IntKind.wrap .i64 (x2.2.2.1+1))+1))+1))-1))))then
  ((x2.2.1)[(Int.toNat (IntKind.wrap .i64 ((IntKind.wrap .i64 ((IntKind.wrap .i64 ((IntKind.wrap .i64 (x2.2.2.1+1))+1))+1))-1)))]?).bind fun x55=>
  (itP fu (jH) ((IntKind.wrap .i64 ((IntKind.wrap .i64 ((IntKind.wrap .i64 (x2.2.2.1+1))+1))+1)),x2.2.1,(IntKind.wrap .i64 ((IntKind.wrap .i64 ((IntKind.wrap .i64 (x2.2.2.1+1))+1))+1)),())).bind fun x58=>
  (bif(((decide (0≤x58.1))&&(decide (x58.1≤x58.2.2.1)))&&(decide (x58.2.2.1≤(ByteArray.size x58.2.1:Int))))then
  (itP fu (jZ) (s,(ByteArray.extract x2.2.1 x2.1.toNat x2.2.2.1.toNat),(0:Int),(!(decide ((ByteArray.extract x2.2.1 x2.1.toNat x2.2.2.1.toNat)=(ByteArray.mk (List.toArray []))))),(UInt8.toNat x55:Int),(0:Int),(ByteArray.extract x58.2.1 x58.1.toNat x58.2.2.1.toNat),(((ByteArray.size (ByteArray.extract x58.2.1 x58.1.toNat x58.2.2.1.toNat)):Nat):Int),(0:Int),x58.2.1,x58.2.2.1,())).bind fun x61=>
  (bif x61.2.2.2.1 then
  (bif(decide (x61.2.2.2.2.1=45))then
  (bif(!(decide (x61.2.2.2.2.2.2.1=(ByteArray.mk (List.toArray [])))))then
  some (x61.2.1,(IntKind.wrap .i64 (x61.2.2.1+(IntKind.wrap .i64 (0-x61.2.2.2.2.2.1)))),(decide (x61.2.2.2.2.2.2.2.2.2.2.1=(ByteArray.size x61.1:Int))))
 else
  some (x61.2.1,(IntKind.wrap .i64 (x61.2.2.1+(IntKind.wrap .i64 (0-x61.2.2.2.2.2.1)))),false))
 else
  (bif(!(decide (x61.2.2.2.2.2.2.1=(ByteArray.mk (List.toArray [])))))then
  some (x61.2.1,(IntKind.wrap .i64 (x61.2.2.1+x61.2.2.2.2.2.1)),(decide (x61.2.2.2.2.2.2.2.2.2.2.1=(ByteArray.size x61.1:Int))))
 else
  some (x61.2.1,(IntKind.wrap .i64 (x61.2.2.1+x61.2.2.2.2.2.1)),false)))
 else
  (bif(decide (x61.2.2.2.2.1=45))then
  some (x61.2.1,(IntKind.wrap .i64 (x61.2.2.1+(IntKind.wrap .i64 (0-x61.2.2.2.2.2.1)))),false)
 else
  some (x61.2.1,(IntKind.wrap .i64 (x61.2.2.1+x61.2.2.2.2.2.1)),false)))
 else none)
 else none)
 else
  (itP fu (jH) ((IntKind.wrap .i64 ((IntKind.wrap .i64 (x2.2.2.1+1))+1)),x2.2.1,(IntKind.wrap .i64 ((IntKind.wrap .i64 (x2.2.2.1+1))+1)),())).bind fun x64=>
  (bif(((decide (0≤x64.1))&&(decide (x64.1≤x64.2.2.1)))&&(decide (x64.2.2.1≤(ByteArray.size x64.2.1:Int))))then
  (itP fu (jZ) (s,(ByteArray.extract x2.2.1 x2.1.toNat x2.2.2.1.toNat),(0:Int),(!(decide ((ByteArray.extract x2.2.1 x2.1.toNat x2.2.2.1.toNat)=(ByteArray.mk (List.toArray []))))),(0:Int),(0:Int),(ByteArray.extract x64.2.1 x64.1.toNat x64.2.2.1.toNat),(((ByteArray.size (ByteArray.extract x64.2.1 x64.1.toNat x64.2.2.1.toNat)):Nat):Int),(0:Int),x64.2.1,x64.2.2.1,())).bind fun x67=>
  (bif x67.2.2.2.1 then
  (bif(decide (x67.2.2.2.2.1=45))then
  (bif(!(decide (x67.2.2.2.2.2.2.1=(ByteArray.mk (List.toArray [])))))then
  some (x67.2.1,(IntKind.wrap .i64 (x67.2.2.1+(IntKind.wrap .i64 (0-x67.2.2.2.2.2.1)))),(decide (x67.2.2.2.2.2.2.2.2.2.2.1=(ByteArray.size x67.1:Int))))
 else
  some (x67.2.1,(IntKind.wrap .i64 (x67.2.2.1+(IntKind.wrap .i64 (0-x67.2.2.2.2.2.1)))),false))
 else
  (bif(!(decide (x67.2.2.2.2.2.2.1=(ByteArray.mk (List.toArray [])))))then
  some (x67.2.1,(IntKind.wrap .i64 (x67.2.2.1+x67.2.2.2.2.2.1)),(decide (x67.2.2.2.2.2.2.2.2.2.2.1=(ByteArray.size x67.1:Int))))
 else
  some (x67.2.1,(IntKind.wrap .i64 (x67.2.2.1+x67.2.2.2.2.2.1)),false)))
 else
  (bif(decide (x67.2.2.2.2.1=45))then
  some (x67.2.1,(IntKind.wrap .i64 (x67.2.2.1+(IntKind.wrap .i64 (0-x67.2.2.2.2.2.1)))),false)
 else
  some (x67.2.1,(IntKind.wrap .i64 (x67.2.2.1+x67.2.2.2.2.2.1)),false)))
 else none))
 else none)
 else
  (itP fu (jH) ((IntKind.wrap .i64 ((IntKind.wrap .i64 (x2.2.2.1+1))+1)),x2.2.1,(IntKind.wrap .i64 ((IntKind.wrap .i64 (x2.2.2.1+1))+1)),())).bind fun x70=>
  (bif(((decide (0≤x70.1))&&(decide (x70.1≤x70.2.2.1)))&&(decide (x70.2.2.1≤(ByteArray.size x70.2.1:Int))))then
  (itP fu (jZ) (s,(ByteArray.extract x2.2.1 x2.1.toNat x2.2.2.1.toNat),(0:Int),(!(decide ((ByteArray.extract x2.2.1 x2.1.toNat x2.2.2.1.toNat)=(ByteArray.mk (List.toArray []))))),(0:Int),(0:Int),(ByteArray.extract x70.2.1 x70.1.toNat x70.2.2.1.toNat),(((ByteArray.size (ByteArray.extract x70.2.1 x70.1.toNat x70.2.2.1.toNat)):Nat):Int),(0:Int),x70.2.1,x70.2.2.1,())).bind fun x73=>
  (bif x73.2.2.2.1 then
  (bif(decide (x73.2.2.2.2.1=45))then
  (bif(!(decide (x73.2.2.2.2.2.2.1=(ByteArray.mk (List.toArray [])))))then
  some (x73.2.1,(IntKind.wrap .i64 (x73.2.2.1+(IntKind.wrap .i64 (0-x73.2.2.2.2.2.1)))),(decide (x73.2.2.2.2.2.2.2.2.2.2.1=(ByteArray.size x73.1:Int))))
 else
  some (x73.2.1,(IntKind.wrap .i64 (x73.2.2.1+(IntKind.wrap .i64 (0-x73.2.2.2.2.2.1)))),false))
 else
  (bif(!(decide (x73.2.2.2.2.2.2.1=(ByteArray.mk (List.toArray [])))))then
  some (x73.2.1,(IntKind.wrap .i64 (x73.2.2.1+x73.2.2.2.2.2.1)),(decide (x73.2.2.2.2.2.2.2.2.2.2.1=(ByteArray.size x73.1:Int))))
 else
  some (x73.2.1,(IntKind.wrap .i64 (x73.2.2.1+x73.2.2.2.2.2.1)),false)))
 else
  (bif(decide (x73.2.2.2.2.1=45))then
  some (x73.2.1,(IntKind.wrap .i64 (x73.2.2.1+(IntKind.wrap .i64 (0-x73.2.2.2.2.2.1)))),false)
 else
  some (x73.2.1,(IntKind.wrap .i64 (x73.2.2.1+x73.2.2.2.2.2.1)),false)))
 else none))
 else
  (bif(!(decide ((ByteArray.extract x2.2.1 x2.1.toNat x2.2.2.1.toNat)=(ByteArray.mk (List.toArray [])))))then
  some ((ByteArray.extract x2.2.1 x2.1.toNat x2.2.2.1.toNat),(0:Int),(decide ((IntKind.wrap .i64 ((IntKind.wrap .i64 (x2.2.2.1+1))+1))=(ByteArray.size s:Int))))
 else
  some ((ByteArray.extract x2.2.1 x2.1.toNat x2.2.2.1.toNat),(0:Int),false)))
 else none)
 else
  (bif(!(decide ((ByteArray.extract x2.2.1 x2.1.toNat x2.2.2.1.toNat)=(ByteArray.mk (List.toArray [])))))then
  some ((ByteArray.extract x2.2.1 x2.1.toNat x2.2.2.1.toNat),(0:Int),(decide ((IntKind.wrap .i64 (x2.2.2.1+1))=(ByteArray.size s:Int))))
 else
  some ((ByteArray.extract x2.2.1 x2.1.toNat x2.2.2.1.toNat),(0:Int),false)))
 else none)
 else
  (bif(!(decide ((ByteArray.extract x2.2.1 x2.1.toNat x2.2.2.1.toNat)=(ByteArray.mk (List.toArray [])))))then
  some ((ByteArray.extract x2.2.1 x2.1.toNat x2.2.2.1.toNat),(0:Int),(decide ((IntKind.wrap .i64 (x2.2.2.1+1))=(ByteArray.size s:Int))))
 else
  some ((ByteArray.extract x2.2.1 x2.1.toNat x2.2.2.1.toNat),(0:Int),false))))
 else none)
 else
  (bif(decide (x2.2.2.1<(ByteArray.size x2.2.1:Int)))then
  (bif(decide (0≤x2.2.2.1))then
  ((x2.2.1)[x2.2.2.1.toNat]?).bind fun x74=>
  (bif(decide (0≤(jb (UInt8.ofNat (Int.toNat (UInt8.toNat x74:Int))) (lb (ByteArray.mk (List.toArray [101,69]))))))then
  (bif(decide (0≤(IntKind.wrap .i64 ((IntKind.wrap .i64 (x2.2.2.1+1))-1))))then
  ((x2.2.1)[(Int.toNat (IntKind.wrap .i64 ((IntKind.wrap .i64 (x2.2.2.1+1))-1)))]?).bind fun x75=>
  (bif(!(decide ((UInt8.toNat x75:Int)=0)))then
  (bif(decide ((IntKind.wrap .i64 (x2.2.2.1+1))<(ByteArray.size x2.2.1:Int)))then
  (bif(decide (0≤(IntKind.wrap .i64 (x2.2.2.1+1))))then
  ((x2.2.1)[(Int.toNat (IntKind.wrap .i64 (x2.2.2.1+1)))]?).bind fun x76=>
  (bif(decide (0≤(jb (UInt8.ofNat (Int.toNat (UInt8.toNat x76:Int))) (lb (ByteArray.mk (List.toArray [43,45]))))))then
  (bif(decide (0≤(IntKind.wrap .i64 ((IntKind.wrap .i64 ((IntKind.wrap .i64 (x2.2.2.1+1))+1))-1))))then
  ((x2.2.1)[(Int.toNat (IntKind.wrap .i64 ((IntKind.wrap .i64 ((IntKind.wrap .i64 (x2.2.2.1+1))+1))-1)))]?).bind fun x77=>
  (itP fu (jH) ((IntKind.wrap .i64 ((IntKind.wrap .i64 (x2.2.2.1+1))+1)),x2.2.1,(IntKind.wrap .i64 ((IntKind.wrap .i64 (x2.2.2.1+1))+1)),())).bind fun x80=>
  (bif(((decide (0≤x80.1))&&(decide (x80.1≤x80.2.2.1)))&&(decide (x80.2.2.1≤(ByteArray.size x80.2.1:Int))))then
  (itP fu (jZ) (s,(ByteArray.extract x2.2.1 x2.1.toNat x2.2.2.1.toNat),(0:Int),(!(decide ((ByteArray.extract x2.2.1 x2.1.toNat x2.2.2.1.toNat)=(ByteArray.mk (List.toArray []))))),(UInt8.toNat x77:Int),(0:Int),(ByteArray.extract x80.2.1 x80.1.toNat x80.2.2.1.toNat),(((ByteArray.size (ByteArray.extract x80.2.1 x80.1.toNat x80.2.2.1.toNat)):Nat):Int),(0:Int),x80.2.1,x80.2.2.1,())).bind fun x83=>
  (bif x83.2.2.2.1 then
  (bif(decide (x83.2.2.2.2.1=45))then
  (bif(!(decide (x83.2.2.2.2.2.2.1=(ByteArray.mk (List.toArray [])))))then
  some (x83.2.1,(IntKind.wrap .i64 (x83.2.2.1+(IntKind.wrap .i64 (0-x83.2.2.2.2.2.1)))),(decide (x83.2.2.2.2.2.2.2.2.2.2.1=(ByteArray.size x83.1:Int))))
 else
  some (x83.2.1,(IntKind.wrap .i64 (x83.2.2.1+(IntKind.wrap .i64 (0-x83.2.2.2.2.2.1)))),false))
 else
  (bif(!(decide (x83.2.2.2.2.2.2.1=(ByteArray.mk (List.toArray [])))))then
  some (x83.2.1,(IntKind.wrap .i64 (x83.2.2.1+x83.2.2.2.2.2.1)),(decide (x83.2.2.2.2.2.2.2.2.2.2.1=(ByteArray.size x83.1:Int))))
 else
  some (x83.2.1,(IntKind.wrap .i64 (x83.2.2.1+x83.2.2.2.2.2.1)),false)))
 else
  (bif(decide (x83.2.2.2.2.1=45))then
  some (x83.2.1,(IntKind.wrap .i64 (x83.2.2.1+(IntKind.wrap .i64 (0-x83.2.2.2.2.2.1)))),false)
 else
  some (x83.2.1,(IntKind.wrap .i64 (x83.2.2.1+x83.2.2.2.2.2.1)),false)))
 else none)
 else none)
 else
  (itP fu (jH) ((IntKind.wrap .i64 (x2.2.2.1+1)),x2.2.1,(IntKind.wrap .i64 (x2.2.2.1+1)),())).bind fun x86=>
  (bif(((decide (0≤x86.1))&&(decide (x86.1≤x86.2.2.1)))&&(decide (x86.2.2.1≤(ByteArray.size x86.2.1:Int))))then
  (itP fu (jZ) (s,(ByteArray.extract x2.2.1 x2.1.toNat x2.2.2.1.toNat),(0:Int),(!(decide ((ByteArray.extract x2.2.1 x2.1.toNat x2.2.2.1.toNat)=(ByteArray.mk (List.toArray []))))),(0:Int),(0:Int),(ByteArray.extract x86.2.1 x86.1.toNat x86.2.2.1.toNat),(((ByteArray.size (ByteArray.extract x86.2.1 x86.1.toNat x86.2.2.1.toNat)):Nat):Int),(0:Int),x86.2.1,x86.2.2.1,())).bind fun x89=>
  (bif x89.2.2.2.1 then
  (bif(decide (x89.2.2.2.2.1=45))then
  (bif(!(decide (x89.2.2.2.2.2.2.1=(ByteArray.mk (List.toArray [])))))then
  some (x89.2.1,(IntKind.wrap .i64 (x89.2.2.1+(IntKind.wrap .i64 (0-x89.2.2.2.2.2.1)))),(decide (x89.2.2.2.2.2.2.2.2.2.2.1=(ByteArray.size x89.1:Int))))
 else
  some (x89.2.1,(IntKind.wrap .i64 (x89.2.2.1+(IntKind.wrap .i64 (0-x89.2.2.2.2.2.1)))),false))
 else
  (bif(!(decide (x89.2.2.2.2.2.2.1=(ByteArray.mk (List.toArray [])))))then
  some (x89.2.1,(IntKind.wrap .i64 (x89.2.2.1+x89.2.2.2.2.2.1)),(decide (x89.2.2.2.2.2.2.2.2.2.2.1=(ByteArray.size x89.1:Int))))
 else
  some (x89.2.1,(IntKind.wrap .i64 (x89.2.2.1+x89.2.2.2.2.2.1)),false)))
 else
  (bif(decide (x89.2.2.2.2.1=45))then
  some (x89.2.1,(IntKind.wrap .i64 (x89.2.2.1+(IntKind.wrap .i64 (0-x89.2.2.2.2.2.1)))),false)
 else
  some (x89.2.1,(IntKind.wrap .i64 (x89.2.2.1+x89.2.2.2.2.2.1)),false)))
 else none))
 else none)
 else
  (itP fu (jH) ((IntKind.wrap .i64 (x2.2.2.1+1)),x2.2.1,(IntKind.wrap .i64 (x2.2.2.1+1)),())).bind fun x92=>
  (bif(((decide (0≤x92.1))&&(decide (x92.1≤x92.2.2.1)))&&(decide (x92.2.2.1≤(ByteArray.size x92.2.1:Int))))then
  (itP fu (jZ) (s,(ByteArray.extract x2.2.1 x2.1.toNat x2.2.2.1.toNat),(0:Int),(!(decide ((ByteArray.extract x2.2.1 x2.1.toNat x2.2.2.1.toNat)=(ByteArray.mk (List.toArray []))))),(0:Int),(0:Int),(ByteArray.extract x92.2.1 x92.1.toNat x92.2.2.1.toNat),(((ByteArray.size (ByteArray.extract x92.2.1 x92.1.toNat x92.2.2.1.toNat)):Nat):Int),(0:Int),x92.2.1,x92.2.2.1,())).bind fun x95=>
  (bif x95.2.2.2.1 then
  (bif(decide (x95.2.2.2.2.1=45))then
  (bif(!(decide (x95.2.2.2.2.2.2.1=(ByteArray.mk (List.toArray [])))))then
  some (x95.2.1,(IntKind.wrap .i64 (x95.2.2.1+(IntKind.wrap .i64 (0-x95.2.2.2.2.2.1)))),(decide (x95.2.2.2.2.2.2.2.2.2.2.1=(ByteArray.size x95.1:Int))))
 else
  some (x95.2.1,(IntKind.wrap .i64 (x95.2.2.1+(IntKind.wrap .i64 (0-x95.2.2.2.2.2.1)))),false))
 else
  (bif(!(decide (x95.2.2.2.2.2.2.1=(ByteArray.mk (List.toArray [])))))then
  some (x95.2.1,(IntKind.wrap .i64 (x95.2.2.1+x95.2.2.2.2.2.1)),(decide (x95.2.2.2.2.2.2.2.2.2.2.1=(ByteArray.size x95.1:Int))))
 else
  some (x95.2.1,(IntKind.wrap .i64 (x95.2.2.1+x95.2.2.2.2.2.1)),false)))
 else
  (bif(decide (x95.2.2.2.2.1=45))then
  some (x95.2.1,(IntKind.wrap .i64 (x95.2.2.1+(IntKind.wrap .i64 (0-x95.2.2.2.2.2.1)))),false)
 else
  some (x95.2.1,(IntKind.wrap .i64 (x95.2.2.1+x95.2.2.2.2.2.1)),false)))
 else none))
 else
  (bif(!(decide ((ByteArray.extract x2.2.1 x2.1.toNat x2.2.2.1.toNat)=(ByteArray.mk (List.toArray [])))))then
  some ((ByteArray.extract x2.2.1 x2.1.toNat x2.2.2.1.toNat),(0:Int),(decide ((IntKind.wrap .i64 (x2.2.2.1+1))=(ByteArray.size s:Int))))
 else
  some ((ByteArray.extract x2.2.1 x2.1.toNat x2.2.2.1.toNat),(0:Int),false)))
 else none)
 else
  (bif(!(decide ((ByteArray.extract x2.2.1 x2.1.toNat x2.2.2.1.toNat)=(ByteArray.mk (List.toArray [])))))then
  some ((ByteArray.extract x2.2.1 x2.1.toNat x2.2.2.1.toNat),(0:Int),(decide (x2.2.2.1=(ByteArray.size s:Int))))
 else
  some ((ByteArray.extract x2.2.1 x2.1.toNat x2.2.2.1.toNat),(0:Int),false)))
 else none)
 else
  (bif(!(decide ((ByteArray.extract x2.2.1 x2.1.toNat x2.2.2.1.toNat)=(ByteArray.mk (List.toArray [])))))then
  some ((ByteArray.extract x2.2.1 x2.1.toNat x2.2.2.1.toNat),(0:Int),(decide (x2.2.2.1=(ByteArray.size s:Int))))
 else
  some ((ByteArray.extract x2.2.1 x2.1.toNat x2.2.2.1.toNat),(0:Int),false))))
 else none)
 else
  (bif(decide (x2.2.2.1<(ByteArray.size x2.2.1:Int)))then
  (bif(decide (0≤x2.2.2.1))then
  ((x2.2.1)[x2.2.2.1.toNat]?).bind fun x96=>
  (bif(decide (0≤(jb (UInt8.ofNat (Int.toNat (UInt8.toNat x96:Int))) (lb (ByteArray.mk (List.toArray [101,69]))))))then
  (bif(decide (0≤(IntKind.wrap .i64 ((IntKind.wrap .i64 (x2.2.2.1+1))-1))))then
  ((x2.2.1)[(Int.toNat (IntKind.wrap .i64 ((IntKind.wrap .i64 (x2.2.2.1+1))-1)))]?).bind fun x97=>
  (bif(!(decide ((UInt8.toNat x97:Int)=0)))then
  (bif(decide ((IntKind.wrap .i64 (x2.2.2.1+1))<(ByteArray.size x2.2.1:Int)))then
  (bif(decide (0≤(IntKind.wrap .i64 (x2.2.2.1+1))))then
  ((x2.2.1)[(Int.toNat (IntKind.wrap .i64 (x2.2.2.1+1)))]?).bind fun x98=>
  (bif(decide (0≤(jb (UInt8.ofNat (Int.toNat (UInt8.toNat x98:Int))) (lb (ByteArray.mk (List.toArray [43,45]))))))then
  (bif(decide (0≤(IntKind.wrap .i64 ((IntKind.wrap .i64 ((IntKind.wrap .i64 (x2.2.2.1+1))+1))-1))))then
  ((x2.2.1)[(Int.toNat (IntKind.wrap .i64 ((IntKind.wrap .i64 ((IntKind.wrap .i64 (x2.2.2.1+1))+1))-1)))]?).bind fun x99=>
  (itP fu (jH) ((IntKind.wrap .i64 ((IntKind.wrap .i64 (x2.2.2.1+1))+1)),x2.2.1,(IntKind.wrap .i64 ((IntKind.wrap .i64 (x2.2.2.1+1))+1)),())).bind fun x102=>
  (bif(((decide (0≤x102.1))&&(decide (x102.1≤x102.2.2.1)))&&(decide (x102.2.2.1≤(ByteArray.size x102.2.1:Int))))then
  (itP fu (jZ) (s,(ByteArray.extract x2.2.1 x2.1.toNat x2.2.2.1.toNat),(0:Int),(!(decide ((ByteArray.extract x2.2.1 x2.1.toNat x2.2.2.1.toNat)=(ByteArray.mk (List.toArray []))))),(UInt8.toNat x99:Int),(0:Int),(ByteArray.extract x102.2.1 x102.1.toNat x102.2.2.1.toNat),(((ByteArray.size (ByteArray.extract x102.2.1 x102.1.toNat x102.2.2.1.toNat)):Nat):Int),(0:Int),x102.2.1,x102.2.2.1,())).bind fun x105=>
  (bif x105.2.2.2.1 then
  (bif(decide (x105.2.2.2.2.1=45))then
  (bif(!(decide (x105.2.2.2.2.2.2.1=(ByteArray.mk (List.toArray [])))))then
  some (x105.2.1,(IntKind.wrap .i64 (x105.2.2.1+(IntKind.wrap .i64 (0-x105.2.2.2.2.2.1)))),(decide (x105.2.2.2.2.2.2.2.2.2.2.1=(ByteArray.size x105.1:Int))))
 else
  some (x105.2.1,(IntKind.wrap .i64 (x105.2.2.1+(IntKind.wrap .i64 (0-x105.2.2.2.2.2.1)))),false))
 else
  (bif(!(decide (x105.2.2.2.2.2.2.1=(ByteArray.mk (List.toArray [])))))then
  some (x105.2.1,(IntKind.wrap .i64 (x105.2.2.1+x105.2.2.2.2.2.1)),(decide (x105.2.2.2.2.2.2.2.2.2.2.1=(ByteArray.size x105.1:Int))))
 else
  some (x105.2.1,(IntKind.wrap .i64 (x105.2.2.1+x105.2.2.2.2.2.1)),false)))
 else
  (bif(decide (x105.2.2.2.2.1=45))then
  some (x105.2.1,(IntKind.wrap .i64 (x105.2.2.1+(IntKind.wrap .i64 (0-x105.2.2.2.2.2.1)))),false)
 else
  some (x105.2.1,(IntKind.wrap .i64 (x105.2.2.1+x105.2.2.2.2.2.1)),false)))
 else none)
 else none)
 else
  (itP fu (jH) ((IntKind.wrap .i64 (x2.2.2.1+1)),x2.2.1,(IntKind.wrap .i64 (x2.2.2.1+1)),())).bind fun x108=>
  (bif(((decide (0≤x108.1))&&(decide (x108.1≤x108.2.2.1)))&&(decide (x108.2.2.1≤(ByteArray.size x108.2.1:Int))))then
  (itP fu (jZ) (s,(ByteArray.extract x2.2.1 x2.1.toNat x2.2.2.1.toNat),(0:Int),(!(decide ((ByteArray.extract x2.2.1 x2.1.toNat x2.2.2.1.toNat)=(ByteArray.mk (List.toArray []))))),(0:Int),(0:Int),(ByteArray.extract x108.2.1 x108.1.toNat x108.2.2.1.toNat),(((ByteArray.size (ByteArray.extract x108.2.1 x108.1.toNat x108.2.2.1.toNat)):Nat):Int),(0:Int),x108.2.1,x108.2.2.1,())).bind fun x111=>
  (bif x111.2.2.2.1 then
  (bif(decide (x111.2.2.2.2.1=45))then
  (bif(!(decide (x111.2.2.2.2.2.2.1=(ByteArray.mk (List.toArray [])))))then
  some (x111.2.1,(IntKind.wrap .i64 (x111.2.2.1+(IntKind.wrap .i64 (0-x111.2.2.2.2.2.1)))),(decide (x111.2.2.2.2.2.2.2.2.2.2.1=(ByteArray.size x111.1:Int))))
 else
  some (x111.2.1,(IntKind.wrap .i64 (x111.2.2.1+(IntKind.wrap .i64 (0-x111.2.2.2.2.2.1)))),false))
 else
  (bif(!(decide (x111.2.2.2.2.2.2.1=(ByteArray.mk (List.toArray [])))))then
  some (x111.2.1,(IntKind.wrap .i64 (x111.2.2.1+x111.2.2.2.2.2.1)),(decide (x111.2.2.2.2.2.2.2.2.2.2.1=(ByteArray.size x111.1:Int))))
 else
  some (x111.2.1,(IntKind.wrap .i64 (x111.2.2.1+x111.2.2.2.2.2.1)),false)))
 else
  (bif(decide (x111.2.2.2.2.1=45))then
  some (x111.2.1,(IntKind.wrap .i64 (x111.2.2.1+(IntKind.wrap .i64 (0-x111.2.2.2.2.2.1)))),false)
 else
  some (x111.2.1,(IntKind.wrap .i64 (x111.2.2.1+x111.2.2.2.2.2.1)),false)))
 else none))
 else none)
 else
  (itP fu (jH) ((IntKind.wrap .i64 (x2.2.2.1+1)),x2.2.1,(IntKind.wrap .i64 (x2.2.2.1+1)),())).bind fun x114=>
  (bif(((decide (0≤x114.1))&&(decide (x114.1≤x114.2.2.1)))&&(decide (x114.2.2.1≤(ByteArray.size x114.2.1:Int))))then
  (itP fu (jZ) (s,(ByteArray.extract x2.2.1 x2.1.toNat x2.2.2.1.toNat),(0:Int),(!(decide ((ByteArray.extract x2.2.1 x2.1.toNat x2.2.2.1.toNat)=(ByteArray.mk (List.toArray []))))),(0:Int),(0:Int),(ByteArray.extract x114.2.1 x114.1.toNat x114.2.2.1.toNat),(((ByteArray.size (ByteArray.extract x114.2.1 x114.1.toNat x114.2.2.1.toNat)):Nat):Int),(0:Int),x114.2.1,x114.2.2.1,())).bind fun x117=>
  (bif x117.2.2.2.1 then
  (bif(decide (x117.2.2.2.2.1=45))then
  (bif(!(decide (x117.2.2.2.2.2.2.1=(ByteArray.mk (List.toArray [])))))then
  some (x117.2.1,(IntKind.wrap .i64 (x117.2.2.1+(IntKind.wrap .i64 (0-x117.2.2.2.2.2.1)))),(decide (x117.2.2.2.2.2.2.2.2.2.2.1=(ByteArray.size x117.1:Int))))
 else
  some (x117.2.1,(IntKind.wrap .i64 (x117.2.2.1+(IntKind.wrap .i64 (0-x117.2.2.2.2.2.1)))),false))
 else
  (bif(!(decide (x117.2.2.2.2.2.2.1=(ByteArray.mk (List.toArray [])))))then
  some (x117.2.1,(IntKind.wrap .i64 (x117.2.2.1+x117.2.2.2.2.2.1)),(decide (x117.2.2.2.2.2.2.2.2.2.2.1=(ByteArray.size x117.1:Int))))
 else
  some (x117.2.1,(IntKind.wrap .i64 (x117.2.2.1+x117.2.2.2.2.2.1)),false)))
 else
  (bif(decide (x117.2.2.2.2.1=45))then
  some (x117.2.1,(IntKind.wrap .i64 (x117.2.2.1+(IntKind.wrap .i64 (0-x117.2.2.2.2.2.1)))),false)
 else
  some (x117.2.1,(IntKind.wrap .i64 (x117.2.2.1+x117.2.2.2.2.2.1)),false)))
 else none))
 else
  (bif(!(decide ((ByteArray.extract x2.2.1 x2.1.toNat x2.2.2.1.toNat)=(ByteArray.mk (List.toArray [])))))then
  some ((ByteArray.extract x2.2.1 x2.1.toNat x2.2.2.1.toNat),(0:Int),(decide ((IntKind.wrap .i64 (x2.2.2.1+1))=(ByteArray.size s:Int))))
 else
  some ((ByteArray.extract x2.2.1 x2.1.toNat x2.2.2.1.toNat),(0:Int),false)))
 else none)
 else
  (bif(!(decide ((ByteArray.extract x2.2.1 x2.1.toNat x2.2.2.1.toNat)=(ByteArray.mk (List.toArray [])))))then
  some ((ByteArray.extract x2.2.1 x2.1.toNat x2.2.2.1.toNat),(0:Int),(decide (x2.2.2.1=(ByteArray.size s:Int))))
 else
  some ((ByteArray.extract x2.2.1 x2.1.toNat x2.2.2.1.toNat),(0:Int),false)))
 else none)
 else
  (bif(!(decide ((ByteArray.extract x2.2.1 x2.1.toNat x2.2.2.1.toNat)=(ByteArray.mk (List.toArray [])))))then
  some ((ByteArray.extract x2.2.1 x2.1.toNat x2.2.2.1.toNat),(0:Int),(decide (x2.2.2.1=(ByteArray.size s:Int))))
 else
  some ((ByteArray.extract x2.2.1 x2.1.toNat x2.2.2.1.toNat),(0:Int),false))))
 else none)
def rnL(S:List UInt8)(i:Nat):List UInt8:=(S.drop i).takeWhile isD
def rn(S:List UInt8)(i:Nat):Nat:=i+(rnL S i).length
theorem qbt{S:List UInt8}{i:Nat}{c:UInt8}(h:S[i]?=some c)(hc:isD c=true):rnL S i=c::rnL S (i+1):=by
 obtain⟨hi,e⟩:=zr.1 h
 unfold rnL;rw[zY hi,e,VL,hc];rfl
theorem qbu{S:List UInt8}{i:Nat}(h:∀c,S[i]?=some c→isD c=false):rnL S i=[]:=by
 unfold rnL;by_cases hi:i<S.length
 · rw[zY hi,VL,h _ (zt hi)];rfl
 · rw[Wy (by omega)];rfl
theorem Qr(S:List UInt8)(i:Nat):i≤rn S i:=by unfold rn;omega
theorem jQ{S:List UInt8}{i:Nat}(h:i≤S.length):rn S i≤S.length:=by
 have:(rnL S i).length≤(S.drop i).length:=WB (List.takeWhile_sublist _)
 rw[zV]at this;unfold rn;omega
theorem qP(S:List UInt8)(i:Nat):(bs S).extract i (rn S i)=bs (rnL S i):=by
 rw[yz]
 congr 1
 unfold rn;rw[Vk];have h:rnL S i <+: S.drop i:=List.takeWhile_prefix _
 exact(VX.1 h).symm
theorem qep(S:List UInt8)(i:Nat):∀c∈rnL S i,isD c=true:=fun c h=>by
 have:=List.all_takeWhile (p:=isD) (l:=S.drop i)
 exact Ke.1 this c h
theorem qxH{S:List UInt8}(hS:S.length≤1000000)(a:Int):∀(d i:Nat),i+d=S.length→yK (d+1) jH (a,bs S,(i:Int),()) (a,bs S,((rn S i:Nat):Int),()):=fun d=>by
 induction d with
 | zero=>
  intro i hi;have e:rn S i=i:=by unfold rn;rw[qbu fun c h=>by rw[z7 (by omega)]at h;cases h];rfl
  rw[e];refine yK.stop ?_
  unfold jH;simp only[qe];rw[zk (by omega)];rfl
 | succ d ih=>
  intro i hi;obtain⟨c,hc⟩:∃c,S[i]?=some c:=⟨_,zt (by omega)⟩
  have w:IntKind.i64.wrap ((i:Int)+1)=((i+1:Nat):Int):=by rw[w64 (by omega) (by omega)];omega
  cases hd:isD c with
  | true=>
   have e:rn S i=rn S (i+1):=by unfold rn;rw[qbt hc hd,zu];omega
   have hcc:=jY.1 hd;rw[e];refine yK.next ?_ (ih (i+1) (by omega))
   unfold jH;simp only[qe,zd,qq,hc,zh,w];rw[zb (by omega),zb (by omega),zb (by omega),zb (by omega)];rfl
  | false=>
   have e:rn S i=i:=by unfold rn;rw[qbu fun c' h=>by rw[hc]at h;cases h;exact hd];rfl
   have hcc : ¬(48≤c.toNat∧c.toNat≤57):=fun h=>by rw[jY.2 h]at hd;cases hd
   rw[e];refine(yK.stop (K:=d+1) ?_)
   unfold jH;simp only[qe,zd,qq,hc,zh];rw[zb (by omega),zb (by omega)];by_cases h1:48≤c.toNat
   · rw[zb (show(48:Int)≤((c.toNat:Nat):Int) by omega),zk (show¬((c.toNat:Nat):Int)≤57 by omega)];rfl
   · rw[zk (show¬(48:Int)≤((c.toNat:Nat):Int) by omega)];rfl
def exV(E:List UInt8):Nat:=E.foldl (fun p c=>min (p*10+(c.toNat-48)) 100000) 0
theorem qeq(E:List UInt8)(c:UInt8):exV (E++[c])=min (exV E*10+(c.toNat-48)) 100000:=by
 unfold exV;rw[List.foldl_append];rfl
theorem J5(E:List UInt8):exV E≤100000:=by
 rcases VP E with h | ⟨A,c,h⟩
 · subst h;decide
 · rw[h,VO,qeq];omega
abbrev P4:=ByteArray×(ByteArray×Int×Bool×Int×Int×ByteArray×Int×Int×ByteArray×Int×Unit)
abbrev p4(s D:ByteArray)(pw:Int)(ok:Bool)(sg p:Int)(E:List UInt8)(i:Nat)(rs:ByteArray)(ri:Int):P4:=(s,D,pw,ok,sg,p,bs E,((E.length:Nat):Int),(i:Int),rs,ri,())
theorem qxI{E:List UInt8}(hE:E.length≤1000000)(hD:∀c∈E,isD c=true)(s D:ByteArray)(pw:Int)(ok:Bool)(sg:Int)(rs:ByteArray)(ri:Int) :
 ∀(d:Nat) (A B:List UInt8),A++B=E→B.length=d→yK (d+1) jZ (p4 s D pw ok sg ((exV A:Nat):Int) E A.length rs ri) (p4 s D pw ok sg ((exV E:Nat):Int) E E.length rs ri):=fun d=>by
 induction d with
 | zero=>
  intro A B h hB;have:B=[]:=KK.1 hB
  subst this;rw[KH]at h;subst h;refine yK.stop ?_
  unfold jZ;simp only[p4];rw[zk (by omega)];rfl
 | succ d ih=>
  intro A B h hB;cases B with
  | nil=>cases hB
  | cons c B=>
   have hl:A.length+(B.length+1)=E.length:=by rw[← h];simp
   have hc:E[A.length]?=some c:=by rw[← h,z8 (zI _),VS];rfl
   have hcD:=jY.1 (hD c (by rw[← h];simp))
   have hx:=J5 A;have ih':=ih (A++[c]) B (by rw[zR];exact h) (by simpa using hB)
   rw[qeq,zq,VA]at ih';refine yK.next ?_ ih'
   have w:IntKind.i64.wrap (((A.length:Nat):Int)+1)=((A.length+1:Nat):Int):=by rw[w64 (by omega) (by omega)];omega
   have w1:IntKind.u8.wrap (((c.toNat:Nat):Int)-48)=((c.toNat-48:Nat):Int):=by
    rw[show(((c.toNat:Nat):Int)-48)=((c.toNat-48:Nat):Int) by omega];exact QD (by unfold inR;simp;exact⟨by show(0:Int)≤_;omega,by show _≤(255:Int);omega⟩)
   have w2:IntKind.i64.wrap (((exV A:Nat):Int)*10)=((exV A:Nat):Int)*10:=w64 (by omega) (by omega)
   have w3:IntKind.i64.wrap ((c.toNat-48:Nat):Int)=((c.toNat-48:Nat):Int):=w64 (by omega) (by omega)
   have w4:IntKind.i64.wrap (((exV A:Nat):Int)*10+((c.toNat-48:Nat):Int))=((exV A:Nat):Int)*10+((c.toNat-48:Nat):Int):=w64 (by omega) (by omega)
   have em:min (((exV A:Nat):Int)*10+((c.toNat-48:Nat):Int)) 100000=((min (exV A*10+(c.toNat-48)) 100000:Nat):Int):=by omega
   unfold jZ;simp only[p4,zd,qq,hc,zh,w,w1,w2,w3,w4,em];rw[zb (by omega),zb (by omega)];rfl
def ptA(S:List UInt8):List UInt8×Int×Bool×Nat :=
 if S[rn S 0]?=some 46 then(rnL S 0++rnL S (rn S 0+1),-((rnL S (rn S 0+1)).length:Int),decide (rnL S 0≠[])&&decide (rnL S (rn S 0+1)≠[]),rn S (rn S 0+1))
 else(rnL S 0,0,decide (rnL S 0≠[]),rn S 0)
def ptB(S:List UInt8)(a:List UInt8×Int×Bool×Nat):List UInt8×Int×Bool :=
 if S[a.2.2.2]?=some 101∨S[a.2.2.2]?=some 69 then
  let k:=if S[a.2.2.2+1]?=some 43∨S[a.2.2.2+1]?=some 45 then a.2.2.2+2 else a.2.2.2+1
  (a.1,a.2.1+(if S[a.2.2.2+1]?=some 45 then -((exV (rnL S k):Nat):Int)else((exV (rnL S k):Nat):Int)),a.2.2.1&&(decide (rnL S k≠[])&&decide (rn S k=S.length)))
 else(a.1,a.2.1,a.2.2.1&&decide (a.2.2.2=S.length))
def ptL(S:List UInt8):List UInt8×Int×Bool:=ptB S (ptA S)
theorem bdN{α:Type}(x:Bool)(a b:α):(bif !x then a else b)=bif x then b else a:=by cases x <;> rfl
theorem yw{S:List UInt8}{i:Nat}{c:UInt8}(h:S[i]?=some c):i<S.length:=by
 obtain⟨hi,_⟩:=zr.1 h;exact hi
theorem qxJ(S:List UInt8)(i:Nat)(l:List UInt8)(hz:∀c∈l,c.toNat≠0)(hl:∀c,0≤jb c l↔c∈l) :
 (S[i]?=none∧S.length≤i)∨(∃c,S[i]?=some c∧i<S.length∧¬0≤jb c l∧c ∉ l)∨(∃c,S[i]?=some c∧i<S.length∧0≤jb c l∧c∈l∧c.toNat≠0):=by
 cases h:S[i]? with
 | none=>exact .inl ⟨rfl,List.getElem?_eq_none_iff.1 h⟩
 | some c=>
  by_cases hc:c∈l
  · exact .inr (.inr ⟨c,rfl,yw h,(hl c).2 hc,hc,hz c hc⟩)
  · exact .inr (.inl ⟨c,rfl,yw h,fun e=>hc ((hl c).1 e),hc⟩)
theorem Zv(c:UInt8):∀l,0≤jb c l↔c∈l
 | []=>by simp[jb]
 | b::l=>by
  have ih:=Zv c l;have lo:=(ZT c l).1
  unfold jb;rw[zS];cases h:b == c with
  | true=>
   have:b=c:=by simpa using h
   simp[this]
  | false=>
   have hne : ¬c=b:=fun e=>by subst e;simp at h
   simp only[zm];by_cases h1:jb c l = -1
   · rw[zb h1,zg]
     constructor
     · intro h;omega
     · rintro(e | e)
       · exact absurd e hne
       · have:=ih.2 e;omega
   · rw[zk h1,zm]
     constructor
     · intro _;exact .inr (ih.1 (by omega))
     · intro _;omega
def qb7(s:ByteArray):Option (ByteArray×Int×Bool):=bif Nat.ble (lb s).length 1000000 then some (bs (ptL (lb s)).1,(ptL (lb s)).2.1,(ptL (lb s)).2.2)else none
theorem bTt{α:Type}(a b:α):(bif true then a else b)=a:=rfl
theorem bFf{α:Type}(a b:α):(bif false then a else b)=b:=rfl
theorem pR1{S:List UInt8}(hS:S.length≤1000000)(a:Int)(i:Nat)(hi:i≤S.length):itP 2000000 jH (a,bs S,(i:Int),())=some (a,bs S,((rn S i:Nat):Int),()) :=
 qxH hS a (S.length-i) i (by omega) _ (by omega)
theorem pR4{S:List UInt8}(hS:S.length≤1000000)(i:Nat)(D:ByteArray)(pw:Int)(ok:Bool)(sg:Int)(rs:ByteArray)(ri:Int)(hi:i≤S.length):itP 2000000 jZ (bs S,D,pw,ok,sg,(0:Int),bs (rnL S i),(((rnL S i).length:Nat):Int),(0:Int),rs,ri,())=some (bs S,D,pw,ok,sg,((exV (rnL S i):Nat):Int),bs (rnL S i),(((rnL S i).length:Nat):Int),(((rnL S i).length:Nat):Int),rs,ri,()) :=by
 have hE:=jQ hi;unfold rn at hE;exact qxI (E:=rnL S i) (by omega) (qep S i) (bs S) D pw ok sg rs ri (rnL S i).length [] (rnL S i) rfl rfl _ (by omega)
theorem pW{S:List UInt8}(hS:S.length≤1000000)(i:Nat)(hi:i≤S.length):IntKind.i64.wrap ((i:Int)+1)=((i+1:Nat):Int):=by rw[w64 (by omega) (by omega)];omega
theorem pV{S:List UInt8}(hS:S.length≤1000000)(i:Nat)(hi:i≤S.length):IntKind.i64.wrap (((i+1:Nat):Int)-1)=(i:Int):=by rw[w64 (by omega) (by omega)];omega
theorem pZ(n:Nat)(h:n≤2000000):IntKind.i64.wrap (0-(n:Int)) = -(n:Int):=by rw[w64 (by omega) (by omega)];omega
theorem pUw(z:Int)(h1 : -10000000≤z)(h2:z≤10000000):IntKind.i64.wrap z=z:=w64 (by omega) (by omega)
theorem pB0{S:List UInt8}(hS:S.length≤1000000)(i:Nat)(hi:i≤S.length):(rnL S i).length≤1000000:=by have:=jQ hi;unfold rn at this;omega
set_option maxHeartbeats 2000000 in
theorem qzQ{S:List UInt8}(hS:S.length≤1000000)(k1:S[rn S 0]?=none)(k2:S.length≤rn S 0) :
 QJ 2000000 (bs S)=some (bs (rnL S 0),0,decide (rnL S 0≠[])&&decide (rn S 0=S.length)):=by
 have j0:=jQ (S:=S) (i:=0) (by omega)
 have q0:=pB0 hS 0 (by omega)
 unfold QJ;refine obs (pR1 hS 0 0 (by omega)) ?_
 simp only[qe,zd,Vs,qq,qC,qU,zy];have e0:(bs S).extract 0 (rn S 0)=bs (rnL S 0):=qP S 0
 simp only[e0,qr];rcases KG (rnL S 0=[])with hD | hD
 all_goals repeat' first
  | refine(bdA _ _ _ _).trans ?_
  | refine(bdN _ _ _).trans ?_
  | refine(bdT (by omega) _ _).trans ?_
  | refine(bdF (by omega) _ _).trans ?_
  | refine(bdT (by assumption) _ _).trans ?_
  | refine(bdF (by assumption) _ _).trans ?_
  | (refine obs (by assumption) ?_;try simp (disch:=omega) only[pW hS,pV hS,pZ,qe,zd,qq,qC,qU,zy,qP,qM,qr])
  | (refine obs (pR1 hS _ _ (by omega)) ?_;try simp (disch:=omega) only[pW hS,pV hS,pZ,qe,zd,qq,qC,qU,zy,qP,qM,qr])
  | (refine obs (pR4 hS _ _ _ _ _ _ _ (by omega)) ?_;try simp (disch:=omega) only[pW hS,pV hS,pZ,qe,zd,qq,qC,qU,zy,qP,qM,qr])
  | refine(bdB (by(try simp only[qe]);omega) _ _).trans ?_
  | refine(bTt _ _).trans ?_
  | refine(bFf _ _).trans ?_
  | fail
 all_goals (try simp (disch:=omega) only[pUw,Qa,qr])
 all_goals (try simp[hD])
set_option maxHeartbeats 2000000 in
theorem qzR{S:List UInt8}(hS:S.length≤1000000)(d:UInt8)(g3 : ¬0≤jb d [46])(k1:S[rn S 0]?=some d)(k3 : ¬0≤jb d [101,69]) :
 QJ 2000000 (bs S)=some (bs (rnL S 0),0,decide (rnL S 0≠[])&&decide (rn S 0=S.length)):=by
 have j0:=jQ (S:=S) (i:=0) (by omega)
 have q0:=pB0 hS 0 (by omega)
 have kl:=yw k1;unfold QJ;refine obs (pR1 hS 0 0 (by omega)) ?_
 simp only[qe,zd,Vs,qq,qC,qU,zy];have e0:(bs S).extract 0 (rn S 0)=bs (rnL S 0):=qP S 0
 simp only[e0,qr];rcases KG (rnL S 0=[])with hD | hD
 all_goals repeat' first
  | refine(bdA _ _ _ _).trans ?_
  | refine(bdN _ _ _).trans ?_
  | refine(bdT (by omega) _ _).trans ?_
  | refine(bdF (by omega) _ _).trans ?_
  | refine(bdT (by assumption) _ _).trans ?_
  | refine(bdF (by assumption) _ _).trans ?_
  | (refine obs (by assumption) ?_;try simp (disch:=omega) only[pW hS,pV hS,pZ,qe,zd,qq,qC,qU,zy,qP,qM,qr])
  | (refine obs (pR1 hS _ _ (by omega)) ?_;try simp (disch:=omega) only[pW hS,pV hS,pZ,qe,zd,qq,qC,qU,zy,qP,qM,qr])
  | (refine obs (pR4 hS _ _ _ _ _ _ _ (by omega)) ?_;try simp (disch:=omega) only[pW hS,pV hS,pZ,qe,zd,qq,qC,qU,zy,qP,qM,qr])
  | refine(bdB (by(try simp only[qe]);omega) _ _).trans ?_
  | refine(bTt _ _).trans ?_
  | refine(bFf _ _).trans ?_
  | fail
 all_goals (try simp (disch:=omega) only[pUw,Qa,qr])
 all_goals (try simp[hD])
set_option maxHeartbeats 2000000 in
theorem qzS{S:List UInt8}(hS:S.length≤1000000)(d:UInt8)(g3 : ¬0≤jb d [46])(k1:S[rn S 0]?=some d)(k3:0≤jb d [101,69])(k4 : ¬((d.toNat:Nat):Int)=0)(m1:S[rn S 0+1]?=none)(m2:S.length≤rn S 0+1) :
 QJ 2000000 (bs S)=some (bs (rnL S 0),0+((exV (rnL S (rn S 0+1)):Nat):Int),decide (rnL S 0≠[])&&(decide (rnL S (rn S 0+1)≠[])&&decide (rn S (rn S 0+1)=S.length))):=by
 have j0:=jQ (S:=S) (i:=0) (by omega)
 have q0:=pB0 hS 0 (by omega)
 have kl:=yw k1;have z1:=jQ (S:=S) (i:=(rn S 0+1)) (by omega)
 have z2:=J5 (rnL S (rn S 0+1))
 have z3:=Qr S (rn S 0+1)
 unfold QJ;refine obs (pR1 hS 0 0 (by omega)) ?_
 simp only[qe,zd,Vs,qq,qC,qU,zy];have e0:(bs S).extract 0 (rn S 0)=bs (rnL S 0):=qP S 0
 simp only[e0,qr];rcases KG (rnL S 0=[])with hD | hD
 all_goals rcases KG (rnL S (rn S 0+1)=[])with hE | hE
 all_goals have hE2:=hE
 all_goals rw[← yJ]at hE2
 all_goals repeat' first
  | refine(bdA _ _ _ _).trans ?_
  | refine(bdN _ _ _).trans ?_
  | refine(bdT (by omega) _ _).trans ?_
  | refine(bdF (by omega) _ _).trans ?_
  | refine(bdT (by assumption) _ _).trans ?_
  | refine(bdF (by assumption) _ _).trans ?_
  | (refine obs (by assumption) ?_;try simp (disch:=omega) only[pW hS,pV hS,pZ,qe,zd,qq,qC,qU,zy,qP,qM,qr])
  | (refine obs (pR1 hS _ _ (by omega)) ?_;try simp (disch:=omega) only[pW hS,pV hS,pZ,qe,zd,qq,qC,qU,zy,qP,qM,qr])
  | (refine obs (pR4 hS _ _ _ _ _ _ _ (by omega)) ?_;try simp (disch:=omega) only[pW hS,pV hS,pZ,qe,zd,qq,qC,qU,zy,qP,qM,qr])
  | refine(bdB (by(try simp only[qe]);omega) _ _).trans ?_
  | refine(bTt _ _).trans ?_
  | refine(bFf _ _).trans ?_
  | fail
 all_goals (try simp (disch:=omega) only[pUw,Qa,qr])
 all_goals (try simp[hD,hE])
set_option maxHeartbeats 2000000 in
theorem qzT{S:List UInt8}(hS:S.length≤1000000)(d e:UInt8)(g3 : ¬0≤jb d [46])(k1:S[rn S 0]?=some d)(k3:0≤jb d [101,69])(k4 : ¬((d.toNat:Nat):Int)=0)(m1:S[rn S 0+1]?=some e)(m3 : ¬0≤jb e [43,45]) :
 QJ 2000000 (bs S)=some (bs (rnL S 0),0+((exV (rnL S (rn S 0+1)):Nat):Int),decide (rnL S 0≠[])&&(decide (rnL S (rn S 0+1)≠[])&&decide (rn S (rn S 0+1)=S.length))):=by
 have j0:=jQ (S:=S) (i:=0) (by omega)
 have q0:=pB0 hS 0 (by omega)
 have kl:=yw k1;have ml:=yw m1;have z1:=jQ (S:=S) (i:=(rn S 0+1)) (by omega)
 have z2:=J5 (rnL S (rn S 0+1))
 have z3:=Qr S (rn S 0+1)
 unfold QJ;refine obs (pR1 hS 0 0 (by omega)) ?_
 simp only[qe,zd,Vs,qq,qC,qU,zy];have e0:(bs S).extract 0 (rn S 0)=bs (rnL S 0):=qP S 0
 simp only[e0,qr];rcases KG (rnL S 0=[])with hD | hD
 all_goals rcases KG (rnL S (rn S 0+1)=[])with hE | hE
 all_goals have hE2:=hE
 all_goals rw[← yJ]at hE2
 all_goals repeat' first
  | refine(bdA _ _ _ _).trans ?_
  | refine(bdN _ _ _).trans ?_
  | refine(bdT (by omega) _ _).trans ?_
  | refine(bdF (by omega) _ _).trans ?_
  | refine(bdT (by assumption) _ _).trans ?_
  | refine(bdF (by assumption) _ _).trans ?_
  | (refine obs (by assumption) ?_;try simp (disch:=omega) only[pW hS,pV hS,pZ,qe,zd,qq,qC,qU,zy,qP,qM,qr])
  | (refine obs (pR1 hS _ _ (by omega)) ?_;try simp (disch:=omega) only[pW hS,pV hS,pZ,qe,zd,qq,qC,qU,zy,qP,qM,qr])
  | (refine obs (pR4 hS _ _ _ _ _ _ _ (by omega)) ?_;try simp (disch:=omega) only[pW hS,pV hS,pZ,qe,zd,qq,qC,qU,zy,qP,qM,qr])
  | refine(bdB (by(try simp only[qe]);omega) _ _).trans ?_
  | refine(bTt _ _).trans ?_
  | refine(bFf _ _).trans ?_
  | fail
 all_goals (try simp (disch:=omega) only[pUw,Qa,qr])
 all_goals (try simp[hD,hE])
set_option maxHeartbeats 2000000 in
theorem qzU{S:List UInt8}(hS:S.length≤1000000)(d e:UInt8)(g3 : ¬0≤jb d [46])(k1:S[rn S 0]?=some d)(k3:0≤jb d [101,69])(k4 : ¬((d.toNat:Nat):Int)=0)(m1:S[rn S 0+1]?=some e)(m3:0≤jb e [43,45])(m4:((e.toNat:Nat):Int)=45) :
 QJ 2000000 (bs S)=some (bs (rnL S 0),0+-((exV (rnL S (rn S 0+1+1)):Nat):Int),decide (rnL S 0≠[])&&(decide (rnL S (rn S 0+1+1)≠[])&&decide (rn S (rn S 0+1+1)=S.length))):=by
 have j0:=jQ (S:=S) (i:=0) (by omega)
 have q0:=pB0 hS 0 (by omega)
 have kl:=yw k1;have ml:=yw m1;have z1:=jQ (S:=S) (i:=(rn S 0+1+1)) (by omega)
 have z2:=J5 (rnL S (rn S 0+1+1))
 have z3:=Qr S (rn S 0+1+1)
 unfold QJ;refine obs (pR1 hS 0 0 (by omega)) ?_
 simp only[qe,zd,Vs,qq,qC,qU,zy];have e0:(bs S).extract 0 (rn S 0)=bs (rnL S 0):=qP S 0
 simp only[e0,qr];rcases KG (rnL S 0=[])with hD | hD
 all_goals rcases KG (rnL S (rn S 0+1+1)=[])with hE | hE
 all_goals have hE2:=hE
 all_goals rw[← yJ]at hE2
 all_goals repeat' first
  | refine(bdA _ _ _ _).trans ?_
  | refine(bdN _ _ _).trans ?_
  | refine(bdT (by omega) _ _).trans ?_
  | refine(bdF (by omega) _ _).trans ?_
  | refine(bdT (by assumption) _ _).trans ?_
  | refine(bdF (by assumption) _ _).trans ?_
  | (refine obs (by assumption) ?_;try simp (disch:=omega) only[pW hS,pV hS,pZ,qe,zd,qq,qC,qU,zy,qP,qM,qr])
  | (refine obs (pR1 hS _ _ (by omega)) ?_;try simp (disch:=omega) only[pW hS,pV hS,pZ,qe,zd,qq,qC,qU,zy,qP,qM,qr])
  | (refine obs (pR4 hS _ _ _ _ _ _ _ (by omega)) ?_;try simp (disch:=omega) only[pW hS,pV hS,pZ,qe,zd,qq,qC,qU,zy,qP,qM,qr])
  | refine(bdB (by(try simp only[qe]);omega) _ _).trans ?_
  | refine(bTt _ _).trans ?_
  | refine(bFf _ _).trans ?_
  | fail
 all_goals (try simp (disch:=omega) only[pUw,Qa,qr])
 all_goals (try simp[hD,hE])
set_option maxHeartbeats 2000000 in
theorem qzV{S:List UInt8}(hS:S.length≤1000000)(d e:UInt8)(g3 : ¬0≤jb d [46])(k1:S[rn S 0]?=some d)(k3:0≤jb d [101,69])(k4 : ¬((d.toNat:Nat):Int)=0)(m1:S[rn S 0+1]?=some e)(m3:0≤jb e [43,45])(m4 : ¬((e.toNat:Nat):Int)=45) :
 QJ 2000000 (bs S)=some (bs (rnL S 0),0+((exV (rnL S (rn S 0+1+1)):Nat):Int),decide (rnL S 0≠[])&&(decide (rnL S (rn S 0+1+1)≠[])&&decide (rn S (rn S 0+1+1)=S.length))):=by
 have j0:=jQ (S:=S) (i:=0) (by omega)
 have q0:=pB0 hS 0 (by omega)
 have kl:=yw k1;have ml:=yw m1;have z1:=jQ (S:=S) (i:=(rn S 0+1+1)) (by omega)
 have z2:=J5 (rnL S (rn S 0+1+1))
 have z3:=Qr S (rn S 0+1+1)
 unfold QJ;refine obs (pR1 hS 0 0 (by omega)) ?_
 simp only[qe,zd,Vs,qq,qC,qU,zy];have e0:(bs S).extract 0 (rn S 0)=bs (rnL S 0):=qP S 0
 simp only[e0,qr];rcases KG (rnL S 0=[])with hD | hD
 all_goals rcases KG (rnL S (rn S 0+1+1)=[])with hE | hE
 all_goals have hE2:=hE
 all_goals rw[← yJ]at hE2
 all_goals repeat' first
  | refine(bdA _ _ _ _).trans ?_
  | refine(bdN _ _ _).trans ?_
  | refine(bdT (by omega) _ _).trans ?_
  | refine(bdF (by omega) _ _).trans ?_
  | refine(bdT (by assumption) _ _).trans ?_
  | refine(bdF (by assumption) _ _).trans ?_
  | (refine obs (by assumption) ?_;try simp (disch:=omega) only[pW hS,pV hS,pZ,qe,zd,qq,qC,qU,zy,qP,qM,qr])
  | (refine obs (pR1 hS _ _ (by omega)) ?_;try simp (disch:=omega) only[pW hS,pV hS,pZ,qe,zd,qq,qC,qU,zy,qP,qM,qr])
  | (refine obs (pR4 hS _ _ _ _ _ _ _ (by omega)) ?_;try simp (disch:=omega) only[pW hS,pV hS,pZ,qe,zd,qq,qC,qU,zy,qP,qM,qr])
  | refine(bdB (by(try simp only[qe]);omega) _ _).trans ?_
  | refine(bTt _ _).trans ?_
  | refine(bFf _ _).trans ?_
  | fail
 all_goals (try simp (disch:=omega) only[pUw,Qa,qr])
 all_goals (try simp[hD,hE])
set_option maxHeartbeats 2000000 in
theorem qzW{S:List UInt8}(hS:S.length≤1000000)(c:UInt8)(g1:S[rn S 0]?=some c)(g3:0≤jb c [46])(g5 : ¬((c.toNat:Nat):Int)=0)(k1:S[rn S (rn S 0+1)]?=none)(k2:S.length≤rn S (rn S 0+1)) :
 QJ 2000000 (bs S)=some (bs (rnL S 0++rnL S (rn S 0+1)),-(((rnL S (rn S 0+1)).length:Nat):Int),(decide (rnL S 0≠[])&&decide (rnL S (rn S 0+1)≠[]))&&decide (rn S (rn S 0+1)=S.length)):=by
 have j0:=jQ (S:=S) (i:=0) (by omega)
 have q0:=pB0 hS 0 (by omega)
 have gl:=yw g1;have j1:=jQ (S:=S) (i:=rn S 0+1) (by omega)
 have j2:=Qr S (rn S 0+1)
 have q1:=pB0 hS (rn S 0+1) (by omega)
 unfold QJ;refine obs (pR1 hS 0 0 (by omega)) ?_
 simp only[qe,zd,Vs,qq,qC,qU,zy];have e0:(bs S).extract 0 (rn S 0)=bs (rnL S 0):=qP S 0
 simp only[e0,qr];rcases KG (rnL S 0=[])with hD | hD
 all_goals rcases KG (rnL S (rn S 0+1)=[])with hB | hB
 all_goals have hB2:=hB
 all_goals rw[← yJ]at hB2
 all_goals repeat' first
  | refine(bdA _ _ _ _).trans ?_
  | refine(bdN _ _ _).trans ?_
  | refine(bdT (by omega) _ _).trans ?_
  | refine(bdF (by omega) _ _).trans ?_
  | refine(bdT (by assumption) _ _).trans ?_
  | refine(bdF (by assumption) _ _).trans ?_
  | (refine obs (by assumption) ?_;try simp (disch:=omega) only[pW hS,pV hS,pZ,qe,zd,qq,qC,qU,zy,qP,qM,qr])
  | (refine obs (pR1 hS _ _ (by omega)) ?_;try simp (disch:=omega) only[pW hS,pV hS,pZ,qe,zd,qq,qC,qU,zy,qP,qM,qr])
  | (refine obs (pR4 hS _ _ _ _ _ _ _ (by omega)) ?_;try simp (disch:=omega) only[pW hS,pV hS,pZ,qe,zd,qq,qC,qU,zy,qP,qM,qr])
  | refine(bdB (by(try simp only[qe]);omega) _ _).trans ?_
  | refine(bTt _ _).trans ?_
  | refine(bFf _ _).trans ?_
  | fail
 all_goals (try simp (disch:=omega) only[pUw,Qa,qr])
 all_goals (try simp[hD,hB])
set_option maxHeartbeats 2000000 in
theorem qzX{S:List UInt8}(hS:S.length≤1000000)(c:UInt8)(g1:S[rn S 0]?=some c)(g3:0≤jb c [46])(g5 : ¬((c.toNat:Nat):Int)=0)(d:UInt8)(k1:S[rn S (rn S 0+1)]?=some d)(k3 : ¬0≤jb d [101,69]) :
 QJ 2000000 (bs S)=some (bs (rnL S 0++rnL S (rn S 0+1)),-(((rnL S (rn S 0+1)).length:Nat):Int),(decide (rnL S 0≠[])&&decide (rnL S (rn S 0+1)≠[]))&&decide (rn S (rn S 0+1)=S.length)):=by
 have j0:=jQ (S:=S) (i:=0) (by omega)
 have q0:=pB0 hS 0 (by omega)
 have gl:=yw g1;have j1:=jQ (S:=S) (i:=rn S 0+1) (by omega)
 have j2:=Qr S (rn S 0+1)
 have q1:=pB0 hS (rn S 0+1) (by omega)
 have kl:=yw k1;unfold QJ;refine obs (pR1 hS 0 0 (by omega)) ?_
 simp only[qe,zd,Vs,qq,qC,qU,zy];have e0:(bs S).extract 0 (rn S 0)=bs (rnL S 0):=qP S 0
 simp only[e0,qr];rcases KG (rnL S 0=[])with hD | hD
 all_goals rcases KG (rnL S (rn S 0+1)=[])with hB | hB
 all_goals have hB2:=hB
 all_goals rw[← yJ]at hB2
 all_goals repeat' first
  | refine(bdA _ _ _ _).trans ?_
  | refine(bdN _ _ _).trans ?_
  | refine(bdT (by omega) _ _).trans ?_
  | refine(bdF (by omega) _ _).trans ?_
  | refine(bdT (by assumption) _ _).trans ?_
  | refine(bdF (by assumption) _ _).trans ?_
  | (refine obs (by assumption) ?_;try simp (disch:=omega) only[pW hS,pV hS,pZ,qe,zd,qq,qC,qU,zy,qP,qM,qr])
  | (refine obs (pR1 hS _ _ (by omega)) ?_;try simp (disch:=omega) only[pW hS,pV hS,pZ,qe,zd,qq,qC,qU,zy,qP,qM,qr])
  | (refine obs (pR4 hS _ _ _ _ _ _ _ (by omega)) ?_;try simp (disch:=omega) only[pW hS,pV hS,pZ,qe,zd,qq,qC,qU,zy,qP,qM,qr])
  | refine(bdB (by(try simp only[qe]);omega) _ _).trans ?_
  | refine(bTt _ _).trans ?_
  | refine(bFf _ _).trans ?_
  | fail
 all_goals (try simp (disch:=omega) only[pUw,Qa,qr])
 all_goals (try simp[hD,hB])
set_option maxHeartbeats 2000000 in
theorem qzY{S:List UInt8}(hS:S.length≤1000000)(c:UInt8)(g1:S[rn S 0]?=some c)(g3:0≤jb c [46])(g5 : ¬((c.toNat:Nat):Int)=0)(d:UInt8)(k1:S[rn S (rn S 0+1)]?=some d)(k3:0≤jb d [101,69])(k4 : ¬((d.toNat:Nat):Int)=0)(m1:S[rn S (rn S 0+1)+1]?=none)(m2:S.length≤rn S (rn S 0+1)+1) :
 QJ 2000000 (bs S)=some (bs (rnL S 0++rnL S (rn S 0+1)),-(((rnL S (rn S 0+1)).length:Nat):Int)+((exV (rnL S (rn S (rn S 0+1)+1)):Nat):Int),(decide (rnL S 0≠[])&&decide (rnL S (rn S 0+1)≠[]))&&(decide (rnL S (rn S (rn S 0+1)+1)≠[])&&decide (rn S (rn S (rn S 0+1)+1)=S.length))):=by
 have j0:=jQ (S:=S) (i:=0) (by omega)
 have q0:=pB0 hS 0 (by omega)
 have gl:=yw g1;have j1:=jQ (S:=S) (i:=rn S 0+1) (by omega)
 have j2:=Qr S (rn S 0+1)
 have q1:=pB0 hS (rn S 0+1) (by omega)
 have kl:=yw k1;have z1:=jQ (S:=S) (i:=(rn S (rn S 0+1)+1)) (by omega)
 have z2:=J5 (rnL S (rn S (rn S 0+1)+1))
 have z3:=Qr S (rn S (rn S 0+1)+1)
 unfold QJ;refine obs (pR1 hS 0 0 (by omega)) ?_
 simp only[qe,zd,Vs,qq,qC,qU,zy];have e0:(bs S).extract 0 (rn S 0)=bs (rnL S 0):=qP S 0
 simp only[e0,qr];rcases KG (rnL S 0=[])with hD | hD
 all_goals rcases KG (rnL S (rn S 0+1)=[])with hB | hB
 all_goals have hB2:=hB
 all_goals rw[← yJ]at hB2
 all_goals rcases KG (rnL S (rn S (rn S 0+1)+1)=[])with hE | hE
 all_goals have hE2:=hE
 all_goals rw[← yJ]at hE2
 all_goals repeat' first
  | refine(bdA _ _ _ _).trans ?_
  | refine(bdN _ _ _).trans ?_
  | refine(bdT (by omega) _ _).trans ?_
  | refine(bdF (by omega) _ _).trans ?_
  | refine(bdT (by assumption) _ _).trans ?_
  | refine(bdF (by assumption) _ _).trans ?_
  | (refine obs (by assumption) ?_;try simp (disch:=omega) only[pW hS,pV hS,pZ,qe,zd,qq,qC,qU,zy,qP,qM,qr])
  | (refine obs (pR1 hS _ _ (by omega)) ?_;try simp (disch:=omega) only[pW hS,pV hS,pZ,qe,zd,qq,qC,qU,zy,qP,qM,qr])
  | (refine obs (pR4 hS _ _ _ _ _ _ _ (by omega)) ?_;try simp (disch:=omega) only[pW hS,pV hS,pZ,qe,zd,qq,qC,qU,zy,qP,qM,qr])
  | refine(bdB (by(try simp only[qe]);omega) _ _).trans ?_
  | refine(bTt _ _).trans ?_
  | refine(bFf _ _).trans ?_
  | fail
 all_goals (try simp (disch:=omega) only[pUw,Qa,qr])
 all_goals (try simp[hD,hB,hE])
set_option maxHeartbeats 2000000 in
theorem qzZ{S:List UInt8}(hS:S.length≤1000000)(c:UInt8)(g1:S[rn S 0]?=some c)(g3:0≤jb c [46])(g5 : ¬((c.toNat:Nat):Int)=0)(d e:UInt8)(k1:S[rn S (rn S 0+1)]?=some d)(k3:0≤jb d [101,69])(k4 : ¬((d.toNat:Nat):Int)=0)(m1:S[rn S (rn S 0+1)+1]?=some e)(m3 : ¬0≤jb e [43,45]) :
 QJ 2000000 (bs S)=some (bs (rnL S 0++rnL S (rn S 0+1)),-(((rnL S (rn S 0+1)).length:Nat):Int)+((exV (rnL S (rn S (rn S 0+1)+1)):Nat):Int),(decide (rnL S 0≠[])&&decide (rnL S (rn S 0+1)≠[]))&&(decide (rnL S (rn S (rn S 0+1)+1)≠[])&&decide (rn S (rn S (rn S 0+1)+1)=S.length))):=by
 have j0:=jQ (S:=S) (i:=0) (by omega)
 have q0:=pB0 hS 0 (by omega)
 have gl:=yw g1;have j1:=jQ (S:=S) (i:=rn S 0+1) (by omega)
 have j2:=Qr S (rn S 0+1)
 have q1:=pB0 hS (rn S 0+1) (by omega)
 have kl:=yw k1;have ml:=yw m1;have z1:=jQ (S:=S) (i:=(rn S (rn S 0+1)+1)) (by omega)
 have z2:=J5 (rnL S (rn S (rn S 0+1)+1))
 have z3:=Qr S (rn S (rn S 0+1)+1)
 unfold QJ;refine obs (pR1 hS 0 0 (by omega)) ?_
 simp only[qe,zd,Vs,qq,qC,qU,zy];have e0:(bs S).extract 0 (rn S 0)=bs (rnL S 0):=qP S 0
 simp only[e0,qr];rcases KG (rnL S 0=[])with hD | hD
 all_goals rcases KG (rnL S (rn S 0+1)=[])with hB | hB
 all_goals have hB2:=hB
 all_goals rw[← yJ]at hB2
 all_goals rcases KG (rnL S (rn S (rn S 0+1)+1)=[])with hE | hE
 all_goals have hE2:=hE
 all_goals rw[← yJ]at hE2
 all_goals repeat' first
  | refine(bdA _ _ _ _).trans ?_
  | refine(bdN _ _ _).trans ?_
  | refine(bdT (by omega) _ _).trans ?_
  | refine(bdF (by omega) _ _).trans ?_
  | refine(bdT (by assumption) _ _).trans ?_
  | refine(bdF (by assumption) _ _).trans ?_
  | (refine obs (by assumption) ?_;try simp (disch:=omega) only[pW hS,pV hS,pZ,qe,zd,qq,qC,qU,zy,qP,qM,qr])
  | (refine obs (pR1 hS _ _ (by omega)) ?_;try simp (disch:=omega) only[pW hS,pV hS,pZ,qe,zd,qq,qC,qU,zy,qP,qM,qr])
  | (refine obs (pR4 hS _ _ _ _ _ _ _ (by omega)) ?_;try simp (disch:=omega) only[pW hS,pV hS,pZ,qe,zd,qq,qC,qU,zy,qP,qM,qr])
  | refine(bdB (by(try simp only[qe]);omega) _ _).trans ?_
  | refine(bTt _ _).trans ?_
  | refine(bFf _ _).trans ?_
  | fail
 all_goals (try simp (disch:=omega) only[pUw,Qa,qr])
 all_goals (try simp[hD,hB,hE])
set_option maxHeartbeats 2000000 in
theorem qz0{S:List UInt8}(hS:S.length≤1000000)(c:UInt8)(g1:S[rn S 0]?=some c)(g3:0≤jb c [46])(g5 : ¬((c.toNat:Nat):Int)=0)(d e:UInt8)(k1:S[rn S (rn S 0+1)]?=some d)(k3:0≤jb d [101,69])(k4 : ¬((d.toNat:Nat):Int)=0)(m1:S[rn S (rn S 0+1)+1]?=some e)(m3:0≤jb e [43,45])(m4:((e.toNat:Nat):Int)=45) :
 QJ 2000000 (bs S)=some (bs (rnL S 0++rnL S (rn S 0+1)),-(((rnL S (rn S 0+1)).length:Nat):Int)+-((exV (rnL S (rn S (rn S 0+1)+1+1)):Nat):Int),(decide (rnL S 0≠[])&&decide (rnL S (rn S 0+1)≠[]))&&(decide (rnL S (rn S (rn S 0+1)+1+1)≠[])&&decide (rn S (rn S (rn S 0+1)+1+1)=S.length))):=by
 have j0:=jQ (S:=S) (i:=0) (by omega)
 have q0:=pB0 hS 0 (by omega)
 have gl:=yw g1;have j1:=jQ (S:=S) (i:=rn S 0+1) (by omega)
 have j2:=Qr S (rn S 0+1)
 have q1:=pB0 hS (rn S 0+1) (by omega)
 have kl:=yw k1;have ml:=yw m1;have z1:=jQ (S:=S) (i:=(rn S (rn S 0+1)+1+1)) (by omega)
 have z2:=J5 (rnL S (rn S (rn S 0+1)+1+1))
 have z3:=Qr S (rn S (rn S 0+1)+1+1)
 unfold QJ;refine obs (pR1 hS 0 0 (by omega)) ?_
 simp only[qe,zd,Vs,qq,qC,qU,zy];have e0:(bs S).extract 0 (rn S 0)=bs (rnL S 0):=qP S 0
 simp only[e0,qr];rcases KG (rnL S 0=[])with hD | hD
 all_goals rcases KG (rnL S (rn S 0+1)=[])with hB | hB
 all_goals have hB2:=hB
 all_goals rw[← yJ]at hB2
 all_goals rcases KG (rnL S (rn S (rn S 0+1)+1+1)=[])with hE | hE
 all_goals have hE2:=hE
 all_goals rw[← yJ]at hE2
 all_goals repeat' first
  | refine(bdA _ _ _ _).trans ?_
  | refine(bdN _ _ _).trans ?_
  | refine(bdT (by omega) _ _).trans ?_
  | refine(bdF (by omega) _ _).trans ?_
  | refine(bdT (by assumption) _ _).trans ?_
  | refine(bdF (by assumption) _ _).trans ?_
  | (refine obs (by assumption) ?_;try simp (disch:=omega) only[pW hS,pV hS,pZ,qe,zd,qq,qC,qU,zy,qP,qM,qr])
  | (refine obs (pR1 hS _ _ (by omega)) ?_;try simp (disch:=omega) only[pW hS,pV hS,pZ,qe,zd,qq,qC,qU,zy,qP,qM,qr])
  | (refine obs (pR4 hS _ _ _ _ _ _ _ (by omega)) ?_;try simp (disch:=omega) only[pW hS,pV hS,pZ,qe,zd,qq,qC,qU,zy,qP,qM,qr])
  | refine(bdB (by(try simp only[qe]);omega) _ _).trans ?_
  | refine(bTt _ _).trans ?_
  | refine(bFf _ _).trans ?_
  | fail
 all_goals (try simp (disch:=omega) only[pUw,Qa,qr])
 all_goals (try simp[hD,hB,hE])
set_option maxHeartbeats 2000000 in
theorem qz1{S:List UInt8}(hS:S.length≤1000000)(c:UInt8)(g1:S[rn S 0]?=some c)(g3:0≤jb c [46])(g5 : ¬((c.toNat:Nat):Int)=0)(d e:UInt8)(k1:S[rn S (rn S 0+1)]?=some d)(k3:0≤jb d [101,69])(k4 : ¬((d.toNat:Nat):Int)=0)(m1:S[rn S (rn S 0+1)+1]?=some e)(m3:0≤jb e [43,45])(m4 : ¬((e.toNat:Nat):Int)=45) :
 QJ 2000000 (bs S)=some (bs (rnL S 0++rnL S (rn S 0+1)),-(((rnL S (rn S 0+1)).length:Nat):Int)+((exV (rnL S (rn S (rn S 0+1)+1+1)):Nat):Int),(decide (rnL S 0≠[])&&decide (rnL S (rn S 0+1)≠[]))&&(decide (rnL S (rn S (rn S 0+1)+1+1)≠[])&&decide (rn S (rn S (rn S 0+1)+1+1)=S.length))):=by
 have j0:=jQ (S:=S) (i:=0) (by omega)
 have q0:=pB0 hS 0 (by omega)
 have gl:=yw g1;have j1:=jQ (S:=S) (i:=rn S 0+1) (by omega)
 have j2:=Qr S (rn S 0+1)
 have q1:=pB0 hS (rn S 0+1) (by omega)
 have kl:=yw k1;have ml:=yw m1;have z1:=jQ (S:=S) (i:=(rn S (rn S 0+1)+1+1)) (by omega)
 have z2:=J5 (rnL S (rn S (rn S 0+1)+1+1))
 have z3:=Qr S (rn S (rn S 0+1)+1+1)
 unfold QJ;refine obs (pR1 hS 0 0 (by omega)) ?_
 simp only[qe,zd,Vs,qq,qC,qU,zy];have e0:(bs S).extract 0 (rn S 0)=bs (rnL S 0):=qP S 0
 simp only[e0,qr];rcases KG (rnL S 0=[])with hD | hD
 all_goals rcases KG (rnL S (rn S 0+1)=[])with hB | hB
 all_goals have hB2:=hB
 all_goals rw[← yJ]at hB2
 all_goals rcases KG (rnL S (rn S (rn S 0+1)+1+1)=[])with hE | hE
 all_goals have hE2:=hE
 all_goals rw[← yJ]at hE2
 all_goals repeat' first
  | refine(bdA _ _ _ _).trans ?_
  | refine(bdN _ _ _).trans ?_
  | refine(bdT (by omega) _ _).trans ?_
  | refine(bdF (by omega) _ _).trans ?_
  | refine(bdT (by assumption) _ _).trans ?_
  | refine(bdF (by assumption) _ _).trans ?_
  | (refine obs (by assumption) ?_;try simp (disch:=omega) only[pW hS,pV hS,pZ,qe,zd,qq,qC,qU,zy,qP,qM,qr])
  | (refine obs (pR1 hS _ _ (by omega)) ?_;try simp (disch:=omega) only[pW hS,pV hS,pZ,qe,zd,qq,qC,qU,zy,qP,qM,qr])
  | (refine obs (pR4 hS _ _ _ _ _ _ _ (by omega)) ?_;try simp (disch:=omega) only[pW hS,pV hS,pZ,qe,zd,qq,qC,qU,zy,qP,qM,qr])
  | refine(bdB (by(try simp only[qe]);omega) _ _).trans ?_
  | refine(bTt _ _).trans ?_
  | refine(bFf _ _).trans ?_
  | fail
 all_goals (try simp (disch:=omega) only[pUw,Qa,qr])
 all_goals (try simp[hD,hB,hE])
theorem TC(S:List UInt8)(i:Nat):(∀(D:List UInt8) (pw:Int) (ok:Bool),ptB S (D,pw,ok,i)=(D,pw,ok&&decide (i=S.length)))∧(S[i]?=none∧S.length≤i∨∃c,S[i]?=some c∧i<S.length∧¬0≤jb c [101,69]) ∨
 (∃c,S[i]?=some c∧i<S.length∧0≤jb c [101,69]∧¬((c.toNat:Nat):Int)=0∧((∀(D:List UInt8) (pw:Int) (ok:Bool),ptB S (D,pw,ok,i)=(D,pw+((exV (rnL S (i+1)):Nat):Int),ok&&(decide (rnL S (i+1)≠[])&&decide (rn S (i+1)=S.length))))∧(S[i+1]?=none∧S.length≤i+1∨∃d,S[i+1]?=some d∧i+1<S.length∧¬0≤jb d [43,45]) ∨
   ∃d,S[i+1]?=some d∧i+1<S.length∧0≤jb d [43,45]∧(((d.toNat:Nat):Int)=45∧(∀(D:List UInt8) (pw:Int) (ok:Bool),ptB S (D,pw,ok,i)=(D,pw+-((exV (rnL S (i+2)):Nat):Int),ok&&(decide (rnL S (i+2)≠[])&&decide (rn S (i+2)=S.length)))) ∨
    ¬((d.toNat:Nat):Int)=45∧(∀(D:List UInt8) (pw:Int) (ok:Bool),ptB S (D,pw,ok,i)=(D,pw+((exV (rnL S (i+2)):Nat):Int),ok&&(decide (rnL S (i+2)≠[])&&decide (rn S (i+2)=S.length))))))):=by
 rcases qxJ S i [101,69] (by decide) (fun c=>Zv c _)with⟨g1,g2⟩ | ⟨c,g1,g2,g3,g4⟩ | ⟨c,g1,g2,g3,g4,g5⟩
 · exact .inl ⟨fun D pw ok=>by unfold ptB;simp[g1],.inl ⟨g1,g2⟩⟩
 · refine .inl ⟨fun D pw ok=>?_,.inr ⟨c,g1,g2,g3⟩⟩
   unfold ptB;simp only[zS,Kr,or_false,not_or]at g4;simp[g1,g4]
 · refine .inr ⟨c,g1,g2,g3,by omega,?_⟩
   have gc:S[i]?=some 101∨S[i]?=some 69:=by
    simp only[zS,Kr,or_false]at g4;rcases g4 with rfl | rfl
    · exact .inl g1
    · exact .inr g1
   rcases qxJ S (i+1) [43,45] (by decide) (fun c=>Zv c _)with⟨k1,k2⟩ | ⟨d,k1,k2,k3,k4⟩ | ⟨d,k1,k2,k3,k4,k5⟩
   · exact .inl ⟨fun D pw ok=>by unfold ptB;rw[zA gc];simp[k1],.inl ⟨k1,k2⟩⟩
   · refine .inl ⟨fun D pw ok=>?_,.inr ⟨d,k1,k2,k3⟩⟩
     unfold ptB;rw[zA gc];simp only[zS,Kr,or_false,not_or]at k4;simp[k1,k4]
   · refine .inr ⟨d,k1,k2,k3,?_⟩
     simp only[zS,Kr,or_false]at k4;rcases k4 with rfl | rfl
     · refine .inr ⟨by decide,fun D pw ok=>?_⟩
       unfold ptB;rw[zA gc];simp[k1]
     · refine .inl ⟨by decide,fun D pw ok=>?_⟩
       unfold ptB;rw[zA gc];simp[k1]
theorem qxK{S:List UInt8}(hS:S.length≤1000000):QJ 2000000 (bs S)=some (bs (ptL S).1,(ptL S).2.1,(ptL S).2.2):=by
 rcases qxJ S (rn S 0) [46] (by decide) (fun c=>Zv c _)with⟨g1,g2⟩ | ⟨c,g1,g2,g3,g4⟩ | ⟨c,g1,g2,g3,g4,g5⟩
 · rw[qzQ hS g1 g2]
   unfold ptL ptA;rw[g1];unfold ptB;simp[g1]
 · have hc : ¬some c=some (46:UInt8):=fun e=>g4 (by rw[KR e];simp)
   have eL:ptL S=ptB S (rnL S 0,0,decide (rnL S 0≠[]),rn S 0):=by unfold ptL ptA;rw[g1,zw hc]
   rw[eL];rcases TC S (rn S 0)with⟨p,⟨k1,k2⟩ | ⟨d,k1,k2,k3⟩⟩ | ⟨d,k1,k2,k3,k4,⟨p,⟨m1,m2⟩ | ⟨e,m1,m2,m3⟩⟩ | ⟨e,m1,m2,m3,⟨m4,p⟩ | ⟨m4,p⟩⟩⟩
   · rw[g1]at k1;cases k1
   all_goals obtain rfl:c=d:=by rw[g1]at k1;exact KR k1
   · rw[p];exact qzR hS c g3 k1 k3
   · rw[p];exact qzS hS c g3 k1 k3 k4 m1 m2
   · rw[p];exact qzT hS c e g3 k1 k3 k4 m1 m3
   · rw[p];exact qzU hS c e g3 k1 k3 k4 m1 m3 m4
   · rw[p];exact qzV hS c e g3 k1 k3 k4 m1 m3 m4
 · have hc:c=46:=by simpa using g4
   have g5 : ¬((c.toNat:Nat):Int)=0:=by omega
   have eL:ptL S=ptB S (rnL S 0++rnL S (rn S 0+1),-(((rnL S (rn S 0+1)).length:Nat):Int),(decide (rnL S 0≠[])&&decide (rnL S (rn S 0+1)≠[])),rn S (rn S 0+1)):=by unfold ptL ptA;rw[g1,hc,zA rfl]
   rw[eL];rcases TC S (rn S (rn S 0+1))with⟨p,⟨k1,k2⟩ | ⟨d,k1,k2,k3⟩⟩ | ⟨d,k1,k2,k3,k4,⟨p,⟨m1,m2⟩ | ⟨e,m1,m2,m3⟩⟩ | ⟨e,m1,m2,m3,⟨m4,p⟩ | ⟨m4,p⟩⟩⟩
   · rw[p];exact qzW hS c g1 g3 g5 k1 k2
   · rw[p];exact qzX hS c g1 g3 g5 d k1 k3
   · rw[p];exact qzY hS c g1 g3 g5 d k1 k3 k4 m1 m2
   · rw[p];exact qzZ hS c g1 g3 g5 d e k1 k3 k4 m1 m3
   · rw[p];exact qz0 hS c g1 g3 g5 d e k1 k3 k4 m1 m3 m4
   · rw[p];exact qz1 hS c g1 g3 g5 d e k1 k3 k4 m1 m3 m4
theorem qt7(s:ByteArray)(y:ByteArray×Int×Bool)(hg:(d1 cS).good s)(h:qb7 s=some y):∃n,QJ n s=some y:=by
 refine⟨2000000,?_⟩
 revert h;refine onB (P:=fun s=>qb7 s=some y→QJ 2000000 s=some y) (fun S h=>?_) s
 obtain⟨h1,h2⟩:=qh h;have:=soi h2;subst this
 exact qxK (zo h1)
end
end Su
