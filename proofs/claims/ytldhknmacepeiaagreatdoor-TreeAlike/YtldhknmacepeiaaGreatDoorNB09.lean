/-
  What functions of the program compute, in plain Lean, and that the evaluator finds it.
-/
import Derived.Test.YtldhknmacepeiaaGreatDoorTra
import Derived.Test.YtldhknmacepeiaaGreatDoorNB06
set_option linter.unusedVariables false
set_option linter.unusedSimpArgs false
set_option maxRecDepth 10000
namespace Su
open Go Fly
noncomputable section
def qp6:Stp ((List Int)×Int×Nat×Int×Int×(List T)×Unit):=fun p5=>(bif(decide (p5.2.2.2.2.1<p5.2.2.2.1))then
 (At p5.1 p5.2.2.2.2.1).bind fun x6=>
 (bif(decide (0≤p5.2.1))then
 (bif(decide (0<p5.2.2.2.2.1))then
 (At p5.1 (IntKind.wrap .i64 (p5.2.2.2.2.1-1))).bind fun x7=>
 (bif(decide (0≤p5.2.1))then
 (bif((true&&(decide (0≤p5.2.2.2.2.1)))&&(decide (p5.2.2.2.2.1<(p5.2.2.1:Int))))then
 ((p5.2.2.2.2.2.1)[(0+p5.2.2.2.2.1.toNat)]?).bind fun x8=>
 (asI .u32 (.t x8)).bind fun x9=>
 some (.inl (p5.1,p5.2.1,p5.2.2.1,p5.2.2.2.1,(IntKind.wrap .i64 (p5.2.2.2.2.1+1)),(List.set p5.2.2.2.2.2.1 (0+p5.2.2.2.2.1.toNat) (T.s (.int .u32 (IntKind.wrap .u32 (Fly.jf Go.BinOp.or .u64 (IntKind.wrap .u64 (x6*(2^(min p5.2.1.toNat 64)))) (Int.fdiv (IntKind.wrap .u64 (x7*(2^(min p5.2.1.toNat 64)))) (2^32))))))),()))
 else none)
 else none)
 else
  (bif((true&&(decide (0≤p5.2.2.2.2.1)))&&(decide (p5.2.2.2.2.1<(p5.2.2.1:Int))))then
  ((p5.2.2.2.2.2.1)[(0+p5.2.2.2.2.1.toNat)]?).bind fun x10=>
  (asI .u32 (.t x10)).bind fun x11=>
  some (.inl (p5.1,p5.2.1,p5.2.2.1,p5.2.2.2.1,(IntKind.wrap .i64 (p5.2.2.2.2.1+1)),(List.set p5.2.2.2.2.2.1 (0+p5.2.2.2.2.1.toNat) (T.s (.int .u32 (IntKind.wrap .u32 (IntKind.wrap .u64 (x6*(2^(min p5.2.1.toNat 64)))))))),()))
 else none))
 else none)
 else
  some (.inr (p5.1,p5.2.1,p5.2.2.1,p5.2.2.2.1,p5.2.2.2.2.1,p5.2.2.2.2.2.1,())))
def qp7:Stp ((List Int)×Int×Nat×Int×Int×(List T)×Unit):=fun p13=>(bif(decide (p13.2.2.2.2.1<p13.2.2.2.1))then
 (At p13.1 p13.2.2.2.2.1).bind fun x14=>
 (bif(decide (0≤p13.2.1))then
 (bif(decide (0<p13.2.2.2.2.1))then
 (At p13.1 (IntKind.wrap .i64 (p13.2.2.2.2.1-1))).bind fun x15=>
 (bif(decide (0≤p13.2.1))then
 (bif((true&&(decide (0≤p13.2.2.2.2.1)))&&(decide (p13.2.2.2.2.1<(p13.2.2.1:Int))))then
 ((p13.2.2.2.2.2.1)[(0+p13.2.2.2.2.1.toNat)]?).bind fun x16=>
 (asI .u32 (.t x16)).bind fun x17=>
 some (.inl (p13.1,p13.2.1,p13.2.2.1,p13.2.2.2.1,(IntKind.wrap .i64 (p13.2.2.2.2.1+1)),(List.set p13.2.2.2.2.2.1 (0+p13.2.2.2.2.1.toNat) (T.s (.int .u32 (IntKind.wrap .u32 (Fly.jf Go.BinOp.or .u64 (IntKind.wrap .u64 (x14*(2^(min p13.2.1.toNat 64)))) (Int.fdiv (IntKind.wrap .u64 (x15*(2^(min p13.2.1.toNat 64)))) (2^32))))))),()))
 else none)
 else none)
 else
  (bif((true&&(decide (0≤p13.2.2.2.2.1)))&&(decide (p13.2.2.2.2.1<(p13.2.2.1:Int))))then
  ((p13.2.2.2.2.2.1)[(0+p13.2.2.2.2.1.toNat)]?).bind fun x18=>
  (asI .u32 (.t x18)).bind fun x19=>
  some (.inl (p13.1,p13.2.1,p13.2.2.1,p13.2.2.2.1,(IntKind.wrap .i64 (p13.2.2.2.2.1+1)),(List.set p13.2.2.2.2.2.1 (0+p13.2.2.2.2.1.toNat) (T.s (.int .u32 (IntKind.wrap .u32 (IntKind.wrap .u64 (x14*(2^(min p13.2.1.toNat 64)))))))),()))
 else none))
 else none)
 else
  some (.inr (p13.1,p13.2.1,p13.2.2.1,p13.2.2.2.1,p13.2.2.2.2.1,p13.2.2.2.2.2.1,())))
def Z3:Stp (Nat×Nat×Nat×Nat×Int×Int×Int×Int×(List T)×(List T)×Unit):=fun p31=>(bif(decide (4294967296≤p31.2.2.2.2.2.2.1))then
 (bif(decide (4294967296≤(IntKind.wrap .u64 (p31.2.2.2.2.2.2.2.1+p31.2.2.2.2.2.1))))then
 some (.inr (p31.1,p31.2.1,p31.2.2.1,p31.2.2.2.1,p31.2.2.2.2.1,p31.2.2.2.2.2.1,(IntKind.wrap .u64 (p31.2.2.2.2.2.2.1-1)),(IntKind.wrap .u64 (p31.2.2.2.2.2.2.2.1+p31.2.2.2.2.2.1)),p31.2.2.2.2.2.2.2.2.1,p31.2.2.2.2.2.2.2.2.2.1,()))
 else
  some (.inl (p31.1,p31.2.1,p31.2.2.1,p31.2.2.2.1,p31.2.2.2.2.1,p31.2.2.2.2.2.1,(IntKind.wrap .u64 (p31.2.2.2.2.2.2.1-1)),(IntKind.wrap .u64 (p31.2.2.2.2.2.2.2.1+p31.2.2.2.2.2.1)),p31.2.2.2.2.2.2.2.2.1,p31.2.2.2.2.2.2.2.2.2.1,())))
 else
  (bif((true&&(decide (0≤(IntKind.wrap .i64 (p31.2.2.2.2.1-2)))))&&(decide ((IntKind.wrap .i64 (p31.2.2.2.2.1-2))<(p31.2.2.2.1:Int))))then
  ((p31.2.2.2.2.2.2.2.2.2.1)[(p31.2.2.1+(Int.toNat (IntKind.wrap .i64 (p31.2.2.2.2.1-2))))]?).bind fun x32=>
  (ldT x32 0 false 1).bind fun x33=>
  (asI .u32 (.t x33)).bind fun x34=>
  (bif((true&&(decide (0≤(IntKind.wrap .i64 (p31.2.2.2.2.1-2)))))&&(decide ((IntKind.wrap .i64 (p31.2.2.2.2.1-2))<(p31.2.1:Int))))then
  ((p31.2.2.2.2.2.2.2.2.1)[(p31.1+(Int.toNat (IntKind.wrap .i64 (p31.2.2.2.2.1-2))))]?).bind fun x35=>
  (ldT x35 0 false 1).bind fun x36=>
  (asI .u32 (.t x36)).bind fun x37=>
  (bif(decide ((Fly.jf Go.BinOp.or .u64 (IntKind.wrap .u64 (p31.2.2.2.2.2.2.2.1*(2^32))) (IntKind.wrap .u64 x37))<(IntKind.wrap .u64 (p31.2.2.2.2.2.2.1*(IntKind.wrap .u64 x34)))))then
  (bif(decide (4294967296≤(IntKind.wrap .u64 (p31.2.2.2.2.2.2.2.1+p31.2.2.2.2.2.1))))then
  some (.inr (p31.1,p31.2.1,p31.2.2.1,p31.2.2.2.1,p31.2.2.2.2.1,p31.2.2.2.2.2.1,(IntKind.wrap .u64 (p31.2.2.2.2.2.2.1-1)),(IntKind.wrap .u64 (p31.2.2.2.2.2.2.2.1+p31.2.2.2.2.2.1)),p31.2.2.2.2.2.2.2.2.1,p31.2.2.2.2.2.2.2.2.2.1,()))
 else
  some (.inl (p31.1,p31.2.1,p31.2.2.1,p31.2.2.2.1,p31.2.2.2.2.1,p31.2.2.2.2.2.1,(IntKind.wrap .u64 (p31.2.2.2.2.2.2.1-1)),(IntKind.wrap .u64 (p31.2.2.2.2.2.2.2.1+p31.2.2.2.2.2.1)),p31.2.2.2.2.2.2.2.2.1,p31.2.2.2.2.2.2.2.2.2.1,())))
 else
  some (.inr (p31.1,p31.2.1,p31.2.2.1,p31.2.2.2.1,p31.2.2.2.2.1,p31.2.2.2.2.2.1,p31.2.2.2.2.2.2.1,p31.2.2.2.2.2.2.2.1,p31.2.2.2.2.2.2.2.2.1,p31.2.2.2.2.2.2.2.2.2.1,())))
 else none)
 else none))
def qeU:Stp (Nat×Nat×Nat×Nat×Int×Int×Int×Int×Int×Int×Int×Int×(List T)×(List T)×Unit):=fun p39=>(bif(decide (p39.2.2.2.2.2.2.2.2.2.2.2.1<p39.2.2.2.2.2.2.2.2.2.2.1))then
 (bif(decide (p39.2.2.2.2.2.2.2.2.2.2.2.1<p39.2.2.2.2.1))then
 (bif((true&&(decide (0≤p39.2.2.2.2.2.2.2.2.2.2.2.1)))&&(decide (p39.2.2.2.2.2.2.2.2.2.2.2.1<(p39.2.2.2.1:Int))))then
 ((p39.2.2.2.2.2.2.2.2.2.2.2.2.2.1)[(p39.2.2.1+p39.2.2.2.2.2.2.2.2.2.2.2.1.toNat)]?).bind fun x40=>
 (ldT x40 0 false 1).bind fun x41=>
 (asI .u32 (.t x41)).bind fun x42=>
 (bif((true&&(decide (0≤p39.2.2.2.2.2.2.2.2.2.2.2.1)))&&(decide (p39.2.2.2.2.2.2.2.2.2.2.2.1<(p39.2.1:Int))))then
 ((p39.2.2.2.2.2.2.2.2.2.2.2.2.1)[(p39.1+p39.2.2.2.2.2.2.2.2.2.2.2.1.toNat)]?).bind fun x43=>
 (ldT x43 0 false 1).bind fun x44=>
 (asI .u32 (.t x44)).bind fun x45=>
 (bif((true&&(decide (0≤p39.2.2.2.2.2.2.2.2.2.2.2.1)))&&(decide (p39.2.2.2.2.2.2.2.2.2.2.2.1<(p39.2.1:Int))))then
 ((p39.2.2.2.2.2.2.2.2.2.2.2.2.1)[(p39.1+p39.2.2.2.2.2.2.2.2.2.2.2.1.toNat)]?).bind fun x46=>
 (asI .u32 (.t x46)).bind fun x47=>
 some (.inl (p39.1,p39.2.1,p39.2.2.1,p39.2.2.2.1,p39.2.2.2.2.1,p39.2.2.2.2.2.1,p39.2.2.2.2.2.2.1,p39.2.2.2.2.2.2.2.1,(Int.fdiv (IntKind.wrap .u64 ((IntKind.wrap .u64 ((IntKind.wrap .u64 x45)-(Fly.jf Go.BinOp.and .u64 (IntKind.wrap .u64 (p39.2.2.2.2.2.2.2.2.2.1+(IntKind.wrap .u64 (p39.2.2.2.2.2.2.1*(IntKind.wrap .u64 x42))))) 4294967295)))-p39.2.2.2.2.2.2.2.2.1)) (2^63)),(Int.fdiv (IntKind.wrap .u64 (p39.2.2.2.2.2.2.2.2.2.1+(IntKind.wrap .u64 (p39.2.2.2.2.2.2.1*(IntKind.wrap .u64 x42))))) (2^32)),p39.2.2.2.2.2.2.2.2.2.2.1,(IntKind.wrap .i64 (p39.2.2.2.2.2.2.2.2.2.2.2.1+1)),(List.set p39.2.2.2.2.2.2.2.2.2.2.2.2.1 (p39.1+p39.2.2.2.2.2.2.2.2.2.2.2.1.toNat) (T.s (.int .u32 (IntKind.wrap .u32 (IntKind.wrap .u64 ((IntKind.wrap .u64 ((IntKind.wrap .u64 x45)-(Fly.jf Go.BinOp.and .u64 (IntKind.wrap .u64 (p39.2.2.2.2.2.2.2.2.2.1+(IntKind.wrap .u64 (p39.2.2.2.2.2.2.1*(IntKind.wrap .u64 x42))))) 4294967295)))-p39.2.2.2.2.2.2.2.2.1)))))),p39.2.2.2.2.2.2.2.2.2.2.2.2.2.1,()))
 else none)
 else none)
 else none)
 else
  (bif((true&&(decide (0≤p39.2.2.2.2.2.2.2.2.2.2.2.1)))&&(decide (p39.2.2.2.2.2.2.2.2.2.2.2.1<(p39.2.1:Int))))then
  ((p39.2.2.2.2.2.2.2.2.2.2.2.2.1)[(p39.1+p39.2.2.2.2.2.2.2.2.2.2.2.1.toNat)]?).bind fun x48=>
  (ldT x48 0 false 1).bind fun x49=>
  (asI .u32 (.t x49)).bind fun x50=>
  (bif((true&&(decide (0≤p39.2.2.2.2.2.2.2.2.2.2.2.1)))&&(decide (p39.2.2.2.2.2.2.2.2.2.2.2.1<(p39.2.1:Int))))then
  ((p39.2.2.2.2.2.2.2.2.2.2.2.2.1)[(p39.1+p39.2.2.2.2.2.2.2.2.2.2.2.1.toNat)]?).bind fun x51=>
  (asI .u32 (.t x51)).bind fun x52=>
  some (.inl (p39.1,p39.2.1,p39.2.2.1,p39.2.2.2.1,p39.2.2.2.2.1,p39.2.2.2.2.2.1,p39.2.2.2.2.2.2.1,p39.2.2.2.2.2.2.2.1,(Int.fdiv (IntKind.wrap .u64 ((IntKind.wrap .u64 ((IntKind.wrap .u64 x50)-(Fly.jf Go.BinOp.and .u64 p39.2.2.2.2.2.2.2.2.2.1 4294967295)))-p39.2.2.2.2.2.2.2.2.1)) (2^63)),(Int.fdiv p39.2.2.2.2.2.2.2.2.2.1 (2^32)),p39.2.2.2.2.2.2.2.2.2.2.1,(IntKind.wrap .i64 (p39.2.2.2.2.2.2.2.2.2.2.2.1+1)),(List.set p39.2.2.2.2.2.2.2.2.2.2.2.2.1 (p39.1+p39.2.2.2.2.2.2.2.2.2.2.2.1.toNat) (T.s (.int .u32 (IntKind.wrap .u32 (IntKind.wrap .u64 ((IntKind.wrap .u64 ((IntKind.wrap .u64 x50)-(Fly.jf Go.BinOp.and .u64 p39.2.2.2.2.2.2.2.2.2.1 4294967295)))-p39.2.2.2.2.2.2.2.2.1)))))),p39.2.2.2.2.2.2.2.2.2.2.2.2.2.1,()))
 else none)
 else none))
 else
  some (.inr (p39.1,p39.2.1,p39.2.2.1,p39.2.2.2.1,p39.2.2.2.2.1,p39.2.2.2.2.2.1,p39.2.2.2.2.2.2.1,p39.2.2.2.2.2.2.2.1,p39.2.2.2.2.2.2.2.2.1,p39.2.2.2.2.2.2.2.2.2.1,p39.2.2.2.2.2.2.2.2.2.2.1,p39.2.2.2.2.2.2.2.2.2.2.2.1,p39.2.2.2.2.2.2.2.2.2.2.2.2.1,p39.2.2.2.2.2.2.2.2.2.2.2.2.2.1,())))
def qeV:Stp (Nat×Nat×Nat×Nat×Int×Int×Int×Int×Int×Int×Int×Int×Int×Int×Int×(List T)×(List T)×Unit):=fun p56=>(bif(decide (p56.2.2.2.2.2.2.2.2.2.2.2.2.2.2.1<p56.2.2.2.2.2.2.2.2.2.2.2.2.2.1))then
 (bif(decide (p56.2.2.2.2.2.2.2.2.2.2.2.2.2.2.1<p56.2.2.2.2.1))then
 (bif((true&&(decide (0≤p56.2.2.2.2.2.2.2.2.2.2.2.2.2.2.1)))&&(decide (p56.2.2.2.2.2.2.2.2.2.2.2.2.2.2.1<(p56.2.2.2.1:Int))))then
 ((p56.2.2.2.2.2.2.2.2.2.2.2.2.2.2.2.2.1)[(p56.2.2.1+p56.2.2.2.2.2.2.2.2.2.2.2.2.2.2.1.toNat)]?).bind fun x57=>
 (ldT x57 0 false 1).bind fun x58=>
 (asI .u32 (.t x58)).bind fun x59=>
 (bif((true&&(decide (0≤p56.2.2.2.2.2.2.2.2.2.2.2.2.2.2.1)))&&(decide (p56.2.2.2.2.2.2.2.2.2.2.2.2.2.2.1<(p56.2.1:Int))))then
 ((p56.2.2.2.2.2.2.2.2.2.2.2.2.2.2.2.1)[(p56.1+p56.2.2.2.2.2.2.2.2.2.2.2.2.2.2.1.toNat)]?).bind fun x60=>
 (ldT x60 0 false 1).bind fun x61=>
 (asI .u32 (.t x61)).bind fun x62=>
 (bif((true&&(decide (0≤p56.2.2.2.2.2.2.2.2.2.2.2.2.2.2.1)))&&(decide (p56.2.2.2.2.2.2.2.2.2.2.2.2.2.2.1<(p56.2.1:Int))))then
 ((p56.2.2.2.2.2.2.2.2.2.2.2.2.2.2.2.1)[(p56.1+p56.2.2.2.2.2.2.2.2.2.2.2.2.2.2.1.toNat)]?).bind fun x63=>
 (asI .u32 (.t x63)).bind fun x64=>
 some (.inl (p56.1,p56.2.1,p56.2.2.1,p56.2.2.2.1,p56.2.2.2.2.1,p56.2.2.2.2.2.1,p56.2.2.2.2.2.2.1,p56.2.2.2.2.2.2.2.1,p56.2.2.2.2.2.2.2.2.1,p56.2.2.2.2.2.2.2.2.2.1,p56.2.2.2.2.2.2.2.2.2.2.1,p56.2.2.2.2.2.2.2.2.2.2.2.1,(Int.fdiv (IntKind.wrap .u64 ((IntKind.wrap .u64 (p56.2.2.2.2.2.2.2.2.2.2.2.2.1+(IntKind.wrap .u64 x59)))+(IntKind.wrap .u64 x62))) (2^32)),p56.2.2.2.2.2.2.2.2.2.2.2.2.2.1,(IntKind.wrap .i64 (p56.2.2.2.2.2.2.2.2.2.2.2.2.2.2.1+1)),(List.set p56.2.2.2.2.2.2.2.2.2.2.2.2.2.2.2.1 (p56.1+p56.2.2.2.2.2.2.2.2.2.2.2.2.2.2.1.toNat) (T.s (.int .u32 (IntKind.wrap .u32 (IntKind.wrap .u64 ((IntKind.wrap .u64 (p56.2.2.2.2.2.2.2.2.2.2.2.2.1+(IntKind.wrap .u64 x59)))+(IntKind.wrap .u64 x62))))))),p56.2.2.2.2.2.2.2.2.2.2.2.2.2.2.2.2.1,()))
 else none)
 else none)
 else none)
 else
  (bif((true&&(decide (0≤p56.2.2.2.2.2.2.2.2.2.2.2.2.2.2.1)))&&(decide (p56.2.2.2.2.2.2.2.2.2.2.2.2.2.2.1<(p56.2.1:Int))))then
  ((p56.2.2.2.2.2.2.2.2.2.2.2.2.2.2.2.1)[(p56.1+p56.2.2.2.2.2.2.2.2.2.2.2.2.2.2.1.toNat)]?).bind fun x65=>
  (ldT x65 0 false 1).bind fun x66=>
  (asI .u32 (.t x66)).bind fun x67=>
  (bif((true&&(decide (0≤p56.2.2.2.2.2.2.2.2.2.2.2.2.2.2.1)))&&(decide (p56.2.2.2.2.2.2.2.2.2.2.2.2.2.2.1<(p56.2.1:Int))))then
  ((p56.2.2.2.2.2.2.2.2.2.2.2.2.2.2.2.1)[(p56.1+p56.2.2.2.2.2.2.2.2.2.2.2.2.2.2.1.toNat)]?).bind fun x68=>
  (asI .u32 (.t x68)).bind fun x69=>
  some (.inl (p56.1,p56.2.1,p56.2.2.1,p56.2.2.2.1,p56.2.2.2.2.1,p56.2.2.2.2.2.1,p56.2.2.2.2.2.2.1,p56.2.2.2.2.2.2.2.1,p56.2.2.2.2.2.2.2.2.1,p56.2.2.2.2.2.2.2.2.2.1,p56.2.2.2.2.2.2.2.2.2.2.1,p56.2.2.2.2.2.2.2.2.2.2.2.1,(Int.fdiv (IntKind.wrap .u64 (p56.2.2.2.2.2.2.2.2.2.2.2.2.1+(IntKind.wrap .u64 x67))) (2^32)),p56.2.2.2.2.2.2.2.2.2.2.2.2.2.1,(IntKind.wrap .i64 (p56.2.2.2.2.2.2.2.2.2.2.2.2.2.2.1+1)),(List.set p56.2.2.2.2.2.2.2.2.2.2.2.2.2.2.2.1 (p56.1+p56.2.2.2.2.2.2.2.2.2.2.2.2.2.2.1.toNat) (T.s (.int .u32 (IntKind.wrap .u32 (IntKind.wrap .u64 (p56.2.2.2.2.2.2.2.2.2.2.2.2.1+(IntKind.wrap .u64 x67))))))),p56.2.2.2.2.2.2.2.2.2.2.2.2.2.2.2.2.1,()))
 else none)
 else none))
 else
  some (.inr (p56.1,p56.2.1,p56.2.2.1,p56.2.2.2.1,p56.2.2.2.2.1,p56.2.2.2.2.2.1,p56.2.2.2.2.2.2.1,p56.2.2.2.2.2.2.2.1,p56.2.2.2.2.2.2.2.2.1,p56.2.2.2.2.2.2.2.2.2.1,p56.2.2.2.2.2.2.2.2.2.2.1,p56.2.2.2.2.2.2.2.2.2.2.2.1,p56.2.2.2.2.2.2.2.2.2.2.2.2.1,p56.2.2.2.2.2.2.2.2.2.2.2.2.2.1,p56.2.2.2.2.2.2.2.2.2.2.2.2.2.2.1,p56.2.2.2.2.2.2.2.2.2.2.2.2.2.2.2.1,p56.2.2.2.2.2.2.2.2.2.2.2.2.2.2.2.2.1,())))
def qbb(fu:Nat):Stp (Int×Nat×Nat×Nat×Nat×Nat×Nat×Int×(List T)×(List T)×(List T)×Unit):=fun p21=>(bif(decide (0≤p21.2.2.2.2.2.2.2.1))then
 (bif(((true&&(decide (0≤p21.2.2.2.2.2.2.2.1)))&&(decide (p21.2.2.2.2.2.2.2.1≤(IntKind.wrap .i64 ((IntKind.wrap .i64 (p21.2.2.2.2.2.2.2.1+(p21.2.2.2.2.1:Int)))+1)))))&&(decide ((IntKind.wrap .i64 ((IntKind.wrap .i64 (p21.2.2.2.2.2.2.2.1+(p21.2.2.2.2.1:Int)))+1))≤(p21.2.2.1:Int))))then
 (bif((true&&(decide (0≤(p21.2.2.2.2.1:Int))))&&(decide ((p21.2.2.2.2.1:Int)<(((Int.toNat ((IntKind.wrap .i64 ((IntKind.wrap .i64 (p21.2.2.2.2.2.2.2.1+(p21.2.2.2.2.1:Int)))+1))-p21.2.2.2.2.2.2.2.1)):Nat):Int))))then
 ((p21.2.2.2.2.2.2.2.2.1)[((p21.2.1+p21.2.2.2.2.2.2.2.1.toNat)+(Int.toNat (p21.2.2.2.2.1:Int)))]?).bind fun x22=>
 (ldT x22 0 false 1).bind fun x23=>
 (asI .u32 (.t x23)).bind fun x24=>
 (bif((true&&(decide (0≤(IntKind.wrap .i64 ((p21.2.2.2.2.1:Int)-1)))))&&(decide ((IntKind.wrap .i64 ((p21.2.2.2.2.1:Int)-1))<(((Int.toNat ((IntKind.wrap .i64 ((IntKind.wrap .i64 (p21.2.2.2.2.2.2.2.1+(p21.2.2.2.2.1:Int)))+1))-p21.2.2.2.2.2.2.2.1)):Nat):Int))))then
 ((p21.2.2.2.2.2.2.2.2.1)[((p21.2.1+p21.2.2.2.2.2.2.2.1.toNat)+(Int.toNat (IntKind.wrap .i64 ((p21.2.2.2.2.1:Int)-1))))]?).bind fun x25=>
 (ldT x25 0 false 1).bind fun x26=>
 (asI .u32 (.t x26)).bind fun x27=>
 (bif((true&&(decide (0≤(IntKind.wrap .i64 ((p21.2.2.2.2.1:Int)-1)))))&&(decide ((IntKind.wrap .i64 ((p21.2.2.2.2.1:Int)-1))<(p21.2.2.2.2.1:Int))))then
 ((p21.2.2.2.2.2.2.2.2.2.1)[(p21.2.2.2.1+(Int.toNat (IntKind.wrap .i64 ((p21.2.2.2.2.1:Int)-1))))]?).bind fun x28=>
 (ldT x28 0 false 1).bind fun x29=>
 (asI .u32 (.t x29)).bind fun x30=>
 (bif(decide ((IntKind.wrap .u64 x30)=0))then
 none
 else
  (bif(decide ((IntKind.wrap .u64 x30)=0))then
  none
 else
  (itP fu (Z3) ((p21.2.1+p21.2.2.2.2.2.2.2.1.toNat),(Int.toNat ((IntKind.wrap .i64 ((IntKind.wrap .i64 (p21.2.2.2.2.2.2.2.1+(p21.2.2.2.2.1:Int)))+1))-p21.2.2.2.2.2.2.2.1)),p21.2.2.2.1,p21.2.2.2.2.1,(p21.2.2.2.2.1:Int),(IntKind.wrap .u64 x30),(IntKind.wrap .u64 (Int.tdiv (Fly.jf Go.BinOp.or .u64 (IntKind.wrap .u64 ((IntKind.wrap .u64 x24)*(2^32))) (IntKind.wrap .u64 x27)) (IntKind.wrap .u64 x30))),(Int.tmod (Fly.jf Go.BinOp.or .u64 (IntKind.wrap .u64 ((IntKind.wrap .u64 x24)*(2^32))) (IntKind.wrap .u64 x27)) (IntKind.wrap .u64 x30)),p21.2.2.2.2.2.2.2.2.1,p21.2.2.2.2.2.2.2.2.2.1,())).bind fun x38=>
  (itP fu (qeU) (x38.1,x38.2.1,x38.2.2.1,x38.2.2.2.1,x38.2.2.2.2.1,x38.2.2.2.2.2.1,x38.2.2.2.2.2.2.1,x38.2.2.2.2.2.2.2.1,(0:Int),(0:Int),(x38.2.1:Int),(0:Int),x38.2.2.2.2.2.2.2.2.1,x38.2.2.2.2.2.2.2.2.2.1,())).bind fun x53=>
  (bif(decide (x53.2.2.2.2.2.2.2.2.1=0))then
  (bif((true&&(decide (0≤p21.2.2.2.2.2.2.2.1)))&&(decide (p21.2.2.2.2.2.2.2.1<(p21.2.2.2.2.2.2.1:Int))))then
  ((p21.2.2.2.2.2.2.2.2.2.2.1)[(p21.2.2.2.2.2.1+p21.2.2.2.2.2.2.2.1.toNat)]?).bind fun x54=>
  (asI .u32 (.t x54)).bind fun x55=>
  some (.inl (p21.1,p21.2.1,p21.2.2.1,p21.2.2.2.1,p21.2.2.2.2.1,p21.2.2.2.2.2.1,p21.2.2.2.2.2.2.1,(IntKind.wrap .i64 (p21.2.2.2.2.2.2.2.1-1)),x53.2.2.2.2.2.2.2.2.2.2.2.2.1,x53.2.2.2.2.2.2.2.2.2.2.2.2.2.1,(List.set p21.2.2.2.2.2.2.2.2.2.2.1 (p21.2.2.2.2.2.1+p21.2.2.2.2.2.2.2.1.toNat) (T.s (.int .u32 (IntKind.wrap .u32 x53.2.2.2.2.2.2.1)))),()))
 else none)
 else
  (itP fu (qeV) (x53.1,x53.2.1,x53.2.2.1,x53.2.2.2.1,x53.2.2.2.2.1,x53.2.2.2.2.2.1,x53.2.2.2.2.2.2.1,x53.2.2.2.2.2.2.2.1,x53.2.2.2.2.2.2.2.2.1,x53.2.2.2.2.2.2.2.2.2.1,x53.2.2.2.2.2.2.2.2.2.2.1,x53.2.2.2.2.2.2.2.2.2.2.2.1,(0:Int),(x53.2.1:Int),(0:Int),x53.2.2.2.2.2.2.2.2.2.2.2.2.1,x53.2.2.2.2.2.2.2.2.2.2.2.2.2.1,())).bind fun x70=>
  (bif((true&&(decide (0≤p21.2.2.2.2.2.2.2.1)))&&(decide (p21.2.2.2.2.2.2.2.1<(p21.2.2.2.2.2.2.1:Int))))then
  ((p21.2.2.2.2.2.2.2.2.2.2.1)[(p21.2.2.2.2.2.1+p21.2.2.2.2.2.2.2.1.toNat)]?).bind fun x71=>
  (asI .u32 (.t x71)).bind fun x72=>
  some (.inl (p21.1,p21.2.1,p21.2.2.1,p21.2.2.2.1,p21.2.2.2.2.1,p21.2.2.2.2.2.1,p21.2.2.2.2.2.2.1,(IntKind.wrap .i64 (p21.2.2.2.2.2.2.2.1-1)),x70.2.2.2.2.2.2.2.2.2.2.2.2.2.2.2.1,x70.2.2.2.2.2.2.2.2.2.2.2.2.2.2.2.2.1,(List.set p21.2.2.2.2.2.2.2.2.2.2.1 (p21.2.2.2.2.2.1+p21.2.2.2.2.2.2.2.1.toNat) (T.s (.int .u32 (IntKind.wrap .u32 (IntKind.wrap .u64 (x70.2.2.2.2.2.2.1-1)))))),()))
 else none))))
 else none)
 else none)
 else none)
 else none)
 else
  some (.inr (p21.1,p21.2.1,p21.2.2.1,p21.2.2.2.1,p21.2.2.2.2.1,p21.2.2.2.2.2.1,p21.2.2.2.2.2.2.1,p21.2.2.2.2.2.2.2.1,p21.2.2.2.2.2.2.2.2.1,p21.2.2.2.2.2.2.2.2.2.1,p21.2.2.2.2.2.2.2.2.2.2.1,())))
def Div  (fu:Nat)(a:(List Int))(b:(List Int)):Option ((List Int)×(List Int)×Int) :=
 (bif(decide ((((List.length (ofN (qd b))):Nat):Int)=0))then
 some ([],[],(21:Int))
 else
  (bif(decide ((yZ (qd (ofN (qd a))) (qd (ofN (qd b))))<0))then
  (qdJ (ofN (qd a))).bind fun x0=>
  some ([],x0,(0:Int))
 else
  (bif(decide ((((List.length (ofN (qd b))):Nat):Int)=1))then
  (idx (ofN (qd b)) 0).bind fun x1=>
  (Yp ((ofN (qd a)),x1)).bind fun x2=>
  some (x2.1,x2.2,(0:Int))
 else
  (idx (ofN (qd b)) (IntKind.wrap .i64 ((((List.length (ofN (qd b))):Nat):Int)-1))).bind fun x3=>
  (qi9 x3).bind fun x4=>
  (bif(((true&&(decide (0≤(IntKind.wrap .i64 ((((List.length (ofN (qd a))):Nat):Int)+1)))))&&(decide ((IntKind.wrap .i64 ((((List.length (ofN (qd a))):Nat):Int)+1))≤(IntKind.wrap .i64 ((((List.length (ofN (qd a))):Nat):Int)+1)))))&&(decide ((IntKind.wrap .i64 ((((List.length (ofN (qd a))):Nat):Int)+1))≤549755813888)))then
  (itP fu (qp6) ((ofN (qd a)),(IntKind.wrap .i64 (32-x4)),(Int.toNat (IntKind.wrap .i64 ((((List.length (ofN (qd a))):Nat):Int)+1))),(((Int.toNat (IntKind.wrap .i64 ((((List.length (ofN (qd a))):Nat):Int)+1))):Nat):Int),(0:Int),(List.replicate (Int.toNat (IntKind.wrap .i64 ((((List.length (ofN (qd a))):Nat):Int)+1))) (T.s (.int .u32 0))),())).bind fun x12=>
  (bif(((true&&(decide (0≤(((List.length (ofN (qd b))):Nat):Int))))&&(decide ((((List.length (ofN (qd b))):Nat):Int)≤(((List.length (ofN (qd b))):Nat):Int))))&&(decide ((((List.length (ofN (qd b))):Nat):Int)≤549755813888)))then
  (itP fu (qp7) ((ofN (qd b)),(IntKind.wrap .i64 (32-x4)),(Int.toNat (((List.length (ofN (qd b))):Nat):Int)),(((Int.toNat (((List.length (ofN (qd b))):Nat):Int)):Nat):Int),(0:Int),(List.replicate (Int.toNat (((List.length (ofN (qd b))):Nat):Int)) (T.s (.int .u32 0))),())).bind fun x20=>
  (bif(((true&&(decide (0≤(IntKind.wrap .i64 ((IntKind.wrap .i64 ((((List.length (ofN (qd a))):Nat):Int)-(((List.length (ofN (qd b))):Nat):Int)))+1)))))&&(decide ((IntKind.wrap .i64 ((IntKind.wrap .i64 ((((List.length (ofN (qd a))):Nat):Int)-(((List.length (ofN (qd b))):Nat):Int)))+1))≤(IntKind.wrap .i64 ((IntKind.wrap .i64 ((((List.length (ofN (qd a))):Nat):Int)-(((List.length (ofN (qd b))):Nat):Int)))+1)))))&&(decide ((IntKind.wrap .i64 ((IntKind.wrap .i64 ((((List.length (ofN (qd a))):Nat):Int)-(((List.length (ofN (qd b))):Nat):Int)))+1))≤549755813888)))then
  (itP fu (qbb fu) ((IntKind.wrap .i64 (32-x4)),0,x12.2.2.1,0,x20.2.2.1,0,(Int.toNat (IntKind.wrap .i64 ((IntKind.wrap .i64 ((((List.length (ofN (qd a))):Nat):Int)-(((List.length (ofN (qd b))):Nat):Int)))+1))),(IntKind.wrap .i64 ((((Int.toNat (IntKind.wrap .i64 ((IntKind.wrap .i64 ((((List.length (ofN (qd a))):Nat):Int)-(((List.length (ofN (qd b))):Nat):Int)))+1))):Nat):Int)-1)),x12.2.2.2.2.2.1,x20.2.2.2.2.2.1,(List.replicate (Int.toNat (IntKind.wrap .i64 ((IntKind.wrap .i64 ((((List.length (ofN (qd a))):Nat):Int)-(((List.length (ofN (qd b))):Nat):Int)))+1))) (T.s (.int .u32 0))),())).bind fun x73=>
  (Su.sub x73.2.2.2.2.2.2.2.2.2.2.1 x73.2.2.2.2.2.1 x73.2.2.2.2.2.2.1).bind fun x74=>
  (Su.sub x73.2.2.2.2.2.2.2.2.2.2.1 x73.2.2.2.2.2.1 x73.2.2.2.2.2.2.1).bind fun x75=>
  (Su.sub x73.2.2.2.2.2.2.2.2.2.2.1 x73.2.2.2.2.2.1 x73.2.2.2.2.2.2.1).bind fun x76=>
  ((yp 1 x74).bind fun x77=>
  some (ofN (qd x77))).bind fun x78=>
  (Su.sub x73.2.2.2.2.2.2.2.2.1 x73.2.1 x73.2.2.1).bind fun x79=>
  (Su.sub x73.2.2.2.2.2.2.2.2.1 x73.2.1 x73.2.2.1).bind fun x80=>
  (Su.sub x73.2.2.2.2.2.2.2.2.1 x73.2.1 x73.2.2.1).bind fun x81=>
  (((yp 1 x79).bind fun x82=>
  some (x82,x73.1)).bind fun x83=>
  (bif(Nat.ble x83.1.length 549755813887)then
  some (ofN ((qd x83.1) / (2^(Int.toNat (max x83.2 0)))))
 else none)).bind fun x84=>
  some (x78,x84,(0:Int))
 else none)
 else none)
 else none))))
theorem qlS{l w:Nat}(hl:l<4294967296)(hw:w<4294967296):jf .or .u64 (IntKind.u64.wrap ((l:Int)*2^32)) (IntKind.u64.wrap (w:Int))=((4294967296*l+w:Nat):Int):=by
 have e1:IntKind.u64.wrap ((l:Int)*2^32)=((4294967296*l:Nat):Int):=by
  rw[show((l:Int)*2^32)=((4294967296*l:Nat):Int) by rw[Vs,Int.mul_comm];rfl];exact yj (by omega) (by omega)
 have e2:IntKind.u64.wrap (w:Int)=(w:Int):=yj (by omega) (by omega)
 rw[e1,e2,qdY (by omega) (by omega),Nat.or_comm];have:=qeS (x:=w) (y:=l) (r:=32) (by simpa using hw)
 rw[show(2:Nat)^32=4294967296 from rfl]at this;rw[zI 4294967296 l,this,VY]
abbrev GSt:=Nat×(Nat×Nat×Nat×Int×Int×Int×Int×(List T)×(List T)×Unit)
def gS(off nl dl f:Nat)(num den:List Int)(g left:Nat):GSt:=(off,nl,0,dl,(dl:Int),(f:Int),(g:Int),(left:Int),num.map eW,den.map eW,())
theorem qkE{P f d2 top n2 D N Dr Nr off nl dl:Nat}{num den:List Int}(hD:D=(4294967296*f+d2)*P+Dr)(hN:N=(4294967296*top+n2)*P+Nr)(hNr:Nr<P)(hB:N<4294967296*D)
 (hf:f<4294967296) (hd2:d2<4294967296) (hn2:n2<4294967296) (hdl:2≤dl) (hdl2:dl≤549755813888) (hnl:nl=dl+1) (h1:(num.map eW)[off+(dl-2)]?=some (eW (n2:Int))) (h2:(den.map eW)[dl-2]?=some (eW (d2:Int))) :
 ∀g left:Nat,g*f+left=top→left<4294967296→g≤4294967297→N<(g+1)*D →
 ∃g' left':Nat,g'*f+left'=top∧g'≤4294967296∧g'*d2≤4294967296*left'+n2∧N<(g'+1)*D ∧
  ∃k,itP k Z3 (gS off nl dl f num den g left)=some (gS off nl dl f num den g' left'):=by
 have ewf:∀l:Nat,l<4294967296→IntKind.u64.wrap ((l:Int)+(f:Int))=((l+f:Nat):Int):=fun l hl=>by rw[yj (by omega) (by omega)];omega
 have ed:IntKind.i64.wrap ((dl:Int)-2)=((dl-2:Nat):Int):=by rw[w64 (by omega) (by omega)];omega
 intro g;induction g with
 | zero=>
  intro left hl hll _ hNg;refine⟨0,left,hl,by omega,by omega,hNg,J1 ?_⟩
  have d1:decide ((4294967296:Int)≤((0:Nat):Int))=false:=rfl
  have d2':decide ((0:Int)≤((dl-2:Nat):Int))=true:=zf (by omega)
  have d3:decide (((dl-2:Nat):Int)<(dl:Int))=true:=zf (by omega)
  have d4:decide (((dl-2:Nat):Int)<(nl:Int))=true:=zf (by omega)
  have e5:IntKind.u64.wrap (((0:Nat):Int)*IntKind.u64.wrap (d2:Int))=0:=by rw[show(((0:Nat):Int)*IntKind.u64.wrap (d2:Int))=0 from Int.zero_mul _];rfl
  unfold gS;simp only[Z3,d1,zo,ed,d2',d3,d4,Kq,zd,zn,zr,h1,h2,zk,YC,QQ,qlS hll hn2,e5];rw[zp (by omega),zo]
 | succ g ih=>
  intro left hl hll hgl hNg;have hl':g*f+(left+f)=top:=by rw[zV,KO]at hl;omega
  have em:IntKind.u64.wrap (((g+1:Nat):Int)-1)=(g:Int):=by rw[yj (by omega) (by omega)];omega
  -- going down is right
  have down:N<(g+1)*D→∀s,Z3 s=(bif decide ((4294967296:Int)≤((left+f:Nat):Int))then some (Sum.inr (gS off nl dl f num den g (left+f)))else some (Sum.inl (gS off nl dl f num den g (left+f)))) →
   ∃g' left':Nat,g'*f+left'=top∧g'≤4294967296∧g'*d2≤4294967296*left'+n2∧N<(g'+1)*D∧∃k,itP k Z3 s=some (gS off nl dl f num den g' left'):=fun hNd s hs=>by
   by_cases hb:4294967296≤left+f
   · refine⟨g,left+f,hl',by omega,?_,hNd,J1 ?_⟩
     · have h3:g*d2≤4294967296*4294967295:=VG (by omega) (by omega)
       have h4:=zX 4294967296 hb
       omega
     · rw[hs,zf (by omega),zd]
   · obtain⟨g',left',i1,i2,i3,i4,i5⟩:=ih (left+f) hl' (by omega) (by omega) hNd
     refine⟨g',left',i1,i2,i3,i4,Ym ?_ i5⟩
     rw[hs,zp (by omega),zo]
  by_cases hg:4294967296≤g+1
  · have d1:decide ((4294967296:Int)≤((g+1:Nat):Int))=true:=zf (by omega)
    refine down (by
     have h3:=zF D hg;omega) _ ?_
    unfold gS;simp only[Z3,d1,zd,ewf left hll,em]
  · have d1:decide ((4294967296:Int)≤((g+1:Nat):Int))=false:=zp (by omega)
    have d2':decide ((0:Int)≤((dl-2:Nat):Int))=true:=zf (by omega)
    have d3:decide (((dl-2:Nat):Int)<(dl:Int))=true:=zf (by omega)
    have d4:decide (((dl-2:Nat):Int)<(nl:Int))=true:=zf (by omega)
    have hgd:(g+1)*d2≤4294967296*4294967295:=VG (by omega) (by omega)
    have e5:IntKind.u64.wrap (((g+1:Nat):Int)*IntKind.u64.wrap (d2:Int))=(((g+1)*d2:Nat):Int):=by
     have:IntKind.u64.wrap (d2:Int)=(d2:Int):=yj (by omega) (by omega)
     rw[this,← Vs];exact yj (by omega) (by omega)
    by_cases ht:4294967296*left+n2<(g+1)*d2
    · refine down (qti hD hN hNr hl ht) _ ?_
      unfold gS;simp only[Z3,d1,zo,ed,d2',d3,d4,Kq,zd,zn,zr,h1,h2,zk,YC,QQ,qlS hll hn2,e5];rw[zf (show((4294967296*left+n2:Nat):Int)<(((g+1)*d2:Nat):Int) by omega),zd];simp only[ewf left hll,em]
    · refine⟨g+1,left,hl,by omega,by omega,hNg,J1 ?_⟩
      unfold gS;simp only[Z3,d1,zo,ed,d2',d3,d4,Kq,zd,zn,zr,h1,h2,zk,YC,QQ,qlS hll hn2,e5];rw[zp (show¬((4294967296*left+n2:Nat):Int)<(((g+1)*d2:Nat):Int) by omega),zo]
theorem qlT(A M R:List Int)(x:Int)(k:Nat)(hk:k=A.length+M.length):((A++(M++x::R)).map eW)[k]?=some (eW x):=by
 subst hk;rw[Kt,Kj (by rw[zR];omega),zR,Nat.add_sub_cancel_left,Kt,Kj (by rw[zR];omega),zR,Wm];rfl
theorem qlU(A M R:List Int)(x z:Int)(k:Nat)(hk:k=A.length+M.length):((A++(M++x::R)).map eW).set k (eW z)=(A++((M++[z])++R)).map eW:=by
 subst hk;rw[Kt,List.set_append,zP (by rw[zR];omega),zR,Nat.add_sub_cancel_left,Kt,List.set_append,zP (by rw[zR];omega),zR,Wm];simp
theorem qv4{P B v vm g D0 y r c z x r' tm td:Nat}(h:vm+g*D0=v+(r+c)*P)(hz:z+tm+r=x+r'*B)(ht:c+g*y=tm+B*td):(vm+P*z)+g*(D0+P*y)=(v+P*x)+(r'+td)*(P*B):=by grind
theorem qxv{P B g D0 y c tm td:Nat}(h:c*P≤g*D0)(ht:c+g*y=tm+B*td):td*(P*B)≤g*(D0+P*y):=by
 have h1:td*(P*B)≤P*(c+g*y):=by
  rw[ht,Ky,show td*(P*B)=P*(B*td) by grind];exact Nat.le_add_left _ _
 have h2:P*(c+g*y)=c*P+g*(P*y):=by grind
 rw[Ky];omega
theorem qp8(t:Nat)(ht:t<18446744073709551616):jf .and .u64 (t:Int) 4294967295=((t % 4294967296:Nat):Int):=by
 have h:=qr4 (a:=t) (b:=4294967295) ht (by omega)
 have e:t &&& 4294967295=t % 4294967296:=by
  have:=Nat.and_two_pow_sub_one_eq_mod t 32
  simpa using this
 rw[e]at h;exact h
abbrev MSt:=Nat×(Nat×Nat×Nat×Int×Int×Int×Int×Int×Int×Int×Int×(List T)×(List T)×Unit)
def mS(off nl dl f left:Nat)(num den:List Int)(g r c i:Nat):MSt:=(off,nl,0,dl,(dl:Int),(f:Int),(g:Int),(left:Int),(r:Int),(c:Int),(nl:Int),(i:Int),num.map eW,den.map eW,())
theorem qlV{off nl dl f left g:Nat}{A C den:List Int}(hA:A.length=off)(hden:den.length=dl)(hdw:Wd den)(hdl2:nl≤549755813888)(hnl:nl=dl+1)(hg:g≤4294967296) :
 ∀(rest mod:List Int) (v r c:Nat),mod.length+rest.length=nl→Wd mod→Wd rest→r≤1→c<4294967296→c*4294967296^mod.length≤g*qd (den.take mod.length) →
 qd mod+g*qd (den.take mod.length)=v+(r+c)*4294967296^mod.length →
 ∃(mod':List Int) (r' c':Nat),mod'.length=nl∧Wd mod'∧r'≤1∧c'*4294967296^nl≤g*qd den∧qd mod'+g*qd den=(v+4294967296^mod.length*qd rest)+(r'+c')*4294967296^nl ∧
  ∃k,itP k qeU (mS off nl dl f left (A++(mod++(rest++C))) den g r c mod.length)=some (mS off nl dl f left (A++(mod'++C)) den g r' c' nl)
 | [],mod,v,r,c,hl,hw,_,hr,hc,hf,hv=>by
  have hl:mod.length=nl:=by simpa using hl
  rw[hl,zN (by omega)]at hf hv;refine⟨mod,r,c,hl,hw,hr,hf,by rw[hv];simp[qd],J1 ?_⟩
  unfold mS;rw[hl];simp only[qeU];rw[zp (by omega),zo,zx]
 | x::rest,mod,v,r,c,hl,hw,hwr,hr,hc,hf,hv=>by
  obtain⟨i,hi⟩:∃i,mod.length=i:=⟨_,rfl⟩
  have hil:i<nl:=by rw[← hl,← hi];simp
  rw[hi]at hf hv;obtain⟨x0,x1⟩:=hwr.head;obtain⟨X,rfl⟩:∃X:Nat,x=(X:Int):=⟨x.toNat,by omega⟩
  obtain⟨y0,y1⟩:=ym hdw i;obtain⟨Y,hY⟩:∃Y:Nat,nth den i=(Y:Int):=⟨(nth den i).toNat,by omega⟩
  have hYl:Y<4294967296:=by omega
  have hgY:g*Y≤4294967296*4294967295:=VG hg (by omega)
  obtain⟨t,ht⟩:∃t,c+g*Y=t:=⟨_,rfl⟩
  have htl:t<18446744073709551616:=by omega
  obtain⟨z,r',z1,z2,z3,z4,z5⟩:=subw (X:=X) (Y:=t % 4294967296) (r:=r) (by omega) (by omega) hr
  have hd:=Nat.mod_add_div t 4294967296
  have hvt:qd (den.take (i+1))=qd (den.take i)+4294967296^i*Y:=by rw[jL,hY,zn]
  have hc':t / 4294967296<4294967296:=by omega
  have hi1:∀z:Int,(mod++[z]).length=i+1:=fun z=>by rw[zg,hi];rfl
  have hnum:=qv4 (P:=4294967296^i) (y:=Y) (x:=X) hv z3 (by rw[ht];exact hd.symm)
  have hfl:=qxv (P:=4294967296^i) (y:=Y) (tm:=t % 4294967296) (td:=t / 4294967296) (B:=4294967296) hf (by rw[ht];exact hd.symm)
  obtain⟨mod',r2,c2,h1,h2,h3,h4,h5,k,h6⟩:=qlV hA hden hdw hdl2 hnl hg rest (mod++[(z:Int)]) (v+4294967296^i*X) r' (t / 4294967296) (by rw[← hl];simp;omega) (hw.app (.cons (by omega) (by omega) .nil)) hwr.tail z2 hc'
   (by rw[hi1,hvt,z7];exact hfl) (by rw[hi1,JN,hi,hvt,z7];exact hnum)
  refine⟨mod',r2,c2,h1,h2,h3,h4,?_,?_⟩
  · rw[h5,hi1,hi]
    show v+4294967296^i*X+4294967296^(i+1)*qd rest+_=v+4294967296^i*((X:Int).toNat+4294967296*qd rest)+_
    rw[zn,z7,Ky,zy,Kp v]
  · refine Ym ?_ ⟨k,h6⟩
    have hmid:off+i=A.length+mod.length:=by rw[hA,hi]
    have hget:=qlT A mod (rest++C) (X:Int) (off+i) hmid
    have hset:=qlU A mod (rest++C) (X:Int) (z:Int) (off+i) hmid
    rw[hi1,hi];unfold mS;have d1:decide ((i:Int)<(nl:Int))=true:=zf (by omega)
    have d2:decide ((0:Int)≤(i:Int))=true:=zf (by omega)
    have e9:IntKind.i64.wrap ((i:Int)+1)=((i+1:Nat):Int):=by rw[w64 (by omega) (by omega)];rfl
    have ex:IntKind.u64.wrap (X:Int)=(X:Int):=yj (by omega) (by omega)
    have e6:Int.fdiv (t:Int) (2^32)=((t / 4294967296:Nat):Int):=by
     have:=Zn t 32;rwa [show(2:Nat)^32=4294967296 from rfl]at this
    rw[zA];by_cases hid:i<dl
    · have d3:decide ((i:Int)<(dl:Int))=true:=zf (by omega)
      have hgd:(den.map eW)[i]?=some (eW (Y:Int)):=by rw[Zl (by omega),hY]
      have ey:IntKind.u64.wrap (Y:Int)=(Y:Int):=yj (by omega) (by omega)
      have e1:IntKind.u64.wrap ((g:Int)*(Y:Int))=((g*Y:Nat):Int):=by rw[← Vs];exact yj (by omega) (by omega)
      have e2:IntKind.u64.wrap ((c:Int)+((g*Y:Nat):Int))=(t:Int):=by rw[← ht,yj (by omega) (by omega)];omega
      simp only[qeU,d1,d2,d3,Kq,zd,zn,zr,hgd,hget,zk,YC,QQ,ey,e1,e2,ex,qp8 t htl,z4,z5,e6,e9,hset]
    · have d3:decide ((i:Int)<(dl:Int))=false:=zp (by omega)
      have hY0:Y=0:=by
       have:nth den i=0:=by unfold nth;rw[Ki (by omega)];rfl
       omega
      subst hY0;have htc:(c:Int)=(t:Int):=by omega
      simp only[qeU,d1,d2,d3,Kq,zd,zo,zn,hget,zk,YC,QQ,ex,htc,qp8 t htl,z4,z5,e6,e9,hset]
abbrev ASt:=Nat×(Nat×Nat×Nat×Int×Int×Int×Int×Int×Int×Int×Int×Int×Int×Int×(List T)×(List T)×Unit)
def aS(off nl dl f left:Nat)(num den:List Int)(g r c s i:Nat):ASt:=(off,nl,0,dl,(dl:Int),(f:Int),(g:Int),(left:Int),(r:Int),(c:Int),(nl:Int),(nl:Int),(s:Int),(nl:Int),(i:Int),num.map eW,den.map eW,())
theorem qv5{P B v vm D0 y s x t tm td:Nat}(h:vm+s*P=v+D0)(ht:s+y+x=t)(hd:t=tm+B*td):(vm+P*tm)+td*(P*B)=(v+P*x)+(D0+P*y):=by
 subst ht;grind
theorem qlW{off nl dl f left g r c:Nat}{A C den:List Int}(hA:A.length=off)(hden:den.length=dl)(hdw:Wd den)(hdl2:nl≤549755813888)(hnl:nl=dl+1) :
 ∀(rest mod:List Int) (v s:Nat),mod.length+rest.length=nl→Wd mod→Wd rest→s≤1→qd mod+s*4294967296^mod.length=v+qd (den.take mod.length) →
 ∃(mod':List Int) (s':Nat),mod'.length=nl∧Wd mod'∧qd mod'+s'*4294967296^nl=(v+4294967296^mod.length*qd rest)+qd den ∧
  ∃k,itP k qeV (aS off nl dl f left (A++(mod++(rest++C))) den g r c s mod.length)=some (aS off nl dl f left (A++(mod'++C)) den g r c s' nl)
 | [],mod,v,s,hl,hw,_,hs,hv=>by
  have hl:mod.length=nl:=by simpa using hl
  rw[hl,zN (by omega)]at hv;refine⟨mod,s,hl,hw,by rw[hv];simp[qd],J1 ?_⟩
  unfold aS;rw[hl];simp only[qeV];rw[zp (by omega),zo,zx]
 | x::rest,mod,v,s,hl,hw,hwr,hs,hv=>by
  obtain⟨i,hi⟩:∃i,mod.length=i:=⟨_,rfl⟩
  have hil:i<nl:=by rw[← hl,← hi];simp
  rw[hi]at hv;obtain⟨x0,x1⟩:=hwr.head;obtain⟨X,rfl⟩:∃X:Nat,x=(X:Int):=⟨x.toNat,by omega⟩
  obtain⟨y0,y1⟩:=ym hdw i;obtain⟨Y,hY⟩:∃Y:Nat,nth den i=(Y:Int):=⟨(nth den i).toNat,by omega⟩
  have hYl:Y<4294967296:=by omega
  obtain⟨t,ht⟩:∃t,s+Y+X=t:=⟨_,rfl⟩
  have hd:=Nat.mod_add_div t 4294967296
  have hvt:qd (den.take (i+1))=qd (den.take i)+4294967296^i*Y:=by rw[jL,hY,zn]
  have hs':t / 4294967296≤1:=by omega
  have hi1:∀z:Int,(mod++[z]).length=i+1:=fun z=>by rw[zg,hi];rfl
  have hnum:=qv5 (P:=4294967296^i) hv ht hd.symm
  obtain⟨mod',s2,h1,h2,h5,k,h6⟩:=qlW (f:=f) (left:=left) (g:=g) (r:=r) (c:=c) (C:=C) hA hden hdw hdl2 hnl rest (mod++[((t % 4294967296:Nat):Int)]) (v+4294967296^i*X) (t / 4294967296) (by rw[← hl];simp;omega) (hw.app (qte t)) hwr.tail hs'
   (by rw[hi1,JN,hi,hvt,z7];exact hnum)
  refine⟨mod',s2,h1,h2,?_,?_⟩
  · rw[h5,hi1,hi]
    show v+4294967296^i*X+4294967296^(i+1)*qd rest+_=v+4294967296^i*((X:Int).toNat+4294967296*qd rest)+_
    rw[zn,z7,Ky,zy,Kp v]
  · refine Ym ?_ ⟨k,h6⟩
    have hmid:off+i=A.length+mod.length:=by rw[hA,hi]
    have hget:=qlT A mod (rest++C) (X:Int) (off+i) hmid
    have hset:=qlU A mod (rest++C) (X:Int) ((t % 4294967296:Nat):Int) (off+i) hmid
    rw[hi1,hi];unfold aS;have d1:decide ((i:Int)<(nl:Int))=true:=zf (by omega)
    have d2:decide ((0:Int)≤(i:Int))=true:=zf (by omega)
    have e9:IntKind.i64.wrap ((i:Int)+1)=((i+1:Nat):Int):=by rw[w64 (by omega) (by omega)];rfl
    have ex:IntKind.u64.wrap (X:Int)=(X:Int):=yj (by omega) (by omega)
    have e6:Int.fdiv (t:Int) (2^32)=((t / 4294967296:Nat):Int):=by
     have:=Zn t 32;rwa [show(2:Nat)^32=4294967296 from rfl]at this
    have e7:IntKind.u32.wrap (t:Int)=((t % 4294967296:Nat):Int):=by rw[wrap_u32];omega
    rw[zA];by_cases hid:i<dl
    · have d3:decide ((i:Int)<(dl:Int))=true:=zf (by omega)
      have hgd:(den.map eW)[i]?=some (eW (Y:Int)):=by rw[Zl (by omega),hY]
      have ey:IntKind.u64.wrap (Y:Int)=(Y:Int):=yj (by omega) (by omega)
      have e1:IntKind.u64.wrap ((s:Int)+(Y:Int))=((s+Y:Nat):Int):=by rw[← Int.natCast_add];exact yj (by omega) (by omega)
      have e2:IntKind.u64.wrap (((s+Y:Nat):Int)+(X:Int))=(t:Int):=by rw[← ht,← Int.natCast_add];exact yj (by omega) (by omega)
      simp only[qeV,d1,d2,d3,Kq,zd,zn,zr,hgd,hget,zk,YC,QQ,ey,e1,ex,e2,e6,e7,e9,hset]
    · have d3:decide ((i:Int)<(dl:Int))=false:=zp (by omega)
      have hY0:Y=0:=by
       have:nth den i=0:=by unfold nth;rw[Ki (by omega)];rfl
       omega
      subst hY0;have e2:IntKind.u64.wrap ((s:Int)+(X:Int))=(t:Int):=by rw[← ht,KN,← Int.natCast_add];exact yj (by omega) (by omega)
      simp only[qeV,d1,d2,d3,Kq,zd,zo,zn,hget,zk,YC,QQ,ex,e2,e6,e7,e9,hset]
theorem Z4{S R:Type}{F:S→Option (S ⊕ R)}{r:R}:∀ {k:Nat} {s:S},itP k F s=some r→∀fu,k≤fu→itP fu F s=some r
 | 0,s,h,fu,_=>by cases h
 | k+1,s,h,fu,hfu=>by
  obtain⟨fu,rfl⟩:∃m,fu=m+1:=⟨fu-1,by omega⟩
  rw[jS]at h ⊢;cases hs:F s with
  | none=>rw[hs]at h;cases h
  | some x=>
   rw[hs]at h;cases x with
   | inr y=>exact h
   | inl s'=>exact Z4 (k:=k) h fu (by omega)
abbrev DSt:=Int×(Nat×Nat×Nat×Nat×Nat×Nat×Int×(List T)×(List T)×(List T)×Unit)
def dS(sh:Int)(nlen dl qlen:Nat)(num den q:List Int)(i:Int):DSt:=(sh,0,nlen,0,dl,0,qlen,i,num.map eW,den.map eW,q.map eW,())
theorem qtk{l:List Int}(n:Nat)(hl:l.length=n+2):qd l=qd (l.take n)+4294967296^n*((nth l n).toNat+4294967296*(nth l (n+1)).toNat):=by
 have h1:=jL l n;have h2:=jL l (n+1)
 rw[zN (by omega)]at h2;rw[h2,h1,z7,Ky,zy];omega
theorem qv6{B P F d2 Dr D top n2 Nr N:Nat}(hD:D=(B*F+d2)*P+Dr)(hDr:Dr<P)(hd2:d2<B)(hN:N=(B*top+n2)*P+Nr)(h:N<B*D)(hF:B≤2*F)(hF0:0<F):top / F≤B+1:=by
 have h1:D<(F+1)*B*P:=by
  have:D<(B*F+d2+1)*P:=by rw[hD,zV (B*F+d2) 1 P,KO];omega
  refine Kw this (zF P ?_)
  rw[zV,KO,zI F B];omega
 have h2:B*(top*P)≤N:=by
  rw[hN,zV,← zy];omega
 have h3:B*(top*P)<B*((F+1)*B*P):=KZ h2 (Kw h (zX B (VZ h1)))
 have h4:top*P<(F+1)*B*P:=Wj h3
 have h5:top<(F+1)*B:=VD h4
 have h6:top / F<B+2:=by
  rw[KB hF0,zV];rw[zV,KO,zI F B]at h5;omega
 omega
theorem qtl(P B n0 n1 n2 t:Nat):t+P*n2+P*B*n1+P*B*B*n0=(B*(B*n0+n1)+n2)*P+t:=by grind
theorem qxw{sh:Int}{nlen dl qlen i:Nat}{A C seg den q:List Int}(hA:A.length=i)(hseg:seg.length=dl+1)(hnum:(A++(seg++C)).length=nlen)(hden:den.length=dl)(hq:q.length=qlen)(hi:i<qlen)(hdl:2≤dl)(hb:nlen≤549755813887)(hql:qlen≤549755813887)
 (hws:Wd seg) (hwd:Wd den) (hF:2147483648≤(nth den (dl-1)).toNat) (hN:qd seg<4294967296*qd den) :
 ∃seg':List Int,seg'.length=dl+1∧Wd seg'∧qd seg'=qd seg % qd den ∧
  ∃K,∀fu,K≤fu→qbb fu (dS sh nlen dl qlen (A++(seg++C)) den q (i:Int))=some (.inl (dS sh nlen dl qlen (A++(seg'++C)) den (q.set i ((qd seg / qd den:Nat):Int)) ((i:Int)-1))):=by
 obtain⟨e,rfl⟩:∃e,dl=e+2:=⟨dl-2,by omega⟩
 have hnl:i+(e+3)≤nlen:=by rw[← hnum,zg,zg];omega
 obtain⟨y0,y1⟩:=ym hwd (e+1)
 obtain⟨F,hFe⟩:∃F:Nat,nth den (e+1)=(F:Int):=⟨(nth den (e+1)).toNat,by omega⟩
 obtain⟨u0,u1⟩:=ym hwd e;obtain⟨d2,hd2e⟩:∃x:Nat,nth den e=(x:Int):=⟨(nth den e).toNat,by omega⟩
 obtain⟨a0,a1⟩:=ym hws e;obtain⟨n2,hn2e⟩:∃x:Nat,nth seg e=(x:Int):=⟨(nth seg e).toNat,by omega⟩
 obtain⟨b0,b1⟩:=ym hws (e+1)
 obtain⟨n1,hn1e⟩:∃x:Nat,nth seg (e+1)=(x:Int):=⟨(nth seg (e+1)).toNat,by omega⟩
 obtain⟨c0,c1⟩:=ym hws (e+2)
 obtain⟨n0,hn0e⟩:∃x:Nat,nth seg (e+2)=(x:Int):=⟨(nth seg (e+2)).toNat,by omega⟩
 have hF:2147483648≤F:=by
  have h:2147483648≤(nth den (e+1)).toNat:=hF
  rw[hFe]at h;omega
 have hDr:=Qc hwd e;have hNr:=Qc hws e;have hD:qd den=(4294967296*F+d2)*4294967296^e+qd (den.take e):=by
  rw[qtk e (by omega),hFe,hd2e,zn,zn,zI (4294967296^e),VY d2];omega
 obtain⟨top,htop⟩:∃top,4294967296*n0+n1=top:=⟨_,rfl⟩
 have hNe:qd seg=(4294967296*top+n2)*4294967296^e+qd (seg.take e):=by
  have h1:=jL seg e;have h2:=jL seg (e+1)
  have h3:=jL seg (e+2)
  rw[zN (by omega)]at h3;rw[h3,h2,h1,hn0e,hn1e,hn2e,zn,zn,zn,← htop,z7,z7];exact qtl _ _ _ _ _ _
 have hDl:=Qb den hwd;rw[hden]at hDl;have hd2:d2<4294967296:=by omega
 have hn2:n2<4294967296:=by omega
 have hF0:0<F:=by omega
 have hn0:n0<4294967296:=by omega
 have hn1:n1<4294967296:=by omega
 have hg0:=qv6 hD hDr hd2 hNe hN (by omega) hF0
 have hst:=qp5 hD hNe hNr hn2 hF0;have hget:∀j,j<e+3→((A++(seg++C)).map eW)[i+j]?=some (eW (nth seg j)):=fun j hj=>by
  rw[Kt,Kj (by rw[zR];omega),zR,hA,Nat.add_sub_cancel_left,Kt,Kf (by rw[zR];omega)];exact Zl (by omega)
 have hgd:∀j,j<e+2→(den.map eW)[j]?=some (eW (nth den j)):=fun j hj=>Zl (by omega)
 obtain⟨g,left,k1,k2,k3,k4,K1,k5⟩:=qkE (off:=i) (nl:=e+3) (dl:=e+2) (num:=A++(seg++C)) (den:=den) hD hNe hNr hN (by omega) hd2 hn2 (by omega) (by omega) rfl
  (by rw[show e+2-2=e by omega,hget e (by omega),hn2e]) (by rw[show e+2-2=e by omega,hgd e (by omega),hd2e]) (top / F) (top % F) (by rw[zI];exact K8 top F) (by have:=Va top hF0;omega) hg0 hst
 have hge:=qv3 hD hNe hDr k1 hF0 (by omega) k2 k3
 obtain⟨m1,r,c,i1,i2,i3,i4,i5,K2,i6⟩:=qlV (off:=i) (nl:=e+3) (dl:=e+2) (f:=F) (left:=left) (g:=g) (A:=A) (C:=C) hA hden hwd (by omega) rfl k2 seg [] 0 0 0 (by simpa using hseg) .nil hws (by omega) (by omega) (by simp) (by simp[qd])
 have hBp:(4294967296:Nat)^(e+3)=4294967296*4294967296^(e+2):=by rw[z7,zI]
 have hD0:0<qd den:=by
  cases h:qd den with
  | zero=>rw[h]at hN;omega
  | succ=>omega
 have hgD:g*qd den<4294967296^(e+3):=by
  have h1:=zF (qd den) k2
  rw[hBp];omega
 have hc0:c=0:=by
  cases c with
  | zero=>rfl
  | succ c=>
   have:1*4294967296^(e+3)≤(c+1)*4294967296^(e+3):=zF _ (by omega)
   omega
 subst hc0;have hm1:=Qb m1 i2;rw[i1]at hm1;simp only[zt,Vc,KO,zr,KN]at i5;obtain⟨q1,q2⟩:=qtj k4 hge;have hqB:qd seg / qd den<4294967296:=(KB hD0).2 hN
 obtain⟨Bn,hBn⟩:∃Bn,(4294967296:Nat)^(e+3)=Bn:=⟨_,rfl⟩
 rw[hBn]at i5 hgD hm1
 -- what the first rows read
 have f1:=hget (e+2) (by omega)
 have f2:=hget (e+1) (by omega)
 have f3:=hgd (e+1) (by omega)
 rw[hn0e]at f1;rw[hn1e]at f2;rw[hFe]at f3;have hqget:(q.map eW)[i]?=some (eW (nth q i)):=Zl (by omega)
 have w1:IntKind.i64.wrap ((i:Int)+((e+2:Nat):Int))=((i+(e+2):Nat):Int):=by rw[w64 (by omega) (by omega)];omega
 have w2:IntKind.i64.wrap (((i+(e+2):Nat):Int)+1)=((i+(e+3):Nat):Int):=by rw[w64 (by omega) (by omega)];omega
 have w3:(((i+(e+3):Nat):Int)-(i:Int)).toNat=e+3:=by omega
 have w4:IntKind.i64.wrap (((e+2:Nat):Int)-1)=((e+1:Nat):Int):=by rw[w64 (by omega) (by omega)];omega
 have w5:IntKind.u64.wrap (F:Int)=(F:Int):=yj (by omega) (by omega)
 have w6:jf .or .u64 (IntKind.u64.wrap (IntKind.u64.wrap (n0:Int)*2^32)) (IntKind.u64.wrap (n1:Int))=(top:Int):=by
  rw[show IntKind.u64.wrap (n0:Int)=(n0:Int) from yj (VN _) (by omega),qlS hn0 hn1,htop]
 have w7:IntKind.u64.wrap (Int.tdiv (top:Int) (F:Int))=((top / F:Nat):Int):=by
  rw[Int.tdiv_eq_ediv_of_nonneg (VN _),← Int.natCast_ediv];exact yj (VN _) (by omega)
 have w8:Int.tmod (top:Int) (F:Int)=((top % F:Nat):Int):=by
  rw[Wc (by omega),← Int.natCast_emod]
 have w9:IntKind.i64.wrap ((i:Int)-1)=(i:Int)-1:=w64 (by omega) (by omega)
 have b1:decide ((0:Int)≤(i:Int))=true:=zf (by omega)
 have b2:decide ((i:Int)≤((i+(e+3):Nat):Int))=true:=zf (by omega)
 have b3:decide (((i+(e+3):Nat):Int)≤(nlen:Int))=true:=zf (by omega)
 have b4:decide ((0:Int)≤((e+2:Nat):Int))=true:=zf (by omega)
 have b5:decide (((e+2:Nat):Int)<((e+3:Nat):Int))=true:=zf (by omega)
 have b6:decide ((0:Int)≤((e+1:Nat):Int))=true:=zf (by omega)
 have b7:decide (((e+1:Nat):Int)<((e+3:Nat):Int))=true:=zf (by omega)
 have b8:decide (((e+1:Nat):Int)<((e+2:Nat):Int))=true:=zf (by omega)
 have b9:decide ((F:Int)=0)=false:=zp (by omega)
 have b10:decide ((i:Int)<(qlen:Int))=true:=zf (by omega)
 by_cases hr:r=0
 · subst hr
   rw[Vb,KN]at i5;obtain⟨q3,q4⟩:=q1 (by omega)
   refine⟨m1,i1,i2,by rw[q4];omega,max K1 K2,fun fu hfu=>?_⟩
   have r1:=Z4 k5 fu (by omega)
   have r2:=Z4 i6 fu (by omega)
   have wg:IntKind.u32.wrap (g:Int)=(g:Int):=qiR (by omega) (by omega)
   unfold gS at r1;unfold mS at r2;rw[zx]at r2;unfold dS;rw[q3];have hset:(q.map eW).set i (eW (g:Int))=(q.set i (g:Int)).map eW:=qdI q i _
   simp only[qbb,b1,zd,w1,w2,w3,Kq,Vf,b2,b3,b4,b5,zn,zr,f1,zk,YC,QQ,w4,b6,b7,f2,b8,f3,w5,b9,zo,w6,w7,w8,r1];refine obB r2 ?_
   simp only[b10,zd,hqget,zk,QQ,wg,w9];rw[show T.s (.int .u32 (g:Int))=eW (g:Int) from rfl,hset];rfl
 · have hr1:r=1:=by omega
   subst hr1;rw[KO]at i5;obtain⟨q3,q4⟩:=q2 (by omega)
   obtain⟨m2,s',j1,j2,j5,K3,j6⟩:=qlW (off:=i) (nl:=e+3) (dl:=e+2) (f:=F) (left:=left) (g:=g) (r:=1) (c:=0) (A:=A) (C:=C) hA hden hwd (by omega) rfl m1 [] 0 0 (by simpa using i1) .nil i2 (by omega) (by simp[qd])
   simp only[zt,Vc,KO,zr,hBn]at j5;have hm2:=Qb m2 j2;rw[j1,hBn]at hm2;have hmod:=Va (qd seg) hD0
   have hDB:qd den<Bn:=by rw[← hBn,hBp];omega
   have hs1:s'=1:=by
    have h1:qd m2+s'*Bn=Bn+qd seg % qd den:=by omega
    cases s' with
    | zero=>rw[Vb]at h1;omega
    | succ s'=>
     cases s' with
     | zero=>rfl
     | succ s'=>
      have:2*Bn≤(s'+1+1)*Bn:=zF _ (by omega)
      omega
   subst hs1;refine⟨m2,j1,j2,by omega,max (max K1 K2) K3,fun fu hfu=>?_⟩
   have r1:=Z4 k5 fu (by omega)
   have r2:=Z4 i6 fu (by omega)
   have r3:=Z4 j6 fu (by omega)
   have wg:IntKind.u32.wrap (IntKind.u64.wrap ((g:Int)-1))=((qd seg / qd den:Nat):Int):=by
    have e0:(g:Int)-1=((qd seg / qd den:Nat):Int):=by rw[← q3,Int.natCast_add];exact Int.add_sub_cancel _ _
    rw[e0];generalize qd seg / qd den=w at *
    have e1:IntKind.u64.wrap (w:Int)=(w:Int):=yj (VN _) (by omega)
    rw[e1];exact qiR (VN _) (by omega)
   unfold gS at r1;unfold mS at r2;unfold aS at r3;rw[zx]at r2 r3;unfold dS;have hset:(q.map eW).set i (eW ((qd seg / qd den:Nat):Int))=(q.set i ((qd seg / qd den:Nat):Int)).map eW:=qdI q i _
   simp only[qbb,b1,zd,w1,w2,w3,Kq,Vf,b2,b3,b4,b5,zn,zr,f1,zk,YC,QQ,w4,b6,b7,f2,b8,f3,w5,b9,zo,w6,w7,w8,r1];refine obB r2 ?_
   refine obB r3 ?_
   simp only[b10,zd,hqget,zk,QQ,wg,w9];rw[show T.s (.int .u32 ((qd seg / qd den:Nat):Int))=eW ((qd seg / qd den:Nat):Int) from rfl,hset]
theorem qv7{P B D X S C a r q Q V:Nat}(hS:q*D+r=S)(hV:V=(X+P*(S+C*0))+D*Q):(X+P*(r+C*0))+D*(Q+P*q)=V:=by grind
theorem qny{vA P S B1 vC D B:Nat}(h:vA+P*(S+B1*vC)<D*(P*B))(hD:D*B≤B1)(hP:0<P):vC=0∧S<B*D:=by
 have h1:P*(S+B1*vC)<P*(D*B):=by
  have:D*(P*B)=P*(D*B):=by grind
  omega
 have h2:=Wj h1;have hv:vC=0:=by
  cases vC with
  | zero=>rfl
  | succ n=>
   have:B1*1≤B1*(n+1):=zX _ (by omega)
   omega
 subst hv;exact⟨rfl,by rw[zI B D];omega⟩
theorem qhD{q:List Int}{i d:Nat}(hi:i<q.length)(h0:nth q i=0):qd (q.set i (d:Int))=qd q+4294967296^i*d:=by
 have h:=Z2 q i (d:Int) hi
 rw[h0,zn]at h;simpa using h
theorem qjh{sh:Int}{nlen dl qlen:Nat}{den:List Int}(hden:den.length=dl)(hdl:2≤dl)(hb:nlen≤549755813887)(hql:qlen≤549755813887)(hqn:qlen+dl≤nlen)(hwd:Wd den)(hF:2147483648≤(nth den (dl-1)).toNat) :
 ∀(m:Nat) (num q:List Int),m≤qlen→num.length=nlen→Wd num→q.length=qlen→Wd q→(∀j,j<m→nth q j=0)→qd num<qd den*4294967296^m →
 ∃num' q':List Int,num'.length=nlen∧Wd num'∧q'.length=qlen∧Wd q'∧qd num'<qd den∧qd num'+qd den*qd q'=qd num+qd den*qd q ∧
  ∃K,∀fu,K≤fu→∀n,K≤n→itP n (qbb fu) (dS sh nlen dl qlen num den q ((m:Int)-1))=some (dS sh nlen dl qlen num' den q' (-1))
 | 0,num,q,_,hn,hw,hq,hwq,_,hv=>by
  refine⟨num,q,hn,hw,hq,hwq,by simpa using hv,rfl,1,fun fu _ n hn=>?_⟩
  obtain⟨n,rfl⟩:∃k,n=k+1:=⟨n-1,by omega⟩
  rw[jS];unfold dS;have e:decide ((0:Int)≤((0:Nat):Int)-1)=false:=rfl
  simp only[qbb];rw[e,zo];rfl
 | m+1,num,q,hm,hn,hw,hq,hwq,hz,hv=>by
  obtain⟨A,hA⟩:∃A,num.take m=A:=⟨_,rfl⟩
  obtain⟨seg,hseg⟩:∃s,(num.drop m).take (dl+1)=s:=⟨_,rfl⟩
  obtain⟨C,hC⟩:∃c,(num.drop m).drop (dl+1)=c:=⟨_,rfl⟩
  have hnum:num=A++(seg++C):=by rw[← hA,← hseg,← hC,KC,KC]
  have hAl:A.length=m:=by rw[← hA,z8];omega
  have hsl:seg.length=dl+1:=by rw[← hseg,z8,KG];omega
  subst hnum;have hws:Wd seg:=hw.right.left
  have hwA:Wd A:=hw.left
  have hwC:Wd C:=hw.right.right
  have hDl:=Qb den hwd;rw[hden]at hDl;have hP:0<4294967296^m:=Nat.pow_pos (by omega)
  have hval:qd (A++(seg++C))=qd A+4294967296^m*(qd seg+4294967296^(dl+1)*qd C):=by
   rw[yM,yM,hAl,hsl]
  obtain⟨hC0,hS⟩:=qny (B:=4294967296) (D:=qd den) (by rw[← hval];rw[z7]at hv;exact hv) (by
   rw[z7];exact zF _ (VZ hDl)) hP
  obtain⟨seg',s1,s2,s3,K1,s4⟩:=qxw (sh:=sh) (q:=q) hAl hsl hn hden hq (by omega) hdl hb hql hws hwd hF hS
  have hD0:0<qd den:=by
   cases h:qd den with
   | zero=>rw[h]at hS;omega
   | succ=>omega
  have hmod:=Va (qd seg) hD0
  have hdm:=K8 (qd seg) (qd den)
  have hv':qd (A++(seg'++C))=qd A+4294967296^m*(qd seg % qd den):=by
   rw[yM,yM,hAl,s1,hC0,s3,Vz,KN]
  have hvA:=Qb A hwA;rw[hAl]at hvA;have hq0:=qhD (q:=q) (i:=m) (d:=qd seg / qd den) (by omega) (hz m (by omega))
  have hqB:qd seg / qd den<4294967296:=(KB hD0).2 hS
  obtain⟨num2,q2,t1,t2,t3,t4,t5,t6,K2,t7⟩:=qjh (sh:=sh) hden hdl hb hql hqn hwd hF m (A++(seg'++C)) (q.set m ((qd seg / qd den:Nat):Int)) (by omega)
   (by rw[← hn];simp only[zg,s1,hsl]) (hwA.app (s2.app hwC)) (by rw[List.length_set];exact hq) (hwq.set (VN _) (by omega) m)
   (fun j hj=>by rw[qba _ (by omega)];exact hz j (by omega)) (by
     rw[hv'];have h1:4294967296^m*(qd seg % qd den+1)≤4294967296^m*qd den:=zX _ hmod
     rw[Ky,KW]at h1;rw[zI (qd den)];omega)
  refine⟨num2,q2,t1,t2,t3,t4,t5,?_,max K1 K2+1,fun fu hfu n hnn=>?_⟩
  · rw[t6,hv',hq0,hval,hC0]
    have:=qv7 (P:=4294967296^m) (B:=0) (D:=qd den) (X:=qd A) (S:=qd seg) (C:=0) (a:=0) (r:=qd seg % qd den) (q:=qd seg / qd den) (Q:=qd q) (by rw[zI];exact hdm) rfl
    simpa using this
  · obtain⟨n,rfl⟩:∃k,n=k+1:=⟨n-1,by omega⟩
    rw[jS,show((m+1:Nat):Int)-1=(m:Int) by omega,s4 fu (by omega)];exact t7 fu (by omega) n (by omega)
theorem qlX{a:List Int}(ha:Wd a){r size:Nat}(hr:r<32)(hN:size≤549755813887)(hfit:qd a*2^r<4294967296^size) :
 ∃o:List Int,o.length=size∧Wd o∧qd o=qd a*2^r∧∃n,itP n Zo (a,(r:Int),size,(size:Int),(0:Int),(List.replicate size 0).map eW,())=some (a,(r:Int),size,(size:Int),(size:Int),o.map eW,()):=by
 obtain⟨o,c,h1,h2,h3,h4⟩:=qjg a ha r hr size hN size 0 [] 0 (by omega) rfl .nil (zQ _) (fun _=>rfl) (fun j hj=>by omega) (by simp[qd])
 have hv:qd a<4294967296^size:=KZ (Nat.le_mul_of_pos_right _ (zQ r)) hfit
 rw[qnx a ha size hv]at h3;have hc:c=0:=by
  cases c with
  | zero=>rfl
  | succ c=>
   have:1*4294967296^size≤(c+1)*4294967296^size:=zF _ (by omega)
   omega
 subst hc;exact⟨o,h1,h2,by omega,h4⟩
theorem qtm{o:List Int}{k:Nat}(hl:o.length=k+1)(hw:Wd o)(h:4294967296^k*2147483648≤qd o):2147483648≤(nth o k).toNat:=by
 have h1:=jL o k;rw[zN (by omega)]at h1;have h2:=Qc hw k;refine V8 fun h3=>?_
 have h4:4294967296^k*((nth o k).toNat+1)≤4294967296^k*2147483648:=zX _ h3
 rw[Ky,KW]at h4;omega
theorem qeW{v:Nat}:v<4294967296^(ofN v).length:=by
 have:=Qb (ofN v) (qeO v)
 rwa [valN_ofN]at this
def qeX(p:List Int×List Int):Option (List Int×List Int×Int):=bif Nat.ble p.1.length 1000000&&Nat.ble p.2.length 1000000 then
 some (if qd p.2=0 then([],[],21)else(ofN (qd p.1 / qd p.2),ofN (qd p.1 % qd p.2),0))else none
theorem YD(l:List Int)(h:Wd l):(ofN (qd l)).length≤l.length:=by
 refine V8 fun hlt=>?_
 by_cases h0:qd l=0
 · rw[h0,J6]at hlt;simp at hlt
 · obtain⟨m,x,h1,h2,h3,h4,h5⟩:=qeR (qd l) h0
   have hm:(ofN (qd l)).length=m.length+1:=by rw[h1];simp
   have h6:=Qb l h;have h7:4294967296^l.length≤4294967296^m.length:=Ka (by omega) (by omega)
   have h8:4294967296^m.length*1≤4294967296^m.length*x:=zX _ (by omega)
   omega
theorem qp9{va vb:Nat}{mb:List Int}{x:Nat}(hla:(ofN va).length≤1000000)(hlb:(ofN vb).length≤1000000)(hge:vb≤va)(h1:ofN vb=mb++[(x:Int)])(hx0:x≠0)(hx1:x<4294967296)(hwm:Wd mb)(hvb:vb=qd mb+4294967296^mb.length*x)(hm:1≤mb.length) :
 ∃(r qlen:Nat) (o1 o2 num q:List Int),r=32-qr x∧r<32∧(ofN vb).length≤(ofN va).length∧qlen=(ofN va).length-(ofN vb).length+1∧o1.length=(ofN va).length+1∧o2.length=(ofN vb).length∧num.length=(ofN va).length+1∧q.length=qlen∧Wd num∧Wd q ∧
  qd q=va / vb∧qd num / 2^r=va % vb ∧
  (∃n,itP n qp6 (ofN va,(r:Int),(ofN va).length+1,(((ofN va).length+1:Nat):Int),(0:Int),(List.replicate ((ofN va).length+1) 0).map eW,())=some (ofN va,(r:Int),(ofN va).length+1,(((ofN va).length+1:Nat):Int),(((ofN va).length+1:Nat):Int),o1.map eW,())) ∧
  (∃n,itP n qp7 (ofN vb,(r:Int),(ofN vb).length,(((ofN vb).length:Nat):Int),(0:Int),(List.replicate (ofN vb).length 0).map eW,())=some (ofN vb,(r:Int),(ofN vb).length,(((ofN vb).length:Nat):Int),(((ofN vb).length:Nat):Int),o2.map eW,())) ∧
  ∃K,∀fu,K≤fu→∀n,K≤n→itP n (qbb fu) (dS (r:Int) ((ofN va).length+1) (ofN vb).length qlen o1 o2 (List.replicate qlen 0) ((qlen:Int)-1))=some (dS (r:Int) ((ofN va).length+1) (ofN vb).length qlen num o2 q (-1)):=by
 have hbl:qr vb=32*mb.length+qr x:=by rw[hvb];exact qgi hwm hx0
 have hbx1:0<qr x:=jY hx0
 have hbx2:qr x≤32:=j4.2 (by simpa using hx1)
 have hlbe:(ofN vb).length=mb.length+1:=by rw[h1];simp
 obtain⟨r,hr⟩:∃r,r=32-qr x:=⟨_,rfl⟩
 have hr32:r<32:=by omega
 have hval:=@qeW va
 have hvbl:=@qeW vb
 have hvb0:vb≠0:=by
  intro e;rw[e,J6]at h1;have:=congrArg List.length h1;simp at this
 have hbge:4294967296^mb.length≤vb:=by
  rw[hvb];have:4294967296^mb.length*1≤4294967296^mb.length*x:=zX _ (by omega)
  omega
 have hlal:(ofN vb).length≤(ofN va).length:=by
  refine V8 fun hlt=>?_
  have h2:4294967296^(ofN va).length≤4294967296^mb.length:=Ka (by omega) (by omega)
  omega
 obtain⟨la,hlae⟩:∃la,(ofN va).length=la:=⟨_,rfl⟩
 obtain⟨k,hk⟩:∃k,mb.length=k:=⟨_,rfl⟩
 have hwa:=qeO va;have hwb:=qeO vb;have f1:qd (ofN va)*2^r<4294967296^(la+1):=by
  rw[valN_ofN,z7];have h2:=z6 hval (zQ r)
  have h3:2^r≤2^31:=Ka (by omega) (by omega)
  rw[hlae]at h2;exact Kw h2 (zX _ (KF h3 (by decide)))
 have f2:qd (ofN vb)*2^r<4294967296^(k+1):=by
  rw[valN_ofN,qdb];have h2:=z6 (y9 vb) (zQ r)
  rw[← zS]at h2;rw[show 32*(k+1)=qr vb+r by omega];exact h2
 have f3:4294967296^k*2147483648≤qd (ofN vb)*2^r:=by
  rw[valN_ofN,qdb];have h2:=zF (2^r) (Zh hvb0)
  rw[← zS]at h2;rw[show(2147483648:Nat)=2^31 from rfl,← zS,show 32*k+31=qr vb-1+r by omega];exact h2
 obtain⟨o1,p1,p2,p3,p4⟩:=qlX hwa hr32 (size:=la+1) (by omega) f1
 obtain⟨o2,u1,u2,u3,u4⟩:=qlX hwb hr32 (size:=k+1) (by omega) f2
 rw[valN_ofN]at p3 u3 f3;have hqd:va<vb*4294967296^(la-(k+1)+1):=by
  have h2:4294967296^la≤vb*4294967296^(la-(k+1)+1):=by
   have h3:=zF (4294967296^(la-(k+1)+1)) hbge
   rw[hk,← zS,show k+(la-(k+1)+1)=la by omega]at h3;exact h3
  rw[hlae]at hval;omega
 obtain⟨num,q,t1,t2,t3,t4,t5,t6,K,t7⟩:=qjh (sh:=(r:Int)) (nlen:=la+1) (dl:=k+1) (qlen:=la-(k+1)+1) (den:=o2) u1 (by omega) (by omega) (by omega) (by omega) u2 (qtm u1 u2 (by rw[u3];exact f3)) (la-(k+1)+1) o1 (List.replicate (la-(k+1)+1) 0) (zJ _) p1 p2 (by simp)
  (fun z hz=>by have:=(K9.1 hz).2;subst this;exact⟨Int.le_refl _,by decide⟩) (fun j _=>by unfold nth;rw[K6];split <;> rfl) (by
    rw[p3,u3,Kz];exact z6 hqd (zQ r))
 rw[Zm,Vz,KN,p3,u3]at t6;rw[u3]at t5;have hD0:0<vb*2^r:=Wp (by omega) (zQ r)
 have hqv:qd q=va / vb:=by
  have h2:va*2^r / (vb*2^r)=va / vb:=Nat.mul_div_mul_right _ _ (zQ r)
  rw[← h2,← t6,VR _ _ hD0,Vn t5,zr]
 have hrv:qd num / 2^r=va % vb:=by
  have h2:va*2^r % (vb*2^r)=va % vb*2^r:=WF _ _ _
  have h3:qd num=va % vb*2^r:=by
   rw[← h2,← t6,Nat.add_mul_mod_self_left,KQ t5]
  rw[h3,Nat.mul_div_cancel _ (zQ r)]
 rw[hlae,hlbe,hk];exact⟨r,la-(k+1)+1,o1,o2,num,q,hr,hr32,by omega,rfl,p1,u1,t1,t3,t2,t4,hqv,hrv,p4,u4,K,t7⟩
theorem qv8(p:List Int×List Int)(y:List Int×List Int×Int)(hg:(dc (cQ 1 1) (d1 (cQ 1 1))).good p)(h:qeX p=some y):∃n,Div n p.1 p.2=some y:=by
 obtain⟨a,b⟩:=p;obtain⟨⟨ha,la⟩,hb,lb⟩:=hg;obtain⟨hm,h⟩:=qI h;have:=soi h;subst this
 rw[zh]at hm;have hwa:=Wd.of ha;have hwb:=Wd.of hb;have hla:=KF (YD a hwa) (zw hm.1)
 have hlb:=KF (YD b hwb) (zw hm.2)
 show∃n,Div n a b=some (if qd b=0 then([],[],21)else(ofN (qd a / qd b),ofN (qd a % qd b),0))
 unfold Div;simp only[valN_ofN,qtf];generalize qd a=va at *
 generalize qd b=vb at *
 clear ha hb hwa hwb la lb hm h;by_cases hb0:vb=0
 · subst hb0
   refine⟨0,?_⟩
   rw[zZ rfl];rfl
 obtain⟨mb,x,h1,h2,h3,h4,h5⟩:=qeR vb hb0;have hlbe:(ofN vb).length=mb.length+1:=by rw[h1];simp
 have d0:decide ((((ofN vb).length:Nat):Int)=0)=false:=zp (by omega)
 rw[zP hb0];by_cases hlt:va<vb
 · refine⟨0,?_⟩
   have hn:qkD (ofN va)=true:=zK (by omega)
   have hs:qdJ (ofN va)=some (ofN va):=by unfold qdJ;rw[hn,zd]
   rw[d0,zo,zf hlt,zd,hs,Vn hlt,KQ hlt];rfl
 have d2:decide (va<vb)=false:=zp hlt
 by_cases hone:mb.length=0
 · refine⟨0,?_⟩
   have hmb:mb=[]:=Vg hone
   subst hmb;have hx:vb=x:=by rw[h5];simp[qd]
   have d3:decide ((((ofN vb).length:Nat):Int)=1)=true:=zf (by omega)
   have hi:idx (ofN vb) 0=some (x:Int):=by rw[h1];rfl
   have hs:Yp (ofN va,(x:Int))=some (ofN (va / vb),ofN (va % vb)):=by
    unfold Yp;simp only[valN_ofN];rw[show decide ((0:Int)<(x:Int))=true from zf (by omega),show qkD (ofN va)=true from zK (by omega),Kq,zd,zn,hx]
   rw[d0,zo,d2,zo,d3,zd,hi,zk,hs];rfl
 · have d3:decide ((((ofN vb).length:Nat):Int)=1)=false:=zp (by omega)
   obtain⟨r,qlen,o1,o2,num,q,hr,hr32,hll,hql,k1,k2,k3,k4,k5,k6,k7,k8,⟨n1,s1⟩,⟨n2,s2⟩,K,s3⟩:=qp9 hla hlb (by omega) h1 h2 h3 h4 h5 (by omega)
   refine⟨max (max n1 n2) K,?_⟩
   have r1:=Z4 s1 (max (max n1 n2) K) (by omega)
   have r2:=Z4 s2 (max (max n1 n2) K) (by omega)
   have r3:=s3 (max (max n1 n2) K) (by omega) (max (max n1 n2) K) (by omega)
   have w1:IntKind.i64.wrap ((((ofN vb).length:Nat):Int)-1)=(mb.length:Int):=by rw[hlbe,w64 (by omega) (by omega)];omega
   have hi:idx (ofN vb) (mb.length:Int)=some (x:Int):=by rw[JG,h1];simp
   have hbx1:0<qr x:=jY h2
   have hbx2:qr x≤32:=j4.2 (by simpa using h3)
   have w2:IntKind.i64.wrap (32-((qr x:Nat):Int))=(r:Int):=by rw[w64 (by omega) (by omega)];omega
   obtain⟨LA,hLA⟩:∃LA,(ofN va).length=LA:=⟨_,rfl⟩
   obtain⟨LB,hLB⟩:∃LB,(ofN vb).length=LB:=⟨_,rfl⟩
   rw[hLA]at r1 r3 hla hll hql k1 k3;rw[hLB]at r2 r3 hlb hll hql k2 d0 d3 w1;have w3:IntKind.i64.wrap ((LA:Int)+1)=((LA+1:Nat):Int):=by rw[w64 (by omega) (by omega)];rfl
   have w4:IntKind.i64.wrap ((LA:Int)-(LB:Int))=((LA-LB:Nat):Int):=by rw[w64 (by omega) (by omega)];omega
   have w5:IntKind.i64.wrap (((LA-LB:Nat):Int)+1)=(qlen:Int):=by rw[w64 (by omega) (by omega)];omega
   have w6:IntKind.i64.wrap ((qlen:Int)-1)=(qlen:Int)-1:=w64 (by omega) (by omega)
   have b1:decide ((0:Int)≤((LA+1:Nat):Int))=true:=zf (by omega)
   have b2:decide (((LA+1:Nat):Int)≤((LA+1:Nat):Int))=true:=zf (by omega)
   have b3:decide (((LA+1:Nat):Int)≤549755813888)=true:=zf (by omega)
   have b4:decide ((0:Int)≤(LB:Int))=true:=zf (by omega)
   have b5:decide ((LB:Int)≤(LB:Int))=true:=zf (by omega)
   have b6:decide ((LB:Int)≤549755813888)=true:=zf (by omega)
   have b7:decide ((0:Int)≤(qlen:Int))=true:=zf (by omega)
   have b8:decide ((qlen:Int)≤(qlen:Int))=true:=zf (by omega)
   have b9:decide ((qlen:Int)≤549755813888)=true:=zf (by omega)
   rw[VM]at r1 r2;unfold dS at r3;rw[VM]at r3;have hsq:sub (q.map eW) 0 qlen=some (q.map eW):=by
    have:=Zk (q.map eW);rwa [zR,k4]at this
   have hsn:sub (num.map eW) 0 (LA+1)=some (num.map eW):=by
    have:=Zk (num.map eW);rwa [zR,k3]at this
   simp only[hLA,hLB,d0,zo,d2,d3,w1,hi,zk,qgh x h3,w2,w3,w4,w5,w6,b1,b2,b3,b4,b5,b6,b7,b8,b9,Kq,zd,zn];refine obB r1 ?_
   refine obB r2 ?_
   refine obB r3 ?_
   have hmx:max (r:Int) 0=(r:Int):=by omega
   have hbl:Nat.ble num.length 549755813887=true:=zK (by omega)
   have e1:yp 1 (q.map eW)=some q:=JM q
   have e2:yp 1 (num.map eW)=some num:=JM num
   simp only[hsq,hsn,zk,e1,e2];show(bif Nat.ble num.length 549755813887 then some (ofN (qd num / 2^(max (r:Int) 0).toNat))else none).bind (fun x87=>some (ofN (qd q),x87,(0:Int)))=_
   rw[hmx,zn,hbl,zd,k8,k7];rfl
end
end Su
