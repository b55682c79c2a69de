/-
  What functions compute.
-/
import Derived.Test.YtldhknmacepeiaaGreatDoorNB06
set_option linter.unusedVariables false
set_option linter.unusedSimpArgs false
set_option maxRecDepth 10000
namespace Su
open Go Fly
noncomputable section
def qqL:Stp ((List Int)×Int×Nat×Int×Int×(List T)×Unit):=fun p5=>(bif(decide (p5.2.2.2.2.1<p5.2.2.2.1))then
 (At p5.1 p5.2.2.2.2.1).bind fun x6=>
 (bif(decide (0≤p5.2.1))then
 (bif(decide (0<p5.2.2.2.2.1))then
 (At p5.1 (IntKind.wrap .i64 (p5.2.2.2.2.1-1))).bind fun x7=>
 (bif(decide (0≤p5.2.1))then
 (bif((true&&(decide (0≤p5.2.2.2.2.1)))&&(decide (p5.2.2.2.2.1<(p5.2.2.1:Int))))then
 ((p5.2.2.2.2.2.1)[(0+p5.2.2.2.2.1.toNat)]?).bind fun x8=>
 (asI .u32 (.t x8)).bind fun x9=>
 some (.inl (p5.1,p5.2.1,p5.2.2.1,p5.2.2.2.1,(IntKind.wrap .i64 (p5.2.2.2.2.1+1)),(List.set p5.2.2.2.2.2.1 (0+p5.2.2.2.2.1.toNat) (T.s (.int .u32 (IntKind.wrap .u32 (Fly.jj Go.BinOp.or .u64 (IntKind.wrap .u64 (x6*(2^(min p5.2.1.toNat 64)))) (Int.fdiv (IntKind.wrap .u64 (x7*(2^(min p5.2.1.toNat 64)))) (2^32))))))),()))
 else none)
 else none)
 else
  (bif((true&&(decide (0≤p5.2.2.2.2.1)))&&(decide (p5.2.2.2.2.1<(p5.2.2.1:Int))))then
  ((p5.2.2.2.2.2.1)[(0+p5.2.2.2.2.1.toNat)]?).bind fun x10=>
  (asI .u32 (.t x10)).bind fun x11=>
  some (.inl (p5.1,p5.2.1,p5.2.2.1,p5.2.2.2.1,(IntKind.wrap .i64 (p5.2.2.2.2.1+1)),(List.set p5.2.2.2.2.2.1 (0+p5.2.2.2.2.1.toNat) (T.s (.int .u32 (IntKind.wrap .u32 (IntKind.wrap .u64 (x6*(2^(min p5.2.1.toNat 64)))))))),()))
 else none))
 else none)
 else
  some (.inr (p5.1,p5.2.1,p5.2.2.1,p5.2.2.2.1,p5.2.2.2.2.1,p5.2.2.2.2.2.1,())))
def qqM:Stp ((List Int)×Int×Nat×Int×Int×(List T)×Unit):=fun p13=>(bif(decide (p13.2.2.2.2.1<p13.2.2.2.1))then
 (At p13.1 p13.2.2.2.2.1).bind fun x14=>
 (bif(decide (0≤p13.2.1))then
 (bif(decide (0<p13.2.2.2.2.1))then
 (At p13.1 (IntKind.wrap .i64 (p13.2.2.2.2.1-1))).bind fun x15=>
 (bif(decide (0≤p13.2.1))then
 (bif((true&&(decide (0≤p13.2.2.2.2.1)))&&(decide (p13.2.2.2.2.1<(p13.2.2.1:Int))))then
 ((p13.2.2.2.2.2.1)[(0+p13.2.2.2.2.1.toNat)]?).bind fun x16=>
 (asI .u32 (.t x16)).bind fun x17=>
 some (.inl (p13.1,p13.2.1,p13.2.2.1,p13.2.2.2.1,(IntKind.wrap .i64 (p13.2.2.2.2.1+1)),(List.set p13.2.2.2.2.2.1 (0+p13.2.2.2.2.1.toNat) (T.s (.int .u32 (IntKind.wrap .u32 (Fly.jj Go.BinOp.or .u64 (IntKind.wrap .u64 (x14*(2^(min p13.2.1.toNat 64)))) (Int.fdiv (IntKind.wrap .u64 (x15*(2^(min p13.2.1.toNat 64)))) (2^32))))))),()))
 else none)
 else none)
 else
  (bif((true&&(decide (0≤p13.2.2.2.2.1)))&&(decide (p13.2.2.2.2.1<(p13.2.2.1:Int))))then
  ((p13.2.2.2.2.2.1)[(0+p13.2.2.2.2.1.toNat)]?).bind fun x18=>
  (asI .u32 (.t x18)).bind fun x19=>
  some (.inl (p13.1,p13.2.1,p13.2.2.1,p13.2.2.2.1,(IntKind.wrap .i64 (p13.2.2.2.2.1+1)),(List.set p13.2.2.2.2.2.1 (0+p13.2.2.2.2.1.toNat) (T.s (.int .u32 (IntKind.wrap .u32 (IntKind.wrap .u64 (x14*(2^(min p13.2.1.toNat 64)))))))),()))
 else none))
 else none)
 else
  some (.inr (p13.1,p13.2.1,p13.2.2.1,p13.2.2.2.1,p13.2.2.2.2.1,p13.2.2.2.2.2.1,())))
def Z7:Stp (Nat×Nat×Nat×Nat×Int×Int×Int×Int×(List T)×(List T)×Unit):=fun p31=>(bif(decide (4294967296≤p31.2.2.2.2.2.2.1))then
 (bif(decide (4294967296≤(IntKind.wrap .u64 (p31.2.2.2.2.2.2.2.1+p31.2.2.2.2.2.1))))then
 some (.inr (p31.1,p31.2.1,p31.2.2.1,p31.2.2.2.1,p31.2.2.2.2.1,p31.2.2.2.2.2.1,(IntKind.wrap .u64 (p31.2.2.2.2.2.2.1-1)),(IntKind.wrap .u64 (p31.2.2.2.2.2.2.2.1+p31.2.2.2.2.2.1)),p31.2.2.2.2.2.2.2.2.1,p31.2.2.2.2.2.2.2.2.2.1,()))
 else
  some (.inl (p31.1,p31.2.1,p31.2.2.1,p31.2.2.2.1,p31.2.2.2.2.1,p31.2.2.2.2.2.1,(IntKind.wrap .u64 (p31.2.2.2.2.2.2.1-1)),(IntKind.wrap .u64 (p31.2.2.2.2.2.2.2.1+p31.2.2.2.2.2.1)),p31.2.2.2.2.2.2.2.2.1,p31.2.2.2.2.2.2.2.2.2.1,())))
 else
  (bif((true&&(decide (0≤(IntKind.wrap .i64 (p31.2.2.2.2.1-2)))))&&(decide ((IntKind.wrap .i64 (p31.2.2.2.2.1-2))<(p31.2.2.2.1:Int))))then
  ((p31.2.2.2.2.2.2.2.2.2.1)[(p31.2.2.1+(Int.toNat (IntKind.wrap .i64 (p31.2.2.2.2.1-2))))]?).bind fun x32=>
  (ldT x32 0 false 1).bind fun x33=>
  (asI .u32 (.t x33)).bind fun x34=>
  (bif((true&&(decide (0≤(IntKind.wrap .i64 (p31.2.2.2.2.1-2)))))&&(decide ((IntKind.wrap .i64 (p31.2.2.2.2.1-2))<(p31.2.1:Int))))then
  ((p31.2.2.2.2.2.2.2.2.1)[(p31.1+(Int.toNat (IntKind.wrap .i64 (p31.2.2.2.2.1-2))))]?).bind fun x35=>
  (ldT x35 0 false 1).bind fun x36=>
  (asI .u32 (.t x36)).bind fun x37=>
  (bif(decide ((Fly.jj Go.BinOp.or .u64 (IntKind.wrap .u64 (p31.2.2.2.2.2.2.2.1*(2^32))) (IntKind.wrap .u64 x37))<(IntKind.wrap .u64 (p31.2.2.2.2.2.2.1*(IntKind.wrap .u64 x34)))))then
  (bif(decide (4294967296≤(IntKind.wrap .u64 (p31.2.2.2.2.2.2.2.1+p31.2.2.2.2.2.1))))then
  some (.inr (p31.1,p31.2.1,p31.2.2.1,p31.2.2.2.1,p31.2.2.2.2.1,p31.2.2.2.2.2.1,(IntKind.wrap .u64 (p31.2.2.2.2.2.2.1-1)),(IntKind.wrap .u64 (p31.2.2.2.2.2.2.2.1+p31.2.2.2.2.2.1)),p31.2.2.2.2.2.2.2.2.1,p31.2.2.2.2.2.2.2.2.2.1,()))
 else
  some (.inl (p31.1,p31.2.1,p31.2.2.1,p31.2.2.2.1,p31.2.2.2.2.1,p31.2.2.2.2.2.1,(IntKind.wrap .u64 (p31.2.2.2.2.2.2.1-1)),(IntKind.wrap .u64 (p31.2.2.2.2.2.2.2.1+p31.2.2.2.2.2.1)),p31.2.2.2.2.2.2.2.2.1,p31.2.2.2.2.2.2.2.2.2.1,())))
 else
  some (.inr (p31.1,p31.2.1,p31.2.2.1,p31.2.2.2.1,p31.2.2.2.2.1,p31.2.2.2.2.2.1,p31.2.2.2.2.2.2.1,p31.2.2.2.2.2.2.2.1,p31.2.2.2.2.2.2.2.2.1,p31.2.2.2.2.2.2.2.2.2.1,())))
 else none)
 else none))
def qfd:Stp (Nat×Nat×Nat×Nat×Int×Int×Int×Int×Int×Int×Int×Int×(List T)×(List T)×Unit):=fun p39=>(bif(decide (p39.2.2.2.2.2.2.2.2.2.2.2.1<p39.2.2.2.2.2.2.2.2.2.2.1))then
 (bif(decide (p39.2.2.2.2.2.2.2.2.2.2.2.1<p39.2.2.2.2.1))then
 (bif((true&&(decide (0≤p39.2.2.2.2.2.2.2.2.2.2.2.1)))&&(decide (p39.2.2.2.2.2.2.2.2.2.2.2.1<(p39.2.2.2.1:Int))))then
 ((p39.2.2.2.2.2.2.2.2.2.2.2.2.2.1)[(p39.2.2.1+p39.2.2.2.2.2.2.2.2.2.2.2.1.toNat)]?).bind fun x40=>
 (ldT x40 0 false 1).bind fun x41=>
 (asI .u32 (.t x41)).bind fun x42=>
 (bif((true&&(decide (0≤p39.2.2.2.2.2.2.2.2.2.2.2.1)))&&(decide (p39.2.2.2.2.2.2.2.2.2.2.2.1<(p39.2.1:Int))))then
 ((p39.2.2.2.2.2.2.2.2.2.2.2.2.1)[(p39.1+p39.2.2.2.2.2.2.2.2.2.2.2.1.toNat)]?).bind fun x43=>
 (ldT x43 0 false 1).bind fun x44=>
 (asI .u32 (.t x44)).bind fun x45=>
 (bif((true&&(decide (0≤p39.2.2.2.2.2.2.2.2.2.2.2.1)))&&(decide (p39.2.2.2.2.2.2.2.2.2.2.2.1<(p39.2.1:Int))))then
 ((p39.2.2.2.2.2.2.2.2.2.2.2.2.1)[(p39.1+p39.2.2.2.2.2.2.2.2.2.2.2.1.toNat)]?).bind fun x46=>
 (asI .u32 (.t x46)).bind fun x47=>
 some (.inl (p39.1,p39.2.1,p39.2.2.1,p39.2.2.2.1,p39.2.2.2.2.1,p39.2.2.2.2.2.1,p39.2.2.2.2.2.2.1,p39.2.2.2.2.2.2.2.1,(Int.fdiv (IntKind.wrap .u64 ((IntKind.wrap .u64 ((IntKind.wrap .u64 x45)-(Fly.jj Go.BinOp.and .u64 (IntKind.wrap .u64 (p39.2.2.2.2.2.2.2.2.2.1+(IntKind.wrap .u64 (p39.2.2.2.2.2.2.1*(IntKind.wrap .u64 x42))))) 4294967295)))-p39.2.2.2.2.2.2.2.2.1)) (2^63)),(Int.fdiv (IntKind.wrap .u64 (p39.2.2.2.2.2.2.2.2.2.1+(IntKind.wrap .u64 (p39.2.2.2.2.2.2.1*(IntKind.wrap .u64 x42))))) (2^32)),p39.2.2.2.2.2.2.2.2.2.2.1,(IntKind.wrap .i64 (p39.2.2.2.2.2.2.2.2.2.2.2.1+1)),(List.set p39.2.2.2.2.2.2.2.2.2.2.2.2.1 (p39.1+p39.2.2.2.2.2.2.2.2.2.2.2.1.toNat) (T.s (.int .u32 (IntKind.wrap .u32 (IntKind.wrap .u64 ((IntKind.wrap .u64 ((IntKind.wrap .u64 x45)-(Fly.jj Go.BinOp.and .u64 (IntKind.wrap .u64 (p39.2.2.2.2.2.2.2.2.2.1+(IntKind.wrap .u64 (p39.2.2.2.2.2.2.1*(IntKind.wrap .u64 x42))))) 4294967295)))-p39.2.2.2.2.2.2.2.2.1)))))),p39.2.2.2.2.2.2.2.2.2.2.2.2.2.1,()))
 else none)
 else none)
 else none)
 else
  (bif((true&&(decide (0≤p39.2.2.2.2.2.2.2.2.2.2.2.1)))&&(decide (p39.2.2.2.2.2.2.2.2.2.2.2.1<(p39.2.1:Int))))then
  ((p39.2.2.2.2.2.2.2.2.2.2.2.2.1)[(p39.1+p39.2.2.2.2.2.2.2.2.2.2.2.1.toNat)]?).bind fun x48=>
  (ldT x48 0 false 1).bind fun x49=>
  (asI .u32 (.t x49)).bind fun x50=>
  (bif((true&&(decide (0≤p39.2.2.2.2.2.2.2.2.2.2.2.1)))&&(decide (p39.2.2.2.2.2.2.2.2.2.2.2.1<(p39.2.1:Int))))then
  ((p39.2.2.2.2.2.2.2.2.2.2.2.2.1)[(p39.1+p39.2.2.2.2.2.2.2.2.2.2.2.1.toNat)]?).bind fun x51=>
  (asI .u32 (.t x51)).bind fun x52=>
  some (.inl (p39.1,p39.2.1,p39.2.2.1,p39.2.2.2.1,p39.2.2.2.2.1,p39.2.2.2.2.2.1,p39.2.2.2.2.2.2.1,p39.2.2.2.2.2.2.2.1,(Int.fdiv (IntKind.wrap .u64 ((IntKind.wrap .u64 ((IntKind.wrap .u64 x50)-(Fly.jj Go.BinOp.and .u64 p39.2.2.2.2.2.2.2.2.2.1 4294967295)))-p39.2.2.2.2.2.2.2.2.1)) (2^63)),(Int.fdiv p39.2.2.2.2.2.2.2.2.2.1 (2^32)),p39.2.2.2.2.2.2.2.2.2.2.1,(IntKind.wrap .i64 (p39.2.2.2.2.2.2.2.2.2.2.2.1+1)),(List.set p39.2.2.2.2.2.2.2.2.2.2.2.2.1 (p39.1+p39.2.2.2.2.2.2.2.2.2.2.2.1.toNat) (T.s (.int .u32 (IntKind.wrap .u32 (IntKind.wrap .u64 ((IntKind.wrap .u64 ((IntKind.wrap .u64 x50)-(Fly.jj Go.BinOp.and .u64 p39.2.2.2.2.2.2.2.2.2.1 4294967295)))-p39.2.2.2.2.2.2.2.2.1)))))),p39.2.2.2.2.2.2.2.2.2.2.2.2.2.1,()))
 else none)
 else none))
 else
  some (.inr (p39.1,p39.2.1,p39.2.2.1,p39.2.2.2.1,p39.2.2.2.2.1,p39.2.2.2.2.2.1,p39.2.2.2.2.2.2.1,p39.2.2.2.2.2.2.2.1,p39.2.2.2.2.2.2.2.2.1,p39.2.2.2.2.2.2.2.2.2.1,p39.2.2.2.2.2.2.2.2.2.2.1,p39.2.2.2.2.2.2.2.2.2.2.2.1,p39.2.2.2.2.2.2.2.2.2.2.2.2.1,p39.2.2.2.2.2.2.2.2.2.2.2.2.2.1,())))
def qfe:Stp (Nat×Nat×Nat×Nat×Int×Int×Int×Int×Int×Int×Int×Int×Int×Int×Int×(List T)×(List T)×Unit):=fun p56=>(bif(decide (p56.2.2.2.2.2.2.2.2.2.2.2.2.2.2.1<p56.2.2.2.2.2.2.2.2.2.2.2.2.2.1))then
 (bif(decide (p56.2.2.2.2.2.2.2.2.2.2.2.2.2.2.1<p56.2.2.2.2.1))then
 (bif((true&&(decide (0≤p56.2.2.2.2.2.2.2.2.2.2.2.2.2.2.1)))&&(decide (p56.2.2.2.2.2.2.2.2.2.2.2.2.2.2.1<(p56.2.2.2.1:Int))))then
 ((p56.2.2.2.2.2.2.2.2.2.2.2.2.2.2.2.2.1)[(p56.2.2.1+p56.2.2.2.2.2.2.2.2.2.2.2.2.2.2.1.toNat)]?).bind fun x57=>
 (ldT x57 0 false 1).bind fun x58=>
 (asI .u32 (.t x58)).bind fun x59=>
 (bif((true&&(decide (0≤p56.2.2.2.2.2.2.2.2.2.2.2.2.2.2.1)))&&(decide (p56.2.2.2.2.2.2.2.2.2.2.2.2.2.2.1<(p56.2.1:Int))))then
 ((p56.2.2.2.2.2.2.2.2.2.2.2.2.2.2.2.1)[(p56.1+p56.2.2.2.2.2.2.2.2.2.2.2.2.2.2.1.toNat)]?).bind fun x60=>
 (ldT x60 0 false 1).bind fun x61=>
 (asI .u32 (.t x61)).bind fun x62=>
 (bif((true&&(decide (0≤p56.2.2.2.2.2.2.2.2.2.2.2.2.2.2.1)))&&(decide (p56.2.2.2.2.2.2.2.2.2.2.2.2.2.2.1<(p56.2.1:Int))))then
 ((p56.2.2.2.2.2.2.2.2.2.2.2.2.2.2.2.1)[(p56.1+p56.2.2.2.2.2.2.2.2.2.2.2.2.2.2.1.toNat)]?).bind fun x63=>
 (asI .u32 (.t x63)).bind fun x64=>
 some (.inl (p56.1,p56.2.1,p56.2.2.1,p56.2.2.2.1,p56.2.2.2.2.1,p56.2.2.2.2.2.1,p56.2.2.2.2.2.2.1,p56.2.2.2.2.2.2.2.1,p56.2.2.2.2.2.2.2.2.1,p56.2.2.2.2.2.2.2.2.2.1,p56.2.2.2.2.2.2.2.2.2.2.1,p56.2.2.2.2.2.2.2.2.2.2.2.1,(Int.fdiv (IntKind.wrap .u64 ((IntKind.wrap .u64 (p56.2.2.2.2.2.2.2.2.2.2.2.2.1+(IntKind.wrap .u64 x59)))+(IntKind.wrap .u64 x62))) (2^32)),p56.2.2.2.2.2.2.2.2.2.2.2.2.2.1,(IntKind.wrap .i64 (p56.2.2.2.2.2.2.2.2.2.2.2.2.2.2.1+1)),(List.set p56.2.2.2.2.2.2.2.2.2.2.2.2.2.2.2.1 (p56.1+p56.2.2.2.2.2.2.2.2.2.2.2.2.2.2.1.toNat) (T.s (.int .u32 (IntKind.wrap .u32 (IntKind.wrap .u64 ((IntKind.wrap .u64 (p56.2.2.2.2.2.2.2.2.2.2.2.2.1+(IntKind.wrap .u64 x59)))+(IntKind.wrap .u64 x62))))))),p56.2.2.2.2.2.2.2.2.2.2.2.2.2.2.2.2.1,()))
 else none)
 else none)
 else none)
 else
  (bif((true&&(decide (0≤p56.2.2.2.2.2.2.2.2.2.2.2.2.2.2.1)))&&(decide (p56.2.2.2.2.2.2.2.2.2.2.2.2.2.2.1<(p56.2.1:Int))))then
  ((p56.2.2.2.2.2.2.2.2.2.2.2.2.2.2.2.1)[(p56.1+p56.2.2.2.2.2.2.2.2.2.2.2.2.2.2.1.toNat)]?).bind fun x65=>
  (ldT x65 0 false 1).bind fun x66=>
  (asI .u32 (.t x66)).bind fun x67=>
  (bif((true&&(decide (0≤p56.2.2.2.2.2.2.2.2.2.2.2.2.2.2.1)))&&(decide (p56.2.2.2.2.2.2.2.2.2.2.2.2.2.2.1<(p56.2.1:Int))))then
  ((p56.2.2.2.2.2.2.2.2.2.2.2.2.2.2.2.1)[(p56.1+p56.2.2.2.2.2.2.2.2.2.2.2.2.2.2.1.toNat)]?).bind fun x68=>
  (asI .u32 (.t x68)).bind fun x69=>
  some (.inl (p56.1,p56.2.1,p56.2.2.1,p56.2.2.2.1,p56.2.2.2.2.1,p56.2.2.2.2.2.1,p56.2.2.2.2.2.2.1,p56.2.2.2.2.2.2.2.1,p56.2.2.2.2.2.2.2.2.1,p56.2.2.2.2.2.2.2.2.2.1,p56.2.2.2.2.2.2.2.2.2.2.1,p56.2.2.2.2.2.2.2.2.2.2.2.1,(Int.fdiv (IntKind.wrap .u64 (p56.2.2.2.2.2.2.2.2.2.2.2.2.1+(IntKind.wrap .u64 x67))) (2^32)),p56.2.2.2.2.2.2.2.2.2.2.2.2.2.1,(IntKind.wrap .i64 (p56.2.2.2.2.2.2.2.2.2.2.2.2.2.2.1+1)),(List.set p56.2.2.2.2.2.2.2.2.2.2.2.2.2.2.2.1 (p56.1+p56.2.2.2.2.2.2.2.2.2.2.2.2.2.2.1.toNat) (T.s (.int .u32 (IntKind.wrap .u32 (IntKind.wrap .u64 (p56.2.2.2.2.2.2.2.2.2.2.2.2.1+(IntKind.wrap .u64 x67))))))),p56.2.2.2.2.2.2.2.2.2.2.2.2.2.2.2.2.1,()))
 else none)
 else none))
 else
  some (.inr (p56.1,p56.2.1,p56.2.2.1,p56.2.2.2.1,p56.2.2.2.2.1,p56.2.2.2.2.2.1,p56.2.2.2.2.2.2.1,p56.2.2.2.2.2.2.2.1,p56.2.2.2.2.2.2.2.2.1,p56.2.2.2.2.2.2.2.2.2.1,p56.2.2.2.2.2.2.2.2.2.2.1,p56.2.2.2.2.2.2.2.2.2.2.2.1,p56.2.2.2.2.2.2.2.2.2.2.2.2.1,p56.2.2.2.2.2.2.2.2.2.2.2.2.2.1,p56.2.2.2.2.2.2.2.2.2.2.2.2.2.2.1,p56.2.2.2.2.2.2.2.2.2.2.2.2.2.2.2.1,p56.2.2.2.2.2.2.2.2.2.2.2.2.2.2.2.2.1,())))
def qbl(fu:Nat):Stp (Int×Nat×Nat×Nat×Nat×Nat×Nat×Int×(List T)×(List T)×(List T)×Unit):=fun p21=>(bif(decide (0≤p21.2.2.2.2.2.2.2.1))then
 (bif(((true&&(decide (0≤p21.2.2.2.2.2.2.2.1)))&&(decide (p21.2.2.2.2.2.2.2.1≤(IntKind.wrap .i64 ((IntKind.wrap .i64 (p21.2.2.2.2.2.2.2.1+(p21.2.2.2.2.1:Int)))+1)))))&&(decide ((IntKind.wrap .i64 ((IntKind.wrap .i64 (p21.2.2.2.2.2.2.2.1+(p21.2.2.2.2.1:Int)))+1))≤(p21.2.2.1:Int))))then
 (bif((true&&(decide (0≤(p21.2.2.2.2.1:Int))))&&(decide ((p21.2.2.2.2.1:Int)<(((Int.toNat ((IntKind.wrap .i64 ((IntKind.wrap .i64 (p21.2.2.2.2.2.2.2.1+(p21.2.2.2.2.1:Int)))+1))-p21.2.2.2.2.2.2.2.1)):Nat):Int))))then
 ((p21.2.2.2.2.2.2.2.2.1)[((p21.2.1+p21.2.2.2.2.2.2.2.1.toNat)+(Int.toNat (p21.2.2.2.2.1:Int)))]?).bind fun x22=>
 (ldT x22 0 false 1).bind fun x23=>
 (asI .u32 (.t x23)).bind fun x24=>
 (bif((true&&(decide (0≤(IntKind.wrap .i64 ((p21.2.2.2.2.1:Int)-1)))))&&(decide ((IntKind.wrap .i64 ((p21.2.2.2.2.1:Int)-1))<(((Int.toNat ((IntKind.wrap .i64 ((IntKind.wrap .i64 (p21.2.2.2.2.2.2.2.1+(p21.2.2.2.2.1:Int)))+1))-p21.2.2.2.2.2.2.2.1)):Nat):Int))))then
 ((p21.2.2.2.2.2.2.2.2.1)[((p21.2.1+p21.2.2.2.2.2.2.2.1.toNat)+(Int.toNat (IntKind.wrap .i64 ((p21.2.2.2.2.1:Int)-1))))]?).bind fun x25=>
 (ldT x25 0 false 1).bind fun x26=>
 (asI .u32 (.t x26)).bind fun x27=>
 (bif((true&&(decide (0≤(IntKind.wrap .i64 ((p21.2.2.2.2.1:Int)-1)))))&&(decide ((IntKind.wrap .i64 ((p21.2.2.2.2.1:Int)-1))<(p21.2.2.2.2.1:Int))))then
 ((p21.2.2.2.2.2.2.2.2.2.1)[(p21.2.2.2.1+(Int.toNat (IntKind.wrap .i64 ((p21.2.2.2.2.1:Int)-1))))]?).bind fun x28=>
 (ldT x28 0 false 1).bind fun x29=>
 (asI .u32 (.t x29)).bind fun x30=>
 (bif(decide ((IntKind.wrap .u64 x30)=0))then
 none
 else
  (bif(decide ((IntKind.wrap .u64 x30)=0))then
  none
 else
  (itP fu (Z7) ((p21.2.1+p21.2.2.2.2.2.2.2.1.toNat),(Int.toNat ((IntKind.wrap .i64 ((IntKind.wrap .i64 (p21.2.2.2.2.2.2.2.1+(p21.2.2.2.2.1:Int)))+1))-p21.2.2.2.2.2.2.2.1)),p21.2.2.2.1,p21.2.2.2.2.1,(p21.2.2.2.2.1:Int),(IntKind.wrap .u64 x30),(IntKind.wrap .u64 (Int.tdiv (Fly.jj Go.BinOp.or .u64 (IntKind.wrap .u64 ((IntKind.wrap .u64 x24)*(2^32))) (IntKind.wrap .u64 x27)) (IntKind.wrap .u64 x30))),(Int.tmod (Fly.jj Go.BinOp.or .u64 (IntKind.wrap .u64 ((IntKind.wrap .u64 x24)*(2^32))) (IntKind.wrap .u64 x27)) (IntKind.wrap .u64 x30)),p21.2.2.2.2.2.2.2.2.1,p21.2.2.2.2.2.2.2.2.2.1,())).bind fun x38=>
  (itP fu (qfd) (x38.1,x38.2.1,x38.2.2.1,x38.2.2.2.1,x38.2.2.2.2.1,x38.2.2.2.2.2.1,x38.2.2.2.2.2.2.1,x38.2.2.2.2.2.2.2.1,(0:Int),(0:Int),(x38.2.1:Int),(0:Int),x38.2.2.2.2.2.2.2.2.1,x38.2.2.2.2.2.2.2.2.2.1,())).bind fun x53=>
  (bif(decide (x53.2.2.2.2.2.2.2.2.1=0))then
  (bif((true&&(decide (0≤p21.2.2.2.2.2.2.2.1)))&&(decide (p21.2.2.2.2.2.2.2.1<(p21.2.2.2.2.2.2.1:Int))))then
  ((p21.2.2.2.2.2.2.2.2.2.2.1)[(p21.2.2.2.2.2.1+p21.2.2.2.2.2.2.2.1.toNat)]?).bind fun x54=>
  (asI .u32 (.t x54)).bind fun x55=>
  some (.inl (p21.1,p21.2.1,p21.2.2.1,p21.2.2.2.1,p21.2.2.2.2.1,p21.2.2.2.2.2.1,p21.2.2.2.2.2.2.1,(IntKind.wrap .i64 (p21.2.2.2.2.2.2.2.1-1)),x53.2.2.2.2.2.2.2.2.2.2.2.2.1,x53.2.2.2.2.2.2.2.2.2.2.2.2.2.1,(List.set p21.2.2.2.2.2.2.2.2.2.2.1 (p21.2.2.2.2.2.1+p21.2.2.2.2.2.2.2.1.toNat) (T.s (.int .u32 (IntKind.wrap .u32 x53.2.2.2.2.2.2.1)))),()))
 else none)
 else
  (itP fu (qfe) (x53.1,x53.2.1,x53.2.2.1,x53.2.2.2.1,x53.2.2.2.2.1,x53.2.2.2.2.2.1,x53.2.2.2.2.2.2.1,x53.2.2.2.2.2.2.2.1,x53.2.2.2.2.2.2.2.2.1,x53.2.2.2.2.2.2.2.2.2.1,x53.2.2.2.2.2.2.2.2.2.2.1,x53.2.2.2.2.2.2.2.2.2.2.2.1,(0:Int),(x53.2.1:Int),(0:Int),x53.2.2.2.2.2.2.2.2.2.2.2.2.1,x53.2.2.2.2.2.2.2.2.2.2.2.2.2.1,())).bind fun x70=>
  (bif((true&&(decide (0≤p21.2.2.2.2.2.2.2.1)))&&(decide (p21.2.2.2.2.2.2.2.1<(p21.2.2.2.2.2.2.1:Int))))then
  ((p21.2.2.2.2.2.2.2.2.2.2.1)[(p21.2.2.2.2.2.1+p21.2.2.2.2.2.2.2.1.toNat)]?).bind fun x71=>
  (asI .u32 (.t x71)).bind fun x72=>
  some (.inl (p21.1,p21.2.1,p21.2.2.1,p21.2.2.2.1,p21.2.2.2.2.1,p21.2.2.2.2.2.1,p21.2.2.2.2.2.2.1,(IntKind.wrap .i64 (p21.2.2.2.2.2.2.2.1-1)),x70.2.2.2.2.2.2.2.2.2.2.2.2.2.2.2.1,x70.2.2.2.2.2.2.2.2.2.2.2.2.2.2.2.2.1,(List.set p21.2.2.2.2.2.2.2.2.2.2.1 (p21.2.2.2.2.2.1+p21.2.2.2.2.2.2.2.1.toNat) (T.s (.int .u32 (IntKind.wrap .u32 (IntKind.wrap .u64 (x70.2.2.2.2.2.2.1-1)))))),()))
 else none))))
 else none)
 else none)
 else none)
 else none)
 else
  some (.inr (p21.1,p21.2.1,p21.2.2.1,p21.2.2.2.1,p21.2.2.2.2.1,p21.2.2.2.2.2.1,p21.2.2.2.2.2.2.1,p21.2.2.2.2.2.2.2.1,p21.2.2.2.2.2.2.2.2.1,p21.2.2.2.2.2.2.2.2.2.1,p21.2.2.2.2.2.2.2.2.2.2.1,())))
def Div  (fu:Nat)(a:(List Int))(b:(List Int)):Option ((List Int)×(List Int)×Int) :=
 (bif(decide ((((List.length (ofN (qk b))):Nat):Int)=0))then
 some ([],[],(21:Int))
 else
  (bif(decide ((Qm (qk (ofN (qk a))) (qk (ofN (qk b))))<0))then
  (qdQ (ofN (qk a))).bind fun x0=>
  some ([],x0,(0:Int))
 else
  (bif(decide ((((List.length (ofN (qk b))):Nat):Int)=1))then
  (idx (ofN (qk b)) 0).bind fun x1=>
  (YB ((ofN (qk a)),x1)).bind fun x2=>
  some (x2.1,x2.2,(0:Int))
 else
  (idx (ofN (qk b)) (IntKind.wrap .i64 ((((List.length (ofN (qk b))):Nat):Int)-1))).bind fun x3=>
  (qjB x3).bind fun x4=>
  (bif(((true&&(decide (0≤(IntKind.wrap .i64 ((((List.length (ofN (qk a))):Nat):Int)+1)))))&&(decide ((IntKind.wrap .i64 ((((List.length (ofN (qk a))):Nat):Int)+1))≤(IntKind.wrap .i64 ((((List.length (ofN (qk a))):Nat):Int)+1)))))&&(decide ((IntKind.wrap .i64 ((((List.length (ofN (qk a))):Nat):Int)+1))≤549755813888)))then
  (itP fu (qqL) ((ofN (qk a)),(IntKind.wrap .i64 (32-x4)),(Int.toNat (IntKind.wrap .i64 ((((List.length (ofN (qk a))):Nat):Int)+1))),(((Int.toNat (IntKind.wrap .i64 ((((List.length (ofN (qk a))):Nat):Int)+1))):Nat):Int),(0:Int),(List.replicate (Int.toNat (IntKind.wrap .i64 ((((List.length (ofN (qk a))):Nat):Int)+1))) (T.s (.int .u32 0))),())).bind fun x12=>
  (bif(((true&&(decide (0≤(((List.length (ofN (qk b))):Nat):Int))))&&(decide ((((List.length (ofN (qk b))):Nat):Int)≤(((List.length (ofN (qk b))):Nat):Int))))&&(decide ((((List.length (ofN (qk b))):Nat):Int)≤549755813888)))then
  (itP fu (qqM) ((ofN (qk b)),(IntKind.wrap .i64 (32-x4)),(Int.toNat (((List.length (ofN (qk b))):Nat):Int)),(((Int.toNat (((List.length (ofN (qk b))):Nat):Int)):Nat):Int),(0:Int),(List.replicate (Int.toNat (((List.length (ofN (qk b))):Nat):Int)) (T.s (.int .u32 0))),())).bind fun x20=>
  (bif(((true&&(decide (0≤(IntKind.wrap .i64 ((IntKind.wrap .i64 ((((List.length (ofN (qk a))):Nat):Int)-(((List.length (ofN (qk b))):Nat):Int)))+1)))))&&(decide ((IntKind.wrap .i64 ((IntKind.wrap .i64 ((((List.length (ofN (qk a))):Nat):Int)-(((List.length (ofN (qk b))):Nat):Int)))+1))≤(IntKind.wrap .i64 ((IntKind.wrap .i64 ((((List.length (ofN (qk a))):Nat):Int)-(((List.length (ofN (qk b))):Nat):Int)))+1)))))&&(decide ((IntKind.wrap .i64 ((IntKind.wrap .i64 ((((List.length (ofN (qk a))):Nat):Int)-(((List.length (ofN (qk b))):Nat):Int)))+1))≤549755813888)))then
  (itP fu (qbl fu) ((IntKind.wrap .i64 (32-x4)),0,x12.2.2.1,0,x20.2.2.1,0,(Int.toNat (IntKind.wrap .i64 ((IntKind.wrap .i64 ((((List.length (ofN (qk a))):Nat):Int)-(((List.length (ofN (qk b))):Nat):Int)))+1))),(IntKind.wrap .i64 ((((Int.toNat (IntKind.wrap .i64 ((IntKind.wrap .i64 ((((List.length (ofN (qk a))):Nat):Int)-(((List.length (ofN (qk b))):Nat):Int)))+1))):Nat):Int)-1)),x12.2.2.2.2.2.1,x20.2.2.2.2.2.1,(List.replicate (Int.toNat (IntKind.wrap .i64 ((IntKind.wrap .i64 ((((List.length (ofN (qk a))):Nat):Int)-(((List.length (ofN (qk b))):Nat):Int)))+1))) (T.s (.int .u32 0))),())).bind fun x73=>
  (Su.sub x73.2.2.2.2.2.2.2.2.2.2.1 x73.2.2.2.2.2.1 x73.2.2.2.2.2.2.1).bind fun x74=>
  (Su.sub x73.2.2.2.2.2.2.2.2.2.2.1 x73.2.2.2.2.2.1 x73.2.2.2.2.2.2.1).bind fun x75=>
  (Su.sub x73.2.2.2.2.2.2.2.2.2.2.1 x73.2.2.2.2.2.1 x73.2.2.2.2.2.2.1).bind fun x76=>
  ((yC 1 x74).bind fun x77=>
  some (ofN (qk x77))).bind fun x78=>
  (Su.sub x73.2.2.2.2.2.2.2.2.1 x73.2.1 x73.2.2.1).bind fun x79=>
  (Su.sub x73.2.2.2.2.2.2.2.2.1 x73.2.1 x73.2.2.1).bind fun x80=>
  (Su.sub x73.2.2.2.2.2.2.2.2.1 x73.2.1 x73.2.2.1).bind fun x81=>
  (((yC 1 x79).bind fun x82=>
  some (x82,x73.1)).bind fun x83=>
  (bif(Nat.ble x83.1.length 549755813887)then
  some (ofN ((qk x83.1) / (2^(Int.toNat (max x83.2 0)))))
 else none)).bind fun x84=>
  some (x78,x84,(0:Int))
 else none)
 else none)
 else none))))
theorem qmq{l w:Nat}(hl:l<4294967296)(hw:w<4294967296):jj .or .u64 (IntKind.u64.wrap ((l:Int)*2^32)) (IntKind.u64.wrap (w:Int))=((4294967296*l+w:Nat):Int):=by
 have e1:IntKind.u64.wrap ((l:Int)*2^32)=((4294967296*l:Nat):Int):=by
  rw[show((l:Int)*2^32)=((4294967296*l:Nat):Int) by rw[Vw,Int.mul_comm];rfl];exact yd (by omega) (by omega)
 have e2:IntKind.u64.wrap (w:Int)=(w:Int):=yd (by omega) (by omega)
 rw[e1,e2,qd8 (by omega) (by omega),Nat.or_comm];have:=qfb (x:=w) (y:=l) (r:=32) (by simpa using hw)
 rw[show(2:Nat)^32=4294967296 from rfl]at this;rw[zL 4294967296 l,this,Wh]
abbrev GSt:=Nat×(Nat×Nat×Nat×Int×Int×Int×Int×(List T)×(List T)×Unit)
def gS(off nl dl f:Nat)(num den:List Int)(g left:Nat):GSt:=(off,nl,0,dl,(dl:Int),(f:Int),(g:Int),(left:Int),num.map eW,den.map eW,())
theorem qlb{P f d2 top n2 D N Dr Nr off nl dl:Nat}{num den:List Int}(hD:D=(4294967296*f+d2)*P+Dr)(hN:N=(4294967296*top+n2)*P+Nr)(hNr:Nr<P)(hB:N<4294967296*D)
 (hf:f<4294967296) (hd2:d2<4294967296) (hn2:n2<4294967296) (hdl:2≤dl) (hdl2:dl≤549755813888) (hnl:nl=dl+1) (h1:(num.map eW)[off+(dl-2)]?=some (eW (n2:Int))) (h2:(den.map eW)[dl-2]?=some (eW (d2:Int))) :
 ∀g left:Nat,g*f+left=top→left<4294967296→g≤4294967297→N<(g+1)*D →
 ∃g' left':Nat,g'*f+left'=top∧g'≤4294967296∧g'*d2≤4294967296*left'+n2∧N<(g'+1)*D ∧
  ∃k,itP k Z7 (gS off nl dl f num den g left)=some (gS off nl dl f num den g' left'):=by
 have ewf:∀l:Nat,l<4294967296→IntKind.u64.wrap ((l:Int)+(f:Int))=((l+f:Nat):Int):=fun l hl=>by rw[yd (by omega) (by omega)];omega
 have ed:IntKind.i64.wrap ((dl:Int)-2)=((dl-2:Nat):Int):=by rw[w64 (by omega) (by omega)];omega
 intro g;induction g with
 | zero=>
  intro left hl hll _ hNg;refine⟨0,left,hl,by omega,by omega,hNg,J9 ?_⟩
  have d1:decide ((4294967296:Int)≤((0:Nat):Int))=false:=rfl
  have d2':decide ((0:Int)≤((dl-2:Nat):Int))=true:=zh (by omega)
  have d3:decide (((dl-2:Nat):Int)<(dl:Int))=true:=zh (by omega)
  have d4:decide (((dl-2:Nat):Int)<(nl:Int))=true:=zh (by omega)
  have e5:IntKind.u64.wrap (((0:Nat):Int)*IntKind.u64.wrap (d2:Int))=0:=by rw[show(((0:Nat):Int)*IntKind.u64.wrap (d2:Int))=0 from Int.zero_mul _];rfl
  unfold gS;simp only[Z7,d1,zo,ed,d2',d3,d4,Kt,zg,zn,zt,h1,h2,zm,YL,Q3,qmq hll hn2,e5];rw[zq (by omega),zo]
 | succ g ih=>
  intro left hl hll hgl hNg;have hl':g*f+(left+f)=top:=by rw[zR,KR]at hl;omega
  have em:IntKind.u64.wrap (((g+1:Nat):Int)-1)=(g:Int):=by rw[yd (by omega) (by omega)];omega
  -- going down is right
  have down:N<(g+1)*D→∀s,Z7 s=(bif decide ((4294967296:Int)≤((left+f:Nat):Int))then some (Sum.inr (gS off nl dl f num den g (left+f)))else some (Sum.inl (gS off nl dl f num den g (left+f)))) →
   ∃g' left':Nat,g'*f+left'=top∧g'≤4294967296∧g'*d2≤4294967296*left'+n2∧N<(g'+1)*D∧∃k,itP k Z7 s=some (gS off nl dl f num den g' left'):=fun hNd s hs=>by
   by_cases hb:4294967296≤left+f
   · refine⟨g,left+f,hl',by omega,?_,hNd,J9 ?_⟩
     · have h3:g*d2≤4294967296*4294967295:=Vu (by omega) (by omega)
       have h4:=z8 4294967296 hb
       omega
     · rw[hs,zh (by omega),zg]
   · obtain⟨g',left',i1,i2,i3,i4,i5⟩:=ih (left+f) hl' (by omega) (by omega) hNd
     refine⟨g',left',i1,i2,i3,i4,Yx ?_ i5⟩
     rw[hs,zq (by omega),zo]
  by_cases hg:4294967296≤g+1
  · have d1:decide ((4294967296:Int)≤((g+1:Nat):Int))=true:=zh (by omega)
    refine down (by
     have h3:=zG D hg;omega) _ ?_
    unfold gS;simp only[Z7,d1,zg,ewf left hll,em]
  · have d1:decide ((4294967296:Int)≤((g+1:Nat):Int))=false:=zq (by omega)
    have d2':decide ((0:Int)≤((dl-2:Nat):Int))=true:=zh (by omega)
    have d3:decide (((dl-2:Nat):Int)<(dl:Int))=true:=zh (by omega)
    have d4:decide (((dl-2:Nat):Int)<(nl:Int))=true:=zh (by omega)
    have hgd:(g+1)*d2≤4294967296*4294967295:=Vu (by omega) (by omega)
    have e5:IntKind.u64.wrap (((g+1:Nat):Int)*IntKind.u64.wrap (d2:Int))=(((g+1)*d2:Nat):Int):=by
     have:IntKind.u64.wrap (d2:Int)=(d2:Int):=yd (by omega) (by omega)
     rw[this,← Vw];exact yd (by omega) (by omega)
    by_cases ht:4294967296*left+n2<(g+1)*d2
    · refine down (qt8 hD hN hNr hl ht) _ ?_
      unfold gS;simp only[Z7,d1,zo,ed,d2',d3,d4,Kt,zg,zn,zt,h1,h2,zm,YL,Q3,qmq hll hn2,e5];rw[zh (show((4294967296*left+n2:Nat):Int)<(((g+1)*d2:Nat):Int) by omega),zg];simp only[ewf left hll,em]
    · refine⟨g+1,left,hl,by omega,by omega,hNg,J9 ?_⟩
      unfold gS;simp only[Z7,d1,zo,ed,d2',d3,d4,Kt,zg,zn,zt,h1,h2,zm,YL,Q3,qmq hll hn2,e5];rw[zq (show¬((4294967296*left+n2:Nat):Int)<(((g+1)*d2:Nat):Int) by omega),zo]
theorem qmr(A M R:List Int)(x:Int)(k:Nat)(hk:k=A.length+M.length):((A++(M++x::R)).map eW)[k]?=some (eW x):=by
 subst hk;rw[Kr,Kl (by rw[zV];omega),zV,Nat.add_sub_cancel_left,Kr,Kl (by rw[zV];omega),zV,Ww];rfl
theorem qms(A M R:List Int)(x z:Int)(k:Nat)(hk:k=A.length+M.length):((A++(M++x::R)).map eW).set k (eW z)=(A++((M++[z])++R)).map eW:=by
 subst hk;rw[Kr,List.set_append,zQ (by rw[zV];omega),zV,Nat.add_sub_cancel_left,Kr,List.set_append,zQ (by rw[zV];omega),zV,Ww];simp
theorem qxa{P B v vm g D0 y r c z x r' tm td:Nat}(h:vm+g*D0=v+(r+c)*P)(hz:z+tm+r=x+r'*B)(ht:c+g*y=tm+B*td):(vm+P*z)+g*(D0+P*y)=(v+P*x)+(r'+td)*(P*B):=by grind
theorem qyL{P B g D0 y c tm td:Nat}(h:c*P≤g*D0)(ht:c+g*y=tm+B*td):td*(P*B)≤g*(D0+P*y):=by
 have h1:td*(P*B)≤P*(c+g*y):=by
  rw[ht,KB,show td*(P*B)=P*(B*td) by grind];exact Nat.le_add_left _ _
 have h2:P*(c+g*y)=c*P+g*(P*y):=by grind
 rw[KB];omega
theorem qqN(t:Nat)(ht:t<18446744073709551616):jj .and .u64 (t:Int) 4294967295=((t % 4294967296:Nat):Int):=by
 have h:=qsO (a:=t) (b:=4294967295) ht (by omega)
 have e:t &&& 4294967295=t % 4294967296:=by
  have:=Nat.and_two_pow_sub_one_eq_mod t 32
  simpa using this
 rw[e]at h;exact h
abbrev MSt:=Nat×(Nat×Nat×Nat×Int×Int×Int×Int×Int×Int×Int×Int×(List T)×(List T)×Unit)
def mS(off nl dl f left:Nat)(num den:List Int)(g r c i:Nat):MSt:=(off,nl,0,dl,(dl:Int),(f:Int),(g:Int),(left:Int),(r:Int),(c:Int),(nl:Int),(i:Int),num.map eW,den.map eW,())
theorem qmt{off nl dl f left g:Nat}{A C den:List Int}(hA:A.length=off)(hden:den.length=dl)(hdw:Wd den)(hdl2:nl≤549755813888)(hnl:nl=dl+1)(hg:g≤4294967296) :
 ∀(rest mod:List Int) (v r c:Nat),mod.length+rest.length=nl→Wd mod→Wd rest→r≤1→c<4294967296→c*4294967296^mod.length≤g*qk (den.take mod.length) →
 qk mod+g*qk (den.take mod.length)=v+(r+c)*4294967296^mod.length →
 ∃(mod':List Int) (r' c':Nat),mod'.length=nl∧Wd mod'∧r'≤1∧c'*4294967296^nl≤g*qk den∧qk mod'+g*qk den=(v+4294967296^mod.length*qk rest)+(r'+c')*4294967296^nl ∧
  ∃k,itP k qfd (mS off nl dl f left (A++(mod++(rest++C))) den g r c mod.length)=some (mS off nl dl f left (A++(mod'++C)) den g r' c' nl)
 | [],mod,v,r,c,hl,hw,_,hr,hc,hf,hv=>by
  have hl:mod.length=nl:=by simpa using hl
  rw[hl,zP (by omega)]at hf hv;refine⟨mod,r,c,hl,hw,hr,hf,by rw[hv];simp[qk],J9 ?_⟩
  unfold mS;rw[hl];simp only[qfd];rw[zq (by omega),zo,zy]
 | x::rest,mod,v,r,c,hl,hw,hwr,hr,hc,hf,hv=>by
  obtain⟨i,hi⟩:∃i,mod.length=i:=⟨_,rfl⟩
  have hil:i<nl:=by rw[← hl,← hi];simp
  rw[hi]at hf hv;obtain⟨x0,x1⟩:=hwr.head;obtain⟨X,rfl⟩:∃X:Nat,x=(X:Int):=⟨x.toNat,by omega⟩
  obtain⟨y0,y1⟩:=yz hdw i;obtain⟨Y,hY⟩:∃Y:Nat,nth den i=(Y:Int):=⟨(nth den i).toNat,by omega⟩
  have hYl:Y<4294967296:=by omega
  have hgY:g*Y≤4294967296*4294967295:=Vu hg (by omega)
  obtain⟨t,ht⟩:∃t,c+g*Y=t:=⟨_,rfl⟩
  have htl:t<18446744073709551616:=by omega
  obtain⟨z,r',z1,z2,z3,z4,z5⟩:=subw (X:=X) (Y:=t % 4294967296) (r:=r) (by omega) (by omega) hr
  have hd:=Nat.mod_add_div t 4294967296
  have hvt:qk (den.take (i+1))=qk (den.take i)+4294967296^i*Y:=by rw[jS,hY,zn]
  have hc':t / 4294967296<4294967296:=by omega
  have hi1:∀z:Int,(mod++[z]).length=i+1:=fun z=>by rw[zb,hi];rfl
  have hnum:=qxa (P:=4294967296^i) (y:=Y) (x:=X) hv z3 (by rw[ht];exact hd.symm)
  have hfl:=qyL (P:=4294967296^i) (y:=Y) (tm:=t % 4294967296) (td:=t / 4294967296) (B:=4294967296) hf (by rw[ht];exact hd.symm)
  obtain⟨mod',r2,c2,h1,h2,h3,h4,h5,k,h6⟩:=qmt hA hden hdw hdl2 hnl hg rest (mod++[(z:Int)]) (v+4294967296^i*X) r' (t / 4294967296) (by rw[← hl];simp;omega) (hw.app (.cons (by omega) (by omega) .nil)) hwr.tail z2 hc'
   (by rw[hi1,hvt,Ke];exact hfl) (by rw[hi1,JV,hi,hvt,Ke];exact hnum)
  refine⟨mod',r2,c2,h1,h2,h3,h4,?_,?_⟩
  · rw[h5,hi1,hi]
    show v+4294967296^i*X+4294967296^(i+1)*qk rest+_=v+4294967296^i*((X:Int).toNat+4294967296*qk rest)+_
    rw[zn,Ke,KB,zB,Kp v]
  · refine Yx ?_ ⟨k,h6⟩
    have hmid:off+i=A.length+mod.length:=by rw[hA,hi]
    have hget:=qmr A mod (rest++C) (X:Int) (off+i) hmid
    have hset:=qms A mod (rest++C) (X:Int) (z:Int) (off+i) hmid
    rw[hi1,hi];unfold mS;have d1:decide ((i:Int)<(nl:Int))=true:=zh (by omega)
    have d2:decide ((0:Int)≤(i:Int))=true:=zh (by omega)
    have e9:IntKind.i64.wrap ((i:Int)+1)=((i+1:Nat):Int):=by rw[w64 (by omega) (by omega)];rfl
    have ex:IntKind.u64.wrap (X:Int)=(X:Int):=yd (by omega) (by omega)
    have e6:Int.fdiv (t:Int) (2^32)=((t / 4294967296:Nat):Int):=by
     have:=Zu t 32;rwa [show(2:Nat)^32=4294967296 from rfl]at this
    rw[zD];by_cases hid:i<dl
    · have d3:decide ((i:Int)<(dl:Int))=true:=zh (by omega)
      have hgd:(den.map eW)[i]?=some (eW (Y:Int)):=by rw[Zs (by omega),hY]
      have ey:IntKind.u64.wrap (Y:Int)=(Y:Int):=yd (by omega) (by omega)
      have e1:IntKind.u64.wrap ((g:Int)*(Y:Int))=((g*Y:Nat):Int):=by rw[← Vw];exact yd (by omega) (by omega)
      have e2:IntKind.u64.wrap ((c:Int)+((g*Y:Nat):Int))=(t:Int):=by rw[← ht,yd (by omega) (by omega)];omega
      simp only[qfd,d1,d2,d3,Kt,zg,zn,zt,hgd,hget,zm,YL,Q3,ey,e1,e2,ex,qqN t htl,z4,z5,e6,e9,hset]
    · have d3:decide ((i:Int)<(dl:Int))=false:=zq (by omega)
      have hY0:Y=0:=by
       have:nth den i=0:=by unfold nth;rw[Kk (by omega)];rfl
       omega
      subst hY0;have htc:(c:Int)=(t:Int):=by omega
      simp only[qfd,d1,d2,d3,Kt,zg,zo,zn,hget,zm,YL,Q3,ex,htc,qqN t htl,z4,z5,e6,e9,hset]
abbrev ASt:=Nat×(Nat×Nat×Nat×Int×Int×Int×Int×Int×Int×Int×Int×Int×Int×Int×(List T)×(List T)×Unit)
def aS(off nl dl f left:Nat)(num den:List Int)(g r c s i:Nat):ASt:=(off,nl,0,dl,(dl:Int),(f:Int),(g:Int),(left:Int),(r:Int),(c:Int),(nl:Int),(nl:Int),(s:Int),(nl:Int),(i:Int),num.map eW,den.map eW,())
theorem qxb{P B v vm D0 y s x t tm td:Nat}(h:vm+s*P=v+D0)(ht:s+y+x=t)(hd:t=tm+B*td):(vm+P*tm)+td*(P*B)=(v+P*x)+(D0+P*y):=by
 subst ht;grind
theorem qmu{off nl dl f left g r c:Nat}{A C den:List Int}(hA:A.length=off)(hden:den.length=dl)(hdw:Wd den)(hdl2:nl≤549755813888)(hnl:nl=dl+1) :
 ∀(rest mod:List Int) (v s:Nat),mod.length+rest.length=nl→Wd mod→Wd rest→s≤1→qk mod+s*4294967296^mod.length=v+qk (den.take mod.length) →
 ∃(mod':List Int) (s':Nat),mod'.length=nl∧Wd mod'∧qk mod'+s'*4294967296^nl=(v+4294967296^mod.length*qk rest)+qk den ∧
  ∃k,itP k qfe (aS off nl dl f left (A++(mod++(rest++C))) den g r c s mod.length)=some (aS off nl dl f left (A++(mod'++C)) den g r c s' nl)
 | [],mod,v,s,hl,hw,_,hs,hv=>by
  have hl:mod.length=nl:=by simpa using hl
  rw[hl,zP (by omega)]at hv;refine⟨mod,s,hl,hw,by rw[hv];simp[qk],J9 ?_⟩
  unfold aS;rw[hl];simp only[qfe];rw[zq (by omega),zo,zy]
 | x::rest,mod,v,s,hl,hw,hwr,hs,hv=>by
  obtain⟨i,hi⟩:∃i,mod.length=i:=⟨_,rfl⟩
  have hil:i<nl:=by rw[← hl,← hi];simp
  rw[hi]at hv;obtain⟨x0,x1⟩:=hwr.head;obtain⟨X,rfl⟩:∃X:Nat,x=(X:Int):=⟨x.toNat,by omega⟩
  obtain⟨y0,y1⟩:=yz hdw i;obtain⟨Y,hY⟩:∃Y:Nat,nth den i=(Y:Int):=⟨(nth den i).toNat,by omega⟩
  have hYl:Y<4294967296:=by omega
  obtain⟨t,ht⟩:∃t,s+Y+X=t:=⟨_,rfl⟩
  have hd:=Nat.mod_add_div t 4294967296
  have hvt:qk (den.take (i+1))=qk (den.take i)+4294967296^i*Y:=by rw[jS,hY,zn]
  have hs':t / 4294967296≤1:=by omega
  have hi1:∀z:Int,(mod++[z]).length=i+1:=fun z=>by rw[zb,hi];rfl
  have hnum:=qxb (P:=4294967296^i) hv ht hd.symm
  obtain⟨mod',s2,h1,h2,h5,k,h6⟩:=qmu (f:=f) (left:=left) (g:=g) (r:=r) (c:=c) (C:=C) hA hden hdw hdl2 hnl rest (mod++[((t % 4294967296:Nat):Int)]) (v+4294967296^i*X) (t / 4294967296) (by rw[← hl];simp;omega) (hw.app (qt4 t)) hwr.tail hs'
   (by rw[hi1,JV,hi,hvt,Ke];exact hnum)
  refine⟨mod',s2,h1,h2,?_,?_⟩
  · rw[h5,hi1,hi]
    show v+4294967296^i*X+4294967296^(i+1)*qk rest+_=v+4294967296^i*((X:Int).toNat+4294967296*qk rest)+_
    rw[zn,Ke,KB,zB,Kp v]
  · refine Yx ?_ ⟨k,h6⟩
    have hmid:off+i=A.length+mod.length:=by rw[hA,hi]
    have hget:=qmr A mod (rest++C) (X:Int) (off+i) hmid
    have hset:=qms A mod (rest++C) (X:Int) ((t % 4294967296:Nat):Int) (off+i) hmid
    rw[hi1,hi];unfold aS;have d1:decide ((i:Int)<(nl:Int))=true:=zh (by omega)
    have d2:decide ((0:Int)≤(i:Int))=true:=zh (by omega)
    have e9:IntKind.i64.wrap ((i:Int)+1)=((i+1:Nat):Int):=by rw[w64 (by omega) (by omega)];rfl
    have ex:IntKind.u64.wrap (X:Int)=(X:Int):=yd (by omega) (by omega)
    have e6:Int.fdiv (t:Int) (2^32)=((t / 4294967296:Nat):Int):=by
     have:=Zu t 32;rwa [show(2:Nat)^32=4294967296 from rfl]at this
    have e7:IntKind.u32.wrap (t:Int)=((t % 4294967296:Nat):Int):=by rw[wrap_u32];omega
    rw[zD];by_cases hid:i<dl
    · have d3:decide ((i:Int)<(dl:Int))=true:=zh (by omega)
      have hgd:(den.map eW)[i]?=some (eW (Y:Int)):=by rw[Zs (by omega),hY]
      have ey:IntKind.u64.wrap (Y:Int)=(Y:Int):=yd (by omega) (by omega)
      have e1:IntKind.u64.wrap ((s:Int)+(Y:Int))=((s+Y:Nat):Int):=by rw[← Int.natCast_add];exact yd (by omega) (by omega)
      have e2:IntKind.u64.wrap (((s+Y:Nat):Int)+(X:Int))=(t:Int):=by rw[← ht,← Int.natCast_add];exact yd (by omega) (by omega)
      simp only[qfe,d1,d2,d3,Kt,zg,zn,zt,hgd,hget,zm,YL,Q3,ey,e1,ex,e2,e6,e7,e9,hset]
    · have d3:decide ((i:Int)<(dl:Int))=false:=zq (by omega)
      have hY0:Y=0:=by
       have:nth den i=0:=by unfold nth;rw[Kk (by omega)];rfl
       omega
      subst hY0;have e2:IntKind.u64.wrap ((s:Int)+(X:Int))=(t:Int):=by rw[← ht,KQ,← Int.natCast_add];exact yd (by omega) (by omega)
      simp only[qfe,d1,d2,d3,Kt,zg,zo,zn,hget,zm,YL,Q3,ex,e2,e6,e7,e9,hset]
theorem Z8{S R:Type}{F:S→Option (S ⊕ R)}{r:R}:∀ {k:Nat} {s:S},itP k F s=some r→∀fu,k≤fu→itP fu F s=some r
 | 0,s,h,fu,_=>by cases h
 | k+1,s,h,fu,hfu=>by
  obtain⟨fu,rfl⟩:∃m,fu=m+1:=⟨fu-1,by omega⟩
  rw[jR]at h ⊢;cases hs:F s with
  | none=>rw[hs]at h;cases h
  | some x=>
   rw[hs]at h;cases x with
   | inr y=>exact h
   | inl s'=>exact Z8 (k:=k) h fu (by omega)
abbrev DSt:=Int×(Nat×Nat×Nat×Nat×Nat×Nat×Int×(List T)×(List T)×(List T)×Unit)
def dS(sh:Int)(nlen dl qlen:Nat)(num den q:List Int)(i:Int):DSt:=(sh,0,nlen,0,dl,0,qlen,i,num.map eW,den.map eW,q.map eW,())
theorem qua{l:List Int}(n:Nat)(hl:l.length=n+2):qk l=qk (l.take n)+4294967296^n*((nth l n).toNat+4294967296*(nth l (n+1)).toNat):=by
 have h1:=jS l n;have h2:=jS l (n+1)
 rw[zP (by omega)]at h2;rw[h2,h1,Ke,KB,zB];omega
theorem qxc{B P F d2 Dr D top n2 Nr N:Nat}(hD:D=(B*F+d2)*P+Dr)(hDr:Dr<P)(hd2:d2<B)(hN:N=(B*top+n2)*P+Nr)(h:N<B*D)(hF:B≤2*F)(hF0:0<F):top / F≤B+1:=by
 have h1:D<(F+1)*B*P:=by
  have:D<(B*F+d2+1)*P:=by rw[hD,zR (B*F+d2) 1 P,KR];omega
  refine Kv this (zG P ?_)
  rw[zR,KR,zL F B];omega
 have h2:B*(top*P)≤N:=by
  rw[hN,zR,← zB];omega
 have h3:B*(top*P)<B*((F+1)*B*P):=K5 h2 (Kv h (z8 B (Wg h1)))
 have h4:top*P<(F+1)*B*P:=Wu h3
 have h5:top<(F+1)*B:=VP h4
 have h6:top / F<B+2:=by
  rw[KG hF0,zR];rw[zR,KR,zL F B]at h5;omega
 omega
theorem qub(P B n0 n1 n2 t:Nat):t+P*n2+P*B*n1+P*B*B*n0=(B*(B*n0+n1)+n2)*P+t:=by grind
theorem qyM{sh:Int}{nlen dl qlen i:Nat}{A C seg den q:List Int}(hA:A.length=i)(hseg:seg.length=dl+1)(hnum:(A++(seg++C)).length=nlen)(hden:den.length=dl)(hq:q.length=qlen)(hi:i<qlen)(hdl:2≤dl)(hb:nlen≤549755813887)(hql:qlen≤549755813887)
 (hws:Wd seg) (hwd:Wd den) (hF:2147483648≤(nth den (dl-1)).toNat) (hN:qk seg<4294967296*qk den) :
 ∃seg':List Int,seg'.length=dl+1∧Wd seg'∧qk seg'=qk seg % qk den ∧
  ∃K,∀fu,K≤fu→qbl fu (dS sh nlen dl qlen (A++(seg++C)) den q (i:Int))=some (.inl (dS sh nlen dl qlen (A++(seg'++C)) den (q.set i ((qk seg / qk den:Nat):Int)) ((i:Int)-1))):=by
 obtain⟨e,rfl⟩:∃e,dl=e+2:=⟨dl-2,by omega⟩
 have hnl:i+(e+3)≤nlen:=by rw[← hnum,zb,zb];omega
 obtain⟨y0,y1⟩:=yz hwd (e+1)
 obtain⟨F,hFe⟩:∃F:Nat,nth den (e+1)=(F:Int):=⟨(nth den (e+1)).toNat,by omega⟩
 obtain⟨u0,u1⟩:=yz hwd e;obtain⟨d2,hd2e⟩:∃x:Nat,nth den e=(x:Int):=⟨(nth den e).toNat,by omega⟩
 obtain⟨a0,a1⟩:=yz hws e;obtain⟨n2,hn2e⟩:∃x:Nat,nth seg e=(x:Int):=⟨(nth seg e).toNat,by omega⟩
 obtain⟨b0,b1⟩:=yz hws (e+1)
 obtain⟨n1,hn1e⟩:∃x:Nat,nth seg (e+1)=(x:Int):=⟨(nth seg (e+1)).toNat,by omega⟩
 obtain⟨c0,c1⟩:=yz hws (e+2)
 obtain⟨n0,hn0e⟩:∃x:Nat,nth seg (e+2)=(x:Int):=⟨(nth seg (e+2)).toNat,by omega⟩
 have hF:2147483648≤F:=by
  have h:2147483648≤(nth den (e+1)).toNat:=hF
  rw[hFe]at h;omega
 have hDr:=Qv hwd e;have hNr:=Qv hws e;have hD:qk den=(4294967296*F+d2)*4294967296^e+qk (den.take e):=by
  rw[qua e (by omega),hFe,hd2e,zn,zn,zL (4294967296^e),Wh d2];omega
 obtain⟨top,htop⟩:∃top,4294967296*n0+n1=top:=⟨_,rfl⟩
 have hNe:qk seg=(4294967296*top+n2)*4294967296^e+qk (seg.take e):=by
  have h1:=jS seg e;have h2:=jS seg (e+1)
  have h3:=jS seg (e+2)
  rw[zP (by omega)]at h3;rw[h3,h2,h1,hn0e,hn1e,hn2e,zn,zn,zn,← htop,Ke,Ke];exact qub _ _ _ _ _ _
 have hDl:=Qu den hwd;rw[hden]at hDl;have hd2:d2<4294967296:=by omega
 have hn2:n2<4294967296:=by omega
 have hF0:0<F:=by omega
 have hn0:n0<4294967296:=by omega
 have hn1:n1<4294967296:=by omega
 have hg0:=qxc hD hDr hd2 hNe hN (by omega) hF0
 have hst:=qqK hD hNe hNr hn2 hF0;have hget:∀j,j<e+3→((A++(seg++C)).map eW)[i+j]?=some (eW (nth seg j)):=fun j hj=>by
  rw[Kr,Kl (by rw[zV];omega),zV,hA,Nat.add_sub_cancel_left,Kr,Ki (by rw[zV];omega)];exact Zs (by omega)
 have hgd:∀j,j<e+2→(den.map eW)[j]?=some (eW (nth den j)):=fun j hj=>Zs (by omega)
 obtain⟨g,left,k1,k2,k3,k4,K1,k5⟩:=qlb (off:=i) (nl:=e+3) (dl:=e+2) (num:=A++(seg++C)) (den:=den) hD hNe hNr hN (by omega) hd2 hn2 (by omega) (by omega) rfl
  (by rw[show e+2-2=e by omega,hget e (by omega),hn2e]) (by rw[show e+2-2=e by omega,hgd e (by omega),hd2e]) (top / F) (top % F) (by rw[zL];exact Vb top F) (by have:=Vd top hF0;omega) hg0 hst
 have hge:=qw9 hD hNe hDr k1 hF0 (by omega) k2 k3
 obtain⟨m1,r,c,i1,i2,i3,i4,i5,K2,i6⟩:=qmt (off:=i) (nl:=e+3) (dl:=e+2) (f:=F) (left:=left) (g:=g) (A:=A) (C:=C) hA hden hwd (by omega) rfl k2 seg [] 0 0 0 (by simpa using hseg) .nil hws (by omega) (by omega) (by simp) (by simp[qk])
 have hBp:(4294967296:Nat)^(e+3)=4294967296*4294967296^(e+2):=by rw[Ke,zL]
 have hD0:0<qk den:=by
  cases h:qk den with
  | zero=>rw[h]at hN;omega
  | succ=>omega
 have hgD:g*qk den<4294967296^(e+3):=by
  have h1:=zG (qk den) k2
  rw[hBp];omega
 have hc0:c=0:=by
  cases c with
  | zero=>rfl
  | succ c=>
   have:1*4294967296^(e+3)≤(c+1)*4294967296^(e+3):=zG _ (by omega)
   omega
 subst hc0;have hm1:=Qu m1 i2;rw[i1]at hm1;simp only[zk,Vf,KR,zt,KQ]at i5;obtain⟨q1,q2⟩:=qt9 k4 hge;have hqB:qk seg / qk den<4294967296:=(KG hD0).2 hN
 obtain⟨Bn,hBn⟩:∃Bn,(4294967296:Nat)^(e+3)=Bn:=⟨_,rfl⟩
 rw[hBn]at i5 hgD hm1
 -- what the first rows read
 have f1:=hget (e+2) (by omega)
 have f2:=hget (e+1) (by omega)
 have f3:=hgd (e+1) (by omega)
 rw[hn0e]at f1;rw[hn1e]at f2;rw[hFe]at f3;have hqget:(q.map eW)[i]?=some (eW (nth q i)):=Zs (by omega)
 have w1:IntKind.i64.wrap ((i:Int)+((e+2:Nat):Int))=((i+(e+2):Nat):Int):=by rw[w64 (by omega) (by omega)];omega
 have w2:IntKind.i64.wrap (((i+(e+2):Nat):Int)+1)=((i+(e+3):Nat):Int):=by rw[w64 (by omega) (by omega)];omega
 have w3:(((i+(e+3):Nat):Int)-(i:Int)).toNat=e+3:=by omega
 have w4:IntKind.i64.wrap (((e+2:Nat):Int)-1)=((e+1:Nat):Int):=by rw[w64 (by omega) (by omega)];omega
 have w5:IntKind.u64.wrap (F:Int)=(F:Int):=yd (by omega) (by omega)
 have w6:jj .or .u64 (IntKind.u64.wrap (IntKind.u64.wrap (n0:Int)*2^32)) (IntKind.u64.wrap (n1:Int))=(top:Int):=by
  rw[show IntKind.u64.wrap (n0:Int)=(n0:Int) from yd (VW _) (by omega),qmq hn0 hn1,htop]
 have w7:IntKind.u64.wrap (Int.tdiv (top:Int) (F:Int))=((top / F:Nat):Int):=by
  rw[Int.tdiv_eq_ediv_of_nonneg (VW _),← Int.natCast_ediv];exact yd (VW _) (by omega)
 have w8:Int.tmod (top:Int) (F:Int)=((top % F:Nat):Int):=by
  rw[Wl (by omega),← Int.natCast_emod]
 have w9:IntKind.i64.wrap ((i:Int)-1)=(i:Int)-1:=w64 (by omega) (by omega)
 have b1:decide ((0:Int)≤(i:Int))=true:=zh (by omega)
 have b2:decide ((i:Int)≤((i+(e+3):Nat):Int))=true:=zh (by omega)
 have b3:decide (((i+(e+3):Nat):Int)≤(nlen:Int))=true:=zh (by omega)
 have b4:decide ((0:Int)≤((e+2:Nat):Int))=true:=zh (by omega)
 have b5:decide (((e+2:Nat):Int)<((e+3:Nat):Int))=true:=zh (by omega)
 have b6:decide ((0:Int)≤((e+1:Nat):Int))=true:=zh (by omega)
 have b7:decide (((e+1:Nat):Int)<((e+3:Nat):Int))=true:=zh (by omega)
 have b8:decide (((e+1:Nat):Int)<((e+2:Nat):Int))=true:=zh (by omega)
 have b9:decide ((F:Int)=0)=false:=zq (by omega)
 have b10:decide ((i:Int)<(qlen:Int))=true:=zh (by omega)
 by_cases hr:r=0
 · subst hr
   rw[Ve,KQ]at i5;obtain⟨q3,q4⟩:=q1 (by omega)
   refine⟨m1,i1,i2,by rw[q4];omega,max K1 K2,fun fu hfu=>?_⟩
   have r1:=Z8 k5 fu (by omega)
   have r2:=Z8 i6 fu (by omega)
   have wg:IntKind.u32.wrap (g:Int)=(g:Int):=qjj (by omega) (by omega)
   unfold gS at r1;unfold mS at r2;rw[zy]at r2;unfold dS;rw[q3];have hset:(q.map eW).set i (eW (g:Int))=(q.set i (g:Int)).map eW:=qdP q i _
   simp only[qbl,b1,zg,w1,w2,w3,Kt,Vi,b2,b3,b4,b5,zn,zt,f1,zm,YL,Q3,w4,b6,b7,f2,b8,f3,w5,b9,zo,w6,w7,w8,r1];refine obB r2 ?_
   simp only[b10,zg,hqget,zm,Q3,wg,w9];rw[show T.s (.int .u32 (g:Int))=eW (g:Int) from rfl,hset];rfl
 · have hr1:r=1:=by omega
   subst hr1;rw[KR]at i5;obtain⟨q3,q4⟩:=q2 (by omega)
   obtain⟨m2,s',j1,j2,j5,K3,j6⟩:=qmu (off:=i) (nl:=e+3) (dl:=e+2) (f:=F) (left:=left) (g:=g) (r:=1) (c:=0) (A:=A) (C:=C) hA hden hwd (by omega) rfl m1 [] 0 0 (by simpa using i1) .nil i2 (by omega) (by simp[qk])
   simp only[zk,Vf,KR,zt,hBn]at j5;have hm2:=Qu m2 j2;rw[j1,hBn]at hm2;have hmod:=Vd (qk seg) hD0
   have hDB:qk den<Bn:=by rw[← hBn,hBp];omega
   have hs1:s'=1:=by
    have h1:qk m2+s'*Bn=Bn+qk seg % qk den:=by omega
    cases s' with
    | zero=>rw[Ve]at h1;omega
    | succ s'=>
     cases s' with
     | zero=>rfl
     | succ s'=>
      have:2*Bn≤(s'+1+1)*Bn:=zG _ (by omega)
      omega
   subst hs1;refine⟨m2,j1,j2,by omega,max (max K1 K2) K3,fun fu hfu=>?_⟩
   have r1:=Z8 k5 fu (by omega)
   have r2:=Z8 i6 fu (by omega)
   have r3:=Z8 j6 fu (by omega)
   have wg:IntKind.u32.wrap (IntKind.u64.wrap ((g:Int)-1))=((qk seg / qk den:Nat):Int):=by
    have e0:(g:Int)-1=((qk seg / qk den:Nat):Int):=by rw[← q3,Int.natCast_add];exact Int.add_sub_cancel _ _
    rw[e0];generalize qk seg / qk den=w at *
    have e1:IntKind.u64.wrap (w:Int)=(w:Int):=yd (VW _) (by omega)
    rw[e1];exact qjj (VW _) (by omega)
   unfold gS at r1;unfold mS at r2;unfold aS at r3;rw[zy]at r2 r3;unfold dS;have hset:(q.map eW).set i (eW ((qk seg / qk den:Nat):Int))=(q.set i ((qk seg / qk den:Nat):Int)).map eW:=qdP q i _
   simp only[qbl,b1,zg,w1,w2,w3,Kt,Vi,b2,b3,b4,b5,zn,zt,f1,zm,YL,Q3,w4,b6,b7,f2,b8,f3,w5,b9,zo,w6,w7,w8,r1];refine obB r2 ?_
   refine obB r3 ?_
   simp only[b10,zg,hqget,zm,Q3,wg,w9];rw[show T.s (.int .u32 ((qk seg / qk den:Nat):Int))=eW ((qk seg / qk den:Nat):Int) from rfl,hset]
theorem qxd{P B D X S C a r q Q V:Nat}(hS:q*D+r=S)(hV:V=(X+P*(S+C*0))+D*Q):(X+P*(r+C*0))+D*(Q+P*q)=V:=by grind
theorem qoc{vA P S B1 vC D B:Nat}(h:vA+P*(S+B1*vC)<D*(P*B))(hD:D*B≤B1)(hP:0<P):vC=0∧S<B*D:=by
 have h1:P*(S+B1*vC)<P*(D*B):=by
  have:D*(P*B)=P*(D*B):=by grind
  omega
 have h2:=Wu h1;have hv:vC=0:=by
  cases vC with
  | zero=>rfl
  | succ n=>
   have:B1*1≤B1*(n+1):=z8 _ (by omega)
   omega
 subst hv;exact⟨rfl,by rw[zL B D];omega⟩
theorem qh3{q:List Int}{i d:Nat}(hi:i<q.length)(h0:nth q i=0):qk (q.set i (d:Int))=qk q+4294967296^i*d:=by
 have h:=Z6 q i (d:Int) hi
 rw[h0,zn]at h;simpa using h
theorem qjJ{sh:Int}{nlen dl qlen:Nat}{den:List Int}(hden:den.length=dl)(hdl:2≤dl)(hb:nlen≤549755813887)(hql:qlen≤549755813887)(hqn:qlen+dl≤nlen)(hwd:Wd den)(hF:2147483648≤(nth den (dl-1)).toNat) :
 ∀(m:Nat) (num q:List Int),m≤qlen→num.length=nlen→Wd num→q.length=qlen→Wd q→(∀j,j<m→nth q j=0)→qk num<qk den*4294967296^m →
 ∃num' q':List Int,num'.length=nlen∧Wd num'∧q'.length=qlen∧Wd q'∧qk num'<qk den∧qk num'+qk den*qk q'=qk num+qk den*qk q ∧
  ∃K,∀fu,K≤fu→∀n,K≤n→itP n (qbl fu) (dS sh nlen dl qlen num den q ((m:Int)-1))=some (dS sh nlen dl qlen num' den q' (-1))
 | 0,num,q,_,hn,hw,hq,hwq,_,hv=>by
  refine⟨num,q,hn,hw,hq,hwq,by simpa using hv,rfl,1,fun fu _ n hn=>?_⟩
  obtain⟨n,rfl⟩:∃k,n=k+1:=⟨n-1,by omega⟩
  rw[jR];unfold dS;have e:decide ((0:Int)≤((0:Nat):Int)-1)=false:=rfl
  simp only[qbl];rw[e,zo];rfl
 | m+1,num,q,hm,hn,hw,hq,hwq,hz,hv=>by
  obtain⟨A,hA⟩:∃A,num.take m=A:=⟨_,rfl⟩
  obtain⟨seg,hseg⟩:∃s,(num.drop m).take (dl+1)=s:=⟨_,rfl⟩
  obtain⟨C,hC⟩:∃c,(num.drop m).drop (dl+1)=c:=⟨_,rfl⟩
  have hnum:num=A++(seg++C):=by rw[← hA,← hseg,← hC,Kw,Kw]
  have hAl:A.length=m:=by rw[← hA,Ka];omega
  have hsl:seg.length=dl+1:=by rw[← hseg,Ka,KA];omega
  subst hnum;have hws:Wd seg:=hw.right.left
  have hwA:Wd A:=hw.left
  have hwC:Wd C:=hw.right.right
  have hDl:=Qu den hwd;rw[hden]at hDl;have hP:0<4294967296^m:=Nat.pow_pos (by omega)
  have hval:qk (A++(seg++C))=qk A+4294967296^m*(qk seg+4294967296^(dl+1)*qk C):=by
   rw[yV,yV,hAl,hsl]
  obtain⟨hC0,hS⟩:=qoc (B:=4294967296) (D:=qk den) (by rw[← hval];rw[Ke]at hv;exact hv) (by
   rw[Ke];exact zG _ (Wg hDl)) hP
  obtain⟨seg',s1,s2,s3,K1,s4⟩:=qyM (sh:=sh) (q:=q) hAl hsl hn hden hq (by omega) hdl hb hql hws hwd hF hS
  have hD0:0<qk den:=by
   cases h:qk den with
   | zero=>rw[h]at hS;omega
   | succ=>omega
  have hmod:=Vd (qk seg) hD0
  have hdm:=Vb (qk seg) (qk den)
  have hv':qk (A++(seg'++C))=qk A+4294967296^m*(qk seg % qk den):=by
   rw[yV,yV,hAl,s1,hC0,s3,VE,KQ]
  have hvA:=Qu A hwA;rw[hAl]at hvA;have hq0:=qh3 (q:=q) (i:=m) (d:=qk seg / qk den) (by omega) (hz m (by omega))
  have hqB:qk seg / qk den<4294967296:=(KG hD0).2 hS
  obtain⟨num2,q2,t1,t2,t3,t4,t5,t6,K2,t7⟩:=qjJ (sh:=sh) hden hdl hb hql hqn hwd hF m (A++(seg'++C)) (q.set m ((qk seg / qk den:Nat):Int)) (by omega)
   (by rw[← hn];simp only[zb,s1,hsl]) (hwA.app (s2.app hwC)) (by rw[List.length_set];exact hq) (hwq.set (VW _) (by omega) m)
   (fun j hj=>by rw[qbk _ (by omega)];exact hz j (by omega)) (by
     rw[hv'];have h1:4294967296^m*(qk seg % qk den+1)≤4294967296^m*qk den:=z8 _ hmod
     rw[KB,KK]at h1;rw[zL (qk den)];omega)
  refine⟨num2,q2,t1,t2,t3,t4,t5,?_,max K1 K2+1,fun fu hfu n hnn=>?_⟩
  · rw[t6,hv',hq0,hval,hC0]
    have:=qxd (P:=4294967296^m) (B:=0) (D:=qk den) (X:=qk A) (S:=qk seg) (C:=0) (a:=0) (r:=qk seg % qk den) (q:=qk seg / qk den) (Q:=qk q) (by rw[zL];exact hdm) rfl
    simpa using this
  · obtain⟨n,rfl⟩:∃k,n=k+1:=⟨n-1,by omega⟩
    rw[jR,show((m+1:Nat):Int)-1=(m:Int) by omega,s4 fu (by omega)];exact t7 fu (by omega) n (by omega)
theorem qmv{a:List Int}(ha:Wd a){r size:Nat}(hr:r<32)(hN:size≤549755813887)(hfit:qk a*2^r<4294967296^size) :
 ∃o:List Int,o.length=size∧Wd o∧qk o=qk a*2^r∧∃n,itP n Zv (a,(r:Int),size,(size:Int),(0:Int),(List.replicate size 0).map eW,())=some (a,(r:Int),size,(size:Int),(size:Int),o.map eW,()):=by
 obtain⟨o,c,h1,h2,h3,h4⟩:=qjI a ha r hr size hN size 0 [] 0 (by omega) rfl .nil (zU _) (fun _=>rfl) (fun j hj=>by omega) (by simp[qk])
 have hv:qk a<4294967296^size:=K5 (Nat.le_mul_of_pos_right _ (zU r)) hfit
 rw[qob a ha size hv]at h3;have hc:c=0:=by
  cases c with
  | zero=>rfl
  | succ c=>
   have:1*4294967296^size≤(c+1)*4294967296^size:=zG _ (by omega)
   omega
 subst hc;exact⟨o,h1,h2,by omega,h4⟩
theorem quc{o:List Int}{k:Nat}(hl:o.length=k+1)(hw:Wd o)(h:4294967296^k*2147483648≤qk o):2147483648≤(nth o k).toNat:=by
 have h1:=jS o k;rw[zP (by omega)]at h1;have h2:=Qv hw k;refine Wi fun h3=>?_
 have h4:4294967296^k*((nth o k).toNat+1)≤4294967296^k*2147483648:=z8 _ h3
 rw[KB,KK]at h4;omega
theorem qff{v:Nat}:v<4294967296^(ofN v).length:=by
 have:=Qu (ofN v) (qe7 v)
 rwa [valN_ofN]at this
def qfg(p:List Int×List Int):Option (List Int×List Int×Int):=bif Nat.ble p.1.length 1000000&&Nat.ble p.2.length 1000000 then
 some (if qk p.2=0 then([],[],21)else(ofN (qk p.1 / qk p.2),ofN (qk p.1 % qk p.2),0))else none
theorem YM(l:List Int)(h:Wd l):(ofN (qk l)).length≤l.length:=by
 refine Wi fun hlt=>?_
 by_cases h0:qk l=0
 · rw[h0,Yh]at hlt;simp at hlt
 · obtain⟨m,x,h1,h2,h3,h4,h5⟩:=qfa (qk l) h0
   have hm:(ofN (qk l)).length=m.length+1:=by rw[h1];simp
   have h6:=Qu l h;have h7:4294967296^l.length≤4294967296^m.length:=Kg (by omega) (by omega)
   have h8:4294967296^m.length*1≤4294967296^m.length*x:=z8 _ (by omega)
   omega
theorem qqO{va vb:Nat}{mb:List Int}{x:Nat}(hla:(ofN va).length≤1000000)(hlb:(ofN vb).length≤1000000)(hge:vb≤va)(h1:ofN vb=mb++[(x:Int)])(hx0:x≠0)(hx1:x<4294967296)(hwm:Wd mb)(hvb:vb=qk mb+4294967296^mb.length*x)(hm:1≤mb.length) :
 ∃(r qlen:Nat) (o1 o2 num q:List Int),r=32-qu x∧r<32∧(ofN vb).length≤(ofN va).length∧qlen=(ofN va).length-(ofN vb).length+1∧o1.length=(ofN va).length+1∧o2.length=(ofN vb).length∧num.length=(ofN va).length+1∧q.length=qlen∧Wd num∧Wd q ∧
  qk q=va / vb∧qk num / 2^r=va % vb ∧
  (∃n,itP n qqL (ofN va,(r:Int),(ofN va).length+1,(((ofN va).length+1:Nat):Int),(0:Int),(List.replicate ((ofN va).length+1) 0).map eW,())=some (ofN va,(r:Int),(ofN va).length+1,(((ofN va).length+1:Nat):Int),(((ofN va).length+1:Nat):Int),o1.map eW,())) ∧
  (∃n,itP n qqM (ofN vb,(r:Int),(ofN vb).length,(((ofN vb).length:Nat):Int),(0:Int),(List.replicate (ofN vb).length 0).map eW,())=some (ofN vb,(r:Int),(ofN vb).length,(((ofN vb).length:Nat):Int),(((ofN vb).length:Nat):Int),o2.map eW,())) ∧
  ∃K,∀fu,K≤fu→∀n,K≤n→itP n (qbl fu) (dS (r:Int) ((ofN va).length+1) (ofN vb).length qlen o1 o2 (List.replicate qlen 0) ((qlen:Int)-1))=some (dS (r:Int) ((ofN va).length+1) (ofN vb).length qlen num o2 q (-1)):=by
 have hbl:qu vb=32*mb.length+qu x:=by rw[hvb];exact qgC hwm hx0
 have hbx1:0<qu x:=j9 hx0
 have hbx2:qu x≤32:=ye.2 (by simpa using hx1)
 have hlbe:(ofN vb).length=mb.length+1:=by rw[h1];simp
 obtain⟨r,hr⟩:∃r,r=32-qu x:=⟨_,rfl⟩
 have hr32:r<32:=by omega
 have hval:=@qff va
 have hvbl:=@qff vb
 have hvb0:vb≠0:=by
  intro e;rw[e,Yh]at h1;have:=congrArg List.length h1;simp at this
 have hbge:4294967296^mb.length≤vb:=by
  rw[hvb];have:4294967296^mb.length*1≤4294967296^mb.length*x:=z8 _ (by omega)
  omega
 have hlal:(ofN vb).length≤(ofN va).length:=by
  refine Wi fun hlt=>?_
  have h2:4294967296^(ofN va).length≤4294967296^mb.length:=Kg (by omega) (by omega)
  omega
 obtain⟨la,hlae⟩:∃la,(ofN va).length=la:=⟨_,rfl⟩
 obtain⟨k,hk⟩:∃k,mb.length=k:=⟨_,rfl⟩
 have hwa:=qe7 va;have hwb:=qe7 vb;have f1:qk (ofN va)*2^r<4294967296^(la+1):=by
  rw[valN_ofN,Ke];have h2:=Kf hval (zU r)
  have h3:2^r≤2^31:=Kg (by omega) (by omega)
  rw[hlae]at h2;exact Kv h2 (z8 _ (KF h3 (by decide)))
 have f2:qk (ofN vb)*2^r<4294967296^(k+1):=by
  rw[valN_ofN,qdf];have h2:=Kf (Qs vb) (zU r)
  rw[← zW]at h2;rw[show 32*(k+1)=qu vb+r by omega];exact h2
 have f3:4294967296^k*2147483648≤qk (ofN vb)*2^r:=by
  rw[valN_ofN,qdf];have h2:=zG (2^r) (Zn hvb0)
  rw[← zW]at h2;rw[show(2147483648:Nat)=2^31 from rfl,← zW,show 32*k+31=qu vb-1+r by omega];exact h2
 obtain⟨o1,p1,p2,p3,p4⟩:=qmv hwa hr32 (size:=la+1) (by omega) f1
 obtain⟨o2,u1,u2,u3,u4⟩:=qmv hwb hr32 (size:=k+1) (by omega) f2
 rw[valN_ofN]at p3 u3 f3;have hqd:va<vb*4294967296^(la-(k+1)+1):=by
  have h2:4294967296^la≤vb*4294967296^(la-(k+1)+1):=by
   have h3:=zG (4294967296^(la-(k+1)+1)) hbge
   rw[hk,← zW,show k+(la-(k+1)+1)=la by omega]at h3;exact h3
  rw[hlae]at hval;omega
 obtain⟨num,q,t1,t2,t3,t4,t5,t6,K,t7⟩:=qjJ (sh:=(r:Int)) (nlen:=la+1) (dl:=k+1) (qlen:=la-(k+1)+1) (den:=o2) u1 (by omega) (by omega) (by omega) (by omega) u2 (quc u1 u2 (by rw[u3];exact f3)) (la-(k+1)+1) o1 (List.replicate (la-(k+1)+1) 0) (zI _) p1 p2 (by simp)
  (fun z hz=>by have:=(Vc.1 hz).2;subst this;exact⟨Int.le_refl _,by decide⟩) (fun j _=>by unfold nth;rw[K9];split <;> rfl) (by
    rw[p3,u3,KC];exact Kf hqd (zU r))
 rw[Zt,VE,KQ,p3,u3]at t6;rw[u3]at t5;have hD0:0<vb*2^r:=Wx (by omega) (zU r)
 have hqv:qk q=va / vb:=by
  have h2:va*2^r / (vb*2^r)=va / vb:=Nat.mul_div_mul_right _ _ (zU r)
  rw[← h2,← t6,VZ _ _ hD0,Vo t5,zt]
 have hrv:qk num / 2^r=va % vb:=by
  have h2:va*2^r % (vb*2^r)=va % vb*2^r:=WN _ _ _
  have h3:qk num=va % vb*2^r:=by
   rw[← h2,← t6,Nat.add_mul_mod_self_left,KT t5]
  rw[h3,Nat.mul_div_cancel _ (zU r)]
 rw[hlae,hlbe,hk];exact⟨r,la-(k+1)+1,o1,o2,num,q,hr,hr32,by omega,rfl,p1,u1,t1,t3,t2,t4,hqv,hrv,p4,u4,K,t7⟩
theorem qxe(p:List Int×List Int)(y:List Int×List Int×Int)(hg:(dc (cQ 1 1) (d1 (cQ 1 1))).good p)(h:qfg p=some y):∃n,Div n p.1 p.2=some y:=by
 obtain⟨a,b⟩:=p;obtain⟨⟨ha,la⟩,hb,lb⟩:=hg;obtain⟨hm,h⟩:=qL h;have:=soi h;subst this
 rw[zp]at hm;have hwa:=Wd.of ha;have hwb:=Wd.of hb;have hla:=KF (YM a hwa) (zx hm.1)
 have hlb:=KF (YM b hwb) (zx hm.2)
 show∃n,Div n a b=some (if qk b=0 then([],[],21)else(ofN (qk a / qk b),ofN (qk a % qk b),0))
 unfold Div;simp only[valN_ofN,qt5];generalize qk a=va at *
 generalize qk b=vb at *
 clear ha hb hwa hwb la lb hm h;by_cases hb0:vb=0
 · subst hb0
   refine⟨0,?_⟩
   rw[z6 rfl];rfl
 obtain⟨mb,x,h1,h2,h3,h4,h5⟩:=qfa vb hb0;have hlbe:(ofN vb).length=mb.length+1:=by rw[h1];simp
 have d0:decide ((((ofN vb).length:Nat):Int)=0)=false:=zq (by omega)
 rw[zQ hb0];by_cases hlt:va<vb
 · refine⟨0,?_⟩
   have hn:qla (ofN va)=true:=zN (by omega)
   have hs:qdQ (ofN va)=some (ofN va):=by unfold qdQ;rw[hn,zg]
   rw[d0,zo,zh hlt,zg,hs,Vo hlt,KT hlt];rfl
 have d2:decide (va<vb)=false:=zq hlt
 by_cases hone:mb.length=0
 · refine⟨0,?_⟩
   have hmb:mb=[]:=Va hone
   subst hmb;have hx:vb=x:=by rw[h5];simp[qk]
   have d3:decide ((((ofN vb).length:Nat):Int)=1)=true:=zh (by omega)
   have hi:idx (ofN vb) 0=some (x:Int):=by rw[h1];rfl
   have hs:YB (ofN va,(x:Int))=some (ofN (va / vb),ofN (va % vb)):=by
    unfold YB;simp only[valN_ofN];rw[show decide ((0:Int)<(x:Int))=true from zh (by omega),show qla (ofN va)=true from zN (by omega),Kt,zg,zn,hx]
   rw[d0,zo,d2,zo,d3,zg,hi,zm,hs];rfl
 · have d3:decide ((((ofN vb).length:Nat):Int)=1)=false:=zq (by omega)
   obtain⟨r,qlen,o1,o2,num,q,hr,hr32,hll,hql,k1,k2,k3,k4,k5,k6,k7,k8,⟨n1,s1⟩,⟨n2,s2⟩,K,s3⟩:=qqO hla hlb (by omega) h1 h2 h3 h4 h5 (by omega)
   refine⟨max (max n1 n2) K,?_⟩
   have r1:=Z8 s1 (max (max n1 n2) K) (by omega)
   have r2:=Z8 s2 (max (max n1 n2) K) (by omega)
   have r3:=s3 (max (max n1 n2) K) (by omega) (max (max n1 n2) K) (by omega)
   have w1:IntKind.i64.wrap ((((ofN vb).length:Nat):Int)-1)=(mb.length:Int):=by rw[hlbe,w64 (by omega) (by omega)];omega
   have hi:idx (ofN vb) (mb.length:Int)=some (x:Int):=by rw[JN,h1];simp
   have hbx1:0<qu x:=j9 h2
   have hbx2:qu x≤32:=ye.2 (by simpa using h3)
   have w2:IntKind.i64.wrap (32-((qu x:Nat):Int))=(r:Int):=by rw[w64 (by omega) (by omega)];omega
   obtain⟨LA,hLA⟩:∃LA,(ofN va).length=LA:=⟨_,rfl⟩
   obtain⟨LB,hLB⟩:∃LB,(ofN vb).length=LB:=⟨_,rfl⟩
   rw[hLA]at r1 r3 hla hll hql k1 k3;rw[hLB]at r2 r3 hlb hll hql k2 d0 d3 w1;have w3:IntKind.i64.wrap ((LA:Int)+1)=((LA+1:Nat):Int):=by rw[w64 (by omega) (by omega)];rfl
   have w4:IntKind.i64.wrap ((LA:Int)-(LB:Int))=((LA-LB:Nat):Int):=by rw[w64 (by omega) (by omega)];omega
   have w5:IntKind.i64.wrap (((LA-LB:Nat):Int)+1)=(qlen:Int):=by rw[w64 (by omega) (by omega)];omega
   have w6:IntKind.i64.wrap ((qlen:Int)-1)=(qlen:Int)-1:=w64 (by omega) (by omega)
   have b1:decide ((0:Int)≤((LA+1:Nat):Int))=true:=zh (by omega)
   have b2:decide (((LA+1:Nat):Int)≤((LA+1:Nat):Int))=true:=zh (by omega)
   have b3:decide (((LA+1:Nat):Int)≤549755813888)=true:=zh (by omega)
   have b4:decide ((0:Int)≤(LB:Int))=true:=zh (by omega)
   have b5:decide ((LB:Int)≤(LB:Int))=true:=zh (by omega)
   have b6:decide ((LB:Int)≤549755813888)=true:=zh (by omega)
   have b7:decide ((0:Int)≤(qlen:Int))=true:=zh (by omega)
   have b8:decide ((qlen:Int)≤(qlen:Int))=true:=zh (by omega)
   have b9:decide ((qlen:Int)≤549755813888)=true:=zh (by omega)
   rw[VX]at r1 r2;unfold dS at r3;rw[VX]at r3;have hsq:sub (q.map eW) 0 qlen=some (q.map eW):=by
    have:=Zr (q.map eW);rwa [zV,k4]at this
   have hsn:sub (num.map eW) 0 (LA+1)=some (num.map eW):=by
    have:=Zr (num.map eW);rwa [zV,k3]at this
   simp only[hLA,hLB,d0,zo,d2,d3,w1,hi,zm,qgB x h3,w2,w3,w4,w5,w6,b1,b2,b3,b4,b5,b6,b7,b8,b9,Kt,zg,zn];refine obB r1 ?_
   refine obB r2 ?_
   refine obB r3 ?_
   have hmx:max (r:Int) 0=(r:Int):=by omega
   have hbl:Nat.ble num.length 549755813887=true:=zN (by omega)
   have e1:yC 1 (q.map eW)=some q:=JU q
   have e2:yC 1 (num.map eW)=some num:=JU num
   simp only[hsq,hsn,zm,e1,e2];show(bif Nat.ble num.length 549755813887 then some (ofN (qk num / 2^(max (r:Int) 0).toNat))else none).bind (fun x87=>some (ofN (qk q),x87,(0:Int)))=_
   rw[hmx,zn,hbl,zg,k8,k7];rfl
end
end Su
