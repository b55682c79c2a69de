/-
  What functions of the program compute, in plain Lean, and that the evaluator finds it.
-/
import Derived.Test.YtnegfdebjikfiaaGreatSuXl
import Derived.Test.YtnegfdebjikfiaaGreatNS01
set_option linter.unusedVariables false
set_option linter.unusedSimpArgs false
set_option maxRecDepth 10000
namespace Su
open Go Fly
noncomputable section
def JI:Stp (Nat×Int×Int×Int×Int×Int×(List T)×Unit):=fun p0=>(bif(decide (p0.2.2.2.2.1<p0.2.2.2.2.2.1))then
 (bif((true&&(decide (0≤(IntKind.wrap .i64 (Int.fdiv (IntKind.wrap .u64 (IntKind.wrap .i64 (p0.2.2.2.2.1+p0.2.2.2.2.2.1))) (2^1))))))&&(decide ((IntKind.wrap .i64 (Int.fdiv (IntKind.wrap .u64 (IntKind.wrap .i64 (p0.2.2.2.2.1+p0.2.2.2.2.2.1))) (2^1)))<(p0.1:Int))))then
 ((p0.2.2.2.2.2.2.1)[(0+(Int.toNat (IntKind.wrap .i64 (Int.fdiv (IntKind.wrap .u64 (IntKind.wrap .i64 (p0.2.2.2.2.1+p0.2.2.2.2.2.1))) (2^1)))))]?).bind fun x1=>
 ((x1.cells)[0]?).bind fun x2=>
 (asI .i64 (.t x2)).bind fun x3=>
 ((x1.cells)[1]?).bind fun x4=>
 (asI .u64 (.t x4)).bind fun x5=>
 (bif((true&&(decide (0≤p0.2.1)))&&(decide (p0.2.1<(p0.1:Int))))then
 ((p0.2.2.2.2.2.2.1)[(0+p0.2.1.toNat)]?).bind fun x6=>
 ((x6.cells)[0]?).bind fun x7=>
 (asI .i64 (.t x7)).bind fun x8=>
 ((x6.cells)[1]?).bind fun x9=>
 (asI .u64 (.t x9)).bind fun x10=>
 (bif(decide ((jZ (Int.toNat (jT x10.toNat:Int)) (Int.toNat (jT x5.toNat:Int)))<0))then
 some (.inl (p0.1,p0.2.1,p0.2.2.1,p0.2.2.2.1,(IntKind.wrap .i64 ((IntKind.wrap .i64 (Int.fdiv (IntKind.wrap .u64 (IntKind.wrap .i64 (p0.2.2.2.2.1+p0.2.2.2.2.2.1))) (2^1)))+1)),p0.2.2.2.2.2.1,p0.2.2.2.2.2.2.1,()))
 else
  some (.inl (p0.1,p0.2.1,p0.2.2.1,p0.2.2.2.1,p0.2.2.2.2.1,(IntKind.wrap .i64 (Int.fdiv (IntKind.wrap .u64 (IntKind.wrap .i64 (p0.2.2.2.2.1+p0.2.2.2.2.2.1))) (2^1))),p0.2.2.2.2.2.2.1,())))
 else none)
 else none)
 else
  some (.inr (p0.1,p0.2.1,p0.2.2.1,p0.2.2.2.1,p0.2.2.2.2.1,p0.2.2.2.2.2.1,p0.2.2.2.2.2.2.1,())))
def YN:Stp (Nat×Int×Int×Int×Int×Int×Int×(List T)×Unit):=fun p12=>(bif(decide (p12.2.2.2.2.2.2.1<(IntKind.wrap .i64 (p12.2.2.2.2.1-1))))then
 (bif((true&&(decide (0≤(IntKind.wrap .i64 (p12.2.2.2.2.2.2.1+1)))))&&(decide ((IntKind.wrap .i64 (p12.2.2.2.2.2.2.1+1))<(p12.1:Int))))then
 ((p12.2.2.2.2.2.2.2.1)[(0+(Int.toNat (IntKind.wrap .i64 (p12.2.2.2.2.2.2.1+1))))]?).bind fun x13=>
 ((x13.cells)[0]?).bind fun x14=>
 (asI .i64 (.t x14)).bind fun x15=>
 ((x13.cells)[1]?).bind fun x16=>
 (asI .u64 (.t x16)).bind fun x17=>
 (bif((true&&(decide (0≤p12.2.2.2.2.2.2.1)))&&(decide (p12.2.2.2.2.2.2.1<(p12.1:Int))))then
 ((p12.2.2.2.2.2.2.2.1)[(0+p12.2.2.2.2.2.2.1.toNat)]?).bind fun x18=>
 ((x18.cells)[0]?).bind fun x19=>
 (asI .i64 (.t x19)).bind fun x20=>
 ((x18.cells)[1]?).bind fun x21=>
 (asI .u64 (.t x21)).bind fun x22=>
 (bif((true&&(decide (0≤p12.2.2.2.2.2.2.1)))&&(decide (p12.2.2.2.2.2.2.1<(p12.1:Int))))then
 (bif((true&&(decide (0≤(IntKind.wrap .i64 (p12.2.2.2.2.2.2.1+1)))))&&(decide ((IntKind.wrap .i64 (p12.2.2.2.2.2.2.1+1))<(p12.1:Int))))then
 ((p12.2.2.2.2.2.2.2.1)[(0+p12.2.2.2.2.2.2.1.toNat)]?).bind fun x23=>
 ((List.set p12.2.2.2.2.2.2.2.1 (0+p12.2.2.2.2.2.2.1.toNat) (T.agg [(T.s (.int .i64 x15)),(T.s (.int .u64 x17))]))[(0+(Int.toNat (IntKind.wrap .i64 (p12.2.2.2.2.2.2.1+1))))]?).bind fun x24=>
 some (.inl (p12.1,p12.2.1,p12.2.2.1,p12.2.2.2.1,p12.2.2.2.2.1,p12.2.2.2.2.2.1,(IntKind.wrap .i64 (p12.2.2.2.2.2.2.1+1)),(List.set (List.set p12.2.2.2.2.2.2.2.1 (0+p12.2.2.2.2.2.2.1.toNat) (T.agg [(T.s (.int .i64 x15)),(T.s (.int .u64 x17))])) (0+(Int.toNat (IntKind.wrap .i64 (p12.2.2.2.2.2.2.1+1)))) (T.agg [(T.s (.int .i64 x20)),(T.s (.int .u64 x22))])),()))
 else none)
 else none)
 else none)
 else none)
 else
  some (.inr (p12.1,p12.2.1,p12.2.2.1,p12.2.2.2.1,p12.2.2.2.2.1,p12.2.2.2.2.2.1,p12.2.2.2.2.2.2.1,p12.2.2.2.2.2.2.2.1,())))
def JJ:Stp (Nat×Int×Int×Int×Int×Int×(List T)×Unit):=fun p26=>(bif(decide (p26.2.2.2.2.1<p26.2.2.2.2.2.1))then
 (bif((true&&(decide (0≤p26.2.2.1)))&&(decide (p26.2.2.1<(p26.1:Int))))then
 ((p26.2.2.2.2.2.2.1)[(0+p26.2.2.1.toNat)]?).bind fun x27=>
 ((x27.cells)[0]?).bind fun x28=>
 (asI .i64 (.t x28)).bind fun x29=>
 ((x27.cells)[1]?).bind fun x30=>
 (asI .u64 (.t x30)).bind fun x31=>
 (bif((true&&(decide (0≤(IntKind.wrap .i64 (Int.fdiv (IntKind.wrap .u64 (IntKind.wrap .i64 (p26.2.2.2.2.1+p26.2.2.2.2.2.1))) (2^1))))))&&(decide ((IntKind.wrap .i64 (Int.fdiv (IntKind.wrap .u64 (IntKind.wrap .i64 (p26.2.2.2.2.1+p26.2.2.2.2.2.1))) (2^1)))<(p26.1:Int))))then
 ((p26.2.2.2.2.2.2.1)[(0+(Int.toNat (IntKind.wrap .i64 (Int.fdiv (IntKind.wrap .u64 (IntKind.wrap .i64 (p26.2.2.2.2.1+p26.2.2.2.2.2.1))) (2^1)))))]?).bind fun x32=>
 ((x32.cells)[0]?).bind fun x33=>
 (asI .i64 (.t x33)).bind fun x34=>
 ((x32.cells)[1]?).bind fun x35=>
 (asI .u64 (.t x35)).bind fun x36=>
 (bif(!(decide ((jZ (Int.toNat (jT x36.toNat:Int)) (Int.toNat (jT x31.toNat:Int)))<0)))then
 some (.inl (p26.1,p26.2.1,p26.2.2.1,p26.2.2.2.1,(IntKind.wrap .i64 ((IntKind.wrap .i64 (Int.fdiv (IntKind.wrap .u64 (IntKind.wrap .i64 (p26.2.2.2.2.1+p26.2.2.2.2.2.1))) (2^1)))+1)),p26.2.2.2.2.2.1,p26.2.2.2.2.2.2.1,()))
 else
  some (.inl (p26.1,p26.2.1,p26.2.2.1,p26.2.2.2.1,p26.2.2.2.2.1,(IntKind.wrap .i64 (Int.fdiv (IntKind.wrap .u64 (IntKind.wrap .i64 (p26.2.2.2.2.1+p26.2.2.2.2.2.1))) (2^1))),p26.2.2.2.2.2.2.1,())))
 else none)
 else none)
 else
  some (.inr (p26.1,p26.2.1,p26.2.2.1,p26.2.2.2.1,p26.2.2.2.2.1,p26.2.2.2.2.2.1,p26.2.2.2.2.2.2.1,())))
def YO:Stp (Nat×Int×Int×Int×Int×Int×Int×(List T)×Unit):=fun p38=>(bif(decide (p38.2.2.2.2.1<p38.2.2.2.2.2.2.1))then
 (bif((true&&(decide (0≤(IntKind.wrap .i64 (p38.2.2.2.2.2.2.1-1)))))&&(decide ((IntKind.wrap .i64 (p38.2.2.2.2.2.2.1-1))<(p38.1:Int))))then
 ((p38.2.2.2.2.2.2.2.1)[(0+(Int.toNat (IntKind.wrap .i64 (p38.2.2.2.2.2.2.1-1))))]?).bind fun x39=>
 ((x39.cells)[0]?).bind fun x40=>
 (asI .i64 (.t x40)).bind fun x41=>
 ((x39.cells)[1]?).bind fun x42=>
 (asI .u64 (.t x42)).bind fun x43=>
 (bif((true&&(decide (0≤p38.2.2.2.2.2.2.1)))&&(decide (p38.2.2.2.2.2.2.1<(p38.1:Int))))then
 ((p38.2.2.2.2.2.2.2.1)[(0+p38.2.2.2.2.2.2.1.toNat)]?).bind fun x44=>
 ((x44.cells)[0]?).bind fun x45=>
 (asI .i64 (.t x45)).bind fun x46=>
 ((x44.cells)[1]?).bind fun x47=>
 (asI .u64 (.t x47)).bind fun x48=>
 (bif((true&&(decide (0≤p38.2.2.2.2.2.2.1)))&&(decide (p38.2.2.2.2.2.2.1<(p38.1:Int))))then
 (bif((true&&(decide (0≤(IntKind.wrap .i64 (p38.2.2.2.2.2.2.1-1)))))&&(decide ((IntKind.wrap .i64 (p38.2.2.2.2.2.2.1-1))<(p38.1:Int))))then
 ((p38.2.2.2.2.2.2.2.1)[(0+p38.2.2.2.2.2.2.1.toNat)]?).bind fun x49=>
 ((List.set p38.2.2.2.2.2.2.2.1 (0+p38.2.2.2.2.2.2.1.toNat) (T.agg [(T.s (.int .i64 x41)),(T.s (.int .u64 x43))]))[(0+(Int.toNat (IntKind.wrap .i64 (p38.2.2.2.2.2.2.1-1))))]?).bind fun x50=>
 some (.inl (p38.1,p38.2.1,p38.2.2.1,p38.2.2.2.1,p38.2.2.2.2.1,p38.2.2.2.2.2.1,(IntKind.wrap .i64 (p38.2.2.2.2.2.2.1-1)),(List.set (List.set p38.2.2.2.2.2.2.2.1 (0+p38.2.2.2.2.2.2.1.toNat) (T.agg [(T.s (.int .i64 x41)),(T.s (.int .u64 x43))])) (0+(Int.toNat (IntKind.wrap .i64 (p38.2.2.2.2.2.2.1-1)))) (T.agg [(T.s (.int .i64 x46)),(T.s (.int .u64 x48))])),()))
 else none)
 else none)
 else none)
 else none)
 else
  some (.inr (p38.1,p38.2.1,p38.2.2.1,p38.2.2.2.1,p38.2.2.2.2.1,p38.2.2.2.2.2.1,p38.2.2.2.2.2.2.1,p38.2.2.2.2.2.2.2.1,())))
def Qp:Stp (Nat×Int×Int×Int×Int×Int×Int×Int×Int×(List T)×Unit):=fun p52=>(bif(decide (p52.2.2.2.2.2.2.1<p52.2.2.2.2.2.2.2.1))then
 (bif((true&&(decide (0≤(IntKind.wrap .i64 (p52.2.2.2.2.2.2.2.2.1-(IntKind.wrap .i64 (Int.fdiv (IntKind.wrap .u64 (IntKind.wrap .i64 (p52.2.2.2.2.2.2.1+p52.2.2.2.2.2.2.2.1))) (2^1))))))))&&(decide ((IntKind.wrap .i64 (p52.2.2.2.2.2.2.2.2.1-(IntKind.wrap .i64 (Int.fdiv (IntKind.wrap .u64 (IntKind.wrap .i64 (p52.2.2.2.2.2.2.1+p52.2.2.2.2.2.2.2.1))) (2^1)))))<(p52.1:Int))))then
 ((p52.2.2.2.2.2.2.2.2.2.1)[(0+(Int.toNat (IntKind.wrap .i64 (p52.2.2.2.2.2.2.2.2.1-(IntKind.wrap .i64 (Int.fdiv (IntKind.wrap .u64 (IntKind.wrap .i64 (p52.2.2.2.2.2.2.1+p52.2.2.2.2.2.2.2.1))) (2^1)))))))]?).bind fun x53=>
 ((x53.cells)[0]?).bind fun x54=>
 (asI .i64 (.t x54)).bind fun x55=>
 ((x53.cells)[1]?).bind fun x56=>
 (asI .u64 (.t x56)).bind fun x57=>
 (bif((true&&(decide (0≤(IntKind.wrap .i64 (Int.fdiv (IntKind.wrap .u64 (IntKind.wrap .i64 (p52.2.2.2.2.2.2.1+p52.2.2.2.2.2.2.2.1))) (2^1))))))&&(decide ((IntKind.wrap .i64 (Int.fdiv (IntKind.wrap .u64 (IntKind.wrap .i64 (p52.2.2.2.2.2.2.1+p52.2.2.2.2.2.2.2.1))) (2^1)))<(p52.1:Int))))then
 ((p52.2.2.2.2.2.2.2.2.2.1)[(0+(Int.toNat (IntKind.wrap .i64 (Int.fdiv (IntKind.wrap .u64 (IntKind.wrap .i64 (p52.2.2.2.2.2.2.1+p52.2.2.2.2.2.2.2.1))) (2^1)))))]?).bind fun x58=>
 ((x58.cells)[0]?).bind fun x59=>
 (asI .i64 (.t x59)).bind fun x60=>
 ((x58.cells)[1]?).bind fun x61=>
 (asI .u64 (.t x61)).bind fun x62=>
 (bif(!(decide ((jZ (Int.toNat (jT x62.toNat:Int)) (Int.toNat (jT x57.toNat:Int)))<0)))then
 some (.inl (p52.1,p52.2.1,p52.2.2.1,p52.2.2.2.1,p52.2.2.2.2.1,p52.2.2.2.2.2.1,(IntKind.wrap .i64 ((IntKind.wrap .i64 (Int.fdiv (IntKind.wrap .u64 (IntKind.wrap .i64 (p52.2.2.2.2.2.2.1+p52.2.2.2.2.2.2.2.1))) (2^1)))+1)),p52.2.2.2.2.2.2.2.1,p52.2.2.2.2.2.2.2.2.1,p52.2.2.2.2.2.2.2.2.2.1,()))
 else
  some (.inl (p52.1,p52.2.1,p52.2.2.1,p52.2.2.2.1,p52.2.2.2.2.1,p52.2.2.2.2.2.1,p52.2.2.2.2.2.2.1,(IntKind.wrap .i64 (Int.fdiv (IntKind.wrap .u64 (IntKind.wrap .i64 (p52.2.2.2.2.2.2.1+p52.2.2.2.2.2.2.2.1))) (2^1))),p52.2.2.2.2.2.2.2.2.1,p52.2.2.2.2.2.2.2.2.2.1,())))
 else none)
 else none)
 else
  some (.inr (p52.1,p52.2.1,p52.2.2.1,p52.2.2.2.1,p52.2.2.2.2.1,p52.2.2.2.2.2.1,p52.2.2.2.2.2.2.1,p52.2.2.2.2.2.2.2.1,p52.2.2.2.2.2.2.2.2.1,p52.2.2.2.2.2.2.2.2.2.1,())))
def qko  (fu:Nat)(R:List Tm→Int×Int×Int×Unit→Option (List Tm))(L:(List Tm))(a:Int)(m:Int)(b:Int)(u:Unit):Option (List T) :=
 (bif(decide ((IntKind.wrap .i64 (m-a))=1))then
 (itP fu (JI) ((List.length (List.map (vT) L)),a,m,b,m,b,(List.map (vT) L),())).bind fun x11=>
 (itP fu (YN) (x11.1,x11.2.1,x11.2.2.1,x11.2.2.2.1,x11.2.2.2.2.1,x11.2.2.2.2.2.1,x11.2.1,x11.2.2.2.2.2.2.1,())).bind fun x25=>
 some x25.2.2.2.2.2.2.2.1
 else
  (bif(decide ((IntKind.wrap .i64 (b-m))=1))then
  (itP fu (JJ) ((List.length (List.map (vT) L)),a,m,b,a,m,(List.map (vT) L),())).bind fun x37=>
  (itP fu (YO) (x37.1,x37.2.1,x37.2.2.1,x37.2.2.2.1,x37.2.2.2.2.1,x37.2.2.2.2.2.1,x37.2.2.1,x37.2.2.2.2.2.2.1,())).bind fun x51=>
  some x51.2.2.2.2.2.2.2.1
 else
  (bif(decide ((IntKind.wrap .i64 (Int.fdiv (IntKind.wrap .u64 (IntKind.wrap .i64 (a+b))) (2^1)))<m))then
  (itP fu (Qp) ((List.length (List.map (vT) L)),a,m,b,(IntKind.wrap .i64 (Int.fdiv (IntKind.wrap .u64 (IntKind.wrap .i64 (a+b))) (2^1))),(IntKind.wrap .i64 ((IntKind.wrap .i64 (Int.fdiv (IntKind.wrap .u64 (IntKind.wrap .i64 (a+b))) (2^1)))+m)),(IntKind.wrap .i64 ((IntKind.wrap .i64 ((IntKind.wrap .i64 (Int.fdiv (IntKind.wrap .u64 (IntKind.wrap .i64 (a+b))) (2^1)))+m))-b)),(IntKind.wrap .i64 (Int.fdiv (IntKind.wrap .u64 (IntKind.wrap .i64 (a+b))) (2^1))),(IntKind.wrap .i64 ((IntKind.wrap .i64 ((IntKind.wrap .i64 (Int.fdiv (IntKind.wrap .u64 (IntKind.wrap .i64 (a+b))) (2^1)))+m))-1)),(List.map (vT) L),())).bind fun x63=>
  (bif(decide (x63.2.2.2.2.2.2.1<x63.2.2.1))then
  (bif(decide (x63.2.2.1<(IntKind.wrap .i64 (x63.2.2.2.2.2.1-x63.2.2.2.2.2.2.1))))then
  (bif(true&&(Nat.beq x63.1 x63.2.2.2.2.2.2.2.2.2.1.length))then
  (qD x63.2.2.2.2.2.2.2.2.2.1).bind fun x64=>
  (ZF x64 (x63.2.2.2.2.2.2.1,x63.2.2.1,(IntKind.wrap .i64 (x63.2.2.2.2.2.1-x63.2.2.2.2.2.2.1)),())).bind fun x65=>
  (bif(decide (x63.2.1<x63.2.2.2.2.2.2.1))then
  (bif(decide (x63.2.2.2.2.2.2.1<x63.2.2.2.2.1))then
  (bif(true&&(Nat.beq x63.1 (List.length (List.map (vT) x65))))then
  (qD (List.map (vT) x65)).bind fun x66=>
  (R x66 (x63.2.1,x63.2.2.2.2.2.2.1,x63.2.2.2.2.1,())).bind fun x67=>
  (bif(decide (x63.2.2.2.2.1<(IntKind.wrap .i64 (x63.2.2.2.2.2.1-x63.2.2.2.2.2.2.1))))then
  (bif(decide ((IntKind.wrap .i64 (x63.2.2.2.2.2.1-x63.2.2.2.2.2.2.1))<x63.2.2.2.1))then
  (bif(true&&(Nat.beq x63.1 (List.length (List.map (vT) x67))))then
  (qD (List.map (vT) x67)).bind fun x68=>
  (R x68 (x63.2.2.2.2.1,(IntKind.wrap .i64 (x63.2.2.2.2.2.1-x63.2.2.2.2.2.2.1)),x63.2.2.2.1,())).bind fun x69=>
  some (List.map (vT) x69)
 else none)
 else
  some (List.map (vT) x67))
 else
  some (List.map (vT) x67))
 else none)
 else
  (bif(decide (x63.2.2.2.2.1<(IntKind.wrap .i64 (x63.2.2.2.2.2.1-x63.2.2.2.2.2.2.1))))then
  (bif(decide ((IntKind.wrap .i64 (x63.2.2.2.2.2.1-x63.2.2.2.2.2.2.1))<x63.2.2.2.1))then
  (bif(true&&(Nat.beq x63.1 (List.length (List.map (vT) x65))))then
  (qD (List.map (vT) x65)).bind fun x70=>
  (R x70 (x63.2.2.2.2.1,(IntKind.wrap .i64 (x63.2.2.2.2.2.1-x63.2.2.2.2.2.2.1)),x63.2.2.2.1,())).bind fun x71=>
  some (List.map (vT) x71)
 else none)
 else
  some (List.map (vT) x65))
 else
  some (List.map (vT) x65)))
 else
  (bif(decide (x63.2.2.2.2.1<(IntKind.wrap .i64 (x63.2.2.2.2.2.1-x63.2.2.2.2.2.2.1))))then
  (bif(decide ((IntKind.wrap .i64 (x63.2.2.2.2.2.1-x63.2.2.2.2.2.2.1))<x63.2.2.2.1))then
  (bif(true&&(Nat.beq x63.1 (List.length (List.map (vT) x65))))then
  (qD (List.map (vT) x65)).bind fun x72=>
  (R x72 (x63.2.2.2.2.1,(IntKind.wrap .i64 (x63.2.2.2.2.2.1-x63.2.2.2.2.2.2.1)),x63.2.2.2.1,())).bind fun x73=>
  some (List.map (vT) x73)
 else none)
 else
  some (List.map (vT) x65))
 else
  some (List.map (vT) x65)))
 else none)
 else
  (bif(decide (x63.2.1<x63.2.2.2.2.2.2.1))then
  (bif(decide (x63.2.2.2.2.2.2.1<x63.2.2.2.2.1))then
  (bif(true&&(Nat.beq x63.1 x63.2.2.2.2.2.2.2.2.2.1.length))then
  (qD x63.2.2.2.2.2.2.2.2.2.1).bind fun x74=>
  (R x74 (x63.2.1,x63.2.2.2.2.2.2.1,x63.2.2.2.2.1,())).bind fun x75=>
  (bif(decide (x63.2.2.2.2.1<(IntKind.wrap .i64 (x63.2.2.2.2.2.1-x63.2.2.2.2.2.2.1))))then
  (bif(decide ((IntKind.wrap .i64 (x63.2.2.2.2.2.1-x63.2.2.2.2.2.2.1))<x63.2.2.2.1))then
  (bif(true&&(Nat.beq x63.1 (List.length (List.map (vT) x75))))then
  (qD (List.map (vT) x75)).bind fun x76=>
  (R x76 (x63.2.2.2.2.1,(IntKind.wrap .i64 (x63.2.2.2.2.2.1-x63.2.2.2.2.2.2.1)),x63.2.2.2.1,())).bind fun x77=>
  some (List.map (vT) x77)
 else none)
 else
  some (List.map (vT) x75))
 else
  some (List.map (vT) x75))
 else none)
 else
  (bif(decide (x63.2.2.2.2.1<(IntKind.wrap .i64 (x63.2.2.2.2.2.1-x63.2.2.2.2.2.2.1))))then
  (bif(decide ((IntKind.wrap .i64 (x63.2.2.2.2.2.1-x63.2.2.2.2.2.2.1))<x63.2.2.2.1))then
  (bif(true&&(Nat.beq x63.1 x63.2.2.2.2.2.2.2.2.2.1.length))then
  (qD x63.2.2.2.2.2.2.2.2.2.1).bind fun x78=>
  (R x78 (x63.2.2.2.2.1,(IntKind.wrap .i64 (x63.2.2.2.2.2.1-x63.2.2.2.2.2.2.1)),x63.2.2.2.1,())).bind fun x79=>
  some (List.map (vT) x79)
 else none)
 else
  some x63.2.2.2.2.2.2.2.2.2.1)
 else
  some x63.2.2.2.2.2.2.2.2.2.1))
 else
  (bif(decide (x63.2.2.2.2.1<(IntKind.wrap .i64 (x63.2.2.2.2.2.1-x63.2.2.2.2.2.2.1))))then
  (bif(decide ((IntKind.wrap .i64 (x63.2.2.2.2.2.1-x63.2.2.2.2.2.2.1))<x63.2.2.2.1))then
  (bif(true&&(Nat.beq x63.1 x63.2.2.2.2.2.2.2.2.2.1.length))then
  (qD x63.2.2.2.2.2.2.2.2.2.1).bind fun x80=>
  (R x80 (x63.2.2.2.2.1,(IntKind.wrap .i64 (x63.2.2.2.2.2.1-x63.2.2.2.2.2.2.1)),x63.2.2.2.1,())).bind fun x81=>
  some (List.map (vT) x81)
 else none)
 else
  some x63.2.2.2.2.2.2.2.2.2.1)
 else
  some x63.2.2.2.2.2.2.2.2.2.1)))
 else
  (bif(decide (x63.2.1<x63.2.2.2.2.2.2.1))then
  (bif(decide (x63.2.2.2.2.2.2.1<x63.2.2.2.2.1))then
  (bif(true&&(Nat.beq x63.1 x63.2.2.2.2.2.2.2.2.2.1.length))then
  (qD x63.2.2.2.2.2.2.2.2.2.1).bind fun x82=>
  (R x82 (x63.2.1,x63.2.2.2.2.2.2.1,x63.2.2.2.2.1,())).bind fun x83=>
  (bif(decide (x63.2.2.2.2.1<(IntKind.wrap .i64 (x63.2.2.2.2.2.1-x63.2.2.2.2.2.2.1))))then
  (bif(decide ((IntKind.wrap .i64 (x63.2.2.2.2.2.1-x63.2.2.2.2.2.2.1))<x63.2.2.2.1))then
  (bif(true&&(Nat.beq x63.1 (List.length (List.map (vT) x83))))then
  (qD (List.map (vT) x83)).bind fun x84=>
  (R x84 (x63.2.2.2.2.1,(IntKind.wrap .i64 (x63.2.2.2.2.2.1-x63.2.2.2.2.2.2.1)),x63.2.2.2.1,())).bind fun x85=>
  some (List.map (vT) x85)
 else none)
 else
  some (List.map (vT) x83))
 else
  some (List.map (vT) x83))
 else none)
 else
  (bif(decide (x63.2.2.2.2.1<(IntKind.wrap .i64 (x63.2.2.2.2.2.1-x63.2.2.2.2.2.2.1))))then
  (bif(decide ((IntKind.wrap .i64 (x63.2.2.2.2.2.1-x63.2.2.2.2.2.2.1))<x63.2.2.2.1))then
  (bif(true&&(Nat.beq x63.1 x63.2.2.2.2.2.2.2.2.2.1.length))then
  (qD x63.2.2.2.2.2.2.2.2.2.1).bind fun x86=>
  (R x86 (x63.2.2.2.2.1,(IntKind.wrap .i64 (x63.2.2.2.2.2.1-x63.2.2.2.2.2.2.1)),x63.2.2.2.1,())).bind fun x87=>
  some (List.map (vT) x87)
 else none)
 else
  some x63.2.2.2.2.2.2.2.2.2.1)
 else
  some x63.2.2.2.2.2.2.2.2.2.1))
 else
  (bif(decide (x63.2.2.2.2.1<(IntKind.wrap .i64 (x63.2.2.2.2.2.1-x63.2.2.2.2.2.2.1))))then
  (bif(decide ((IntKind.wrap .i64 (x63.2.2.2.2.2.1-x63.2.2.2.2.2.2.1))<x63.2.2.2.1))then
  (bif(true&&(Nat.beq x63.1 x63.2.2.2.2.2.2.2.2.2.1.length))then
  (qD x63.2.2.2.2.2.2.2.2.2.1).bind fun x88=>
  (R x88 (x63.2.2.2.2.1,(IntKind.wrap .i64 (x63.2.2.2.2.2.1-x63.2.2.2.2.2.2.1)),x63.2.2.2.1,())).bind fun x89=>
  some (List.map (vT) x89)
 else none)
 else
  some x63.2.2.2.2.2.2.2.2.2.1)
 else
  some x63.2.2.2.2.2.2.2.2.2.1)))
 else
  (itP fu (Qp) ((List.length (List.map (vT) L)),a,m,b,(IntKind.wrap .i64 (Int.fdiv (IntKind.wrap .u64 (IntKind.wrap .i64 (a+b))) (2^1))),(IntKind.wrap .i64 ((IntKind.wrap .i64 (Int.fdiv (IntKind.wrap .u64 (IntKind.wrap .i64 (a+b))) (2^1)))+m)),a,m,(IntKind.wrap .i64 ((IntKind.wrap .i64 ((IntKind.wrap .i64 (Int.fdiv (IntKind.wrap .u64 (IntKind.wrap .i64 (a+b))) (2^1)))+m))-1)),(List.map (vT) L),())).bind fun x101=>
  (bif(decide (x101.2.2.2.2.2.2.1<x101.2.2.1))then
  (bif(decide (x101.2.2.1<(IntKind.wrap .i64 (x101.2.2.2.2.2.1-x101.2.2.2.2.2.2.1))))then
  (bif(true&&(Nat.beq x101.1 x101.2.2.2.2.2.2.2.2.2.1.length))then
  (qD x101.2.2.2.2.2.2.2.2.2.1).bind fun x102=>
  (ZF x102 (x101.2.2.2.2.2.2.1,x101.2.2.1,(IntKind.wrap .i64 (x101.2.2.2.2.2.1-x101.2.2.2.2.2.2.1)),())).bind fun x103=>
  (bif(decide (x101.2.1<x101.2.2.2.2.2.2.1))then
  (bif(decide (x101.2.2.2.2.2.2.1<x101.2.2.2.2.1))then
  (bif(true&&(Nat.beq x101.1 (List.length (List.map (vT) x103))))then
  (qD (List.map (vT) x103)).bind fun x104=>
  (R x104 (x101.2.1,x101.2.2.2.2.2.2.1,x101.2.2.2.2.1,())).bind fun x105=>
  (bif(decide (x101.2.2.2.2.1<(IntKind.wrap .i64 (x101.2.2.2.2.2.1-x101.2.2.2.2.2.2.1))))then
  (bif(decide ((IntKind.wrap .i64 (x101.2.2.2.2.2.1-x101.2.2.2.2.2.2.1))<x101.2.2.2.1))then
  (bif(true&&(Nat.beq x101.1 (List.length (List.map (vT) x105))))then
  (qD (List.map (vT) x105)).bind fun x106=>
  (R x106 (x101.2.2.2.2.1,(IntKind.wrap .i64 (x101.2.2.2.2.2.1-x101.2.2.2.2.2.2.1)),x101.2.2.2.1,())).bind fun x107=>
  some (List.map (vT) x107)
 else none)
 else
  some (List.map (vT) x105))
 else
  some (List.map (vT) x105))
 else none)
 else
  (bif(decide (x101.2.2.2.2.1<(IntKind.wrap .i64 (x101.2.2.2.2.2.1-x101.2.2.2.2.2.2.1))))then
  (bif(decide ((IntKind.wrap .i64 (x101.2.2.2.2.2.1-x101.2.2.2.2.2.2.1))<x101.2.2.2.1))then
  (bif(true&&(Nat.beq x101.1 (List.length (List.map (vT) x103))))then
  (qD (List.map (vT) x103)).bind fun x108=>
  (R x108 (x101.2.2.2.2.1,(IntKind.wrap .i64 (x101.2.2.2.2.2.1-x101.2.2.2.2.2.2.1)),x101.2.2.2.1,())).bind fun x109=>
  some (List.map (vT) x109)
 else none)
 else
  some (List.map (vT) x103))
 else
  some (List.map (vT) x103)))
 else
  (bif(decide (x101.2.2.2.2.1<(IntKind.wrap .i64 (x101.2.2.2.2.2.1-x101.2.2.2.2.2.2.1))))then
  (bif(decide ((IntKind.wrap .i64 (x101.2.2.2.2.2.1-x101.2.2.2.2.2.2.1))<x101.2.2.2.1))then
  (bif(true&&(Nat.beq x101.1 (List.length (List.map (vT) x103))))then
  (qD (List.map (vT) x103)).bind fun x110=>
  (R x110 (x101.2.2.2.2.1,(IntKind.wrap .i64 (x101.2.2.2.2.2.1-x101.2.2.2.2.2.2.1)),x101.2.2.2.1,())).bind fun x111=>
  some (List.map (vT) x111)
 else none)
 else
  some (List.map (vT) x103))
 else
  some (List.map (vT) x103)))
 else none)
 else
  (bif(decide (x101.2.1<x101.2.2.2.2.2.2.1))then
  (bif(decide (x101.2.2.2.2.2.2.1<x101.2.2.2.2.1))then
  (bif(true&&(Nat.beq x101.1 x101.2.2.2.2.2.2.2.2.2.1.length))then
  (qD x101.2.2.2.2.2.2.2.2.2.1).bind fun x112=>
  (R x112 (x101.2.1,x101.2.2.2.2.2.2.1,x101.2.2.2.2.1,())).bind fun x113=>
  (bif(decide (x101.2.2.2.2.1<(IntKind.wrap .i64 (x101.2.2.2.2.2.1-x101.2.2.2.2.2.2.1))))then
  (bif(decide ((IntKind.wrap .i64 (x101.2.2.2.2.2.1-x101.2.2.2.2.2.2.1))<x101.2.2.2.1))then
  (bif(true&&(Nat.beq x101.1 (List.length (List.map (vT) x113))))then
  (qD (List.map (vT) x113)).bind fun x114=>
  (R x114 (x101.2.2.2.2.1,(IntKind.wrap .i64 (x101.2.2.2.2.2.1-x101.2.2.2.2.2.2.1)),x101.2.2.2.1,())).bind fun x115=>
  some (List.map (vT) x115)
 else none)
 else
  some (List.map (vT) x113))
 else
  some (List.map (vT) x113))
 else none)
 else
  (bif(decide (x101.2.2.2.2.1<(IntKind.wrap .i64 (x101.2.2.2.2.2.1-x101.2.2.2.2.2.2.1))))then
  (bif(decide ((IntKind.wrap .i64 (x101.2.2.2.2.2.1-x101.2.2.2.2.2.2.1))<x101.2.2.2.1))then
  (bif(true&&(Nat.beq x101.1 x101.2.2.2.2.2.2.2.2.2.1.length))then
  (qD x101.2.2.2.2.2.2.2.2.2.1).bind fun x116=>
  (R x116 (x101.2.2.2.2.1,(IntKind.wrap .i64 (x101.2.2.2.2.2.1-x101.2.2.2.2.2.2.1)),x101.2.2.2.1,())).bind fun x117=>
  some (List.map (vT) x117)
 else none)
 else
  some x101.2.2.2.2.2.2.2.2.2.1)
 else
  some x101.2.2.2.2.2.2.2.2.2.1))
 else
  (bif(decide (x101.2.2.2.2.1<(IntKind.wrap .i64 (x101.2.2.2.2.2.1-x101.2.2.2.2.2.2.1))))then
  (bif(decide ((IntKind.wrap .i64 (x101.2.2.2.2.2.1-x101.2.2.2.2.2.2.1))<x101.2.2.2.1))then
  (bif(true&&(Nat.beq x101.1 x101.2.2.2.2.2.2.2.2.2.1.length))then
  (qD x101.2.2.2.2.2.2.2.2.2.1).bind fun x118=>
  (R x118 (x101.2.2.2.2.1,(IntKind.wrap .i64 (x101.2.2.2.2.2.1-x101.2.2.2.2.2.2.1)),x101.2.2.2.1,())).bind fun x119=>
  some (List.map (vT) x119)
 else none)
 else
  some x101.2.2.2.2.2.2.2.2.2.1)
 else
  some x101.2.2.2.2.2.2.2.2.2.1)))
 else
  (bif(decide (x101.2.1<x101.2.2.2.2.2.2.1))then
  (bif(decide (x101.2.2.2.2.2.2.1<x101.2.2.2.2.1))then
  (bif(true&&(Nat.beq x101.1 x101.2.2.2.2.2.2.2.2.2.1.length))then
  (qD x101.2.2.2.2.2.2.2.2.2.1).bind fun x120=>
  (R x120 (x101.2.1,x101.2.2.2.2.2.2.1,x101.2.2.2.2.1,())).bind fun x121=>
  (bif(decide (x101.2.2.2.2.1<(IntKind.wrap .i64 (x101.2.2.2.2.2.1-x101.2.2.2.2.2.2.1))))then
  (bif(decide ((IntKind.wrap .i64 (x101.2.2.2.2.2.1-x101.2.2.2.2.2.2.1))<x101.2.2.2.1))then
  (bif(true&&(Nat.beq x101.1 (List.length (List.map (vT) x121))))then
  (qD (List.map (vT) x121)).bind fun x122=>
  (R x122 (x101.2.2.2.2.1,(IntKind.wrap .i64 (x101.2.2.2.2.2.1-x101.2.2.2.2.2.2.1)),x101.2.2.2.1,())).bind fun x123=>
  some (List.map (vT) x123)
 else none)
 else
  some (List.map (vT) x121))
 else
  some (List.map (vT) x121))
 else none)
 else
  (bif(decide (x101.2.2.2.2.1<(IntKind.wrap .i64 (x101.2.2.2.2.2.1-x101.2.2.2.2.2.2.1))))then
  (bif(decide ((IntKind.wrap .i64 (x101.2.2.2.2.2.1-x101.2.2.2.2.2.2.1))<x101.2.2.2.1))then
  (bif(true&&(Nat.beq x101.1 x101.2.2.2.2.2.2.2.2.2.1.length))then
  (qD x101.2.2.2.2.2.2.2.2.2.1).bind fun x124=>
  (R x124 (x101.2.2.2.2.1,(IntKind.wrap .i64 (x101.2.2.2.2.2.1-x101.2.2.2.2.2.2.1)),x101.2.2.2.1,())).bind fun x125=>
  some (List.map (vT) x125)
 else none)
 else
  some x101.2.2.2.2.2.2.2.2.2.1)
 else
  some x101.2.2.2.2.2.2.2.2.2.1))
 else
  (bif(decide (x101.2.2.2.2.1<(IntKind.wrap .i64 (x101.2.2.2.2.2.1-x101.2.2.2.2.2.2.1))))then
  (bif(decide ((IntKind.wrap .i64 (x101.2.2.2.2.2.1-x101.2.2.2.2.2.2.1))<x101.2.2.2.1))then
  (bif(true&&(Nat.beq x101.1 x101.2.2.2.2.2.2.2.2.2.1.length))then
  (qD x101.2.2.2.2.2.2.2.2.2.1).bind fun x126=>
  (R x126 (x101.2.2.2.2.1,(IntKind.wrap .i64 (x101.2.2.2.2.2.1-x101.2.2.2.2.2.2.1)),x101.2.2.2.1,())).bind fun x127=>
  some (List.map (vT) x127)
 else none)
 else
  some x101.2.2.2.2.2.2.2.2.2.1)
 else
  some x101.2.2.2.2.2.2.2.2.2.1))))))
theorem qd5{i j:Nat}(h:i+j≤4000000):IntKind.i64.wrap (Int.fdiv (IntKind.u64.wrap (IntKind.i64.wrap ((i:Int)+(j:Int)))) (2^1))=(((i+j) / 2:Nat):Int):=by
 rw[show((i:Int)+(j:Int))=((i+j:Nat):Int) by omega,rkW (n:=((i+j:Nat):Int)) (by omega) (by omega),Jv (n:=((i+j:Nat):Int)) (by omega) (by omega),qsE (i+j) 1];show IntKind.i64.wrap (((i+j) / 2:Nat):Int)=_
 exact rkW (by omega) (by omega)
def atK(K:List Tm)(h:Nat):Tm:=(K[h]?).getD ⟨0,0⟩
theorem YP{K:List Tm}{h:Nat}(hh:h<K.length):K[h]?=some (atK K h):=by
 unfold atK;rw[zG hh];rfl
theorem Z7{K:List Tm}{h:Nat}(hh:h<K.length):atK K h∈K:=by
 have:=YP hh
 exact Km this
theorem qxW(A B:List Tm)(x:Tm):atK (A++x::B) A.length=x:=by unfold atK;simp
theorem bs_run{σ:Type}{F:σ→Option (σ ⊕ σ)}{mk:Nat→Nat→σ}{Q:Nat→Bool}{lo hi:Nat}
 (hF:∀i j,lo≤i→i<j→j≤hi→F (mk i j)=some (.inl (bif Q ((i+j) / 2)then mk ((i+j) / 2+1) j else mk i ((i+j) / 2))))
 (hE:∀i,F (mk i i)=some (.inr (mk i i))) :
 ∀(d i j:Nat),lo≤i→i≤j→j≤hi→j-i≤d→(i=lo∨Q (i-1)=true)→(j=hi∨Q j=false) →
 ∃s,lo≤s∧s≤hi∧(s=lo∨Q (s-1)=true)∧(s=hi∨Q s=false)∧jj (d+1) F (mk i j) (mk s s):=by
 intro d;induction d with
 | zero=>
  intro i j h1 h2 h3 h4 h5 h6;have:j=i:=by omega
  subst this;exact⟨j,h1,h3,h5,h6,jj.stop (hE j)⟩
 | succ d ih=>
  intro i j h1 h2 h3 h4 h5 h6;by_cases he:i=j
  · subst he;exact⟨i,h1,h3,h5,h6,jj.stop (hE i)⟩
  · have hs:=hF i j h1 (by omega) h3
    cases hq:Q ((i+j) / 2)with
    | true=>
     rw[hq,zf]at hs;obtain⟨s,a1,a2,a3,a4,a5⟩:=ih ((i+j) / 2+1) j (by omega) (by omega) h3 (by omega) (.inr (by rw[Vz];exact hq)) h6
     exact⟨s,a1,a2,a3,a4,jj.next hs a5⟩
    | false=>
     rw[hq,zi]at hs;obtain⟨s,a1,a2,a3,a4,a5⟩:=ih i ((i+j) / 2) h1 (by omega) (by omega) (by omega) h5 (.inr hq)
     exact⟨s,a1,a2,a3,a4,jj.next hs a5⟩
abbrev S1S:=Nat×(Int×Int×Int×Int×Int×(List T)×Unit)
def qdD(N a m b i j:Nat)(K:List Tm):S1S:=(N,(a:Int),(m:Int),(b:Int),(i:Int),(j:Int),K.map vT,())
theorem wS{h N:Nat}(hh:h<N)(hN:N≤1000000):IntKind.i64.wrap ((h:Int)+1)=((h+1:Nat):Int):=by
 rw[show((h:Int)+1)=((h+1:Nat):Int) by omega];exact rkW (by omega) (by omega)
theorem qxX{K:List Tm}{N a m b i j:Nat}(hN:N≤1000000)(hl:K.length=N)(hij:i<j)(hj:j≤N)(ha:a<N)(hf:∀t∈K,fI t.c=true) :
 JI (qdD N a m b i j K)=some (.inl (bif decide (qh (atK K ((i+j) / 2))<qh (atK K a))then qdD N a m b ((i+j) / 2+1) j K else qdD N a m b i ((i+j) / 2) K)):=by
 have hh:(i+j) / 2<N:=by omega
 have e:=qd5 (i:=i) (j:=j) (by omega)
 have w1:=wS hh hN;have d0:decide ((i:Int)<(j:Int))=true:=zd (by omega)
 have d1:decide ((0:Int)≤(((i+j) / 2:Nat):Int))=true:=zd (by omega)
 have d2:decide ((((i+j) / 2:Nat):Int)<(N:Int))=true:=zd (by omega)
 have d3:decide ((0:Int)≤(a:Int))=true:=zd (by omega)
 have d4:decide ((a:Int)<(N:Int))=true:=zd (by omega)
 have g1:=rkG (YP (K:=K) (h:=(i+j) / 2) (by omega))
 have g2:=rkG (YP (K:=K) (h:=a) (by omega))
 have hk:=ltA (hf _ (Z7 (K:=K) (h:=(i+j) / 2) (by omega))) (hf _ (Z7 (K:=K) (h:=a) (by omega)))
 show JI (N,(a:Int),(m:Int),(b:Int),(i:Int),(j:Int),K.map vT,())=_
 cases hc:decide (qh (atK K ((i+j) / 2))<qh (atK K a)) <;> rw[hc]at hk <;>
  simp only[JI,e,w1,d0,d1,d2,d3,d4,g1,g2,hk,qfR,qfS,qfT,qfU,zj,zK,zL,zW,zf,zi] <;> rfl
theorem qBZ{K:List Tm}{N a m b i:Nat}:JI (qdD N a m b i i K)=some (.inr (qdD N a m b i i K)):=by
 have d0:decide ((i:Int)<(i:Int))=false:=zh (by omega)
 show JI (N,(a:Int),(m:Int),(b:Int),(i:Int),(i:Int),K.map vT,())=_
 unfold JI;exact QG d0
theorem qxY{K:List Tm}{N a m b i j:Nat}(hN:N≤1000000)(hl:K.length=N)(hij:i<j)(hj:j≤N)(hm:m<N)(hf:∀t∈K,fI t.c=true) :
 JJ (qdD N a m b i j K)=some (.inl (bif !decide (qh (atK K m)<qh (atK K ((i+j) / 2)))then qdD N a m b ((i+j) / 2+1) j K else qdD N a m b i ((i+j) / 2) K)):=by
 have hh:(i+j) / 2<N:=by omega
 have e:=qd5 (i:=i) (j:=j) (by omega)
 have w1:=wS hh hN;have d0:decide ((i:Int)<(j:Int))=true:=zd (by omega)
 have d1:decide ((0:Int)≤(((i+j) / 2:Nat):Int))=true:=zd (by omega)
 have d2:decide ((((i+j) / 2:Nat):Int)<(N:Int))=true:=zd (by omega)
 have d3:decide ((0:Int)≤(m:Int))=true:=zd (by omega)
 have d4:decide ((m:Int)<(N:Int))=true:=zd (by omega)
 have g1:=rkG (YP (K:=K) (h:=(i+j) / 2) (by omega))
 have g2:=rkG (YP (K:=K) (h:=m) (by omega))
 have hk:=ltA (hf _ (Z7 (K:=K) (h:=m) (by omega))) (hf _ (Z7 (K:=K) (h:=(i+j) / 2) (by omega)))
 show JJ (N,(a:Int),(m:Int),(b:Int),(i:Int),(j:Int),K.map vT,())=_
 cases hc:decide (qh (atK K m)<qh (atK K ((i+j) / 2))) <;> rw[hc]at hk <;>
  simp only[JJ,e,w1,d0,d1,d2,d3,d4,g1,g2,hk,qfR,qfS,qfT,qfU,zj,zK,zL,zW,Kf,zX,zf,zi] <;> rfl
theorem qB0{K:List Tm}{N a m b i:Nat}:JJ (qdD N a m b i i K)=some (.inr (qdD N a m b i i K)):=by
 have d0:decide ((i:Int)<(i:Int))=false:=zh (by omega)
 show JJ (N,(a:Int),(m:Int),(b:Int),(i:Int),(i:Int),K.map vT,())=_
 unfold JJ;exact QG d0
abbrev S2S:=Nat×(Int×Int×Int×Int×Int×Int×(List T)×Unit)
def qfV(N a m b i j k:Nat)(K:List Tm):S2S:=(N,(a:Int),(m:Int),(b:Int),(i:Int),(j:Int),(k:Int),K.map vT,())
theorem qsR{A C:List Tm}{N a m b i j:Nat}{x y:Tm}(hN:N≤1000000)(hl:(A++x::y::C).length=N)(hi:A.length+1<i)(hi':i≤N) :
 YN (qfV N a m b i j A.length (A++x::y::C))=some (.inl (qfV N a m b i j (A.length+1) (A++y::x::C))):=by
 have hl':A.length+2+C.length=N:=by rw[← hl];simp;omega
 have w1:IntKind.i64.wrap ((i:Int)-1)=((i-1:Nat):Int):=by
  rw[show((i:Int)-1)=((i-1:Nat):Int) by omega];exact rkW (by omega) (by omega)
 have w2:=wS (h:=A.length) (N:=N) (by omega) hN
 have d0:decide (((A.length:Nat):Int)<((i-1:Nat):Int))=true:=zd (by omega)
 have d1:decide ((0:Int)≤((A.length+1:Nat):Int))=true:=zd (by omega)
 have d2:decide (((A.length+1:Nat):Int)<(N:Int))=true:=zd (by omega)
 have d3:decide ((0:Int)≤((A.length:Nat):Int))=true:=zd (by omega)
 have d4:decide (((A.length:Nat):Int)<(N:Int))=true:=zd (by omega)
 have g0:(A++x::y::C)[A.length]?=some x:=by simp
 have g1:(A++x::y::C)[A.length+1]?=some y:=by
  have e1:A++x::y::C=(A++[x])++y::C:=by simp
  have e2:A.length+1=(A++[x]).length:=by simp
  rw[e1,e2];simp
 have g0:=rkG g0;have g1:=rkG g1;have hs:=rkS (A++x::y::C) A.length (A.length+1) x y
 have hs2:=qsL A [] C x y
 simp only[Ka,zN,Kr]at hs2;rw[hs2]at hs;obtain⟨z,hz⟩:=rkU (K:=A++x::y::C) (i:=A.length) (j:=A.length+1) (by omega) (T.agg [T.s (.int .i64 y.id),T.s (.int .u64 y.c)])
 show YN (N,(a:Int),(m:Int),(b:Int),(i:Int),(j:Int),((A.length:Nat):Int),(A++x::y::C).map vT,())=_
 simp only[YN,w1,w2,d0,d1,d2,d3,d4,g1,g0,hz,qfR,qfS,qfT,qfU,zj,zK,zL,zW,zf,zi,hs];rfl
theorem qkp{N a m b i j:Nat}{x:Tm}(hN:N≤1000000)(hi':i≤N):∀(B A C:List Tm),A.length+B.length+1=i→(A++x::(B++C)).length=N →
 jj (B.length+1) YN (qfV N a m b i j A.length (A++x::(B++C))) (qfV N a m b i j (A.length+B.length) (A++B++x::C))
 | [],A,C,h,hl=>by
  refine jj.stop ?_
  have w1:IntKind.i64.wrap ((i:Int)-1)=((i-1:Nat):Int):=by
   rw[show((i:Int)-1)=((i-1:Nat):Int) by omega];exact rkW (by omega) (by omega)
  have d0:decide (((A.length:Nat):Int)<IntKind.i64.wrap ((i:Int)-1))=false:=by
   rw[w1];exact zh (by simp at h;omega)
  show YN (N,(a:Int),(m:Int),(b:Int),(i:Int),(j:Int),((A.length:Nat):Int),(A++x::([]++C)).map vT,())=_
  unfold YN;refine(QG d0).trans ?_
  unfold qfV;simp
 | y::B,A,C,h,hl=>by
  simp only[zw]at h;have st:=qsR (a:=a) (m:=m) (b:=b) (i:=i) (j:=j) (A:=A) (C:=B++C) (x:=x) (y:=y) hN hl (by omega) hi'
  have ih:=qkp hN hi' (a:=a) (m:=m) (b:=b) (j:=j) (x:=x) B (A++[y]) C (by simp;omega) (by rw[← hl];simp)
  have e1:(A++[y])++x::(B++C)=A++y::x::(B++C):=by simp
  have e2:(A++[y])++B++x::C=A++(y::B)++x::C:=by simp
  have e3:(A++[y]).length=A.length+1:=by simp
  rw[e1,e2,e3]at ih;have e4:A.length+(y::B).length=A.length+1+B.length:=by simp;omega
  rw[e4];exact jj.next st ih
theorem qsS{A C:List Tm}{N a m b i j:Nat}{y z:Tm}(hN:N≤1000000)(hl:(A++z::y::C).length=N)(hi:i<A.length+1) :
 YO (qfV N a m b i j (A.length+1) (A++z::y::C))=some (.inl (qfV N a m b i j A.length (A++y::z::C))):=by
 have hl':A.length+2+C.length=N:=by rw[← hl];simp;omega
 have w1:IntKind.i64.wrap (((A.length+1:Nat):Int)-1)=((A.length:Nat):Int):=by
  rw[show(((A.length+1:Nat):Int)-1)=((A.length:Nat):Int) by omega];exact rkW (by omega) (by omega)
 have d0:decide ((i:Int)<((A.length+1:Nat):Int))=true:=zd (by omega)
 have d1:decide ((0:Int)≤((A.length+1:Nat):Int))=true:=zd (by omega)
 have d2:decide (((A.length+1:Nat):Int)<(N:Int))=true:=zd (by omega)
 have d3:decide ((0:Int)≤((A.length:Nat):Int))=true:=zd (by omega)
 have d4:decide (((A.length:Nat):Int)<(N:Int))=true:=zd (by omega)
 have g0:(A++z::y::C)[A.length]?=some z:=by simp
 have g1:(A++z::y::C)[A.length+1]?=some y:=by
  have e1:A++z::y::C=(A++[z])++y::C:=by simp
  have e2:A.length+1=(A++[z]).length:=by simp
  rw[e1,e2];simp
 have g0:=rkG g0;have g1:=rkG g1;have hs:=rkS (A++z::y::C) (A.length+1) A.length y z
 rw[qnS]at hs;obtain⟨v,hz⟩:=rkU (K:=A++z::y::C) (i:=A.length+1) (j:=A.length) (by omega) (T.agg [T.s (.int .i64 z.id),T.s (.int .u64 z.c)])
 show YO (N,(a:Int),(m:Int),(b:Int),(i:Int),(j:Int),((A.length+1:Nat):Int),(A++z::y::C).map vT,())=_
 simp only[YO,w1,d0,d1,d2,d3,d4,g1,g0,hz,qfR,qfS,qfT,qfU,zj,zK,zL,zW,zf,zi,hs];rfl
theorem qsT{N a m b j:Nat}{y:Tm}{A:List Tm}(hN:N≤1000000):∀(d:Nat) (B C:List Tm),B.length=d→(A++B++y::C).length=N →
 jj (d+1) YO (qfV N a m b A.length j (A.length+B.length) (A++B++y::C)) (qfV N a m b A.length j A.length (A++y::(B++C))):=by
 intro d;induction d with
 | zero=>
  intro B C h hl;have:B=[]:=Kj.1 h
  subst this;refine jj.stop ?_
  have d0:decide (((A.length:Nat):Int)<((A.length+([]:List Tm).length:Nat):Int))=false:=zh (by simp)
  show YO (N,(a:Int),(m:Int),(b:Int),((A.length:Nat):Int),(j:Int),((A.length+([]:List Tm).length:Nat):Int),(A++[]++y::C).map vT,())=_
  unfold YO;refine(QG d0).trans ?_
  unfold qfV;simp
 | succ d ih=>
  intro B C h hl;obtain⟨D,z,rfl⟩:∃D z,B=D++[z]:=by
   have hne:B≠[]:=fun e=>by rw[e]at h;cases h
   exact⟨B.dropLast,B.getLast hne,(List.dropLast_concat_getLast hne).symm⟩
  have hd:D.length=d:=by simpa using h
  have e1:A++(D++[z])++y::C=(A++D)++z::y::C:=by simp
  have e2:A.length+(D++[z]).length=(A++D).length+1:=by simp;omega
  have st:=qsS (a:=a) (m:=m) (b:=b) (i:=A.length) (j:=j) (A:=A++D) (C:=C) (y:=y) (z:=z) hN (by rw[← e1];exact hl) (by simp;omega)
  have ih:=ih D (z::C) hd (by rw[← hl];simp)
  have e3:A++D++y::z::C=A++D++y::(z::C):=rfl
  rw[e1,e2];refine jj.next st ?_
  have e4:(A++D).length=A.length+D.length:=by simp
  have e5:A++y::(D++[z]++C)=A++y::(D++z::C):=by simp
  rw[e4,e5];exact ih
abbrev S5S:=Nat×(Int×Int×Int×Int×Int×Int×Int×Int×(List T)×Unit)
def qkq(N a m b mid n p s r:Nat)(K:List Tm):S5S:=(N,(a:Int),(m:Int),(b:Int),(mid:Int),(n:Int),(s:Int),(r:Int),(p:Int),K.map vT,())
theorem qxZ{K:List Tm}{N a m b mid n p i j:Nat}(hN:N≤1000000)(hl:K.length=N)(hij:i<j)(hj:j≤N)(h1:(i+j) / 2≤p)(h2:p-(i+j) / 2<N)(hp:p≤2000000)(hf:∀t∈K,fI t.c=true) :
 Qp (qkq N a m b mid n p i j K)=some (.inl (bif !decide (qh (atK K (p-(i+j) / 2))<qh (atK K ((i+j) / 2)))then qkq N a m b mid n p ((i+j) / 2+1) j K else qkq N a m b mid n p i ((i+j) / 2) K)):=by
 have hh:(i+j) / 2<N:=by omega
 have e:=qd5 (i:=i) (j:=j) (by omega)
 have w1:=wS hh hN;have w2:IntKind.i64.wrap ((p:Int)-(((i+j) / 2:Nat):Int))=((p-(i+j) / 2:Nat):Int):=by
  rw[show((p:Int)-(((i+j) / 2:Nat):Int))=((p-(i+j) / 2:Nat):Int) by omega];exact rkW (by omega) (by omega)
 have d0:decide ((i:Int)<(j:Int))=true:=zd (by omega)
 have d1:decide ((0:Int)≤(((i+j) / 2:Nat):Int))=true:=zd (by omega)
 have d2:decide ((((i+j) / 2:Nat):Int)<(N:Int))=true:=zd (by omega)
 have d3:decide ((0:Int)≤((p-(i+j) / 2:Nat):Int))=true:=zd (by omega)
 have d4:decide (((p-(i+j) / 2:Nat):Int)<(N:Int))=true:=zd (by omega)
 have g1:=rkG (YP (K:=K) (h:=(i+j) / 2) (by omega))
 have g2:=rkG (YP (K:=K) (h:=p-(i+j) / 2) (by omega))
 have hk:=ltA (hf _ (Z7 (K:=K) (h:=p-(i+j) / 2) (by omega))) (hf _ (Z7 (K:=K) (h:=(i+j) / 2) (by omega)))
 show Qp (N,(a:Int),(m:Int),(b:Int),(mid:Int),(n:Int),(i:Int),(j:Int),(p:Int),K.map vT,())=_
 cases hc:decide (qh (atK K (p-(i+j) / 2))<qh (atK K ((i+j) / 2))) <;> rw[hc]at hk <;>
  simp only[Qp,e,w1,w2,d0,d1,d2,d3,d4,g1,g2,hk,qfR,qfS,qfT,qfU,zj,zK,zL,zW,Kf,zX,zf,zi] <;> rfl
theorem qB1{K:List Tm}{N a m b mid n p i:Nat}:Qp (qkq N a m b mid n p i i K)=some (.inr (qkq N a m b mid n p i i K)):=by
 have d0:decide ((i:Int)<(i:Int))=false:=zh (by omega)
 show Qp (N,(a:Int),(m:Int),(b:Int),(mid:Int),(n:Int),(i:Int),(i:Int),(p:Int),K.map vT,())=_
 unfold Qp;exact QG d0
def qx0(l:List Tm):Bool:=@decide (Srt qh l) (Classical.propDecidable _)
theorem qbS{l:List Tm}:qx0 l=true↔Srt qh l:=by unfold qx0;exact@decide_eq_true_iff _ (Classical.propDecidable _)
def QU(k:Nat)(L:List Tm)(p:Int×Int×Int×Unit):Option (List Tm) :=
 bif decide (0≤p.1)&&(decide (p.1<p.2.1)&&(decide (p.2.1<p.2.2.1)&&(decide (p.2.2.1≤(L.length:Int))&&(decide (p.2.2.1-p.1≤(k:Int))&&(qsO L&&(Nat.ble L.length 1000000&&(qx0 ((L.drop p.1.toNat).take (p.2.1.toNat-p.1.toNat))&&(qx0 ((L.drop p.2.1.toNat).take (p.2.2.1.toNat-p.2.1.toNat))))))))))
 then some (qsP L p.1.toNat p.2.2.1.toNat)else none
theorem seg1(P A B S:List Tm):((P++A++B++S).drop P.length).take (P.length+A.length-P.length)=A:=by
 have e1:P++A++B++S=P++(A++(B++S)):=by simp
 have t4:(P++(A++(B++S))).drop P.length=A++(B++S):=by simp
 rw[e1,t4,K7,VM rfl]
theorem seg2(P A B S:List Tm):((P++A++B++S).drop (P.length+A.length)).take (P.length+A.length+B.length-(P.length+A.length))=B:=by
 have e1:P++A++B++S=(P++A)++(B++S):=by simp
 have e2:P.length+A.length=(P++A).length:=by simp
 have t4:((P++A)++(B++S)).drop (P++A).length=B++S:=List.drop_left' rfl
 rw[e1,e2,t4,K7,VM rfl]
theorem qkr(P A B S:List Tm):qsP (P++A++B++S) P.length (P.length+A.length+B.length)=P++ssK qh (A++B)++S:=by
 have:=qiE P (A++B) S
 rw[zp,← KD]at this;rw[← this];simp
theorem qd6(P A B S:List Tm)(u:Unit){k:Nat}(hA:A≠[])(hB:B≠[])(sA:Srt qh A)(sB:Srt qh B)(hk:A.length+B.length≤k)(hf:∀t∈P++A++B++S,fI t.c=true)(hn:(P++A++B++S).length≤1000000) :
 QU k (P++A++B++S) (((P.length:Nat):Int),((P.length+A.length:Nat):Int),((P.length+A.length+B.length:Nat):Int),u)=some (P++ssK qh (A++B)++S):=by
 have a0:=zS.2 hA;have b0:=zS.2 hB;have hl:(P++A++B++S).length=P.length+A.length+B.length+S.length:=by simp only[zp]
 unfold QU;simp only[zm];rw[seg1,seg2,qkr];refine jp ?_
 simp only[zl,zy];exact⟨by omega,by omega,by omega,by omega,by omega,Yd.2 hf,zB hn,qbS.2 sA,qbS.2 sB⟩
theorem qB2(P X Y S:List Tm)(u:Unit)(hX:X≠[])(hY:Y≠[])(hn:(P++X++Y++S).length≤1000000) :
 ZF (P++X++Y++S) (((P.length:Nat):Int),((P.length+X.length:Nat):Int),((P.length+X.length+Y.length:Nat):Int),u)=some (P++Y++X++S):=by
 have a0:=zS.2 hX;have b0:=zS.2 hY;have hl:(P++X++Y++S).length=P.length+X.length+Y.length+S.length:=by simp only[zp]
 unfold ZF;simp only[zm];rw[qnU];refine jp ?_
 simp only[zl,zy];exact⟨by omega,by omega,by omega,by omega,zB hn⟩
section
variable (R:List Tm→Int×(Int×Int×Unit)→Option (List Tm)) (N:Nat)
def qpz(b mid e:Int)(row:List T):Option (List T) :=
 bif decide (mid<e)then(bif decide (e<b)then(bif true&&Nat.beq N row.length then(qD row).bind fun x=>(R x (mid,e,b,())).bind fun y=>some (List.map vT y)else none)else some row)else some row
def qpA(a b mid s e:Int)(row:List T):Option (List T) :=
 bif decide (a<s)then(bif decide (s<mid)then(bif true&&Nat.beq N row.length then(qD row).bind fun x=>(R x (a,s,mid,())).bind fun y=>qpz R N b mid e (List.map vT y)else none)else qpz R N b mid e row)else qpz R N b mid e row
def qx1(a m b mid s e:Int)(row:List T):Option (List T) :=
 bif decide (s<m)then(bif decide (m<e)then(bif true&&Nat.beq N row.length then(qD row).bind fun x=>(ZF x (s,m,e,())).bind fun y=>qpA R N a b mid s e (List.map vT y)else none)else qpA R N a b mid s e row)else qpA R N a b mid s e row
end
theorem qks{K:List Tm}{N:Nat}(h:K.length=N):(true&&Nat.beq N (List.map vT K).length)=true:=by rw[rkM,h];simp
theorem qx2{k N:Nat}{P C A B S:List Tm}(hN:N≤1000000)(hl:(P++C++A++B++S).length=N)(sA:Srt qh A)(sB:Srt qh B)(hk:A.length+B.length≤k)(hf:∀t∈P++C++A++B++S,fI t.c=true) :
 qpz (QU k) N ((P.length+C.length+A.length+B.length:Nat):Int) ((P.length+C.length:Nat):Int) ((P.length+C.length+A.length:Nat):Int) (List.map vT (P++C++A++B++S))=some (List.map vT (P++C++ssK qh (A++B)++S)):=by
 unfold qpz;by_cases hA:A=[]
 · subst hA
   rw[Ka,QB sB];refine(QG (zh (by simp))).trans ?_
   simp
 · have a0:=zS.2 hA
   refine(jp (zd (by omega))).trans ?_
   by_cases hB:B=[]
   · subst hB
     rw[show ssK qh (A++[])=A by rw[zD];exact QB sA];refine(QG (zh (by simp))).trans ?_
     simp
   · have b0:=zS.2 hB
     refine(jp (zd (by omega))).trans ((jp (qks hl)).trans (obs (qL _) ?_))
     have:=qd6 (P++C) A B S () (k:=k) hA hB sA sB hk hf (by rw[hl];exact hN)
     rw[zp]at this;exact obs this rfl
theorem qx3{R:List Tm→Int×(Int×Int×Unit)→Option (List Tm)}{k N:Nat}{P A B T:List Tm}{b e:Int}(hR:R=QU k)(hN:N≤1000000)(hl:(P++A++B++T).length=N)(sA:Srt qh A)(sB:Srt qh B)(hk:A.length+B.length≤k)(hf:∀t∈P++A++B++T,fI t.c=true) :
 qpA R N ((P.length:Nat):Int) b ((P.length+A.length+B.length:Nat):Int) ((P.length+A.length:Nat):Int) e (List.map vT (P++A++B++T))=qpz R N b ((P.length+A.length+B.length:Nat):Int) e (List.map vT (P++ssK qh (A++B)++T)):=by
 subst hR;unfold qpA;by_cases hA:A=[]
 · subst hA
   rw[Ka,QB sB];refine(QG (zh (by simp))).trans ?_
   simp
 · have a0:=zS.2 hA
   refine(jp (zd (by omega))).trans ?_
   by_cases hB:B=[]
   · subst hB
     rw[show ssK qh (A++[])=A by rw[zD];exact QB sA];refine(QG (zh (by simp))).trans ?_
     simp
   · have b0:=zS.2 hB
     refine(jp (zd (by omega))).trans ((jp (qks hl)).trans (obs (qL _) ?_))
     exact obs (qd6 P A B T () (k:=k) hA hB sA sB hk hf (by rw[hl];exact hN)) rfl
theorem qx4{R:List Tm→Int×(Int×Int×Unit)→Option (List Tm)}{N:Nat}{P X Y T:List Tm}{a b mid:Int}(hN:N≤1000000)(hl:(P++X++Y++T).length=N) :
 qx1 R N a ((P.length+X.length:Nat):Int) b mid ((P.length:Nat):Int) ((P.length+X.length+Y.length:Nat):Int) (List.map vT (P++X++Y++T))=qpA R N a b mid ((P.length:Nat):Int) ((P.length+X.length+Y.length:Nat):Int) (List.map vT (P++Y++X++T)):=by
 unfold qx1;by_cases hX:X=[]
 · subst hX
   refine(QG (zh (by simp))).trans ?_
   simp
 · have a0:=zS.2 hX
   refine(jp (zd (by omega))).trans ?_
   by_cases hY:Y=[]
   · subst hY
     refine(QG (zh (by simp))).trans ?_
     simp
   · have b0:=zS.2 hY
     refine(jp (zd (by omega))).trans ((jp (qks hl)).trans (obs (qL _) ?_))
     exact obs (qB2 P X Y T () hX hY (by rw[hl];exact hN)) rfl
theorem qsU{k N:Nat}{P A1 A2 B1 B2 S:List Tm}(hN:N≤1000000)(hl:(P++(A1++A2)++(B1++B2)++S).length=N)(sA:Srt qh (A1++A2))(sB:Srt qh (B1++B2))(h1:∀y∈B1,∀x∈A2,qh y<qh x)(h2:∀x∈A1,∀y∈B2,qh x≤qh y)
 (k1:A1.length+B1.length≤k) (k2:A2.length+B2.length≤k) (hf:∀t∈P++(A1++A2)++(B1++B2)++S,fI t.c=true) :
 qx1 (QU k) N ((P.length:Nat):Int) ((P.length+A1.length+A2.length:Nat):Int) ((P.length+A1.length+A2.length+B1.length+B2.length:Nat):Int) ((P.length+A1.length+B1.length:Nat):Int) ((P.length+A1.length:Nat):Int) ((P.length+A1.length+A2.length+B1.length:Nat):Int) (List.map vT (P++(A1++A2)++(B1++B2)++S))=some (List.map vT (P++ssK qh ((A1++A2)++(B1++B2))++S)):=by
 have c1:=qx4 (R:=QU k) (N:=N) (P:=P++A1) (X:=A2) (Y:=B1) (T:=B2++S) (a:=((P.length:Nat):Int)) (b:=((P.length+A1.length+A2.length+B1.length+B2.length:Nat):Int)) (mid:=((P.length+A1.length+B1.length:Nat):Int)) hN (by rw[← hl];simp)
 have e1:(P++A1)++A2++B1++(B2++S)=P++(A1++A2)++(B1++B2)++S:=by simp
 have e2:(P++A1)++B1++A2++(B2++S)=P++A1++B1++(A2++B2++S):=by simp
 rw[e1,e2,zp]at c1;rw[c1];have m1:∀t,t∈P++A1++B1++(A2++B2++S)→t∈P++(A1++A2)++(B1++B2)++S:=fun t ht=>by
  simp only[zF]at ht ⊢;rcases ht with((h | h) | h) | (h | h) | h <;> simp[h]
 have c2:=qx3 (R:=QU k) (k:=k) (N:=N) (P:=P) (A:=A1) (B:=B1) (T:=A2++B2++S) (b:=((P.length+A1.length+A2.length+B1.length+B2.length:Nat):Int)) (e:=((P.length+A1.length+A2.length+B1.length:Nat):Int)) rfl hN (by rw[← hl];simp;omega) sA.left sB.left k1 (fun t ht=>hf t (m1 t ht))
 rw[c2];have lc:(ssK qh (A1++B1)).length=A1.length+B1.length:=by rw[jM,zp]
 have m2:∀t,t∈P++ssK qh (A1++B1)++A2++B2++S→t∈P++A1++B1++(A2++B2++S):=fun t ht=>by
  have hp:=(j8 qh (A1++B1)).mem_iff (a:=t)
  simp only[zF]at ht hp ⊢;rcases ht with(((h | h) | h) | h) | h
  · simp[h]
  · rcases hp.1 h with h | h <;> simp[h]
  · simp[h]
  · simp[h]
  · simp[h]
 have c3:=qx2 (k:=k) (N:=N) (P:=P) (C:=ssK qh (A1++B1)) (A:=A2) (B:=B2) (S:=S) hN (by rw[← hl];simp[jM];omega) sA.right sB.right k2 (fun t ht=>hf t (m1 t (m2 t ht)))
 have e3:P++ssK qh (A1++B1)++A2++B2++S=P++ssK qh (A1++B1)++(A2++B2++S):=by simp
 rw[e3,lc]at c3;have n1:P.length+(A1.length+B1.length)+A2.length+B2.length=P.length+A1.length+A2.length+B1.length+B2.length:=by omega
 have n2:P.length+(A1.length+B1.length)+A2.length=P.length+A1.length+A2.length+B1.length:=by omega
 have n3:P.length+(A1.length+B1.length)=P.length+A1.length+B1.length:=by omega
 rw[n1,n2,n3]at c3;rw[c3];obtain⟨q1,q2⟩:=qcV sA sB h1 h2 (QT qh (A1++B1)) (YJ qh (A1++B1)) (QT qh (A2++B2)) (YJ qh (A2++B2))
 rw[← ZE q1 q2];simp
theorem qd7{l:List Tm}(h:l≠[]):∃D y,l=D++[y]:=⟨l.dropLast,l.getLast h,(List.dropLast_concat_getLast h).symm⟩
theorem qax{K:List Tm}{i:Nat}(A B:List Tm)(x:Tm)(hK:K=A++x::B)(hi:i=A.length):atK K i=x:=by subst hK hi;exact qxW A B x
theorem qB3{P A1 A2 B1 B2 S K:List Tm}{p s:Nat}(hK:K=P++(A1++A2)++(B1++B2)++S)(hs:s=P.length+A1.length)(hp:p+1=s+(P.length+A1.length+A2.length+B1.length))(sA:Srt qh (A1++A2))(sB:Srt qh (B1++B2))
 (hq:A2≠[]→B1≠[]→qh (atK K (p-s))<qh (atK K s)):∀y∈B1,∀x∈A2,qh y<qh x:=by
 intro y hy x hx;have hA:A2≠[]:=Vy hx
 have hB:B1≠[]:=Vy hy
 have q:=hq hA hB;obtain⟨x0,r,rfl⟩:=VF hA;obtain⟨D,y0,rfl⟩:=qd7 hB;simp only[zw,zp,zN]at hp;rw[qax (i:=s) (P++A1) (r++(D++[y0]++B2)++S) x0 (by rw[hK];simp) (by simp;omega)]at q;rw[qax (i:=p-s) (P++(A1++x0::r)++D) (B2++S) y0 (by rw[hK];simp) (by simp;omega)]at q;have h1:qh y≤qh y0:=by
  rcases zF.1 hy with h | h
  · exact sB.left.both y h y0 (Ke.2 rfl)
  · rw[Ke.1 h];exact Wp _
 have h2:qh x0≤qh x:=by
  rcases zA.1 hx with h | h
  · rw[h];exact Wp _
  · exact(zH.1 sA.right).1 x h
 omega
theorem qB4{P A1 A2 B1 B2 S K:List Tm}{p s:Nat}(hK:K=P++(A1++A2)++(B1++B2)++S)(hs:s=P.length+A1.length)(hp:p+1=s+(P.length+A1.length+A2.length+B1.length))(sA:Srt qh (A1++A2))(sB:Srt qh (B1++B2))
 (hq:A1≠[]→B2≠[]→¬qh (atK K (p-(s-1)))<qh (atK K (s-1))):∀x∈A1,∀y∈B2,qh x≤qh y:=by
 intro x hx y hy;have hA:A1≠[]:=Vy hx
 have hB:B2≠[]:=Vy hy
 have q:=hq hA hB;obtain⟨D,x0,rfl⟩:=qd7 hA;obtain⟨y0,r,rfl⟩:=VF hB;simp only[zw,zp,zN]at hp hs;rw[qax (i:=s-1) (P++D) (A2++(B1++y0::r)++S) x0 (by rw[hK];simp) (by simp;omega)]at q;rw[qax (i:=p-(s-1)) (P++(D++[x0]++A2)++B1) (r++S) y0 (by rw[hK];simp) (by simp;omega)]at q;have h1:qh x≤qh x0:=by
  rcases zF.1 hx with h | h
  · exact sA.left.both x h x0 (Ke.2 rfl)
  · rw[Ke.1 h];exact Wp _
 have h2:qh y0≤qh y:=by
  rcases zA.1 hy with h | h
  · rw[h];exact Wp _
  · exact(zH.1 sB.right).1 y h
 omega
theorem Ye{l:List Tm}{n:Nat}(h:n≤l.length):∃l1 l2,l=l1++l2∧l1.length=n:=⟨l.take n,l.drop n,(Kv _ _).symm,by rw[zV];omega⟩
theorem qfc{k:Nat}{P A B S:List Tm}{s0 r0 mid n p:Nat}(hn:(P++A++B++S).length≤1000000)(sA:Srt qh A)(sB:Srt qh B)(hf:∀t∈P++A++B++S,fI t.c=true)
 (h0:P.length≤s0) (h1:s0≤r0) (h2:r0≤P.length+A.length) (hnn:n=mid+(P.length+A.length)) (hpp:p+1=n) (h3:r0+(P.length+A.length)≤n) (h4:n≤s0+(P.length+A.length+B.length))
 (h5:r0=P.length+A.length∨r0+(P.length+A.length)=n) (h6:s0=P.length∨n=s0+(P.length+A.length+B.length)) (k1:mid≤k+P.length) (k2:P.length+A.length+B.length≤k+mid) (hm:mid≤P.length+A.length+B.length) (hm0:P.length≤mid) :
 ∃s,jj (r0-s0+1) Qp (qkq (P++A++B++S).length P.length (P.length+A.length) (P.length+A.length+B.length) mid n p s0 r0 (P++A++B++S)) (qkq (P++A++B++S).length P.length (P.length+A.length) (P.length+A.length+B.length) mid n p s s (P++A++B++S))∧s≤n∧n-s≤1000000 ∧
  qx1 (QU k) (P++A++B++S).length ((P.length:Nat):Int) ((P.length+A.length:Nat):Int) ((P.length+A.length+B.length:Nat):Int) (mid:Int) (s:Int) ((n-s:Nat):Int) (List.map vT (P++A++B++S))=some (List.map vT (P++ssK qh (A++B)++S)):=by
 have hl:(P++A++B++S).length=P.length+A.length+B.length+S.length:=by simp only[zp]
 obtain⟨s,a1,a2,a3,a4,a5⟩:=bs_run (F:=Qp) (mk:=fun i j=>qkq (P++A++B++S).length P.length (P.length+A.length) (P.length+A.length+B.length) mid n p i j (P++A++B++S)) (Q:=fun c=>!decide (qh (atK (P++A++B++S) (p-c))<qh (atK (P++A++B++S) c))) (lo:=s0) (hi:=r0)
  (fun i j b1 b2 b3=>qxZ hn rfl b2 (by omega) (by omega) (by omega) (by omega) hf) (fun i=>qB1) (r0-s0) s0 r0 (zE _) h1 (zE _) (zE _) (.inl rfl) (.inl rfl)
 refine⟨s,a5,by omega,by omega,?_⟩
 obtain⟨A1,A2,rfl,q1⟩:=Ye (l:=A) (n:=s-P.length) (by omega)
 have q2:(A1++A2).length=A1.length+A2.length:=zp
 obtain⟨B1,B2,rfl,q3⟩:=Ye (l:=B) (n:=n-s-(P.length+(A1++A2).length)) (by omega)
 have q4:(B1++B2).length=B1.length+B2.length:=zp
 have hs:s=P.length+A1.length:=by omega
 have he:n-s=P.length+A1.length+A2.length+B1.length:=by omega
 have c1:=qB3 (P:=P) (A1:=A1) (A2:=A2) (B1:=B1) (B2:=B2) (S:=S) (p:=p) (s:=s) rfl hs (by omega) sA sB (fun hA hB=>by
  have x0:=zS.2 hA;have y0:=zS.2 hB;rcases a4 with h | h
  · omega
  · simpa using h)
 have c2:=qB4 (P:=P) (A1:=A1) (A2:=A2) (B1:=B1) (B2:=B2) (S:=S) (p:=p) (s:=s) rfl hs (by omega) sA sB (fun hA hB=>by
  have x0:=zS.2 hA;have y0:=zS.2 hB;rcases a3 with h | h
  · omega
  · simpa using h)
 have t:=qsU (k:=k) (N:=(P++(A1++A2)++(B1++B2)++S).length) (P:=P) (A1:=A1) (A2:=A2) (B1:=B1) (B2:=B2) (S:=S) hn rfl sA sB c1 c2 (by omega) (by omega) hf
 have n1:P.length+(A1++A2).length=P.length+A1.length+A2.length:=by omega
 have n2:P.length+(A1++A2).length+(B1++B2).length=P.length+A1.length+A2.length+B1.length+B2.length:=by omega
 have n3:mid=P.length+A1.length+B1.length:=by omega
 rw[n1]at *
 rw[he,q4,← KD,n3,hs];exact t
theorem qx5(k:Nat)(P A B S:List Tm)(u:Unit)(hA2:2≤A.length)(hB2:2≤B.length)(hk:A.length+B.length≤k+1)(hn:(P++A++B++S).length≤1000000)(sA:Srt qh A)(sB:Srt qh B)(hf:∀t∈P++A++B++S,fI t.c=true) :
 ∃n,qko n (QU k) (P++A++B++S) ((P.length:Nat):Int) ((P.length+A.length:Nat):Int) ((P.length+A.length+B.length:Nat):Int) u=some (List.map vT (P++ssK qh (A++B)++S)):=by
 have hl:(P++A++B++S).length=P.length+A.length+B.length+S.length:=by simp only[zp]
 obtain⟨mid,hmid⟩:∃mid,mid=(P.length+(P.length+A.length+B.length)) / 2:=⟨_,rfl⟩
 have w1:IntKind.i64.wrap (((P.length+A.length:Nat):Int)-((P.length:Nat):Int))=((A.length:Nat):Int):=by
  rw[show(((P.length+A.length:Nat):Int)-((P.length:Nat):Int))=((A.length:Nat):Int) by omega];exact rkW (by omega) (by omega)
 have w2:IntKind.i64.wrap (((P.length+A.length+B.length:Nat):Int)-((P.length+A.length:Nat):Int))=((B.length:Nat):Int):=by
  rw[show(((P.length+A.length+B.length:Nat):Int)-((P.length+A.length:Nat):Int))=((B.length:Nat):Int) by omega];exact rkW (by omega) (by omega)
 have d1:decide (((A.length:Nat):Int)=1)=false:=zh (by omega)
 have d2:decide (((B.length:Nat):Int)=1)=false:=zh (by omega)
 have em:=qd5 (i:=P.length) (j:=P.length+A.length+B.length) (by omega)
 rw[← hmid]at em;have wn:IntKind.i64.wrap ((mid:Int)+((P.length+A.length:Nat):Int))=((mid+(P.length+A.length):Nat):Int):=by
  rw[show((mid:Int)+((P.length+A.length:Nat):Int))=((mid+(P.length+A.length):Nat):Int) by omega];exact rkW (by omega) (by omega)
 have wp:IntKind.i64.wrap (((mid+(P.length+A.length):Nat):Int)-1)=((mid+(P.length+A.length)-1:Nat):Int):=by
  rw[show(((mid+(P.length+A.length):Nat):Int)-1)=((mid+(P.length+A.length)-1:Nat):Int) by omega];exact rkW (by omega) (by omega)
 refine⟨1000010,?_⟩
 unfold qko;rw[rkM,w1,w2,em,wn,wp];refine(QG d1).trans ((QG d2).trans ?_)
 by_cases hg:mid<P.length+A.length
 · have ws:IntKind.i64.wrap (((mid+(P.length+A.length):Nat):Int)-((P.length+A.length+B.length:Nat):Int))=((mid+(P.length+A.length)-(P.length+A.length+B.length):Nat):Int):=by
    rw[show(((mid+(P.length+A.length):Nat):Int)-((P.length+A.length+B.length:Nat):Int))=((mid+(P.length+A.length)-(P.length+A.length+B.length):Nat):Int) by omega];exact rkW (by omega) (by omega)
   rw[ws];obtain⟨s,r1,r2,r3,r4⟩:=qfc (k:=k) (P:=P) (A:=A) (B:=B) (S:=S) (s0:=mid+(P.length+A.length)-(P.length+A.length+B.length)) (r0:=mid) (mid:=mid) (n:=mid+(P.length+A.length)) (p:=mid+(P.length+A.length)-1) hn sA sB hf (by omega) (by omega) (by omega) rfl (by omega) (by omega) (by omega) (.inr rfl) (.inr (by omega)) (by omega) (by omega) (by omega) (by omega)
   refine(jp (zd (by omega))).trans (obs (r1 1000010 (by omega)) ?_)
   have we:IntKind.i64.wrap (((mid+(P.length+A.length):Nat):Int)-(s:Int))=((mid+(P.length+A.length)-s:Nat):Int):=by
    rw[show(((mid+(P.length+A.length):Nat):Int)-(s:Int))=((mid+(P.length+A.length)-s:Nat):Int) by omega];exact rkW (by omega) (by omega)
   rw[← we]at r4;exact r4
 · obtain⟨s,r1,r2,r3,r4⟩:=qfc (k:=k) (P:=P) (A:=A) (B:=B) (S:=S) (s0:=P.length) (r0:=P.length+A.length) (mid:=mid) (n:=mid+(P.length+A.length)) (p:=mid+(P.length+A.length)-1) hn sA sB hf (by omega) (by omega) (by omega) rfl (by omega) (by omega) (by omega) (.inl rfl) (.inl rfl) (by omega) (by omega) (by omega) (by omega)
   refine(QG (zh (by omega))).trans (obs (r1 1000010 (by omega)) ?_)
   have we:IntKind.i64.wrap (((mid+(P.length+A.length):Nat):Int)-(s:Int))=((mid+(P.length+A.length)-s:Nat):Int):=by
    rw[show(((mid+(P.length+A.length):Nat):Int)-(s:Int))=((mid+(P.length+A.length)-s:Nat):Int) by omega];exact rkW (by omega) (by omega)
   rw[← we]at r4;exact r4
theorem qx6(k:Nat)(P B S:List Tm)(x:Tm)(u:Unit)(hn:(P++[x]++B++S).length≤1000000)(sB:Srt qh B)(hf:∀t∈P++[x]++B++S,fI t.c=true) :
 ∃n,qko n (QU k) (P++[x]++B++S) ((P.length:Nat):Int) ((P.length+1:Nat):Int) ((P.length+1+B.length:Nat):Int) u=some (List.map vT (P++ssK qh ([x]++B)++S)):=by
 have hl:(P++[x]++B++S).length=P.length+1+B.length+S.length:=by simp;omega
 have w1:IntKind.i64.wrap (((P.length+1:Nat):Int)-((P.length:Nat):Int))=1:=by
  rw[show(((P.length+1:Nat):Int)-((P.length:Nat):Int))=1 by omega];exact rkW (by omega) (by omega)
 obtain⟨s,a1,a2,a3,a4,a5⟩:=bs_run (F:=JI) (mk:=fun i j=>qdD (P++[x]++B++S).length P.length (P.length+1) (P.length+1+B.length) i j (P++[x]++B++S)) (Q:=fun c=>decide (qh (atK (P++[x]++B++S) c)<qh (atK (P++[x]++B++S) P.length))) (lo:=P.length+1) (hi:=P.length+1+B.length)
  (fun i j b1 b2 b3=>qxX hn rfl b2 (by omega) (by omega) hf) (fun i=>qBZ) B.length (P.length+1) (P.length+1+B.length) (zE _) (by omega) (zE _) (by omega) (.inl rfl) (.inl rfl)
 have ex:atK (P++[x]++B++S) P.length=x:=qax P (B++S) x (by simp) rfl
 rw[ex]at a3 a4;obtain⟨B1,B2,rfl,q3⟩:=Ye (l:=B) (n:=s-(P.length+1)) (by omega)
 have q4:(B1++B2).length=B1.length+B2.length:=zp
 have h1:∀y∈B1,qh y<qh x:=fun y hy=>by
  have hB:B1≠[]:=Vy hy
  have y1:=zS.2 hB;obtain⟨D,y0,rfl⟩:=qd7 hB;simp only[zp,zw,zN]at q3 q4 y1;have q:=Ku (a3.resolve_left (by omega))
  rw[qax (P++[x]++D) (B2++S) y0 (by simp) (by simp;omega)]at q;rcases zF.1 hy with h | h
  · have:=sB.left.both y h y0 (Ke.2 rfl);omega
  · rw[Ke.1 h];exact q
 have h2:∀y∈B2,qh x≤qh y:=fun y hy=>by
  have hB:B2≠[]:=Vy hy
  have y1:=zS.2 hB;obtain⟨y0,r,rfl⟩:=VF hB;have q:=Wu (a4.resolve_left (by omega))
  rw[qax (P++[x]++B1) (r++S) y0 (by simp) (by simp;omega)]at q;rcases zA.1 hy with h | h
  · rw[h];omega
  · have:=(zH.1 sB.right).1 y h;omega
 obtain⟨t1,t2⟩:=qcV (key:=qh) (A1:=[]) (A2:=[x]) (B1:=B1) (B2:=B2) (C1:=B1) (C2:=x::B2) (Srt.one x) sB (fun y hy z hz=>by rw[Ke.1 hz];exact h1 y hy) (fun z hz=>by cases hz) sB.left (Stb.refl _) (zH.2 ⟨h2,sB.right⟩) (Stb.refl _)
 have hres:=ZE t1 t2;rw[Ka]at hres;rw[← hres];refine⟨1000010,?_⟩
 unfold qko;rw[rkM,w1];refine(jp rfl).trans (obs (a5 1000010 (by omega)) ?_)
 have hs:P.length+B1.length+1=s:=by omega
 have up:=qkp (N:=(P++[x]++(B1++B2)++S).length) (a:=P.length) (m:=P.length+1) (b:=P.length+1+(B1++B2).length) (i:=s) (j:=s) (x:=x) hn (by omega) B1 P (B2++S) hs (by simp)
 have e1:P++x::(B1++(B2++S))=P++[x]++(B1++B2)++S:=by simp
 rw[e1]at up;refine obs (up 1000010 (by omega)) ?_
 show some (List.map vT (P++B1++x::(B2++S)))=_
 simp
theorem qx7(k:Nat)(P A S:List Tm)(y:Tm)(u:Unit)(hA2:2≤A.length)(hn:(P++A++[y]++S).length≤1000000)(sA:Srt qh A)(hf:∀t∈P++A++[y]++S,fI t.c=true) :
 ∃n,qko n (QU k) (P++A++[y]++S) ((P.length:Nat):Int) ((P.length+A.length:Nat):Int) ((P.length+A.length+1:Nat):Int) u=some (List.map vT (P++ssK qh (A++[y])++S)):=by
 have hl:(P++A++[y]++S).length=P.length+A.length+1+S.length:=by simp;omega
 have w1:IntKind.i64.wrap (((P.length+A.length:Nat):Int)-((P.length:Nat):Int))=((A.length:Nat):Int):=by
  rw[show(((P.length+A.length:Nat):Int)-((P.length:Nat):Int))=((A.length:Nat):Int) by omega];exact rkW (by omega) (by omega)
 have w2:IntKind.i64.wrap (((P.length+A.length+1:Nat):Int)-((P.length+A.length:Nat):Int))=1:=by
  rw[show(((P.length+A.length+1:Nat):Int)-((P.length+A.length:Nat):Int))=1 by omega];exact rkW (by omega) (by omega)
 obtain⟨s,a1,a2,a3,a4,a5⟩:=bs_run (F:=JJ) (mk:=fun i j=>qdD (P++A++[y]++S).length P.length (P.length+A.length) (P.length+A.length+1) i j (P++A++[y]++S)) (Q:=fun c=>!decide (qh (atK (P++A++[y]++S) (P.length+A.length))<qh (atK (P++A++[y]++S) c))) (lo:=P.length) (hi:=P.length+A.length)
  (fun i j b1 b2 b3=>qxY hn rfl b2 (by omega) (by omega) hf) (fun i=>qB0) A.length P.length (P.length+A.length) (zE _) (by omega) (zE _) (by omega) (.inl rfl) (.inl rfl)
 have ey:atK (P++A++[y]++S) (P.length+A.length)=y:=qax (P++A) S y (by simp) (by simp)
 rw[ey]at a3 a4;obtain⟨A1,A2,rfl,q1⟩:=Ye (l:=A) (n:=s-P.length) (by omega)
 have q2:(A1++A2).length=A1.length+A2.length:=zp
 have h1:∀x∈A2,qh y<qh x:=fun x hx=>by
  have hB:A2≠[]:=Vy hx
  have y1:=zS.2 hB;obtain⟨x0,r,rfl⟩:=VF hB;have q:qh y<qh (atK (P++(A1++x0::r)++[y]++S) s):=by
   have:=a4.resolve_left (by omega)
   simpa using this
  rw[qax (P++A1) (r++[y]++S) x0 (by simp) (by simp;omega)]at q;rcases zA.1 hx with h | h
  · rw[h];exact q
  · have:=(zH.1 sA.right).1 x h;omega
 have h2:∀x∈A1,qh x≤qh y:=fun x hx=>by
  have hB:A1≠[]:=Vy hx
  have y1:=zS.2 hB;obtain⟨D,x0,rfl⟩:=qd7 hB;simp only[zp,zw,zN]at q1 q2 y1;have q : ¬qh y<qh (atK (P++(D++[x0]++A2)++[y]++S) (s-1)):=by
   have:=a3.resolve_left (by omega)
   simpa using this
  rw[qax (P++D) (A2++[y]++S) x0 (by simp) (by simp;omega)]at q;rcases zF.1 hx with h | h
  · have:=sA.left.both x h x0 (Ke.2 rfl);omega
  · rw[Ke.1 h];omega
 obtain⟨t1,t2⟩:=qcV (key:=qh) (A1:=A1) (A2:=A2) (B1:=[y]) (B2:=[]) (C1:=A1++[y]) (C2:=A2) sA (Srt.one y) (fun v hv z hz=>by rw[Ke.1 hv];exact h1 z hz) (fun z _ v hv=>by cases hv) (Srt.app sA.left (Srt.one y) (fun x hx v hv=>by rw[Ke.1 hv];exact h2 x hx)) (Stb.refl _) sA.right (by rw[zD];exact Stb.refl _)
 have hres:=ZE t1 t2;rw[zD]at hres;rw[← hres];refine⟨1000010,?_⟩
 unfold qko;rw[rkM,w1,w2];refine(QG (zh (by omega))).trans ((jp rfl).trans (obs (a5 1000010 (by omega)) ?_))
 have hs:(P++A1).length=s:=by rw[zp];omega
 have dn:=qsT (N:=(P++(A1++A2)++[y]++S).length) (a:=P.length) (m:=P.length+(A1++A2).length) (b:=P.length+(A1++A2).length+1) (j:=s) (y:=y) (A:=P++A1) hn A2.length A2 S rfl (by simp)
 have e1:P++A1++A2++y::S=P++(A1++A2)++[y]++S:=by simp
 have e2:s+A2.length=P.length+(A1++A2).length:=by omega
 rw[e1,hs,e2]at dn;refine obs (dn 1000010 (by omega)) ?_
 show some (List.map vT (P++A1++y::(A2++S)))=_
 simp
theorem qx8(k:Nat)(L:List Tm)(p:Int×Int×Int×Unit)(L':List Tm)(h:QU (k+1) L p=some L'):∃n,qko n (QU k) L p.1 p.2.1 p.2.2.1 p.2.2.2=some (L'.map vT):=by
 obtain⟨a,m,b,u⟩:=p;obtain⟨h1,h2⟩:=qj h;have:=soi h2;subst this
 simp only[zl,zy]at h1;obtain⟨ha,ham,hmb,hbn,hk,tf,tm,tA,tB⟩:=h1;have hf:=Yd.1 tf;have hm:=zr tm;have sA:=qbS.1 tA;have sB:=qbS.1 tB;clear h h2 tf tm tA tB;obtain⟨a,rfl⟩:=KC ha;obtain⟨m,rfl⟩:=KC (show 0≤m by omega)
 obtain⟨b,rfl⟩:=KC (show 0≤b by omega)
 simp only[zm]at sA sB ⊢;obtain⟨P,X0,S,e0,p1,p2⟩:=qsK (L:=L) (a:=a) (b:=b) (by omega) (by omega)
 obtain⟨A,B,rfl,q1⟩:=Ye (l:=X0) (n:=m-a) (by omega)
 have q2:(A++B).length=A.length+B.length:=zp
 have e1:L=P++A++B++S:=by rw[e0];simp
 subst e1;subst p1;have hm':m=P.length+A.length:=by omega
 subst hm';have hb':b=P.length+A.length+B.length:=by omega
 subst hb';rw[seg1]at sA;rw[seg2]at sB;rw[qkr];by_cases hA1:A.length=1
 · obtain⟨x,rfl⟩:=List.length_eq_one_iff.1 hA1
   exact qx6 k P B S x u hm sB hf
 · by_cases hB1:B.length=1
   · obtain⟨y,rfl⟩:=List.length_eq_one_iff.1 hB1
     exact qx7 k P A S y u (by omega) hm sA hf
   · exact qx5 k P A B S u (by omega) (by omega) (by omega) hm sA sB hf
theorem qB5(L:List Tm)(p:Int×Int×Int×Unit):QU 0 L p=none:=by
 unfold QU;refine QG (Bool.eq_false_iff.2 fun h=>?_)
 simp only[zl,zy]at h;omega
end
end Su
