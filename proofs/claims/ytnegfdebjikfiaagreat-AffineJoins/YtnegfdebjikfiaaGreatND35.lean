/-
  What functions of the program compute, in plain Lean, and that the evaluator finds it.
-/
import Derived.Test.YtnegfdebjikfiaaGreatSuXl
import Derived.Test.YtnegfdebjikfiaaGreatRji
set_option linter.unusedVariables false
set_option linter.unusedSimpArgs false
set_option maxRecDepth 10000
section
namespace Su
open Go Fly
noncomputable section
def JM:Stp (Int×Int×Int×Int×(List T)×(List T)×Bool×Int×Nat×Nat×Int×Bool×Int×(List Int)×(List Int)×Int×(List T)×(List T)×Bool×Int×Nat×Nat×Int×Unit):=fun p2=>(bif(decide (p2.2.2.2.1<(List.length p2.2.2.2.2.2.2.2.2.2.2.2.2.2.1:Int)))then
 (idx p2.2.2.2.2.2.2.2.2.2.2.2.2.2.2.1 p2.2.2.2.1).bind fun x3=>
 (idx p2.2.2.2.2.2.2.2.2.2.2.2.2.2.2.1 p2.2.1).bind fun x4=>
 (bif(decide (0<(jZ (Int.toNat (Qi x3)) (Int.toNat (Qi x4)))))then
 some (.inl (p2.1,p2.2.1,(IntKind.wrap .i64 (p2.2.2.1+1)),(IntKind.wrap .i64 (p2.2.2.2.1+1)),p2.2.2.2.2.1,p2.2.2.2.2.2.1,p2.2.2.2.2.2.2.1,p2.2.2.2.2.2.2.2.1,p2.2.2.2.2.2.2.2.2.1,p2.2.2.2.2.2.2.2.2.2.1,p2.2.2.2.2.2.2.2.2.2.2.1,p2.2.2.2.2.2.2.2.2.2.2.2.1,p2.2.2.2.2.2.2.2.2.2.2.2.2.1,p2.2.2.2.2.2.2.2.2.2.2.2.2.2.1,p2.2.2.2.2.2.2.2.2.2.2.2.2.2.2.1,p2.2.2.2.2.2.2.2.2.2.2.2.2.2.2.2.1,p2.2.2.2.2.2.2.2.2.2.2.2.2.2.2.2.2.1,p2.2.2.2.2.2.2.2.2.2.2.2.2.2.2.2.2.2.1,p2.2.2.2.2.2.2.2.2.2.2.2.2.2.2.2.2.2.2.1,p2.2.2.2.2.2.2.2.2.2.2.2.2.2.2.2.2.2.2.2.1,p2.2.2.2.2.2.2.2.2.2.2.2.2.2.2.2.2.2.2.2.2.1,p2.2.2.2.2.2.2.2.2.2.2.2.2.2.2.2.2.2.2.2.2.2.1,p2.2.2.2.2.2.2.2.2.2.2.2.2.2.2.2.2.2.2.2.2.2.2.1,()))
 else
  (bif(decide ((jZ (Int.toNat (Qi x3)) (Int.toNat (Qi x4)))=0))then
  (bif(decide (p2.2.2.2.1<p2.2.1))then
  some (.inl (p2.1,p2.2.1,(IntKind.wrap .i64 (p2.2.2.1+1)),(IntKind.wrap .i64 (p2.2.2.2.1+1)),p2.2.2.2.2.1,p2.2.2.2.2.2.1,p2.2.2.2.2.2.2.1,p2.2.2.2.2.2.2.2.1,p2.2.2.2.2.2.2.2.2.1,p2.2.2.2.2.2.2.2.2.2.1,p2.2.2.2.2.2.2.2.2.2.2.1,p2.2.2.2.2.2.2.2.2.2.2.2.1,p2.2.2.2.2.2.2.2.2.2.2.2.2.1,p2.2.2.2.2.2.2.2.2.2.2.2.2.2.1,p2.2.2.2.2.2.2.2.2.2.2.2.2.2.2.1,p2.2.2.2.2.2.2.2.2.2.2.2.2.2.2.2.1,p2.2.2.2.2.2.2.2.2.2.2.2.2.2.2.2.2.1,p2.2.2.2.2.2.2.2.2.2.2.2.2.2.2.2.2.2.1,p2.2.2.2.2.2.2.2.2.2.2.2.2.2.2.2.2.2.2.1,p2.2.2.2.2.2.2.2.2.2.2.2.2.2.2.2.2.2.2.2.1,p2.2.2.2.2.2.2.2.2.2.2.2.2.2.2.2.2.2.2.2.2.1,p2.2.2.2.2.2.2.2.2.2.2.2.2.2.2.2.2.2.2.2.2.2.1,p2.2.2.2.2.2.2.2.2.2.2.2.2.2.2.2.2.2.2.2.2.2.2.1,()))
 else
  some (.inl (p2.1,p2.2.1,p2.2.2.1,(IntKind.wrap .i64 (p2.2.2.2.1+1)),p2.2.2.2.2.1,p2.2.2.2.2.2.1,p2.2.2.2.2.2.2.1,p2.2.2.2.2.2.2.2.1,p2.2.2.2.2.2.2.2.2.1,p2.2.2.2.2.2.2.2.2.2.1,p2.2.2.2.2.2.2.2.2.2.2.1,p2.2.2.2.2.2.2.2.2.2.2.2.1,p2.2.2.2.2.2.2.2.2.2.2.2.2.1,p2.2.2.2.2.2.2.2.2.2.2.2.2.2.1,p2.2.2.2.2.2.2.2.2.2.2.2.2.2.2.1,p2.2.2.2.2.2.2.2.2.2.2.2.2.2.2.2.1,p2.2.2.2.2.2.2.2.2.2.2.2.2.2.2.2.2.1,p2.2.2.2.2.2.2.2.2.2.2.2.2.2.2.2.2.2.1,p2.2.2.2.2.2.2.2.2.2.2.2.2.2.2.2.2.2.2.1,p2.2.2.2.2.2.2.2.2.2.2.2.2.2.2.2.2.2.2.2.1,p2.2.2.2.2.2.2.2.2.2.2.2.2.2.2.2.2.2.2.2.2.1,p2.2.2.2.2.2.2.2.2.2.2.2.2.2.2.2.2.2.2.2.2.2.1,p2.2.2.2.2.2.2.2.2.2.2.2.2.2.2.2.2.2.2.2.2.2.2.1,())))
 else
  some (.inl (p2.1,p2.2.1,p2.2.2.1,(IntKind.wrap .i64 (p2.2.2.2.1+1)),p2.2.2.2.2.1,p2.2.2.2.2.2.1,p2.2.2.2.2.2.2.1,p2.2.2.2.2.2.2.2.1,p2.2.2.2.2.2.2.2.2.1,p2.2.2.2.2.2.2.2.2.2.1,p2.2.2.2.2.2.2.2.2.2.2.1,p2.2.2.2.2.2.2.2.2.2.2.2.1,p2.2.2.2.2.2.2.2.2.2.2.2.2.1,p2.2.2.2.2.2.2.2.2.2.2.2.2.2.1,p2.2.2.2.2.2.2.2.2.2.2.2.2.2.2.1,p2.2.2.2.2.2.2.2.2.2.2.2.2.2.2.2.1,p2.2.2.2.2.2.2.2.2.2.2.2.2.2.2.2.2.1,p2.2.2.2.2.2.2.2.2.2.2.2.2.2.2.2.2.2.1,p2.2.2.2.2.2.2.2.2.2.2.2.2.2.2.2.2.2.2.1,p2.2.2.2.2.2.2.2.2.2.2.2.2.2.2.2.2.2.2.2.1,p2.2.2.2.2.2.2.2.2.2.2.2.2.2.2.2.2.2.2.2.2.1,p2.2.2.2.2.2.2.2.2.2.2.2.2.2.2.2.2.2.2.2.2.2.1,p2.2.2.2.2.2.2.2.2.2.2.2.2.2.2.2.2.2.2.2.2.2.2.1,()))))
 else
  some (.inr (p2.1,p2.2.1,p2.2.2.1,p2.2.2.2.1,p2.2.2.2.2.1,p2.2.2.2.2.2.1,p2.2.2.2.2.2.2.1,p2.2.2.2.2.2.2.2.1,p2.2.2.2.2.2.2.2.2.1,p2.2.2.2.2.2.2.2.2.2.1,p2.2.2.2.2.2.2.2.2.2.2.1,p2.2.2.2.2.2.2.2.2.2.2.2.1,p2.2.2.2.2.2.2.2.2.2.2.2.2.1,p2.2.2.2.2.2.2.2.2.2.2.2.2.2.1,p2.2.2.2.2.2.2.2.2.2.2.2.2.2.2.1,p2.2.2.2.2.2.2.2.2.2.2.2.2.2.2.2.1,p2.2.2.2.2.2.2.2.2.2.2.2.2.2.2.2.2.1,p2.2.2.2.2.2.2.2.2.2.2.2.2.2.2.2.2.2.1,p2.2.2.2.2.2.2.2.2.2.2.2.2.2.2.2.2.2.2.1,p2.2.2.2.2.2.2.2.2.2.2.2.2.2.2.2.2.2.2.2.1,p2.2.2.2.2.2.2.2.2.2.2.2.2.2.2.2.2.2.2.2.2.1,p2.2.2.2.2.2.2.2.2.2.2.2.2.2.2.2.2.2.2.2.2.2.1,p2.2.2.2.2.2.2.2.2.2.2.2.2.2.2.2.2.2.2.2.2.2.2.1,())))
def qcb(fu:Nat):Stp (Int×Int×(List T)×(List T)×Bool×Int×Nat×Nat×Int×Bool×Int×(List Int)×(List Int)×Int×(List T)×(List T)×Bool×Int×Nat×Nat×Int×Unit):=fun p1=>(bif(decide (p1.2.1<(List.length p1.2.2.2.2.2.2.2.2.2.2.2.1:Int)))then
 (itP fu (JM) (p1.1,p1.2.1,(0:Int),(0:Int),p1.2.2.1,p1.2.2.2.1,p1.2.2.2.2.1,p1.2.2.2.2.2.1,p1.2.2.2.2.2.2.1,p1.2.2.2.2.2.2.2.1,p1.2.2.2.2.2.2.2.2.1,p1.2.2.2.2.2.2.2.2.2.1,p1.2.2.2.2.2.2.2.2.2.2.1,p1.2.2.2.2.2.2.2.2.2.2.2.1,p1.2.2.2.2.2.2.2.2.2.2.2.2.1,p1.2.2.2.2.2.2.2.2.2.2.2.2.2.1,p1.2.2.2.2.2.2.2.2.2.2.2.2.2.2.1,p1.2.2.2.2.2.2.2.2.2.2.2.2.2.2.2.1,p1.2.2.2.2.2.2.2.2.2.2.2.2.2.2.2.2.1,p1.2.2.2.2.2.2.2.2.2.2.2.2.2.2.2.2.2.1,p1.2.2.2.2.2.2.2.2.2.2.2.2.2.2.2.2.2.2.1,p1.2.2.2.2.2.2.2.2.2.2.2.2.2.2.2.2.2.2.2.1,p1.2.2.2.2.2.2.2.2.2.2.2.2.2.2.2.2.2.2.2.2.1,())).bind fun x5=>
 (bif(decide (x5.2.2.1<x5.1))then
 (idx x5.2.2.2.2.2.2.2.2.2.2.2.2.2.1 x5.2.1).bind fun x6=>
 (bif((true&&(Nat.beq x5.2.2.2.2.2.2.2.2.2.2.2.2.2.2.2.2.2.2.2.2.1 x5.2.2.2.2.2.2.2.2.2.2.2.2.2.2.2.2.1.length))&&(Nat.ble (x5.2.2.2.2.2.2.2.2.2.2.2.2.2.2.2.2.1.length+(List.length [(T.s (.int .i64 x6))])) 549755813888))then
 (idx x5.2.2.2.2.2.2.2.2.2.2.2.2.2.2.1 x5.2.1).bind fun x7=>
 (bif((true&&(Nat.beq x5.2.2.2.2.2.2.2.2.2.2.2.2.2.2.2.2.2.2.2.2.2.1 x5.2.2.2.2.2.2.2.2.2.2.2.2.2.2.2.2.2.1.length))&&(Nat.ble (x5.2.2.2.2.2.2.2.2.2.2.2.2.2.2.2.2.2.1.length+(List.length [(T.s (.int .u64 x7))])) 549755813888))then
 some (.inl (x5.1,(IntKind.wrap .i64 (x5.2.1+1)),x5.2.2.2.2.1,x5.2.2.2.2.2.1,x5.2.2.2.2.2.2.1,x5.2.2.2.2.2.2.2.1,x5.2.2.2.2.2.2.2.2.1,x5.2.2.2.2.2.2.2.2.2.1,x5.2.2.2.2.2.2.2.2.2.2.1,x5.2.2.2.2.2.2.2.2.2.2.2.1,x5.2.2.2.2.2.2.2.2.2.2.2.2.1,x5.2.2.2.2.2.2.2.2.2.2.2.2.2.1,x5.2.2.2.2.2.2.2.2.2.2.2.2.2.2.1,x5.2.2.2.2.2.2.2.2.2.2.2.2.2.2.2.1,(x5.2.2.2.2.2.2.2.2.2.2.2.2.2.2.2.2.1++[(T.s (.int .i64 x6))]),(x5.2.2.2.2.2.2.2.2.2.2.2.2.2.2.2.2.2.1++[(T.s (.int .u64 x7))]),x5.2.2.2.2.2.2.2.2.2.2.2.2.2.2.2.2.2.2.1,x5.2.2.2.2.2.2.2.2.2.2.2.2.2.2.2.2.2.2.2.1,(List.length (x5.2.2.2.2.2.2.2.2.2.2.2.2.2.2.2.2.1++[(T.s (.int .i64 x6))])),(List.length (x5.2.2.2.2.2.2.2.2.2.2.2.2.2.2.2.2.2.1++[(T.s (.int .u64 x7))])),x5.2.2.2.2.2.2.2.2.2.2.2.2.2.2.2.2.2.2.2.2.2.2.1,()))
 else none)
 else none)
 else
  (idx x5.2.2.2.2.2.2.2.2.2.2.2.2.2.2.1 x5.2.1).bind fun x8=>
  some (.inl (x5.1,(IntKind.wrap .i64 (x5.2.1+1)),x5.2.2.2.2.1,x5.2.2.2.2.2.1,x5.2.2.2.2.2.2.1,x5.2.2.2.2.2.2.2.1,x5.2.2.2.2.2.2.2.2.1,x5.2.2.2.2.2.2.2.2.2.1,x5.2.2.2.2.2.2.2.2.2.2.1,x5.2.2.2.2.2.2.2.2.2.2.2.1,x5.2.2.2.2.2.2.2.2.2.2.2.2.1,x5.2.2.2.2.2.2.2.2.2.2.2.2.2.1,x5.2.2.2.2.2.2.2.2.2.2.2.2.2.2.1,x5.2.2.2.2.2.2.2.2.2.2.2.2.2.2.2.1,x5.2.2.2.2.2.2.2.2.2.2.2.2.2.2.2.2.1,x5.2.2.2.2.2.2.2.2.2.2.2.2.2.2.2.2.2.1,x5.2.2.2.2.2.2.2.2.2.2.2.2.2.2.2.2.2.2.1,x5.2.2.2.2.2.2.2.2.2.2.2.2.2.2.2.2.2.2.2.1,x5.2.2.2.2.2.2.2.2.2.2.2.2.2.2.2.2.2.2.2.2.1,x5.2.2.2.2.2.2.2.2.2.2.2.2.2.2.2.2.2.2.2.2.2.1,(qJ x5.2.2.2.2.2.2.2.2.2.2.2.2.2.2.2.2.2.2.2.2.2.2.1 (Qi x8) 1),())))
 else
  some (.inr (p1.1,p1.2.1,p1.2.2.1,p1.2.2.2.1,p1.2.2.2.2.1,p1.2.2.2.2.2.1,p1.2.2.2.2.2.2.1,p1.2.2.2.2.2.2.2.1,p1.2.2.2.2.2.2.2.2.1,p1.2.2.2.2.2.2.2.2.2.1,p1.2.2.2.2.2.2.2.2.2.2.1,p1.2.2.2.2.2.2.2.2.2.2.2.1,p1.2.2.2.2.2.2.2.2.2.2.2.2.1,p1.2.2.2.2.2.2.2.2.2.2.2.2.2.1,p1.2.2.2.2.2.2.2.2.2.2.2.2.2.2.1,p1.2.2.2.2.2.2.2.2.2.2.2.2.2.2.2.1,p1.2.2.2.2.2.2.2.2.2.2.2.2.2.2.2.2.1,p1.2.2.2.2.2.2.2.2.2.2.2.2.2.2.2.2.2.1,p1.2.2.2.2.2.2.2.2.2.2.2.2.2.2.2.2.2.2.1,p1.2.2.2.2.2.2.2.2.2.2.2.2.2.2.2.2.2.2.2.1,p1.2.2.2.2.2.2.2.2.2.2.2.2.2.2.2.2.2.2.2.2.1,())))
def qyU  (fu:Nat)(a:(Bool×Int×(List Int)×(List Int)×Int))(most:Int):Option (Bool×Int×(List Int)×(List Int)×Int) :=
 (qpQ a).bind fun x0=>
 (bif x0.1 then
 some x0
 else
  (itP fu (qcb fu) (most,(0:Int),[],[],false,(0:Int),0,0,(0:Int),x0.1,x0.2.1,x0.2.2.1,x0.2.2.2.1,x0.2.2.2.2,[],[],false,x0.2.1,0,0,x0.2.2.2.2,())).bind fun x9=>
  (Su.sub x9.2.2.2.2.2.2.2.2.2.2.2.2.2.2.1 0 x9.2.2.2.2.2.2.2.2.2.2.2.2.2.2.2.2.2.2.1).bind fun x10=>
  (Su.sub x9.2.2.2.2.2.2.2.2.2.2.2.2.2.2.1 0 x9.2.2.2.2.2.2.2.2.2.2.2.2.2.2.2.2.2.2.1).bind fun x11=>
  (Su.sub x9.2.2.2.2.2.2.2.2.2.2.2.2.2.2.2.1 0 x9.2.2.2.2.2.2.2.2.2.2.2.2.2.2.2.2.2.2.2.1).bind fun x12=>
  (Su.sub x9.2.2.2.2.2.2.2.2.2.2.2.2.2.2.2.1 0 x9.2.2.2.2.2.2.2.2.2.2.2.2.2.2.2.2.2.2.2.1).bind fun x13=>
  (((((qI 3 x10).bind fun x14=>
  ((qI 2 x12).bind fun x15=>
  some (x15,x9.2.2.2.2.2.2.2.2.2.2.2.2.2.2.2.2.2.2.2.2.1)).bind fun x16=>
  some (x14,x16)).bind fun x17=>
  some (x9.2.2.2.2.2.2.2.2.2.2.2.2.2.2.2.2.2.1,x17)).bind fun x18=>
  some (x9.2.2.2.2.2.2.2.2.2.2.2.2.2.2.2.2.1,x18)).bind fun x19=>
  (bif((eqL x19)&&(Nat.ble x19.2.2.1.length 549755813888))then
  some (ofF (qdy (toF x19)))
 else none)).bind fun x20=>
  some x20)
abbrev RcT:=(List T)×((List T)×Bool×Int×Nat×Nat×Int×Bool×Int×(List Int)×(List Int)×Int×(List T)×(List T)×Bool×Int×Nat×Nat×Int×Unit)
abbrev rcT(r1 r2:List T)(b0:Bool)(m0:Int)(n0 n1:Nat)(e0:Int)(x:Rf)(b1:Bool)(m1:Int)(B:List Tm)(err:Int):RcT :=
 (r1,r2,b0,m0,n0,n1,e0,x.1,x.2.1,x.2.2.1,x.2.2.2.1,x.2.2.2.2,(B.map Tm.id).map e3,(B.map Tm.c).map e2,b1,m1,B.length,B.length,err,())
theorem qCO{x y:Tm}(fx:fI x.c=true)(fy:fI y.c=true):jZ (Int.toNat (Qi x.c)) (Int.toNat (Qi y.c))=qdC (-qh x) (-qh y):=by
 rw[← qCJ fx fy,qb9 fx,qb9 fy]
theorem qyV(a:Fm)(r1 r2:List T)(b0:Bool)(m0:Int)(n0 n1:Nat)(e0:Int)(b1:Bool)(m1:Int)(B:List Tm)(err most:Int)(hl:a.2.2.1.length≤500000000000)(hf:∀t∈a.2.2.1,fI t.c=true)(i:Nat)(x:Tm)(hx:a.2.2.1[i]?=some x) :
 ∀(d k m:Nat),k+d=a.2.2.1.length→d+1≤m →
 itP m JM (most,(i:Int),((qc3 qh a.2.2.1 i x k:Nat):Int),(k:Int),rcT r1 r2 b0 m0 n0 n1 e0 (ofF a) b1 m1 B err)=some (most,(i:Int),((qc3 qh a.2.2.1 i x a.2.2.1.length:Nat):Int),(a.2.2.1.length:Int),rcT r1 r2 b0 m0 n0 n1 e0 (ofF a) b1 m1 B err):=by
 have hI:∀k:Nat,decide ((k:Int)<(((ofF a).2.2.1.length:Nat):Int))=decide (k<a.2.2.1.length):=fun k=>by
  have:(ofF a).2.2.1.length=a.2.2.1.length:=zn ..
  rw[this];by_cases h:k<a.2.2.1.length
  · rw[zd h,zd (by omega)]
  · rw[zh h,zh (by omega)]
 have hC:∀(k:Nat) (y:Tm),a.2.2.1[k]?=some y→idx (ofF a).2.2.2.1 (k:Int)=some y.c:=fun k y h=>by
  show idx (a.2.2.1.map Tm.c) _=_
  rw[jL,KM,h];rfl
 intro d;induction d with
 | zero=>
  intro k m hk hm;obtain⟨m',rfl⟩:∃m',m=m'+1:=⟨m-1,by omega⟩
  have hk:k=a.2.2.1.length:=by omega
  rw[qu,hk];have t:=hI a.2.2.1.length;rw[zh (Nat.lt_irrefl _)]at t;simp only[JM,t,zi];rfl
 | succ d ih=>
  intro k m hk hm;obtain⟨m',rfl⟩:∃m',m=m'+1:=⟨m-1,by omega⟩
  have hkl:k<a.2.2.1.length:=by omega
  have t:=hI k;rw[zd hkl]at t;have hy:a.2.2.1[k]?=some a.2.2.1[k]:=zG hkl
  generalize a.2.2.1[k]=y at hy
  have c1:=hC k y hy;have c2:=hC i x hx;have fy:=hf y (Km hy)
  have fx:=hf x (Km hx)
  have hw:IntKind.i64.wrap ((k:Int)+1)=((k+1:Nat):Int):=by rw[w64 (by omega) (by omega)];simp
  have le:=qCI (key:=qh) (A:=a.2.2.1) (i:=i) (k:=k) (x:=x)
  have hw2:IntKind.i64.wrap (((qc3 qh a.2.2.1 i x k:Nat):Int)+1)=((qc3 qh a.2.2.1 i x k+1:Nat):Int):=by rw[w64 (by omega) (by omega)];simp
  have s:=qEx (key:=qh) (i:=i) (x:=x) hy
  have h:=ih (k+1) m' (by omega) (by omega)
  have e1:=qCO fy fx;have e2:=qtN y x;have e3:=qCK y x;have ki:decide ((k:Int)<(i:Int))=decide (k<i):=by
   by_cases h:k<i
   · rw[zd h,zd (by omega)]
   · rw[zh h,zh (by omega)]
  rw[qu];cases g1:decide (qh y<qh x)with
  | true=>
   rw[g1]at s e2;rw[Wd,zf]at s;rw[s]at h;simp only[JM,rcT,t,c1,c2,e1,e2,zf,zj,hw,hw2];exact h
  | false=>
   rw[g1]at s e2;rw[VE]at s;cases g2:decide (qh y=qh x)with
   | true=>
    rw[g2]at s e3;rw[zK]at s;cases g3:decide (k<i)with
    | true=>
     rw[g3]at s ki;rw[zf]at s;rw[s]at h;simp only[JM,rcT,t,c1,c2,e1,e2,e3,ki,zf,zi,zj,hw,hw2];exact h
    | false=>
     rw[g3]at s ki;rw[zi,Kr]at s;rw[s]at h;simp only[JM,rcT,t,c1,c2,e1,e2,e3,ki,zf,zi,zj,hw];exact h
   | false=>
    rw[g2]at s e3;rw[Kh,zi,Kr]at s;rw[s]at h;simp only[JM,rcT,t,c1,c2,e1,e2,e3,zf,zi,zj,hw];exact h
theorem qfA(a:Fm)(r1 r2:List T)(b0:Bool)(m0:Int)(n0 n1:Nat)(e0:Int)(b1:Bool)(m1 most:Int)(hl:a.2.2.1.length≤500000000000)(hf:∀t∈a.2.2.1,fI t.c=true)(fu:Nat)(hfu:a.2.2.1.length+1≤fu) :
 ∀(rest P B:List Tm) (err:Int) (m:Nat),P++rest=a.2.2.1→B.length≤P.length→rest.length+1≤m →
 itP m (qcb fu) (most,(P.length:Int),rcT r1 r2 b0 m0 n0 n1 e0 (ofF a) b1 m1 B err)=some (most,(a.2.2.1.length:Int),rcT r1 r2 b0 m0 n0 n1 e0 (ofF a) b1 m1 (B++(Yp a.2.2.1 most P rest err).1) (Yp a.2.2.1 most P rest err).2)
 | [],P,B,err,m,hA,hB,hm=>by
  obtain⟨m',rfl⟩:∃m',m=m'+1:=⟨m-1,by omega⟩
  rw[zD]at hA;have t:decide ((P.length:Int)<(((ofF a).2.2.1.length:Nat):Int))=false:=zh (by
   show¬(P.length:Int)<((a.2.2.1.map Tm.id).length:Nat)
   rw[zn,← hA];omega)
  rw[qu];simp only[qcb,rcT,t,zi,Yp,zD];rw[hA];rfl
 | t::rest,P,B,err,m,hA,hB,hm=>by
  obtain⟨m',rfl⟩:∃m',m=m'+1:=⟨m-1,by omega⟩
  have hNl:P.length+(rest.length+1)=a.2.2.1.length:=by rw[← hA];simp
  have hx:a.2.2.1[P.length]?=some t:=by rw[← hA];simp
  have hi:idx (ofF a).2.2.1 (P.length:Int)=some t.id:=by
   show idx (a.2.2.1.map Tm.id) _=_
   rw[← hA];exact jA Tm.id P t rest
  have hc:idx (ofF a).2.2.2.1 (P.length:Int)=some t.c:=by
   show idx (a.2.2.1.map Tm.c) _=_
   rw[← hA];exact jA Tm.c P t rest
  have hlt:decide ((P.length:Int)<(((ofF a).2.2.1.length:Nat):Int))=true:=zd (by
   show(P.length:Int)<((a.2.2.1.map Tm.id).length:Nat)
   rw[zn];omega)
  have hw:IntKind.i64.wrap ((P.length:Int)+1)=(((P++[t]).length:Nat):Int):=by rw[w64 (by omega) (by omega)];simp
  have hb:Nat.ble (B.length+1) 549755813888=true:=zB (by omega)
  have d1:(B.map Tm.id).map e3++[T.s (.int .i64 t.id)]=((B++[t]).map Tm.id).map e3:=by rw[zU,zU];rfl
  have d2:(B.map Tm.c).map e2++[T.s (.int .u64 t.c)]=((B++[t]).map Tm.c).map e2:=by rw[zU,zU];rfl
  have l1:((B.map Tm.id).map e3).length=B.length:=by rw[zn,zn]
  have l2:((B.map Tm.c).map e2).length=B.length:=by rw[zn,zn]
  have l3:(((B++[t]).map Tm.id).map e3).length=(B++[t]).length:=by rw[zn,zn]
  have l4:(((B++[t]).map Tm.c).map e2).length=(B++[t]).length:=by rw[zn,zn]
  have r:=qyV a r1 r2 b0 m0 n0 n1 e0 b1 m1 B err most hl hf P.length t hx a.2.2.1.length 0 fu (by omega) hfu
  rw[qEw,qyQ hA.symm]at r;have ft:=hf t (Km hx)
  have ab:Qi t.c=qcU t.c:=by unfold Qi qcU;rw[YI ft]
  have few:decide (((YW qh a.2.2.1 P t:Nat):Int)<most)=qkK a.2.2.1 P t most:=rfl
  have r':itP fu JM (most,(P.length:Int),(0:Int),(0:Int),rcT r1 r2 b0 m0 n0 n1 e0 (ofF a) b1 m1 B err)=_:=r
  rw[qu];unfold Yp;cases g:qkK a.2.2.1 P t most with
  | true=>
   have h:=qfA a r1 r2 b0 m0 n0 n1 e0 b1 m1 most hl hf fu hfu rest (P++[t]) (B++[t]) err m' (by rw[← hA];simp) (by simp;omega) (by simp at hm;omega)
   rw[zM,V9]at h;simp only[rcT]at r' h ⊢;simp only[qcb,hlt,zf];rw[r'];simp only[zj,few,g,zf,hi,hc,l1,l2,l3,l4,d1,d2,hw,hb,qH,zW,Kz];exact h
  | false=>
   have h:=qfA a r1 r2 b0 m0 n0 n1 e0 b1 m1 most hl hf fu hfu rest (P++[t]) B (qJ err (qcU t.c) 1) m' (by rw[← hA];simp) (by simp;omega) (by simp at hm;omega)
   simp only[rcT]at r' h ⊢;simp only[qcb,hlt,zf];rw[r'];simp only[zj,few,g,zi,hc,hw,ab];exact h
theorem qai(A:List Tm)(most:Int):∀(Q P:List Tm) (e:Int),(Yp A most P Q e).1.length≤Q.length
 | [],_,_=>zE _
 | x::Q,P,e=>by
  have h1:=qai A most Q (P++[x]) e
  have h2:=qai A most Q (P++[x]) (qJ e (qcU x.c) 1)
  unfold Yp;cases qkK A P x most <;> simp <;> omega
noncomputable def qay(a:Fm)(most:Int):Fm:=bif okF a then yY (false,a.2.1,Yp a.2.2.1 most [] a.2.2.1 a.2.2.2)else qaS
noncomputable def qfB(p:Rf×Int):Option Rf:=bif okR p.1 then some (ofF (qay (toF p.1) p.2))else none
theorem qyW{a:Fm}(ha:a.2.2.1.length≤500000000000)(most:Int):qfB (ofF a,most)=some (ofF (qay a most)):=by
 unfold qfB;simp only[];rw[qfq ha,QM];rfl
theorem qyX(p:Rf×Int)(y:Rf)(hg:(dc cRf (d1 (cI .i64))).good p)(h:qfB p=some y):∃n,qyU n p.1 p.2=some y:=by
 obtain⟨x,most⟩:=p;obtain⟨hc,h2⟩:=qj h;have:=soi h2;subst this
 clear hg h h2;refine onR (P:=fun x=>∃n,qyU n x most=some (ofF (qay (toF x) most))) (fun a hla=>?_) hc
 rw[QM];unfold qyU qay;rcases yi a with⟨h1,h2⟩ | ⟨h1,h2,h3,h4⟩ | ⟨h1,h2,h3⟩
 · refine⟨0,obs (qb8 a) ?_⟩
   rw[h1,h2];rfl
 · refine⟨0,obs (qb8 a) ?_⟩
   rw[h1,h2,h4];rfl
 · have hf:∀t∈a.2.2.1,fI t.c=true:=fun t ht=>(qt1 h1 t ht).2
   obtain⟨ab,am,al,ae⟩:=a;have h3:ab=false:=h3
   subst h3;have q:=qfA (false,am,al,ae) [] [] false 0 0 0 0 false am most hla hf (al.length+1) (zE _) al [] [] ae (al.length+1) rfl (zE _) (zE _)
   refine⟨al.length+1,obs (qb8 _) ?_⟩
   rw[h1,h2];simp only[zf,rcT]at q hla ⊢;refine obs q ?_
   have hwl:=qai al most al [] ae
   generalize Yp al most [] al ae=W at *
   obtain⟨J,er⟩:=W;simp only[Ka]at hwl ⊢;have hd:qaf (ofF (false,am,J,er))=some (ofF (yY (false,am,J,er))):=qkI (a:=(false,am,J,er)) (by simp only[];omega)
   refine obs (jF _ _ (by simp)) (obs (jF _ _ (by simp)) (obs (jF _ _ (by simp)) (obs (jF _ _ (by simp)) ?_)))
   exact obs (obs (obs (obs (obs (yD (J.map Tm.id)) (obs (obs (Qj (J.map Tm.c)) rfl) rfl)) rfl) rfl) hd) rfl
end
end Su
end
section
namespace Su
open Go Fly
noncomputable section
def qCP  (a:Fm)(b:Fm)(most:Int):Option Bool :=
 (bif(decide (40<(List.length a.2.2.1:Int)))then
 some true
 else
  (bif(decide (40<(List.length b.2.2.1:Int)))then
  some true
 else
  (qfa (a,b)).bind fun x0=>
  (qfr a).bind fun x1=>
  (qfr b).bind fun x2=>
  (qca (x1,x2)).bind fun x3=>
  (qfs (x0,x3)).bind fun x4=>
  (qcX (a,most)).bind fun x5=>
  (qfr a).bind fun x6=>
  (qfB (x6,most)).bind fun x7=>
  (qfs (x5,x7)).bind fun x8=>
  (bif x4 then
  some x8
 else
  some false)))
theorem qt9{a:Fm}(h:jC.good a):Wf a:=⟨qbP h.2.1,qbP h.2.2.2,fun t ht=>qbP (h.2.2.1.1 t ht).2⟩
theorem qg4(x:Fm):(yY x).2.2.1.length≤x.2.2.1.length:=by
 rw[Qz];cases((fI (nzI x.2.1)&&fI (nzI x.2.2.2))&&!((qt x.2.2.1).any fun t=>!fI t.c))with
 | true=>exact List.length_filter_le _ _
 | false=>exact Ve _
theorem qkQ{m:Int}(h:fI m=false)(b:Bool)(l:List Tm)(e:Int):yY (b,m,l,e)=qaS:=by
 have hz:zI m=false:=by
  cases hz:zI m with
  | false=>rfl
  | true=>
   have:=qe7.1 hz
   unfold fI at h;rw[this]at h;exact absurd h (by decide)
 have hn:fI (nzI m)=false:=by unfold nzI;rw[hz];exact h
 rw[Qz];simp only[hn,Kh,zi]
theorem joV{a b:Fm}(wa:Wf a)(wb:Wf b):qbQ joC a b=Js a b:=by
 unfold Js;cases oa:okF a with
 | false=>unfold qbQ;rw[oa];rfl
 | true=>
  cases ob:okF b with
  | false=>unfold qbQ;rw[oa,ob];rfl
  | true=>
   have ta:Tells a:=by
    rcases yi a with⟨h1,_⟩ | ⟨h1,_⟩ | ⟨_,h2,h3⟩
    · rw[oa]at h1;cases h1
    · rw[oa]at h1;cases h1
    · exact qsC h3 h2 wa.1 wa.2.1 wa.2.2
   have tb:Tells b:=by
    rcases yi b with⟨h1,_⟩ | ⟨h1,_⟩ | ⟨_,h2,h3⟩
    · rw[ob]at h1;cases h1
    · rw[ob]at h1;cases h1
    · exact qsC h3 h2 wb.1 wb.2.1 wb.2.2
   rw[zW,zf];cases fm:fI (jP a.2.1 b.2.1)with
   | false=>
    unfold qbQ;rw[oa,ob,qkQ fm,qkQ fm];rfl
   | true=>
    have ca:∀t∈a.2.2.1,Co t.c:=fun t ht=>qfx (ta.wt t ht) (ta.ft t ht)
    have cb:∀t∈b.2.2.1,Co t.c:=fun t ht=>qfx (tb.wt t ht) (tb.ft t ht)
    have wh:j0 4602678819172646912:=⟨4602678819172646912,rfl,by omega⟩
    have wm:j0 (jP a.2.1 b.2.1):=qe8 (qmm ta.wm wh 0) (qmm tb.wm wh 0) 0
    have e1:joD joC a.2.2.1 b.2.2.1=joG (atN b.2.2.1) a.2.2.1:=by
     refine qt6 (fun t ht=>⟨ta.zt t ht,ta.ft t ht⟩) fun i=>?_
     rcases qoi b.2.2.1 i with h | ⟨t,ht,h⟩
     · exact .inl h
     · rw[h];exact .inr ⟨tb.zt t ht,tb.ft t ht⟩
    have j:=qtZ qsG oa ob (qiS oa) (qiS ob) ca cb ta.zt tb.zt (qfx ta.wm ta.fm) (qfx tb.wm tb.fm) ⟨(qfx ta.we ta.fe).1,ta.fe⟩ ⟨(qfx tb.we tb.fe).1,tb.fe⟩ (qfx wm fm)
    rw[e1]at j;exact j
theorem qyY{a:Fm}(h:Tells a):Cle a.2.2.2:=by
 obtain⟨E,hE,hlt⟩:=h.we;have hs:=h.se;have hf:=ql9.1 h.fe;refine⟨h.we,fun e=>by rw[e]at hs;exact absurd hs (by decide),?_⟩
 rw[hE]at hf ⊢;rw[zm]at hf;unfold qJ;rw[jX,zm];by_cases h0:bK E=0
 · have:E=0:=by
    rw[hE]at hs;have h1:E / 2^63=0:=by
     rw[qsE E 63]at hs;exact Int.ofNat.inj hs
    unfold bK at h0;omega
   subst this;rfl
 · exact congrArg Nat.cast (qtI (.inr (.inr ⟨qE.2 (by omega),h0⟩)))
theorem coV{a:Fm}(wa:Wf a)(most:Int):(bif okF a then qyd a (yk a.2.2.1 most)else qaS)=qay a most:=by
 unfold qay;cases oa:okF a with
 | false=>rfl
 | true=>
  have ta:Tells a:=by
   rcases yi a with⟨h1,_⟩ | ⟨h1,_⟩ | ⟨_,h2,h3⟩
   · rw[oa]at h1;cases h1
   · rw[oa]at h1;cases h1
   · exact qsC h3 h2 wa.1 wa.2.1 wa.2.2
  rw[zf,zf];have w:=qt0 (qiS oa) most a.2.2.2
  rw[qfv a.2.2.1 [] a.2.2.2 (qyY ta) (fun t ht=>by
   unfold qcU;rw[YI (ta.ft t ht)];exact⟨bK t.c.toNat,rfl,by have:=qaw t.c.toNat;omega⟩)]at w
  rw[← w];rfl
theorem qyZ(a b:Fm):(Js a b).2.2.1.length≤a.2.2.1.length:=by
 unfold Js;cases okF a&&okF b with
 | true=>exact KV (qg4 _) (qiT _ _)
 | false=>exact Ve _
theorem qy0(a:Fm)(most:Int):(qay a most).2.2.1.length≤a.2.2.1.length:=by
 unfold qay;cases okF a with
 | true=>exact KV (qg4 _) (qai _ _ _ _ _)
 | false=>exact Ve _
theorem qmq{a:Fm}(h:a.2.2.1.length≤500000000000):qfr a=some (ofF a):=by
 unfold qfr;rw[zB h,zf]
def qua(_:Fm×Fm×Int):Option Bool:=some true
theorem qy1(p:Fm×Fm×Int)(y:Bool)(hg:(dc jC (dc jC (d1 (cI .i64)))).good p)(h:qua p=some y):qCP p.1 p.2.1 p.2.2=some y:=by
 obtain⟨a,b,most⟩:=p;have:=soi h;subst this
 have wa:Wf a:=qt9 hg.1
 have wb:Wf b:=qt9 hg.2.1
 unfold qCP;simp only[];by_cases ha:40<(a.2.2.1.length:Int)
 · rw[zd ha];rfl
 by_cases hb:40<(b.2.2.1.length:Int)
 · rw[zd hb];cases decide (40<(a.2.2.1.length:Int)) <;> rfl
 rw[zh ha,zh hb,zi,zi];have s1:qfa (a,b)=some (Js a b):=by
  unfold qfa;simp only[];rw[zB (by omega),zf,joV wa wb]
 have s2:qcX (a,most)=some (qay a most):=by
  rw[← coV wa most];unfold qcX;simp only[];rw[zB (by omega),zf];cases okF a <;> rfl
 have l1:=qyZ a b;have l2:=qy0 a most;refine obs s1 (obs (qmq (a:=a) (by omega)) (obs (qmq (a:=b) (by omega)) (obs (qt7 (a:=a) (b:=b) (by omega) (by omega)) (obs (qtJ (a:=Js a b) (by omega)) ?_))))
 refine obs s2 (obs (qmq (a:=a) (by omega)) (obs (qyW (a:=a) (by omega) most) (obs (qtJ (a:=qay a most) (by omega)) ?_)))
 rfl
end
end Su
end
