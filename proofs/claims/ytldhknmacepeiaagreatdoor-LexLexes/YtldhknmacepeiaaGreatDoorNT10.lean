/-
  What functions of the program compute, in plain Lean, and that the evaluator finds it.
-/
import Derived.Test.YtldhknmacepeiaaGreatDoorSuXl
import Derived.Test.YtldhknmacepeiaaGreatDoorRfc
set_option linter.unusedVariables false
set_option linter.unusedSimpArgs false
set_option maxRecDepth 10000
section
namespace Su
open Go Fly
noncomputable section
theorem qBy{q:Int}(h:q≤2000):yR q=some (ofN (pT q)):=by unfold yR;rw[za (by omega)];rfl
theorem qBz{q:Int}(h : -2000≤q):yR (-q)=some (ofN (pU q)):=by unfold yR;rw[za (by omega)];rfl
set_option exponentiation.threshold 1200 in
abbrev InS:=Int×((List Int)×(List Int)×Int×Int×(List Int)×(List Int)×Unit)
abbrev inS(N D k n0 n1:Nat)(q j:Int):InS:=(q,ofN n0,ofN n1,j,(k:Int),ofN N,ofN D,())
theorem qly(v:Nat)(h:qj v≤40000):Nat.ble (ofN v).length 100000=true:=zo (by have:=qbi v;omega)
theorem bl_t{q:Int}(h:q≤420):qj (pT q)≤1681:=by have:=Qm q.toNat;unfold pT;omega
open Classical in
end
end Su
end
section
namespace Su
open Go Fly
noncomputable section
theorem qpP(m n:Nat):Int.tdiv (m:Int) (n:Int)=((m / n:Nat):Int):=rfl
theorem qpQ(m n:Nat):Int.tmod (m:Int) (n:Int)=((m % n:Nat):Int):=rfl
end
end Su
end
section
namespace Su
open Go Fly
noncomputable section
theorem bdT{α:Type}{p:Prop}[Decidable p](h:p)(a b:α):(bif decide p then a else b)=a:=by rw[za h];rfl
theorem bdF{α:Type}{p:Prop}[Decidable p](h : ¬p)(a b:α):(bif decide p then a else b)=b:=by rw[zi h];rfl
theorem bdB{α:Type}{n m:Nat}(h:n≤m)(a b:α):(bif Nat.ble n m then a else b)=a:=by rw[zo h];rfl
end
end Su
end
