/-
  Bits and rounding, in plain Lean. No condition.
-/
import Derived.Test.YtfckjjffdfkelaaGreatRro
import Derived.Test.YtfckjjffdfkelaaGreatNC19
set_option linter.unusedVariables false
set_option linter.unusedSimpArgs false
set_option maxRecDepth 10000
namespace Su
open Go Fly
def qEU(c:Int):Prop:=∃C:Nat,c=(C:Int)∧C<18446744073709551616
theorem qkb{c:Int}:zI c=true↔bK c.toNat=0:=by
 unfold zI;rw[beq_dec];simp
structure Tells (a:Fm):Prop where
 ok:a.1=false
 wm:qEU a.2.1
 fm:fI a.2.1=true
 nm:a.2.1≠9223372036854775808
 we:qEU a.2.2.2
 fe:fI a.2.2.2=true
 se:Int.fdiv a.2.2.2 (2^63)=0
 wt:∀t∈a.2.2.1,qEU t.c
 ft:∀t∈a.2.2.1,fI t.c=true
 zt:∀t∈a.2.2.1,zI t.c=false
 rise:ye (-1) a.2.2.1=true
end Su
