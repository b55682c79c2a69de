/-
  Bits and rounding, in plain Lean. No condition.
-/
import Derived.Test.YtldhknmacepeiaaGreatDoorNT04
import Derived.Test.YtldhknmacepeiaaGreatDoorSuXl
import Derived.Test.YtldhknmacepeiaaGreatDoorSuSd
set_option linter.unusedVariables false
set_option linter.unusedSimpArgs false
set_option maxRecDepth 10000
section
namespace Su
noncomputable section
open Go Fly
def p75L:{n:Nat // n=2^1075}:=Classical.choice ⟨⟨_,rfl⟩⟩
def P75:Nat:=p75L.1
def qsT(k:Nat):Nat:=kV k+kV (k+1)
def Nr(N D k:Nat):Prop :=
 (k=0∨D*qsT (k-1)<N*P75∨D*qsT (k-1)=N*P75∧k % 2=0)∧(k≤qhw→N*P75<D*qsT k∨N*P75=D*qsT k∧k % 2=0)∧k≤qhw+1
end
end Su
end
section
namespace Su
open Go Fly
end Su
namespace Su
open Go Fly
def pT(q:Int):Nat:=10^q.toNat
def pU(q:Int):Nat:=10^(-q).toNat
theorem qv9(q:Int):0<pT q:=Nat.pow_pos (by decide)
theorem qwa(q:Int):0<pU q:=Nat.pow_pos (by decide)
end Su
end
section
namespace Su
open Go Fly
noncomputable section
def dOf  (f:Int):Option ((List Int)×List Int) :=
 (qaM ((ofN (qc [(IntKind.wrap .u32 (((spM (bK f.toNat)):Nat):Int)),(IntKind.wrap .u32 (Int.fdiv (((spM (bK f.toNat)):Nat):Int) (2^32)))])),(spE (bK f.toNat)))).bind fun x0=>
 (qaM ((ofN 1),(IntKind.wrap .i64 (0-(spE (bK f.toNat)))))).bind fun x1=>
 some (x0.1,x1.1)
def quj  (v:((List Int)×List Int))(q:Int):Option ((List Int)×List Int) :=
 (jQ (IntKind.wrap .i64 (0-q))).bind fun x0=>
 (ye (v.1,x0)).bind fun x1=>
 (jQ q).bind fun x2=>
 (ye (v.2,x2)).bind fun x3=>
 (qb7 (x1,x3)).bind fun x4=>
 (qb5 (x4.1,(ofN 1))).bind fun x5=>
 (qb5 (x4.2.1,x4.2.1)).bind fun x6=>
 (jQ q).bind fun x7=>
 (ye (v.2,x7)).bind fun x8=>
 (bif(decide (0<(ZD (qc x6) (qc x8))))then
 some (x5,x4.1)
 else
  (bif(decide ((ZD (qc x6) (qc x8))=0))then
  (Bit x4.1 0).bind fun x9=>
  (bif(decide (x9=1))then
  some (x5,x4.1)
 else
  some (x4.1,x5))
 else
  some (x4.1,x5)))
end
end Su
end
section
namespace Su
open Go Fly
def p0(d:Int):Int:=Int.tdiv (d*30103) 100000-2
def IsD(k n:Nat)(q:Int):Prop:=n≠0∧n≤10^18∧-400≤q∧q≤400∧qca false 0 (n*pT q) (pU q)=k
def ansD(n:Nat)(q:Int):ByteArray×Int:=(bs (yx 48 (dg n)),q+(((dg n).length:Nat):Int)-(((yx 48 (dg n)).length:Nat):Int))
end Su
end
section
namespace Su
open Go Fly
noncomputable section
def yS{S R:Type}(K:Nat)(F:S→Option (S ⊕ R))(s:S)(r:R):Prop:=∀m,K≤m→itP m F s=some r
theorem yS.next{S R:Type}{K:Nat}{F:S→Option (S ⊕ R)}{s s':S}{r:R}(h:F s=some (.inl s'))(hn:yS K F s' r):yS (K+1) F s r:=fun m hm=>by
 obtain⟨j,rfl⟩:∃j,m=j+1:=⟨m-1,by omega⟩
 rw[jj,h];exact hn j (by omega)
theorem yS.stop{S R:Type}{K:Nat}{F:S→Option (S ⊕ R)}{s:S}{r:R}(h:F s=some (.inr r)):yS (K+1) F s r:=fun m hm=>by
 obtain⟨j,rfl⟩:∃j,m=j+1:=⟨m-1,by omega⟩
 rw[jj,h];rfl
theorem yS.up{S R:Type}{K K':Nat}{F:S→Option (S ⊕ R)}{s:S}{r:R}(h:yS K F s r)(hk:K≤K'):yS K' F s r:=fun m hm=>h m (by omega)
theorem w1{i n:Nat}(h:i<n)(hn:n≤maxLen):IntKind.i64.wrap ((i:Int)+1)=((i+1:Nat):Int):=by
 rw[yA]at hn;rw[w64 (by omega) (by omega)];rfl
end
end Su
end
