/-
  The row: affineJoins_holds. The condition: none.
-/
import Derived.Test.YtnegfdebjikfiaaGreatES03
import Derived.Test.YtnegfdebjikfiaaGreatSuLb
import Derived.Test.YtnegfdebjikfiaaGreatRows
import Derived.WalkKit
import Derived.ProofKit
set_option linter.unusedVariables false
set_option linter.unusedSimpArgs false
set_option maxRecDepth 10000
namespace Su
open Go Fly Go.Proofs
theorem qdd{V:qb}{args:Array Value}{xs:List T}(hr:RepA V xs args.toList)(ht:All2 (qld Tryz.prog) [28,28,3] xs):yJ Tryz.prog 6 args V [] fun v _ _=>v = .bool true:=by
 cases ht with | cons t1 ht=>cases ht with | cons t2 ht=>cases ht with | cons t3 ht=>cases ht with | nil=>
 obtain⟨a1,h1⟩:=qoQ t1;obtain⟨a2,h2⟩:=qoQ t2;obtain⟨a3,h3⟩:=qDT t3;exact qzB qDO (fun _=>rfl) hr (qli h1 (qli h2 h3))
end Su
namespace Go.Proofs.YtnegfdebjikfiaaGreat
open Go Go.ChangeShapes Go.WideShapes Go.ChangeAt Go.RowKit Fly Su
set_option maxRecDepth 100000
theorem ownK:ownKnob Tryz.prog.godebug=none:=by kernel_rfl
theorem qES:Tryz.prog.underlying 4=some .bool:=by kernel_rfl
theorem qwd:Tryz.f6.params = #[28,28,3]:=by kernel_rfl
theorem qET:Tryz.f6.resultTypes = #[4]:=by kernel_rfl
def qzC:List Nat:=[28,26,58,4,23,3,30,25]
theorem qzD:∀t∈qzC,Yw Tryz.prog qzC t=true:=by
 have:(qzC.all fun t=>Yw Tryz.prog qzC t)=true:=by kernel_rfl
 exact KA.1 this
theorem qaZ(os:Os)(started:os.Started)(H:Type)(enc:TypeId×Value→H) :
 ReturnsInHanded {} Tryz.checked os 6 .any (Rows.affineJoinsSpec.pre6 enc Tryz.prog Tryz.f6 Rows.affineJoinsRow.domain false) (Rows.affineJoinsSpec.post enc Tryz.prog Tryz.f6 false true false false):=by
 refine returnsInHanded_of_change (C:=Tryz.checked) ownK started (by kernel_rfl) Tryz.func6
  (ChangeSpec.witness6 (enc:=enc) (C:=Tryz.checked) false ⟨#[],#[.agg #[.bool false,.int .u64 0,.slice none 0 0,.int .u64 0],.agg #[.bool false,.int .u64 0,.slice none 0 0,.int .u64 0],.int .i64 0],[]⟩ 12 (by kernel_rfl) (by kernel_rfl) (by kernel_rfl) (by kernel_rfl)) ?_
 intro W base args ds gs before hval0 hW hcnd _;refine qv9 (P:=Tryz.prog) (s:=Rows.affineJoinsSpec) (fn:=Tryz.f6) qzD (by rw[qwd];decide) qET qES rfl (fun ds hds=>?_) hval0 hW fun xs h1 h2=>?_
 · rw[qwd]at hds
   match ds,hds with
   | [d1,d2,d3],_=>rfl
 · rw[qwd]at h2
   exact qdd h1 h2
theorem affineJoins_holds:Rows.AffineJoinsSaid :=
 OpenClaim.holds_of_wide 6 Tryz.f6 rfl rfl rfl rfl rfl rfl rfl ⟨rfl,rfl,rfl,rfl,rfl⟩ rfl rfl rfl rfl rfl (by kernel_rfl) Tryz.func6 (by kernel_rfl)
  (Ku (by kernel_rfl)) (by unfold Func.isWrapper;first | (rw[zR (by decide +kernel)];kernel_rfl) | (rw[zP (by decide +kernel)];exact⟨rfl,rfl⟩))
  (fun os started H enc _=>qaZ os started H enc)
end Go.Proofs.YtnegfdebjikfiaaGreat
