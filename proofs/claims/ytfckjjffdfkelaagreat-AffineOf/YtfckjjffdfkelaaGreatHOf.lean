/-
  The row: affineOf_holds. The condition: none.
-/
import Derived.Test.YtfckjjffdfkelaaGreatHSoL
import Derived.Test.YtfckjjffdfkelaaGreatSuRd
import Derived.Test.YtfckjjffdfkelaaGreatRows
import Derived.WalkKit
import Derived.ProofKit
set_option linter.unusedVariables false
set_option linter.unusedSimpArgs false
set_option maxRecDepth 10000
namespace Su
open Go Fly Go.Proofs
theorem qg7{V:qc}{args:Array Value}{xs:List T}(hr:RepA V xs args.toList)(ht:All2 (qkX Tryz.prog) [62,62,45,3] xs):yg Tryz.prog 11 args V [] fun v _ _=>v = .bool true:=by
 cases ht with | cons t1 ht=>cases ht with | cons t2 ht=>cases ht with | cons t3 ht=>cases ht with | cons t4 ht=>cases ht with | nil=>
 obtain⟨a1,h1⟩:=qrb t1;obtain⟨a2,h2⟩:=qrb t2;obtain⟨a3,h3⟩:=qGw t3;obtain⟨a4,h4⟩:=qGv t4;exact qB8 qHw (fun _=>rfl) hr (qgO h1 (qgO h2 (qgO h3 h4)))
end Su
namespace Go.Proofs.YtfckjjffdfkelaaGreat
open Go Go.ChangeShapes Go.WideShapes Go.ChangeAt Go.RowKit Fly Su
set_option maxRecDepth 100000
theorem ownK:ownKnob Tryz.prog.godebug=none:=by kernel_rfl
theorem qHB:Tryz.prog.underlying 4=some .bool:=by kernel_rfl
theorem qx2:Tryz.f11.params = #[62,62,45,3]:=by kernel_rfl
theorem qHC:Tryz.f11.resultTypes = #[4]:=by kernel_rfl
def qB9:List Nat:=[62,60,103,4,45,3,25,59]
theorem qCa:∀t∈qB9,ZJ Tryz.prog qB9 t=true:=by
 have:(qB9.all fun t=>ZJ Tryz.prog qB9 t)=true:=by kernel_rfl
 exact KH.1 this
theorem qeF(os:Os)(started:os.Started)(H:Type)(enc:TypeId×Value→H) :
 ReturnsInHanded {} Tryz.checked os 11 .any (Rows.affineOfSpec.pre6 enc Tryz.prog Tryz.f11 Rows.affineOfRow.domain false) (Rows.affineOfSpec.post enc Tryz.prog Tryz.f11 false true false false):=by
 refine returnsInHanded_of_change (C:=Tryz.checked) ownK started (by kernel_rfl) Tryz.func11
  (ChangeSpec.witness6 (enc:=enc) (C:=Tryz.checked) false ⟨#[],#[.agg #[.bool false,.int .u64 0,.slice none 0 0,.int .u64 0],.agg #[.bool false,.int .u64 0,.slice none 0 0,.int .u64 0],.int .u64 0,.int .i64 0],[]⟩ 12 (by kernel_rfl) (by kernel_rfl) (by kernel_rfl) (by kernel_rfl)) ?_
 intro W base args ds gs before hval0 hW hcnd _;refine qxW (P:=Tryz.prog) (s:=Rows.affineOfSpec) (fn:=Tryz.f11) qCa (by rw[qx2];decide) qHC qHB rfl (fun ds hds=>?_) hval0 hW fun xs h1 h2=>?_
 · rw[qx2]at hds
   match ds,hds with
   | [d1,d2,d3,d4],_=>rfl
 · rw[qx2]at h2
   exact qg7 h1 h2
theorem affineOf_holds:Rows.AffineOfSaid :=
 OpenClaim.holds_of_wide 11 Tryz.f11 rfl rfl rfl rfl rfl rfl rfl ⟨rfl,rfl,rfl,rfl,rfl⟩ rfl rfl rfl rfl rfl (by kernel_rfl) Tryz.func11 (by kernel_rfl)
  (KC (by kernel_rfl)) (by unfold Func.isWrapper;first | (rw[Kp (by decide +kernel)];kernel_rfl) | (rw[zZ (by decide +kernel)];exact⟨rfl,rfl⟩))
  (fun os started H enc _=>qeF os started H enc)
end Go.Proofs.YtfckjjffdfkelaaGreat
