/-
  The row: stateOrder_holds. The condition: none.
-/
import Derived.Test.YtfckjjffdfkelaaGreatEC07
import Derived.Test.YtfckjjffdfkelaaGreatSuLa
import Derived.Test.YtfckjjffdfkelaaGreatRows
import Derived.WalkKit
import Derived.ProofKit
set_option maxRecDepth 10000
namespace Su
open Go Fly Go.Proofs
theorem qd8 {V:qc} {args:Array Value} {xs:List T} (hr:RepA V xs args.toList) (ht:All2 (qnA Tryz.prog) [27,32,32] xs):yp Tryz.prog 6 args V [] fun v _ _=>v = .bool true:=by
 cases ht with | cons t1 ht=>cases ht with | cons t2 ht=>cases ht with | cons t3 ht=>cases ht with | nil =>
 obtain ⟨a1,h1⟩:=qCf t1
 obtain ⟨a2,h2⟩:=qmb t2
 obtain ⟨a3,h3⟩:=qmb t3
 exact qCg qG3 (fun _=>rfl) hr (qma h1 (qma h2 h3))
end Su
namespace Go.Proofs.YtfckjjffdfkelaaGreat
open Go Go.ChangeShapes Go.WideShapes Go.ChangeAt Go.RowKit Fly Su
set_option maxRecDepth 100000
theorem ownK:ownKnob Tryz.prog.godebug=none:=by kernel_rfl
theorem qIl:Tryz.prog.underlying 4=some .bool:=by kernel_rfl
theorem qxO:Tryz.f6.params = #[27,32,32]:=by kernel_rfl
theorem qIm:Tryz.f6.resultTypes = #[4]:=by kernel_rfl
def qCh:List Nat:=[27,32,70,48,4,45,3,2,21,9,46,22,52,30,64,29,55,57,59,62,60,103,23,279,24,282,25,277,280,33,34]
theorem qCi:∀ t∈qCh,Yn Tryz.prog qCh t=true:=by
 have:(qCh.all fun t=>Yn Tryz.prog qCh t)=true:=by kernel_rfl
 exact List.all_eq_true.1 this
theorem qcq (os:Os) (started:os.Started) (H:Type) (enc:TypeId×Value→H) :
 ReturnsInHanded {} Tryz.checked os 6 .any (Rows.stateOrderSpec.pre6 enc Tryz.prog Tryz.f6 Rows.stateOrderRow.domain false) (Rows.stateOrderSpec.post enc Tryz.prog Tryz.f6 false true false false):=by
 refine returnsInHanded_of_change (C:=Tryz.checked) ownK started (by kernel_rfl) Tryz.func6
  (ChangeSpec.witness6 (enc:=enc) (C:=Tryz.checked) false ⟨#[],#[.agg #[.int .i64 0,.slice none 0 0,.slice none 0 0,.slice none 0 0,.slice none 0 0,.slice none 0 0,.int .i64 0],.agg #[.bool false,.bool false,.int .i64 0,.int .i64 0,.slice none 0 0],.agg #[.bool false,.bool false,.int .i64 0,.int .i64 0,.slice none 0 0]],[]⟩ 12 (by kernel_rfl) (by kernel_rfl) (by kernel_rfl) (by kernel_rfl)) ?_
 intro W base args ds gs before hval0 hW hcnd _
 refine qxK (P:=Tryz.prog) (s:=Rows.stateOrderSpec) (fn:=Tryz.f6) qCi (by rw [qxO];decide) qIm qIl rfl (fun ds hds=>?_) hval0 hW fun xs h1 h2=>?_
 · rw [qxO] at hds
   match ds,hds with
   | [d1,d2,d3],_=>rfl
 · rw [qxO] at h2
   exact qd8 h1 h2
theorem stateOrder_holds:Rows.StateOrderSaid :=
 OpenClaim.holds_of_wide 6 Tryz.f6 rfl rfl rfl rfl rfl rfl rfl ⟨rfl,rfl,rfl,rfl,rfl⟩ rfl rfl rfl rfl rfl (by kernel_rfl) Tryz.func6 (by kernel_rfl)
  (of_decide_eq_true (by kernel_rfl)) (by unfold Func.isWrapper;first | (rw [if_pos (by decide +kernel)];kernel_rfl) | (rw [if_neg (by decide +kernel)];exact ⟨rfl,rfl⟩))
  (fun os started H enc _=>qcq os started H enc)
end Go.Proofs.YtfckjjffdfkelaaGreat
