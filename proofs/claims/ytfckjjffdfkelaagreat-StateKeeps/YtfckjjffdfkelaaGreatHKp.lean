/-
  The row: stateKeeps_holds. The condition: none.
-/
import Derived.Test.YtfckjjffdfkelaaGreatEC07
import Derived.Test.YtfckjjffdfkelaaGreatSuLb
import Derived.Test.YtfckjjffdfkelaaGreatRows
import Derived.WalkKit
import Derived.ProofKit
set_option maxRecDepth 10000
namespace Su
open Go Fly Go.Proofs
theorem qem {V:qc} {args:Array Value} {xs:List T} (hr:RepA V xs args.toList) (ht:All2 (qgt Tryz.prog) [27,32,70,2] xs):yA Tryz.prog 8 args V [] fun v _ _=>v = .bool true:=by
 cases ht with | cons t1 ht=>cases ht with | cons t2 ht=>cases ht with | cons t3 ht=>cases ht with | cons t4 ht=>cases ht with | nil =>
 obtain ⟨a1,h1⟩:=qB9 t1
 obtain ⟨a2,h2⟩:=qxJ t2
 obtain ⟨a3,h3⟩:=qG3 t3
 obtain ⟨a4,h4⟩:=qG4 t4
 exact qCa qBZ (fun _=>rfl) hr (qgl h1 (qgl h2 (qgl h3 h4)))
end Su
namespace Go.Proofs.YtfckjjffdfkelaaGreat
open Go Go.ChangeShapes Go.WideShapes Go.ChangeAt Go.RowKit Fly Su
set_option maxRecDepth 100000
theorem ownK:ownKnob Tryz.prog.godebug=none:=by kernel_rfl
theorem qIl:Tryz.prog.underlying 4=some .bool:=by kernel_rfl
theorem qxK:Tryz.f8.params = #[27,32,70,2]:=by kernel_rfl
theorem qIm:Tryz.f8.resultTypes = #[4]:=by kernel_rfl
def qCb:List Nat:=[27,32,70,48,4,45,3,2,21,9,46,22,52,30,64,29,55,57,59,62,60,103,23,279,24,282,25,277,280,33,34]
theorem qCc:∀ t∈qCb,Yp Tryz.prog qCb t=true:=by
 have:(qCb.all fun t=>Yp Tryz.prog qCb t)=true:=by kernel_rfl
 exact List.all_eq_true.1 this
theorem qcB (os:Os) (started:os.Started) (H:Type) (enc:TypeId×Value→H) :
 ReturnsInHanded {} Tryz.checked os 8 .any (Rows.stateKeepsSpec.pre6 enc Tryz.prog Tryz.f8 Rows.stateKeepsRow.domain false) (Rows.stateKeepsSpec.post enc Tryz.prog Tryz.f8 false true false false):=by
 refine returnsInHanded_of_change (C:=Tryz.checked) ownK started (by kernel_rfl) Tryz.func8
  (ChangeSpec.witness6 (enc:=enc) (C:=Tryz.checked) false ⟨#[],#[.agg #[.int .i64 0,.slice none 0 0,.slice none 0 0,.slice none 0 0,.slice none 0 0,.slice none 0 0,.int .i64 0],.agg #[.bool false,.bool false,.int .i64 0,.int .i64 0,.slice none 0 0],.slice none 0 0,.int .i64 0],[]⟩ 12 (by kernel_rfl) (by kernel_rfl) (by kernel_rfl) (by kernel_rfl)) ?_
 intro W base args ds gs before hval0 hW hcnd _
 refine qxD (P:=Tryz.prog) (s:=Rows.stateKeepsSpec) (fn:=Tryz.f8) qCc (by rw [qxK];decide) qIm qIl rfl (fun ds hds=>?_) hval0 hW fun xs h1 h2=>?_
 · rw [qxK] at hds
   match ds,hds with
   | [d1,d2,d3,d4],_=>rfl
 · rw [qxK] at h2
   exact qem h1 h2
theorem stateKeeps_holds:Rows.StateKeepsSaid :=
 OpenClaim.holds_of_wide 8 Tryz.f8 rfl rfl rfl rfl rfl rfl rfl ⟨rfl,rfl,rfl,rfl,rfl⟩ rfl rfl rfl rfl rfl (by kernel_rfl) Tryz.func8 (by kernel_rfl)
  (of_decide_eq_true (by kernel_rfl)) (by unfold Func.isWrapper;first | (rw [if_pos (by decide +kernel)];kernel_rfl) | (rw [if_neg (by decide +kernel)];exact ⟨rfl,rfl⟩))
  (fun os started H enc _=>qcB os started H enc)
end Go.Proofs.YtfckjjffdfkelaaGreat
