/-
  The row: affineCovers_holds. The condition: none.
-/
import Derived.Test.YtfckjjffdfkelaaGreatEC31
import Derived.Test.YtfckjjffdfkelaaGreatRows
import Derived.WalkKit
import Derived.ProofKit
set_option maxRecDepth 10000
namespace Su
open Go Fly Go.Proofs
theorem qcX {V:qc} {args:Array Value} {xs:List T} (hr:RepA V xs args.toList) (ht:All2 (qgI Tryz.prog) [62,62,25,3,3,59] xs):yq Tryz.prog 10 args V [] fun v _ _=>v = .bool true:=by
 cases ht with | cons t1 ht=>cases ht with | cons t2 ht=>cases ht with | cons t3 ht=>cases ht with | cons t4 ht=>cases ht with | cons t5 ht=>cases ht with | cons t6 ht=>cases ht with | nil =>
 obtain ⟨a1,h1⟩:=qpW t1
 obtain ⟨a2,h2⟩:=qpW t2
 obtain ⟨a3,h3⟩:=qGc t3
 obtain ⟨a4,h4⟩:=qwJ t4
 obtain ⟨a5,h5⟩:=qwJ t5
 obtain ⟨a6,h6⟩:=qAH t6
 exact qAI qE3 (fun _=>rfl) hr (qaN h1 (qaN h2 (qaN h3 (qaN h4 (qaN h5 h6)))))
end Su
namespace Go.Proofs.YtfckjjffdfkelaaGreat
open Go Go.ChangeShapes Go.WideShapes Go.ChangeAt Go.RowKit Fly Su
set_option maxRecDepth 100000
theorem ownK:ownKnob Tryz.prog.godebug=none:=by kernel_rfl
theorem qGd:Tryz.prog.underlying 4=some .bool:=by kernel_rfl
theorem qwK:Tryz.f10.params = #[62,62,25,3,3,59]:=by kernel_rfl
theorem qGe:Tryz.f10.resultTypes = #[4]:=by kernel_rfl
def qAJ:List Nat:=[62,60,103,4,45,3,25,59]
theorem qAK:∀ t∈qAJ,Zx Tryz.prog qAJ t=true:=by
 have:(qAJ.all fun t=>Zx Tryz.prog qAJ t)=true:=by kernel_rfl
 exact List.all_eq_true.1 this
theorem qbg (os:Os) (started:os.Started) (H:Type) (enc:TypeId×Value→H) :
 ReturnsInHanded {} Tryz.checked os 10 .any (Rows.affineCoversSpec.pre6 enc Tryz.prog Tryz.f10 Rows.affineCoversRow.domain false) (Rows.affineCoversSpec.post enc Tryz.prog Tryz.f10 false true false false):=by
 refine returnsInHanded_of_change (C:=Tryz.checked) ownK started (by kernel_rfl) Tryz.func10
  (ChangeSpec.witness6 (enc:=enc) (C:=Tryz.checked) false ⟨#[],#[.agg #[.bool false,.int .u64 0,.slice none 0 0,.int .u64 0],.agg #[.bool false,.int .u64 0,.slice none 0 0,.int .u64 0],.slice none 0 0,.int .i64 0,.int .i64 0,.agg #[.bool false,.int .u64 0,.int .u64 0]],[]⟩ 12 (by kernel_rfl) (by kernel_rfl) (by kernel_rfl) (by kernel_rfl)) ?_
 intro W base args ds gs before hval0 hW hcnd _
 refine qwF (P:=Tryz.prog) (s:=Rows.affineCoversSpec) (fn:=Tryz.f10) qAK (by rw [qwK];decide) qGe qGd rfl (fun ds hds=>?_) hval0 hW fun xs h1 h2=>?_
 · rw [qwK] at hds
   match ds,hds with
   | [d1,d2,d3,d4,d5,d6],_=>rfl
 · rw [qwK] at h2
   exact qcX h1 h2
theorem affineCovers_holds:Rows.AffineCoversSaid :=
 OpenClaim.holds_of_wide 10 Tryz.f10 rfl rfl rfl rfl rfl rfl rfl ⟨rfl,rfl,rfl,rfl,rfl⟩ rfl rfl rfl rfl rfl (by kernel_rfl) Tryz.func10 (by kernel_rfl)
  (of_decide_eq_true (by kernel_rfl)) (by unfold Func.isWrapper;first | (rw [if_pos (by decide +kernel)];kernel_rfl) | (rw [if_neg (by decide +kernel)];exact ⟨rfl,rfl⟩))
  (fun os started H enc _=>qbg os started H enc)
end Go.Proofs.YtfckjjffdfkelaaGreat
