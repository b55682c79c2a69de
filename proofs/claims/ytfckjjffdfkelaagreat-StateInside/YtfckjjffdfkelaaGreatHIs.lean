/-
  The row: stateInside_holds. The condition: none.
-/
import Derived.Test.YtfckjjffdfkelaaGreatEC07
import Derived.Test.YtfckjjffdfkelaaGreatSuLb
import Derived.Test.YtfckjjffdfkelaaGreatRows
import Derived.WalkKit
import Derived.ProofKit
set_option maxRecDepth 10000
namespace Su
open Go Fly Go.Proofs
theorem qdB {V:qc} {args:Array Value} {xs:List T} (hr:RepA V xs args.toList) (ht:All2 (qf5 Tryz.prog) [27,32,32,70,2,45] xs):yt Tryz.prog 4 args V [] fun v _ _=>v = .bool true:=by
 cases ht with | cons t1 ht=>cases ht with | cons t2 ht=>cases ht with | cons t3 ht=>cases ht with | cons t4 ht=>cases ht with | cons t5 ht=>cases ht with | cons t6 ht=>cases ht with | nil =>
 obtain ⟨a1,h1⟩:=qB7 t1
 obtain ⟨a2,h2⟩:=qlU t2
 obtain ⟨a3,h3⟩:=qlU t3
 obtain ⟨a4,h4⟩:=qG2 t4
 obtain ⟨a5,h5⟩:=qG3 t5
 obtain ⟨a6,h6⟩:=qG4 t6
 exact qB8 qGV (fun _=>rfl) hr (ZC h1 (ZC h2 (ZC h3 (ZC h4 (ZC h5 h6)))))
end Su
namespace Go.Proofs.YtfckjjffdfkelaaGreat
open Go Go.ChangeShapes Go.WideShapes Go.ChangeAt Go.RowKit Fly Su
set_option maxRecDepth 100000
theorem ownK:ownKnob Tryz.prog.godebug=none:=by kernel_rfl
theorem qIj:Tryz.prog.underlying 4=some .bool:=by kernel_rfl
theorem qxB:Tryz.f4.params = #[27,32,32,70,2,45]:=by kernel_rfl
theorem qIk:Tryz.f4.resultTypes = #[4]:=by kernel_rfl
def qB9:List Nat:=[27,32,70,48,4,45,3,2,21,9,46,22,52,30,64,29,55,57,59,62,60,103,23,279,24,282,25,277,280,33,34]
theorem qCa:∀ t∈qB9,Yb Tryz.prog qB9 t=true:=by
 have:(qB9.all fun t=>Yb Tryz.prog qB9 t)=true:=by kernel_rfl
 exact List.all_eq_true.1 this
theorem qbf (os:Os) (started:os.Started) (H:Type) (enc:TypeId×Value→H) :
 ReturnsInHanded {} Tryz.checked os 4 .any (Rows.stateInsideSpec.pre6 enc Tryz.prog Tryz.f4 Rows.stateInsideRow.domain false) (Rows.stateInsideSpec.post enc Tryz.prog Tryz.f4 false true false false):=by
 refine returnsInHanded_of_change (C:=Tryz.checked) ownK started (by kernel_rfl) Tryz.func4
  (ChangeSpec.witness6 (enc:=enc) (C:=Tryz.checked) false ⟨#[],#[.agg #[.int .i64 0,.slice none 0 0,.slice none 0 0,.slice none 0 0,.slice none 0 0,.slice none 0 0,.int .i64 0],.agg #[.bool false,.bool false,.int .i64 0,.int .i64 0,.slice none 0 0],.agg #[.bool false,.bool false,.int .i64 0,.int .i64 0,.slice none 0 0],.slice none 0 0,.int .i64 0,.int .u64 0],[]⟩ 12 (by kernel_rfl) (by kernel_rfl) (by kernel_rfl) (by kernel_rfl)) ?_
 intro W base args ds gs before hval0 hW hcnd _
 refine qxw (P:=Tryz.prog) (s:=Rows.stateInsideSpec) (fn:=Tryz.f4) qCa (by rw [qxB];decide) qIk qIj rfl (fun ds hds=>?_) hval0 hW fun xs h1 h2=>?_
 · rw [qxB] at hds
   match ds,hds with
   | [d1,d2,d3,d4,d5,d6],_=>rfl
 · rw [qxB] at h2
   exact qdB h1 h2
theorem stateInside_holds:Rows.StateInsideSaid :=
 OpenClaim.holds_of_wide 4 Tryz.f4 rfl rfl rfl rfl rfl rfl rfl ⟨rfl,rfl,rfl,rfl,rfl⟩ rfl rfl rfl rfl rfl (by kernel_rfl) Tryz.func4 (by kernel_rfl)
  (of_decide_eq_true (by kernel_rfl)) (by unfold Func.isWrapper;first | (rw [if_pos (by decide +kernel)];kernel_rfl) | (rw [if_neg (by decide +kernel)];exact ⟨rfl,rfl⟩))
  (fun os started H enc _=>qbf os started H enc)
end Go.Proofs.YtfckjjffdfkelaaGreat
