/-
  The row: stateBegins_holds. The condition: none.
-/
import Derived.Test.YtfckjjffdfkelaaGreatEC07
import Derived.Test.YtfckjjffdfkelaaGreatSuLb
import Derived.Test.YtfckjjffdfkelaaGreatRows
import Derived.WalkKit
import Derived.ProofKit
set_option maxRecDepth 10000
namespace Su
open Go Fly Go.Proofs
theorem qdb {V:qc} {args:Array Value} {xs:List T} (hr:RepA V xs args.toList) (ht:All2 (qi4 Tryz.prog) [27,48,48,2] xs):yp Tryz.prog 5 args V [] fun v _ _=>v = .bool true:=by
 cases ht with | cons t1 ht=>cases ht with | cons t2 ht=>cases ht with | cons t3 ht=>cases ht with | cons t4 ht=>cases ht with | nil =>
 obtain ⟨a1,h1⟩:=qAR t1
 obtain ⟨a2,h2⟩:=qB0 t2
 obtain ⟨a3,h3⟩:=qB0 t3
 obtain ⟨a4,h4⟩:=qFB t4
 exact qAS qFw (fun _=>rfl) hr (qfD h1 (qfD h2 (qfD h3 h4)))
end Su
namespace Go.Proofs.YtfckjjffdfkelaaGreat
open Go Go.ChangeShapes Go.WideShapes Go.ChangeAt Go.RowKit Fly Su
set_option maxRecDepth 100000
theorem ownK:ownKnob Tryz.prog.godebug=none:=by kernel_rfl
theorem qGL:Tryz.prog.underlying 4=some .bool:=by kernel_rfl
theorem qwC:Tryz.f5.params = #[27,48,48,2]:=by kernel_rfl
theorem qGM:Tryz.f5.resultTypes = #[4]:=by kernel_rfl
def qAT:List Nat:=[27,32,70,48,4,45,3,2,21,9,46,22,52,30,64,29,55,57,59,62,60,103,23,279,24,282,25,277,280,33,34]
theorem qAU:∀ t∈qAT,J5 Tryz.prog qAT t=true:=by
 have:(qAT.all fun t=>J5 Tryz.prog qAT t)=true:=by kernel_rfl
 exact List.all_eq_true.1 this
theorem qaS (os:Os) (started:os.Started) (H:Type) (enc:TypeId×Value→H) :
 ReturnsInHanded {} Tryz.checked os 5 .any (Rows.stateBeginsSpec.pre6 enc Tryz.prog Tryz.f5 Rows.stateBeginsRow.domain false) (Rows.stateBeginsSpec.post enc Tryz.prog Tryz.f5 false true false false):=by
 refine returnsInHanded_of_change (C:=Tryz.checked) ownK started (by kernel_rfl) Tryz.func5
  (ChangeSpec.witness6 (enc:=enc) (C:=Tryz.checked) false ⟨#[],#[.agg #[.int .i64 0,.slice none 0 0,.slice none 0 0,.slice none 0 0,.slice none 0 0,.slice none 0 0,.int .i64 0],.agg #[.int .u8 0,.bool false,.int .i32 0,.int .u64 0],.agg #[.int .u8 0,.bool false,.int .i32 0,.int .u64 0],.int .i64 0],[]⟩ 12 (by kernel_rfl) (by kernel_rfl) (by kernel_rfl) (by kernel_rfl)) ?_
 intro W base args ds gs before hval0 hW hcnd _
 refine qwv (P:=Tryz.prog) (s:=Rows.stateBeginsSpec) (fn:=Tryz.f5) qAU (by rw [qwC];decide) qGM qGL rfl (fun ds hds=>?_) hval0 hW fun xs h1 h2=>?_
 · rw [qwC] at hds
   match ds,hds with
   | [d1,d2,d3,d4],_=>rfl
 · rw [qwC] at h2
   exact qdb h1 h2
theorem stateBegins_holds:Rows.StateBeginsSaid :=
 OpenClaim.holds_of_wide 5 Tryz.f5 rfl rfl rfl rfl rfl rfl rfl ⟨rfl,rfl,rfl,rfl,rfl⟩ rfl rfl rfl rfl rfl (by kernel_rfl) Tryz.func5 (by kernel_rfl)
  (of_decide_eq_true (by kernel_rfl)) (by unfold Func.isWrapper;first | (rw [if_pos (by decide +kernel)];kernel_rfl) | (rw [if_neg (by decide +kernel)];exact ⟨rfl,rfl⟩))
  (fun os started H enc _=>qaS os started H enc)
end Go.Proofs.YtfckjjffdfkelaaGreat
