/-
  The row: affineSound_holds. The condition: none.
-/
import Derived.Test.YtfckjjffdfkelaaGreatEC08
import Derived.Test.YtfckjjffdfkelaaGreatSuLb
import Derived.Test.YtfckjjffdfkelaaGreatRows
import Derived.WalkKit
import Derived.ProofKit
set_option maxRecDepth 10000
namespace Su
open Go Fly Go.Proofs
theorem affineSound_fing {V:View} {args:Array Value} {xs:List T} (hr:RepA V xs args.toList) (ht:All2 (IsTy Tryz.prog) [62,62,25,3,3] xs):Fing Tryz.prog 9 args V [] fun v _ _=>v = .bool true:=by
 cases ht with | cons t1 ht=>cases ht with | cons t2 ht=>cases ht with | cons t3 ht=>cases ht with | cons t4 ht=>cases ht with | cons t5 ht=>cases ht with | nil =>
 obtain ⟨a1,h1⟩:=ty_form t1
 obtain ⟨a2,h2⟩:=ty_form t2
 obtain ⟨a3,h3⟩:=ty_is t3
 obtain ⟨a4,h4⟩:=ty_int t4
 obtain ⟨a5,h5⟩:=ty_int t5
 exact fing_of lSnd_c (fun _=>rfl) hr (dec_cons h1 (dec_cons h2 (dec_cons h3 (dec_cons h4 h5))))
end Su
namespace Go.Proofs.YtfckjjffdfkelaaGreat
open Go Go.ChangeShapes Go.WideShapes Go.ChangeAt Go.RowKit Fly Su
set_option maxRecDepth 100000
theorem ownK:ownKnob Tryz.prog.godebug=none:=by kernel_rfl
theorem uBool:Tryz.prog.underlying 4=some .bool:=by kernel_rfl
theorem par_f:Tryz.f9.params = #[62,62,25,3,3]:=by kernel_rfl
theorem res_f:Tryz.f9.resultTypes = #[4]:=by kernel_rfl
def rTys:List Nat:=[62,60,103,4,45,3,25,59]
theorem rTys_ok:∀ t∈rTys,okTy Tryz.prog rTys t=true:=by
 have:(rTys.all fun t=>okTy Tryz.prog rTys t)=true:=by kernel_rfl
 exact List.all_eq_true.1 this
theorem affineSound_lifted (os:Os) (started:os.Started) (H:Type) (enc:TypeId×Value→H) :
 ReturnsInHanded {} Tryz.checked os 9 .any (Rows.affineSoundSpec.pre6 enc Tryz.prog Tryz.f9 Rows.affineSoundRow.domain false) (Rows.affineSoundSpec.post enc Tryz.prog Tryz.f9 false true false false):=by
 refine returnsInHanded_of_change (C:=Tryz.checked) ownK started (by kernel_rfl) Tryz.func9
  (ChangeSpec.witness6 (enc:=enc) (C:=Tryz.checked) false ⟨#[],#[.agg #[.bool false,.int .u64 0,.slice none 0 0,.int .u64 0],.agg #[.bool false,.int .u64 0,.slice none 0 0,.int .u64 0],.slice none 0 0,.int .i64 0,.int .i64 0],[]⟩ 12 (by kernel_rfl) (by kernel_rfl) (by kernel_rfl) (by kernel_rfl)) ?_
 intro W base args ds gs before hval0 hW hcnd _
 refine law_post (P:=Tryz.prog) (s:=Rows.affineSoundSpec) (fn:=Tryz.f9) rTys_ok (by rw [par_f];decide) res_f uBool rfl (fun ds hds=>?_) hval0 hW fun xs h1 h2=>?_
 · rw [par_f] at hds
   match ds,hds with
   | [d1,d2,d3,d4,d5],_=>rfl
 · rw [par_f] at h2
   exact affineSound_fing h1 h2
theorem affineSound_holds:Rows.AffineSoundSaid :=
 OpenClaim.holds_of_wide 9 Tryz.f9 rfl rfl rfl rfl rfl rfl rfl ⟨rfl,rfl,rfl,rfl,rfl⟩ rfl rfl rfl rfl rfl (by kernel_rfl) Tryz.func9 (by kernel_rfl)
  (of_decide_eq_true (by kernel_rfl)) (by unfold Func.isWrapper;first | (rw [if_pos (by decide +kernel)];kernel_rfl) | (rw [if_neg (by decide +kernel)];exact ⟨rfl,rfl⟩))
  (fun os started H enc _=>affineSound_lifted os started H enc)
end Go.Proofs.YtfckjjffdfkelaaGreat
