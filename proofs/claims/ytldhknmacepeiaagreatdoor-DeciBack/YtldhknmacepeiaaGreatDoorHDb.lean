/-
  The row: deciBack_holds. The condition: none.
-/
import Derived.Test.YtldhknmacepeiaaGreatDoorHCn
import Derived.Test.YtldhknmacepeiaaGreatDoorSuLb
import Derived.Test.YtldhknmacepeiaaGreatDoorTie
import Derived.SevenTiedAt
set_option linter.unusedVariables false
set_option linter.unusedSimpArgs false
set_option maxRecDepth 10000
namespace Su
open Go Fly Go.Proofs
theorem deciBack_fing{V:View}(gk:GOK tb V){args:Array Value}{xs:List T}(hr:RepA V xs args.toList)(ht:All2 (IsTy Tryz.prog) [23] xs):Fing Tryz.prog 4 args V [] fun v _ _=>v = .bool true:=by
 cases ht with | cons t1 ht=>cases ht with | nil=>
 obtain⟨a1,h1⟩:=ty_flt t1;exact fing_of lBac_c (fun _=>rfl) gk hr h1
end Su
namespace Go.Proofs.YtldhknmacepeiaaGreatDoor
open Go Go.ChangeShapes Go.WideShapes Go.ChangeAt Go.RowKit Fly Su
set_option maxRecDepth 100000
theorem par_f:Tryz.f4.params = #[23]:=by kernel_rfl
theorem res_f:Tryz.f4.resultTypes = #[4]:=by kernel_rfl
def rTys:List Nat:=[4,23]
theorem rTys_ok:∀t∈rTys,okTy Tryz.prog rTys t=true:=by
 have:(rTys.all fun t=>okTy Tryz.prog rTys t)=true:=by kernel_rfl
 exact jh.1 this
noncomputable def w0:Array Value:=#[.int .u64 0]
theorem deciBack_lifted(os:Os)(started:os.Started)(H:Type)(enc:TypeId×Value→H) :
 ReturnsInHanded {} Tryz.checked os 4 .any (fun w args=>(Rows.deciBackSpec.pre enc Tryz.prog Tryz.f4 [] false w args∧laidMetH Tryz.prog Rows.deciBackRow.laid w)∧sizedMet enc Tryz.prog Tryz.f4 (OpenSpec.ofChange Rows.deciBackSpec) false w args)
  (Rows.deciBackSpec.post enc Tryz.prog Tryz.f4 false true false false):=by
 refine returnsInHanded_of_change_and (C:=Tryz.checked) (X:=fun w _=>laidMetH Tryz.prog Rows.deciBackRow.laid w) (fun _ _ _ hh h=>h.of_heap hh) ownK started (by kernel_rfl) Tryz.func4
  (ChangeSpec.witness_shaped (enc:=enc) (C:=Tryz.checked) (os:=os) (X:=fun w _=>laidMetH Tryz.prog Rows.deciBackRow.laid w) false (laidW os) w0 8 rfl (World.shaped_of_RefB (by kernel_rfl) (by kernel_rfl)) (by kernel_rfl) (by kernel_rfl) (by kernel_rfl) (door_met os _)) ?_
 intro W base args ds gs before hval0 hW _ _ hL _;refine law_post (P:=Tryz.prog) (s:=Rows.deciBackSpec) (fn:=Tryz.f4) rTys_ok (by rw[par_f];decide) res_f uBool rfl (fun ds hds=>?_) hval0 hW fun xs h1 h2=>?_
 · rw[par_f]at hds
   match ds,hds with
   | [d1],_=>rfl
 · rw[par_f]at h2
   exact deciBack_fing (gok_laid hL) h1 h2
theorem deciBack_row:Rows.DeciBackSaid :=
 OpenClaim.holds_of_wide 4 Tryz.f4 rfl rfl rfl rfl rfl rfl rfl ⟨rfl,rfl,rfl,rfl,rfl⟩ rfl rfl rfl rfl rfl (by kernel_rfl) Tryz.func4 (by kernel_rfl)
  (yp (by kernel_rfl)) (by unfold Func.isWrapper;first | (rw[qT (by decide +kernel)];kernel_rfl) | (rw[qI (by decide +kernel)];exact⟨rfl,rfl⟩))
  (fun os started H enc _=>deciBack_lifted os started H enc)
theorem deciBack_holds:Rows.DeciBackCardSaid :=
 Claim7.holds_tied_plain_at .later [] [.data,.data,.data,.data,.pinned] true (true,"bec51637f44b2d08a4e7a99698ead0382cbe30e10acba2c740bfdad54f541158") true
  deciBack_row (fun _ h=>by cases h) (by kernel_rfl) (fun _ h=>by cases h) deciBack_row_tie rfl ⟨rfl,rfl⟩ (by kernel_rfl) rfl
  (fun f fn hf hfn=>by
    obtain rfl:f=4:=yQ ((show Tryz.prog.funcNamed "flyball/flyballlaw08.DeciBack"=some 4 by kernel_rfl).symm.trans hf) |>.symm
    obtain rfl:fn=Tryz.f4:=(yQ (Tryz.func4.symm.trans hfn)).symm
    exact⟨by kernel_rfl,fun j t ht=>by
     rw[par_f]at ht;have hm:t∈[23]:=by simpa using Array.mem_of_getElem? ht
     have hall:([23].all fun u=>!Tryz.prog.wantsStandIn u)=true:=by kernel_rfl
     exact(show Tryz.prog.wantsStandIn t=false by simpa using jh.1 hall t hm)⟩)
  (by kernel_rfl)
end Go.Proofs.YtldhknmacepeiaaGreatDoor
