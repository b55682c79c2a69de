/-
  The row: deciExact_holds. The condition: none.
-/
import Derived.Test.YtldhknmacepeiaaGreatDoorHCn
import Derived.Test.YtldhknmacepeiaaGreatDoorSuLa
import Derived.Test.YtldhknmacepeiaaGreatDoorTie
import Derived.SevenTiedAt
set_option linter.unusedVariables false
set_option linter.unusedSimpArgs false
set_option maxRecDepth 10000
namespace Su
open Go Fly Go.Proofs
theorem t_str:R1 Tryz.prog cS 9:=r1_str (by kernel_rfl)
theorem ty_str{x:T}(h:IsTy Tryz.prog 9 x):∃a,cS.dec x=some a:=ty_one (by kernel_rfl) t_str h
theorem t_num:R1 Tryz.prog (cI .i64) 3:=r1_int (by kernel_rfl)
theorem ty_num{x:T}(h:IsTy Tryz.prog 3 x):∃a,(cI .i64).dec x=some a:=ty_one (by kernel_rfl) t_num h
theorem deciExact_fing{V:View}(gk:GOK tb V){args:Array Value}{xs:List T}(hr:RepA V xs args.toList)(ht:All2 (IsTy Tryz.prog) [9,3] xs):Fing Tryz.prog 5 args V [] fun v _ _=>v = .bool true:=by
 cases ht with | cons t1 ht=>cases ht with | cons t2 ht=>cases ht with | nil=>
 obtain⟨a1,h1⟩:=ty_str t1;obtain⟨a2,h2⟩:=ty_num t2;exact fing_of lExa_c (fun _=>rfl) gk hr (dec_cons h1 h2)
end Su
namespace Go.Proofs.YtldhknmacepeiaaGreatDoor
open Go Go.ChangeShapes Go.WideShapes Go.ChangeAt Go.RowKit Fly Su
set_option maxRecDepth 100000
theorem par_f:Tryz.f5.params = #[9,3]:=by kernel_rfl
theorem res_f:Tryz.f5.resultTypes = #[4]:=by kernel_rfl
def rTys:List Nat:=[4,9,3]
theorem rTys_ok:∀t∈rTys,okTy Tryz.prog rTys t=true:=by
 have:(rTys.all fun t=>okTy Tryz.prog rTys t)=true:=by kernel_rfl
 exact jk.1 this
noncomputable def w0:Array Value:=#[.string ⟨#[]⟩,.int .i64 0]
theorem deciExact_lifted(os:Os)(started:os.Started)(H:Type)(enc:TypeId×Value→H) :
 ReturnsInHanded {} Tryz.checked os 5 .any (fun w args=>(Rows.deciExactSpec.pre enc Tryz.prog Tryz.f5 [] false w args∧laidMetH Tryz.prog Rows.deciExactRow.laid w)∧sizedMet enc Tryz.prog Tryz.f5 (OpenSpec.ofChange Rows.deciExactSpec) false w args)
  (Rows.deciExactSpec.post enc Tryz.prog Tryz.f5 false true false false):=by
 refine returnsInHanded_of_change_and (C:=Tryz.checked) (X:=fun w _=>laidMetH Tryz.prog Rows.deciExactRow.laid w) (fun _ _ _ hh h=>h.of_heap hh) ownK started (by kernel_rfl) Tryz.func5
  (ChangeSpec.witness_shaped (enc:=enc) (C:=Tryz.checked) (os:=os) (X:=fun w _=>laidMetH Tryz.prog Rows.deciExactRow.laid w) false (laidW os) w0 8 rfl (World.shaped_of_RefB (by kernel_rfl) (by kernel_rfl)) (by kernel_rfl) (by kernel_rfl) (by kernel_rfl) (door_met os _)) ?_
 intro W base args ds gs before hval0 hW _ _ hL _;refine law_post (P:=Tryz.prog) (s:=Rows.deciExactSpec) (fn:=Tryz.f5) rTys_ok (by rw[par_f];decide) res_f uBool rfl (fun ds hds=>?_) hval0 hW fun xs h1 h2=>?_
 · rw[par_f]at hds
   match ds,hds with
   | [d1,d2],_=>rfl
 · rw[par_f]at h2
   exact deciExact_fing (gok_laid hL) h1 h2
theorem deciExact_row:Rows.DeciExactSaid :=
 OpenClaim.holds_of_wide 5 Tryz.f5 rfl rfl rfl rfl rfl rfl rfl ⟨rfl,rfl,rfl,rfl,rfl⟩ rfl rfl rfl rfl rfl (by kernel_rfl) Tryz.func5 (by kernel_rfl)
  (ym (by kernel_rfl)) (by unfold Func.isWrapper;first | (rw[qU (by decide +kernel)];kernel_rfl) | (rw[qM (by decide +kernel)];exact⟨rfl,rfl⟩))
  (fun os started H enc _=>deciExact_lifted os started H enc)
theorem deciExact_holds:Rows.DeciExactCardSaid :=
 Claim7.holds_tied_plain_at .later [] [.data,.data,.data,.data,.pinned] true (true,"bec51637f44b2d08a4e7a99698ead0382cbe30e10acba2c740bfdad54f541158") true
  deciExact_row (fun _ h=>by cases h) (by kernel_rfl) (fun _ h=>by cases h) deciExact_row_tie rfl ⟨rfl,rfl⟩ (by kernel_rfl) rfl
  (fun f fn hf hfn=>by
    obtain rfl:f=5:=yO ((show Tryz.prog.funcNamed "flyball/flyballlaw08.DeciExact"=some 5 by kernel_rfl).symm.trans hf) |>.symm
    obtain rfl:fn=Tryz.f5:=(yO (Tryz.func5.symm.trans hfn)).symm
    exact⟨by kernel_rfl,fun j t ht=>by
     rw[par_f]at ht;have hm:t∈[9,3]:=by simpa using Array.mem_of_getElem? ht
     have hall:([9,3].all fun u=>!Tryz.prog.wantsStandIn u)=true:=by kernel_rfl
     exact(show Tryz.prog.wantsStandIn t=false by simpa using jk.1 hall t hm)⟩)
  (by kernel_rfl)
end Go.Proofs.YtldhknmacepeiaaGreatDoor
