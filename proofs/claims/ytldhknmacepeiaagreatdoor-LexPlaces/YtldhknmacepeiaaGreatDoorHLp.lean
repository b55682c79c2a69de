/-
  The row: lexPlaces_holds. The condition: none.
-/
import Derived.Test.YtldhknmacepeiaaGreatDoorHIn
import Derived.Test.YtldhknmacepeiaaGreatDoorSuLd
import Derived.Test.YtldhknmacepeiaaGreatDoorTie
import Derived.SevenTiedAt
set_option linter.unusedVariables false
set_option linter.unusedSimpArgs false
set_option maxRecDepth 10000
namespace Su
open Go Fly Go.Proofs
theorem qyZ:R1 Tryz.prog cS 9:=qxw (by kernel_rfl)
theorem qxB{x:T}(h:qmJ Tryz.prog 9 x):∃a,cS.dec x=some a:=qxx (by kernel_rfl) qyZ h
theorem qec{V:qa}(gk:GOK tb V){args:Array Value}{xs:List T}(hr:RepA V xs args.toList)(ht:All2 (qmJ Tryz.prog) [9] xs):jw Tryz.prog 7 args V [] fun v _ _=>v = .bool true:=by
 cases ht with | cons t1 ht=>cases ht with | nil=>
 obtain⟨a1,h1⟩:=qxB t1;exact qtT qxv (fun _=>rfl) gk hr h1
end Su
namespace Go.Proofs.YtldhknmacepeiaaGreatDoor
open Go Go.ChangeShapes Go.WideShapes Go.ChangeAt Go.RowKit Fly Su
set_option maxRecDepth 100000
theorem qlu:Tryz.f7.params = #[9]:=by kernel_rfl
theorem qy0:Tryz.f7.resultTypes = #[4]:=by kernel_rfl
def qtX:List Nat:=[4,9]
theorem qtY:∀t∈qtX,J3 Tryz.prog qtX t=true:=by
 have:(qtX.all fun t=>J3 Tryz.prog qtX t)=true:=by kernel_rfl
 exact z7.1 this
noncomputable def w0:Array Value:=#[.string ⟨#[]⟩]
theorem qbQ(os:Os)(started:os.Started)(H:Type)(enc:TypeId×Value→H) :
 ReturnsInHanded {} Tryz.checked os 7 .any (fun w args=>(Rows.lexPlacesSpec.pre enc Tryz.prog Tryz.f7 [] false w args∧laidMetH Tryz.prog Rows.lexPlacesRow.laid w)∧sizedMet enc Tryz.prog Tryz.f7 (OpenSpec.ofChange Rows.lexPlacesSpec) false w args)
  (Rows.lexPlacesSpec.post enc Tryz.prog Tryz.f7 false true false false):=by
 refine returnsInHanded_of_calls ownK started (by kernel_rfl)
  (ChangeSpec.witness_shaped (enc:=enc) (C:=Tryz.checked) (os:=os) (X:=fun w _=>laidMetH Tryz.prog Rows.lexPlacesRow.laid w) false (quS os) w0 8 rfl (World.shaped_of_RefB (by kernel_rfl) (by kernel_rfl)) (by kernel_rfl) (by kernel_rfl) (by kernel_rfl) (qrq os _)) ?_
 intro w tape i _ hsh _ hok hpre hholds;obtain⟨_,_,_,fn',hfn',_,_,_,_,hval⟩:=hok;obtain rfl:fn'=Tryz.f7:=KP (hfn'.symm.trans Tryz.func7)
 obtain⟨⟨⟨ds,gs,before,hw,hc⟩,hx⟩,hz⟩:=hpre;have hw':=DataW.Whole.of_heap (w':=w.forCall tape i) (by rfl) hw
 have hL:laidMetH Tryz.prog Rows.lexPlacesRow.laid (w.forCall tape i):=hx.of_heap (by rfl)
 have hcalls:Calls Tryz.prog 7 i.args (w.forCall tape i) fun e W'=>∃v,e = .returned v∧Rows.lexPlacesSpec.post enc Tryz.prog Tryz.f7 false true false false (w.forCall tape i) i.args v W':=by
  refine qro (P:=Tryz.prog) (s:=Rows.lexPlacesSpec) (fn:=Tryz.f7) qtY (by rw[qlu];decide) qy0 qyY rfl (fun ds hds=>?_) hval hw' fun xs h1 h2=>?_
  · rw[qlu]at hds
    match ds,hds with
    | [d1],_=>rfl
  · rw[qlu]at h2
    exact qec (qrp hL hsh) h1 h2
 refine hcalls.mono fun e W' h=>?_
 obtain⟨v,he,hp⟩:=h;subst he;exact ChangeSpec.post_blind hp
theorem qem:Rows.LexPlacesSaid :=
 OpenClaim.holds_of_wide 7 Tryz.f7 rfl rfl rfl rfl rfl rfl rfl ⟨rfl,rfl,rfl,rfl,rfl⟩ rfl rfl rfl rfl rfl (by kernel_rfl) Tryz.func7 (by kernel_rfl)
  (Ko (by kernel_rfl)) (by unfold Func.isWrapper;first | (rw[zA (by decide +kernel)];kernel_rfl) | (rw[zx (by decide +kernel)];exact⟨rfl,rfl⟩))
  (fun os started H enc _=>qbQ os started H enc)
theorem lexPlaces_holds:Rows.LexPlacesCardSaid :=
 Claim7.holds_tied_plain_at .later [] [.data,.data,.data,.data,.sentinel,.sentinel,.pinned] true (true,"bec51637f44b2d08a4e7a99698ead0382cbe30e10acba2c740bfdad54f541158") true
  qem (fun _ h=>by cases h) (by kernel_rfl) (fun _ h=>by cases h) lexPlaces_row_tie rfl ⟨rfl,rfl⟩ (by kernel_rfl) rfl
  (fun f fn hf hfn=>by
    obtain rfl:f=7:=KP ((show Tryz.prog.funcNamed "flyball/flyballlaw09.LexPlaces"=some 7 by kernel_rfl).symm.trans hf) |>.symm
    obtain rfl:fn=Tryz.f7:=(KP (Tryz.func7.symm.trans hfn)).symm
    exact⟨by kernel_rfl,fun j t ht=>by
     rw[qlu]at ht;have hm:t∈[9]:=by simpa using Array.mem_of_getElem? ht
     have hall:([9].all fun u=>!Tryz.prog.wantsStandIn u)=true:=by kernel_rfl
     exact(show Tryz.prog.wantsStandIn t=false by simpa using z7.1 hall t hm)⟩)
  (by kernel_rfl)
end Go.Proofs.YtldhknmacepeiaaGreatDoor
