/-
  The row: lexBlanks_holds. The condition: none.
-/
import Derived.Test.YtldhknmacepeiaaGreatDoorHIn
import Derived.Test.YtldhknmacepeiaaGreatDoorSuLd
import Derived.Test.YtldhknmacepeiaaGreatDoorTie
import Derived.SevenTiedAt
set_option linter.unusedVariables false
set_option linter.unusedSimpArgs false
set_option maxRecDepth 10000
namespace Su
open Go Fly Go.Proofs
theorem qAL:R1 Tryz.prog cS 9:=qze (by kernel_rfl)
theorem qAM:R1 Tryz.prog (cI .i64) 3:=qzd (by kernel_rfl)
theorem qzi{x:T}(h:qka Tryz.prog 3 x):∃a,(cI .i64).dec x=some a:=qss (by kernel_rfl) qAM h
theorem qzj{x:T}(h:qka Tryz.prog 9 x):∃a,cS.dec x=some a:=qss (by kernel_rfl) qAL h
theorem qeD{V:qc}(gk:GOK tb V){args:Array Value}{xs:List T}(hr:RepA V xs args.toList)(ht:All2 (qka Tryz.prog) [9,3] xs):jA Tryz.prog 10 args V [] fun v _ _=>v = .bool true:=by
 cases ht with | cons t1 ht=>cases ht with | cons t2 ht=>cases ht with | nil=>
 obtain⟨a1,h1⟩:=qzj t1;obtain⟨a2,h2⟩:=qzi t2;exact qvf qzc (fun _=>rfl) gk hr (qst h1 h2)
end Su
namespace Go.Proofs.YtldhknmacepeiaaGreatDoor
open Go Go.ChangeShapes Go.WideShapes Go.ChangeAt Go.RowKit Fly Su
set_option maxRecDepth 100000
theorem ql7:Tryz.f10.params = #[9,3]:=by kernel_rfl
theorem qAN:Tryz.f10.resultTypes = #[4]:=by kernel_rfl
def qvj:List Nat:=[4,9,3]
theorem qvk:∀t∈qvj,Yt Tryz.prog qvj t=true:=by
 have:(qvj.all fun t=>Yt Tryz.prog qvj t)=true:=by kernel_rfl
 exact Ke.1 this
noncomputable def w0:Array Value:=#[.string ⟨#[]⟩,.int .i64 0]
theorem qcn(os:Os)(started:os.Started)(H:Type)(enc:TypeId×Value→H) :
 ReturnsInHanded {} Tryz.checked os 10 .any (fun w args=>(Rows.lexBlanksSpec.pre enc Tryz.prog Tryz.f10 [] false w args∧laidMetH Tryz.prog Rows.lexBlanksRow.laid w)∧sizedMet enc Tryz.prog Tryz.f10 (OpenSpec.ofChange Rows.lexBlanksSpec) false w args)
  (Rows.lexBlanksSpec.post enc Tryz.prog Tryz.f10 false true false false):=by
 refine returnsInHanded_of_calls ownK started (by kernel_rfl)
  (ChangeSpec.witness_shaped (enc:=enc) (C:=Tryz.checked) (os:=os) (X:=fun w _=>laidMetH Tryz.prog Rows.lexBlanksRow.laid w) false (qwi os) w0 8 rfl (World.shaped_of_RefB (by kernel_rfl) (by kernel_rfl)) (by kernel_rfl) (by kernel_rfl) (by kernel_rfl) (qsv os _)) ?_
 intro w tape i _ hsh _ hok hpre hholds;obtain⟨_,_,_,fn',hfn',_,_,_,_,hval⟩:=hok;obtain rfl:fn'=Tryz.f10:=KR (hfn'.symm.trans Tryz.func10)
 obtain⟨⟨⟨ds,gs,before,hw,hc⟩,hx⟩,hz⟩:=hpre;have hw':=DataW.Whole.of_heap (w':=w.forCall tape i) (by rfl) hw
 have hL:laidMetH Tryz.prog Rows.lexBlanksRow.laid (w.forCall tape i):=hx.of_heap (by rfl)
 have hcalls:Calls Tryz.prog 10 i.args (w.forCall tape i) fun e W'=>∃v,e = .returned v∧Rows.lexBlanksSpec.post enc Tryz.prog Tryz.f10 false true false false (w.forCall tape i) i.args v W':=by
  refine qsr (P:=Tryz.prog) (s:=Rows.lexBlanksSpec) (fn:=Tryz.f10) qvk (by rw[ql7];decide) qAN qAK rfl (fun ds hds=>?_) hval hw' fun xs h1 h2=>?_
  · rw[ql7]at hds
    match ds,hds with
    | [d1,d2],_=>rfl
  · rw[ql7]at h2
    exact qeD (qsu hL hsh) h1 h2
 refine hcalls.mono fun e W' h=>?_
 obtain⟨v,he,hp⟩:=h;subst he;exact ChangeSpec.post_blind hp
theorem qeP:Rows.LexBlanksSaid :=
 OpenClaim.holds_of_wide 10 Tryz.f10 rfl rfl rfl rfl rfl rfl rfl ⟨rfl,rfl,rfl,rfl,rfl⟩ rfl rfl rfl rfl rfl (by kernel_rfl) Tryz.func10 (by kernel_rfl)
  (Ko (by kernel_rfl)) (by unfold Func.isWrapper;first | (rw[zA (by decide +kernel)];kernel_rfl) | (rw[zw (by decide +kernel)];exact⟨rfl,rfl⟩))
  (fun os started H enc _=>qcn os started H enc)
theorem lexBlanks_holds:Rows.LexBlanksCardSaid :=
 Claim7.holds_tied_plain_at .later [] [.data,.data,.data,.data,.sentinel,.sentinel,.pinned] true (true,"bec51637f44b2d08a4e7a99698ead0382cbe30e10acba2c740bfdad54f541158") true
  qeP (fun _ h=>by cases h) (by kernel_rfl) (fun _ h=>by cases h) lexBlanks_row_tie rfl ⟨rfl,rfl⟩ (by kernel_rfl) rfl
  (fun f fn hf hfn=>by
    obtain rfl:f=10:=KR ((show Tryz.prog.funcNamed "flyball/flyballlaw09.LexBlanks"=some 10 by kernel_rfl).symm.trans hf) |>.symm
    obtain rfl:fn=Tryz.f10:=(KR (Tryz.func10.symm.trans hfn)).symm
    exact⟨by kernel_rfl,fun j t ht=>by
     rw[ql7]at ht;have hm:t∈[9,3]:=by simpa using Array.mem_of_getElem? ht
     have hall:([9,3].all fun u=>!Tryz.prog.wantsStandIn u)=true:=by kernel_rfl
     exact(show Tryz.prog.wantsStandIn t=false by simpa using Ke.1 hall t hm)⟩)
  (by kernel_rfl)
end Go.Proofs.YtldhknmacepeiaaGreatDoor
