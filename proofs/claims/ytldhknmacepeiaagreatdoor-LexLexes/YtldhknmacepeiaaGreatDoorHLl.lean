/-
  The row: lexLexes_holds. The condition: none.
-/
import Derived.Test.YtldhknmacepeiaaGreatDoorHIn
import Derived.Test.YtldhknmacepeiaaGreatDoorSuLb
import Derived.Test.YtldhknmacepeiaaGreatDoorTie
import Derived.SevenTiedAt
set_option linter.unusedVariables false
set_option linter.unusedSimpArgs false
set_option maxRecDepth 10000
namespace Su
open Go Fly Go.Proofs
theorem qCk:R1 Tryz.prog cS 9:=qAY (by kernel_rfl)
theorem qA3{x:T}(h:qnC Tryz.prog 9 x):∃a,cS.dec x=some a:=qAZ (by kernel_rfl) qCk h
theorem qe3{V:qb}(gk:GOK tb V){args:Array Value}{xs:List T}(hr:RepA V xs args.toList)(ht:All2 (qnC Tryz.prog) [9] xs):ju Tryz.prog 6 args V [] fun v _ _=>v = .bool true:=by
 cases ht with | cons t1 ht=>cases ht with | nil=>
 obtain⟨a1,h1⟩:=qA3 t1;exact qwG qAX (fun _=>rfl) gk hr h1
end Su
namespace Go.Proofs.YtldhknmacepeiaaGreatDoor
open Go Go.ChangeShapes Go.WideShapes Go.ChangeAt Go.RowKit Fly Su
set_option maxRecDepth 100000
theorem qmh:Tryz.f6.params = #[9]:=by kernel_rfl
theorem qCl:Tryz.f6.resultTypes = #[4]:=by kernel_rfl
def qwK:List Nat:=[4,9]
theorem qwL:∀t∈qwK,Yc Tryz.prog qwK t=true:=by
 have:(qwK.all fun t=>Yc Tryz.prog qwK t)=true:=by kernel_rfl
 exact zX.1 this
noncomputable def w0:Array Value:=#[.string ⟨#[]⟩]
theorem qcX(os:Os)(started:os.Started)(H:Type)(enc:TypeId×Value→H) :
 ReturnsInHanded {} Tryz.checked os 6 .any (fun w args=>(Rows.lexLexesSpec.pre enc Tryz.prog Tryz.f6 [] false w args∧laidMetH Tryz.prog Rows.lexLexesRow.laid w)∧sizedMet enc Tryz.prog Tryz.f6 (OpenSpec.ofChange Rows.lexLexesSpec) false w args)
  (Rows.lexLexesSpec.post enc Tryz.prog Tryz.f6 false true false false):=by
 refine returnsInHanded_of_calls ownK started (by kernel_rfl)
  (ChangeSpec.witness_shaped (enc:=enc) (C:=Tryz.checked) (os:=os) (X:=fun w _=>laidMetH Tryz.prog Rows.lexLexesRow.laid w) false (qxM os) w0 8 rfl (World.shaped_of_RefB (by kernel_rfl) (by kernel_rfl)) (by kernel_rfl) (by kernel_rfl) (by kernel_rfl) (qtm os _)) ?_
 intro w tape i _ hsh _ hok hpre hholds;obtain⟨_,_,_,fn',hfn',_,_,_,_,hval⟩:=hok;obtain rfl:fn'=Tryz.f6:=Ke (hfn'.symm.trans Tryz.func6)
 obtain⟨⟨⟨ds,gs,before,hw,hc⟩,hx⟩,hz⟩:=hpre;have hw':=DataW.Whole.of_heap (w':=w.forCall tape i) (by rfl) hw
 have hL:laidMetH Tryz.prog Rows.lexLexesRow.laid (w.forCall tape i):=hx.of_heap (by rfl)
 have hcalls:Calls Tryz.prog 6 i.args (w.forCall tape i) fun e W'=>∃v,e = .returned v∧Rows.lexLexesSpec.post enc Tryz.prog Tryz.f6 false true false false (w.forCall tape i) i.args v W':=by
  refine qtk (P:=Tryz.prog) (s:=Rows.lexLexesSpec) (fn:=Tryz.f6) qwL (by rw[qmh];decide) qCl qCj rfl (fun ds hds=>?_) hval hw' fun xs h1 h2=>?_
  · rw[qmh]at hds
    match ds,hds with
    | [d1],_=>rfl
  · rw[qmh]at h2
    exact qe3 (qtl hL hsh) h1 h2
 refine hcalls.mono fun e W' h=>?_
 obtain⟨v,he,hp⟩:=h;subst he;exact ChangeSpec.post_blind hp
theorem qhB:Rows.LexLexesSaid :=
 OpenClaim.holds_of_wide 6 Tryz.f6 rfl rfl rfl rfl rfl rfl rfl ⟨rfl,rfl,rfl,rfl,rfl⟩ rfl rfl rfl rfl rfl (by kernel_rfl) Tryz.func6 (by kernel_rfl)
  (zW (by kernel_rfl)) (by unfold Func.isWrapper;first | (rw[zr (by decide +kernel)];kernel_rfl) | (rw[zp (by decide +kernel)];exact⟨rfl,rfl⟩))
  (fun os started H enc _=>qcX os started H enc)
theorem lexLexes_holds:Rows.LexLexesCardSaid :=
 Claim7.holds_tied_plain_at .later [] [.data,.data,.data,.data,.sentinel,.sentinel,.pinned] true (true,"bec51637f44b2d08a4e7a99698ead0382cbe30e10acba2c740bfdad54f541158") true
  qhB (fun _ h=>by cases h) (by kernel_rfl) (fun _ h=>by cases h) lexLexes_row_tie rfl ⟨rfl,rfl⟩ (by kernel_rfl) rfl
  (fun f fn hf hfn=>by
    obtain rfl:f=6:=Ke ((show Tryz.prog.funcNamed "flyball/flyballlaw09.LexLexes"=some 6 by kernel_rfl).symm.trans hf) |>.symm
    obtain rfl:fn=Tryz.f6:=(Ke (Tryz.func6.symm.trans hfn)).symm
    exact⟨by kernel_rfl,fun j t ht=>by
     rw[qmh]at ht;have hm:t∈[9]:=by simpa using Array.mem_of_getElem? ht
     have hall:([9].all fun u=>!Tryz.prog.wantsStandIn u)=true:=by kernel_rfl
     exact(show Tryz.prog.wantsStandIn t=false by simpa using zX.1 hall t hm)⟩)
  (by kernel_rfl)
end Go.Proofs.YtldhknmacepeiaaGreatDoor
