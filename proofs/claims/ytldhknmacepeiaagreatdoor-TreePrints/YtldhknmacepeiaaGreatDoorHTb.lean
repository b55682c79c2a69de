/-
  The row: treePrints_holds. The condition: none.
-/
import Derived.Test.YtldhknmacepeiaaGreatDoorSuZL
import Derived.Test.YtldhknmacepeiaaGreatDoorTie
set_option linter.unusedVariables false
set_option linter.unusedSimpArgs false
set_option maxRecDepth 10000
namespace Su
open Go Fly Go.Proofs
theorem qdp{V:qc}(hs:yt V){args:Array Value}{xs:List T}(hr:RepA V xs args.toList)(ht:All2 (qsG Tryz.prog) [66] xs):jk Tryz.prog 8 args V [] fun v _ _=>v = .bool true:=by
 cases ht with|cons t1 ht=>cases ht with|nil=>
 generalize hl:args.toList=l at hr
 cases hr with|cons r1 hr=>cases hr with|nil=>
 obtain⟨p,cp,rfl,hp,gp⟩:=qzj t1 r1;have he:args=[Value.agg cp.toArray].toArray:=by
  apply Array.toList_inj.1;rw[hl]
 subst he;intro w hw _ _ _;refine(qu1 hs hp gp w hw).mono ?_
 rintro e w' ⟨v,V',G',rfl,hh,rfl,rfl,rfl⟩
 have hnew:∀r,V' r=none→V' r≠none→w.heap.size≤r∨keys [] r:=fun r h0 h1=>absurd h0 h1
 exact⟨_,V',[],rfl,{ ext:=⟨hh.ext.os,hh.ext.tape,hh.ext.output,hh.ext.size,(fun k hk _=>hh.ext.block k hk (by simp))⟩,view:=hh.view,own:=hh.own,free:=(fun _ h=>by cases h),nodup:=VN,sub:=hh.sub,newer:=hnew },rfl⟩
end Su
namespace Go.Proofs.YtldhknmacepeiaaGreatDoor
open Go Go.ChangeShapes Go.WideShapes Go.ChangeAt Go.RowKit Fly Su
set_option maxRecDepth 100000
theorem qng:Tryz.f8.params = #[66]:=by kernel_rfl
theorem qzl:Tryz.f8.resultTypes = #[4]:=by kernel_rfl
def qu7:List Nat:=[66,3,63,64,122,80,4,9,120,78,76,21,23,75,74]
theorem qu8:∀t∈qu7,Y9 Tryz.prog qu7 t=true:=by
 have:(qu7.all fun t=>Y9 Tryz.prog qu7 t)=true:=by kernel_rfl
 exact Ko.1 this
noncomputable def w0:Array Value:=#[.agg #[.int .i64 0,.slice none 0 0,.slice none 0 0,.slice none 0 0]]
theorem qcj(os:Os)(started:os.Started)(H:Type)(enc:TypeId×Value→H) :
 ReturnsInHanded {} Tryz.checked os 8 .any (fun w args=>(Rows.treePrintsSpec.pre enc Tryz.prog Tryz.f8 [] false w args∧laidMetH Tryz.prog Rows.treePrintsRow.laid w)∧sizedMet enc Tryz.prog Tryz.f8 (OpenSpec.ofChange Rows.treePrintsSpec) false w args)
  (Rows.treePrintsSpec.post enc Tryz.prog Tryz.f8 false true false false):=by
 refine returnsInHanded_of_calls ownK started (by kernel_rfl)
  (ChangeSpec.witness_shaped (enc:=enc) (C:=Tryz.checked) (os:=os) (X:=fun w _=>laidMetH Tryz.prog Rows.treePrintsRow.laid w) false (qvV os) w0 8 rfl (World.shaped_of_RefB (by kernel_rfl) (by kernel_rfl)) (by kernel_rfl) (by kernel_rfl) (by kernel_rfl) (qsL os _)) ?_
 intro w tape i _ hsh _ hok hpre hholds;obtain⟨_,_,_,fn',hfn',_,_,_,_,hval⟩:=hok;obtain rfl:fn'=Tryz.f8:=KV (hfn'.symm.trans Tryz.func8)
 obtain⟨⟨⟨ds,gs,before,hw,hc⟩,hx⟩,hz⟩:=hpre;have hw':=DataW.Whole.of_heap (w':=w.forCall tape i) (by rfl) hw
 have hL:laidMetH Tryz.prog Rows.treePrintsRow.laid (w.forCall tape i):=hx.of_heap (by rfl)
 have hcalls:Calls Tryz.prog 8 i.args (w.forCall tape i) fun e W'=>∃v,e = .returned v∧Rows.treePrintsSpec.post enc Tryz.prog Tryz.f8 false true false false (w.forCall tape i) i.args v W':=by
  refine qsI (P:=Tryz.prog) (s:=Rows.treePrintsSpec) (fn:=Tryz.f8) qu8 (by rw[qng];decide) qzl qzk rfl (fun ds hds=>?_) hval hw' fun xs h1 h2=>?_
  · rw[qng]at hds
    match ds,hds with
    | [d1],_=>rfl
  · rw[qng]at h2
    exact qdp (qlp hL hsh) h1 h2
 refine hcalls.mono fun e W' h=>?_
 obtain⟨v,he,hp⟩:=h;subst he;exact ChangeSpec.post_blind hp
theorem qfx:Rows.TreePrintsSaid :=
 OpenClaim.holds_of_wide 8 Tryz.f8 rfl rfl rfl rfl rfl rfl rfl ⟨rfl,rfl,rfl,rfl,rfl⟩ rfl rfl rfl rfl rfl (by kernel_rfl) Tryz.func8 (by kernel_rfl)
  (KM (by kernel_rfl)) (by unfold Func.isWrapper;first|(rw[z6 (by decide +kernel)];kernel_rfl)|(rw[zQ (by decide +kernel)];exact⟨rfl,rfl⟩))
  (fun os started H enc _=>qcj os started H enc)
theorem treePrints_holds:Rows.TreePrintsCardSaid :=
 Claim7.holds_tied_plain_at .later [] [.data,.data,.data,.data,.data,.pinned] true (true,"bec51637f44b2d08a4e7a99698ead0382cbe30e10acba2c740bfdad54f541158") true
  qfx (fun _ h=>by cases h) (by kernel_rfl) (fun _ h=>by cases h) treePrints_row_tie rfl ⟨rfl,rfl⟩ (by kernel_rfl) rfl
  (fun f fn hf hfn=>by
    obtain rfl:f=8:=KV ((show Tryz.prog.funcNamed "flyball/flyballlaw10.TreePrints"=some 8 by kernel_rfl).symm.trans hf) |>.symm
    obtain rfl:fn=Tryz.f8:=(KV (Tryz.func8.symm.trans hfn)).symm
    exact⟨by kernel_rfl,fun j t ht=>by
     rw[qng]at ht;have hm:t∈[66]:=by simpa using Array.mem_of_getElem? ht
     have hall:([66].all fun u=>!Tryz.prog.wantsStandIn u)=true:=by kernel_rfl
     exact(show Tryz.prog.wantsStandIn t=false by simpa using Ko.1 hall t hm)⟩)
  (by kernel_rfl)
end Go.Proofs.YtldhknmacepeiaaGreatDoor
