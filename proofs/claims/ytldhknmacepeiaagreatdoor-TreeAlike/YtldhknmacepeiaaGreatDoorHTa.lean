/-
  The row: treeAlike_holds. The condition: none.
-/
import Derived.Test.YtldhknmacepeiaaGreatDoorTrZ
import Derived.Test.YtldhknmacepeiaaGreatDoorSuZL
import Derived.Test.YtldhknmacepeiaaGreatDoorTie
import Derived.SevenTiedAt
set_option linter.unusedVariables false
set_option linter.unusedSimpArgs false
set_option maxRecDepth 10000
namespace Su
open Go Fly Go.Proofs
theorem qff{V:qa}(hs:yl V){args:Array Value}{xs:List T}(hr:RepA V xs args.toList)(ht:All2 (qrV Tryz.prog) [66,66,66] xs):jl Tryz.prog 9 args V [] fun v _ _=>v = .bool true:=by
 cases ht with | cons t1 ht=>cases ht with | cons t2 ht=>cases ht with | cons t3 ht=>cases ht with | nil=>
 generalize hl:args.toList=l at hr
 cases hr with | cons r1 hr=>cases hr with | cons r2 hr=>cases hr with | cons r3 hr=>cases hr with | nil=>
 obtain⟨p,cp,rfl,hp,gp⟩:=qrZ t1 r1;obtain⟨q,cq,rfl,hq,gq⟩:=qrZ t2 r2;obtain⟨r,cr,rfl,hr,gr⟩:=qrZ t3 r3;have he:args=[Value.agg cp.toArray,Value.agg cq.toArray,Value.agg cr.toArray].toArray:=by
  apply Array.toList_inj.1;rw[hl]
 subst he;intro w hw _ _ _;refine(qwW hs hp hq hr gp gq w hw).mono ?_
 rintro e w' ⟨v,V',G',rfl,hh,rfl,rfl,rfl⟩
 have hnew:∀r,V' r=none→V' r≠none→w.heap.size≤r∨keys [] r:=fun r h0 h1=>absurd h0 h1
 exact⟨_,V',[],rfl,{ ext:=⟨hh.ext.os,hh.ext.tape,hh.ext.output,hh.ext.size,(fun k hk _=>hh.ext.block k hk (by simp))⟩,view:=hh.view,own:=hh.own,free:=(fun _ h=>by cases h),nodup:=VH,sub:=hh.sub,newer:=hnew },rfl⟩
end Su
namespace Go.Proofs.YtldhknmacepeiaaGreatDoor
open Go Go.ChangeShapes Go.WideShapes Go.ChangeAt Go.RowKit Fly Su
set_option maxRecDepth 100000
theorem qmI:Tryz.f9.params = #[66,66,66]:=by kernel_rfl
theorem qx5:Tryz.f9.resultTypes = #[4]:=by kernel_rfl
def qud:List Nat:=[66,3,63,64,122,80,4,9,120,78,76,21,23,75,74]
theorem que:∀t∈qud,Y1 Tryz.prog qud t=true:=by
 have:(qud.all fun t=>Y1 Tryz.prog qud t)=true:=by kernel_rfl
 exact Ko.1 this
noncomputable def w0:Array Value:=#[.agg #[.int .i64 0,.slice none 0 0,.slice none 0 0,.slice none 0 0],.agg #[.int .i64 0,.slice none 0 0,.slice none 0 0,.slice none 0 0],.agg #[.int .i64 0,.slice none 0 0,.slice none 0 0,.slice none 0 0]]
theorem qcR(os:Os)(started:os.Started)(H:Type)(enc:TypeId×Value→H) :
 ReturnsInHanded {} Tryz.checked os 9 .any (fun w args=>(Rows.treeAlikeSpec.pre enc Tryz.prog Tryz.f9 [] false w args∧laidMetH Tryz.prog Rows.treeAlikeRow.laid w)∧sizedMet enc Tryz.prog Tryz.f9 (OpenSpec.ofChange Rows.treeAlikeSpec) false w args)
  (Rows.treeAlikeSpec.post enc Tryz.prog Tryz.f9 false true false false):=by
 refine returnsInHanded_of_calls ownK started (by kernel_rfl)
  (ChangeSpec.witness_shaped (enc:=enc) (C:=Tryz.checked) (os:=os) (X:=fun w _=>laidMetH Tryz.prog Rows.treeAlikeRow.laid w) false (qu0 os) w0 8 rfl (World.shaped_of_RefB (by kernel_rfl) (by kernel_rfl)) (by kernel_rfl) (by kernel_rfl) (by kernel_rfl) (qr1 os _)) ?_
 intro w tape i _ hsh _ hok hpre hholds;obtain⟨_,_,_,fn',hfn',_,_,_,_,hval⟩:=hok;obtain rfl:fn'=Tryz.f9:=Vm (hfn'.symm.trans Tryz.func9)
 obtain⟨⟨⟨ds,gs,before,hw,hc⟩,hx⟩,hz⟩:=hpre;have hw':=DataW.Whole.of_heap (w':=w.forCall tape i) (by rfl) hw
 have hL:laidMetH Tryz.prog Rows.treeAlikeRow.laid (w.forCall tape i):=hx.of_heap (by rfl)
 have hcalls:Calls Tryz.prog 9 i.args (w.forCall tape i) fun e W'=>∃v,e = .returned v∧Rows.treeAlikeSpec.post enc Tryz.prog Tryz.f9 false true false false (w.forCall tape i) i.args v W':=by
  refine qrX (P:=Tryz.prog) (s:=Rows.treeAlikeSpec) (fn:=Tryz.f9) que (by rw[qmI];decide) qx5 qx4 rfl (fun ds hds=>?_) hval hw' fun xs h1 h2=>?_
  · rw[qmI]at hds
    match ds,hds with
    | [d1,d2,d3],_=>rfl
  · rw[qmI]at h2
    exact qff (qkT hL hsh) h1 h2
 refine hcalls.mono fun e W' h=>?_
 obtain⟨v,he,hp⟩:=h;subst he;exact ChangeSpec.post_blind hp
theorem qfu:Rows.TreeAlikeSaid :=
 OpenClaim.holds_of_wide 9 Tryz.f9 rfl rfl rfl rfl rfl rfl rfl ⟨rfl,rfl,rfl,rfl,rfl⟩ rfl rfl rfl rfl rfl (by kernel_rfl) Tryz.func9 (by kernel_rfl)
  (KS (by kernel_rfl)) (by unfold Func.isWrapper;first | (rw[zZ (by decide +kernel)];kernel_rfl) | (rw[zP (by decide +kernel)];exact⟨rfl,rfl⟩))
  (fun os started H enc _=>qcR os started H enc)
theorem treeAlike_holds:Rows.TreeAlikeCardSaid :=
 Claim7.holds_tied_plain_at .later [] [.data,.data,.data,.data,.data,.pinned] true (true,"bec51637f44b2d08a4e7a99698ead0382cbe30e10acba2c740bfdad54f541158") true
  qfu (fun _ h=>by cases h) (by kernel_rfl) (fun _ h=>by cases h) treeAlike_row_tie rfl ⟨rfl,rfl⟩ (by kernel_rfl) rfl
  (fun f fn hf hfn=>by
    obtain rfl:f=9:=Vm ((show Tryz.prog.funcNamed "flyball/flyballlaw10.TreeAlike"=some 9 by kernel_rfl).symm.trans hf) |>.symm
    obtain rfl:fn=Tryz.f9:=(Vm (Tryz.func9.symm.trans hfn)).symm
    exact⟨by kernel_rfl,fun j t ht=>by
     rw[qmI]at ht;have hm:t∈[66,66,66]:=by simpa using Array.mem_of_getElem? ht
     have hall:([66,66,66].all fun u=>!Tryz.prog.wantsStandIn u)=true:=by kernel_rfl
     exact(show Tryz.prog.wantsStandIn t=false by simpa using Ko.1 hall t hm)⟩)
  (by kernel_rfl)
end Go.Proofs.YtldhknmacepeiaaGreatDoor
