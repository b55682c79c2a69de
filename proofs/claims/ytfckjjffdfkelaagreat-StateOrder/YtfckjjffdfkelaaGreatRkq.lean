/-
  Bits and rounding, in plain Lean. No condition.
-/
import Derived.Test.YtfckjjffdfkelaaGreatRjn
import Derived.Test.YtfckjjffdfkelaaGreatSuSd
import Derived.Test.YtfckjjffdfkelaaGreatNB10
set_option maxRecDepth 10000
section
namespace Su
open Go Fly
set_option linter.unusedVariables false
noncomputable section
end
end Su
end
section
namespace Su
open Go Fly
set_option linter.unusedVariables false
noncomputable section
theorem qeC {s:StD} (h:smS s=true) {x:Su.Ce} (hx:x∈s.2.2.2.2):x.fm.2.2.1.length≤1000000:=by
 unfold smS at h
 rw [Bool.and_eq_true] at h
 exact Nat.le_of_ble_eq_true (List.all_eq_true.1 h.2 x hx)
theorem qeD {c:CoD} {s:StD} {f:Nat→Su.Cc→Su.Ce→Su.Ce} (hm:smS s=true) (hf:∀ (i:Nat) (d:Su.Cc) (x:Su.Ce),x∈s.2.2.2.2→(f i d x).fm.2.2.1.length≤1000000):smS (qp c s f)=true:=by
 cases h:(qp c s f).1 with
 | true=>rw [qhB h];rfl
 | false =>
  obtain ⟨h2,P,_,_,e,hl,hg⟩:=qaa h
  rw [e]
  refine qFx (by have:=Qe hm;omega) fun x hx=>?_
  obtain ⟨j,hj,rfl⟩:=List.mem_iff_getElem.1 hx
  have:=(hg j (by omega)).1
  rw [List.getElem?_eq_getElem hj] at this
  rw [soi this]
  exact Nat.le_trans (qAn _ _) (hf _ _ _ (List.getElem_mem _))
theorem qFE {c:CoD} {s:StD} (hm:smS s=true):smS (qcg c s)=true:=qeD hm fun i d x hx=>by
 have:(Zy s i d x).fm=x.fm:=by unfold Zy;cases decide (d.type=2) <;> rfl
 rw [this];exact qeC hm hx
theorem qlL {c:CoD} {s:StD} (hm:smS s=true):smS (jW c s)=true:=qeD (qFE hm) fun i d x hx=>Nat.zero_le _
theorem st_w {s:StD} (g:∀ x∈s.2.2.2.2,dCe.good x):Sw s:=fun x hx=>by
 obtain ⟨_,_,_,_,_,_,_,_,_,_,_,_,h1,h2,h3,_,h4,⟨h5,_⟩,h6⟩:=g x hx
 exact ⟨⟨Qa.1 h1,Qa.1 h2⟩,Qa.1 h3,⟨Qa.1 h4,Qa.1 h6,fun t ht=>Qa.1 (h5 t ht).2⟩⟩
end
end Su
end
section
namespace Su
open Go Fly
set_option linter.unusedVariables false
noncomputable section
abbrev qdg:=(Int×((List Su.Cc)×((List Su.T)×((List Su.T)×((List Su.T)×((List Su.T)×(Int×((List Su.Ce)×(Int×(Int×(Bool×(Bool×(Int×(Int×((List Su.Ce)×(Bool×(Bool×(Int×(Int×((List Su.Ce)×Unit))))))))))))))))))))
def qcl:qdg→Option (qdg ⊕ (Lp qdg Bool)):=fun p2=>(bif (decide ((p2.2.2.2.2.2.2.2.2.2.1<p2.2.2.2.2.2.2.2.2.1))) then
 ((Su.idx p2.2.2.2.2.2.2.2.1 p2.2.2.2.2.2.2.2.2.2.1)).bind fun x3 =>
 ((Su.idx p2.2.1 p2.2.2.2.2.2.2.2.2.2.1)).bind fun x4 =>
 ((Su.idx p2.2.2.2.2.2.2.2.2.2.2.2.2.2.2.2.2.2.2.2.1 p2.2.2.2.2.2.2.2.2.2.1)).bind fun x5 =>
 ((Su.qf3 (x3,((Su.Cc.type x4),x5)))).bind fun x6 =>
 (bif (!x6) then
 some (.inr (.ret false))
 else
  some (.inl (p2.1,(p2.2.1,(p2.2.2.1,(p2.2.2.2.1,(p2.2.2.2.2.1,(p2.2.2.2.2.2.1,(p2.2.2.2.2.2.2.1,(p2.2.2.2.2.2.2.2.1,(p2.2.2.2.2.2.2.2.2.1,((Go.IntKind.wrap .i64 (p2.2.2.2.2.2.2.2.2.2.1+1)),(p2.2.2.2.2.2.2.2.2.2.2.1,(p2.2.2.2.2.2.2.2.2.2.2.2.1,(p2.2.2.2.2.2.2.2.2.2.2.2.2.1,(p2.2.2.2.2.2.2.2.2.2.2.2.2.2.1,(p2.2.2.2.2.2.2.2.2.2.2.2.2.2.2.1,(p2.2.2.2.2.2.2.2.2.2.2.2.2.2.2.2.1,(p2.2.2.2.2.2.2.2.2.2.2.2.2.2.2.2.2.1,(p2.2.2.2.2.2.2.2.2.2.2.2.2.2.2.2.2.2.1,(p2.2.2.2.2.2.2.2.2.2.2.2.2.2.2.2.2.2.2.1,(p2.2.2.2.2.2.2.2.2.2.2.2.2.2.2.2.2.2.2.2.1,()))))))))))))))))))))))
 else
  some (.inr (.exit 0 (p2.1,(p2.2.1,(p2.2.2.1,(p2.2.2.2.1,(p2.2.2.2.2.1,(p2.2.2.2.2.2.1,(p2.2.2.2.2.2.2.1,(p2.2.2.2.2.2.2.2.1,(p2.2.2.2.2.2.2.2.2.1,(p2.2.2.2.2.2.2.2.2.2.1,(p2.2.2.2.2.2.2.2.2.2.2.1,(p2.2.2.2.2.2.2.2.2.2.2.2.1,(p2.2.2.2.2.2.2.2.2.2.2.2.2.1,(p2.2.2.2.2.2.2.2.2.2.2.2.2.2.1,(p2.2.2.2.2.2.2.2.2.2.2.2.2.2.2.1,(p2.2.2.2.2.2.2.2.2.2.2.2.2.2.2.2.1,(p2.2.2.2.2.2.2.2.2.2.2.2.2.2.2.2.2.1,(p2.2.2.2.2.2.2.2.2.2.2.2.2.2.2.2.2.2.1,(p2.2.2.2.2.2.2.2.2.2.2.2.2.2.2.2.2.2.2.1,(p2.2.2.2.2.2.2.2.2.2.2.2.2.2.2.2.2.2.2.2.1,())))))))))))))))))))))))
def qAt  (fu:Nat) (c:(Int×((List Su.Cc)×((List Su.T)×((List Su.T)×((List Su.T)×((List Su.T)×Int))))))) (a:(Bool×(Bool×(Int×(Int×(List Su.Ce)))))) (b:(Bool×(Bool×(Int×(Int×(List Su.Ce)))))):Option Bool :=
 ((Su.qab (c,(a,())))).bind fun x0 =>
 ((Su.qab (c,(b,())))).bind fun x1 =>
 (bif x0.1 then
 some x0.1
 else
  (bif x1.1 then
  some x0.1
 else
  (itP fu (qcl) (c.1,(c.2.1,(c.2.2.1,(c.2.2.2.1,(c.2.2.2.2.1,(c.2.2.2.2.2.1,(c.2.2.2.2.2.2,(x0.2.2.2.2,((((List.length x0.2.2.2.2):Nat):Int),((0:Int),(x0.1,(x0.2.1,(x0.2.2.1,(x0.2.2.2.1,(x0.2.2.2.2,(x1.1,(x1.2.1,(x1.2.2.1,(x1.2.2.2.1,(x1.2.2.2.2,()))))))))))))))))))))).bind fun x7 =>
  (match x7 with
 | .exit i8 p9=>(bif (Nat.beq i8 0) then
  some (Su.Qs (p9.2.2.2.2.2.2.2.2.2.2.2.1,(p9.2.2.2.2.2.2.2.2.2.2.2.2.1,p9.2.2.2.2.2.2.2.2.2.2.2.2.2.1)) (p9.2.2.2.2.2.2.2.2.2.2.2.2.2.2.2.2.1,(p9.2.2.2.2.2.2.2.2.2.2.2.2.2.2.2.2.2.1,p9.2.2.2.2.2.2.2.2.2.2.2.2.2.2.2.2.2.2.1)))
 else
  none)
 | .ret o10=>some o10)))
def qjp (c:CoD) (A B:StD) (i:Int):Int×(List Su.Cc×(List Su.T×(List Su.T×(List Su.T×(List Su.T×(Int×(List Su.Ce×(Int×(Int×(Bool×(Bool×(Int×(Int×(List Su.Ce×(Bool×(Bool×(Int×(Int×(List Su.Ce×Unit))))))))))))))))))) :=
 (c.1,(c.2.1,(c.2.2.1,(c.2.2.2.1,(c.2.2.2.2.1,(c.2.2.2.2.2.1,(c.2.2.2.2.2.2,(A.2.2.2.2,(((A.2.2.2.2.length:Nat):Int),(i,(A.1,(A.2.1,(A.2.2.1,(A.2.2.2.1,(A.2.2.2.2,(B.1,(B.2.1,(B.2.2.1,(B.2.2.2.1,(B.2.2.2.2,()))))))))))))))))))))
def YK (p:CoD×(StD×StD)):Option Bool:=bif smS p.2.1&&smS p.2.2 then some (qa7 p.1 p.2.1 p.2.2) else none
theorem qcm {c:CoD} {s:StD} (hm:smS s=true):smS (qp c s qI)=true:=qeD hm fun i d x hx=>qeC hm hx
theorem qlM {c:CoD} {s:StD} {f:Nat→Su.Cc→Su.Ce→Su.Ce} (h:(qp c s f).1=false):(qp c s f).2.2.2.2.length=c.2.1.length:=by
 obtain ⟨_,P,_,_,e,hl,_⟩:=qaa h
 rw [e];exact hl
theorem qAu (p:CoD×(StD×StD)) (y:Bool) (hg:(dc cCo (dc cSt (d1 cSt))).good p) (h:YK p=some y):∃ n,qAt n p.1 p.2.1 p.2.2=some y:=by
 obtain ⟨c,a,b⟩:=p
 obtain ⟨hm,h⟩:=qj h
 have:=soi h;subst this
 have hm:(smS a&&smS b)=true:=hm
 rw [Bool.and_eq_true] at hm
 refine ⟨c.2.1.length+1,?_⟩
 show qAt (c.2.1.length+1) c a b=some (qa7 c a b)
 unfold qAt
 refine obB (x:=qp c a qI) (show qab (c,(a,()))=_ from qB hm.1) (obB (x:=qp c b qI) (show qab (c,(b,()))=_ from qB hm.2) ?_)
 have hB:=qcm (c:=c) hm.2
 have lA:=qlM (c:=c) (s:=a) (f:=qI)
 have lB:=qlM (c:=c) (s:=b) (f:=qI)
 have hA:=qcm (c:=c) hm.1
 unfold qa7
 generalize qp c a qI=A at *
 generalize qp c b qI=B at *
 cases hd:A.1 with
 | true=>rfl
 | false =>
  cases he:B.1 with
  | true=>rfl
  | false =>
   have l1:=lA hd
   have l2:=lB he
   have hl:c.2.1.length≤maxLen:=by have:=Qe hA;rw [qG];omega
   refine (qA rfl).trans ((qA rfl).trans ?_)
   have step:∀ i,i<c.2.1.length→qcl (qjp c A B (i:Int))=some (bif inN c.2.1 A.2.2.2.2 B.2.2.2.2 i then .inl (qjp c A B ((i+1:Nat):Int)) else .inr (.ret false)):=by
    intro i hi
    have i1:i<A.2.2.2.2.length:=by omega
    have i2:i<B.2.2.2.2.length:=by omega
    have hs:qf3 (A.2.2.2.2[i],(c.2.1[i].type,B.2.2.2.2[i]))=some (inC c.2.1[i].type A.2.2.2.2[i] B.2.2.2.2[i]):=by
     unfold qf3
     exact qB (Nat.ble_eq_true_of_le (qeC hB (List.getElem_mem i2)))
    unfold inN qjp
    rw [List.getElem?_eq_getElem hi,List.getElem?_eq_getElem i1,List.getElem?_eq_getElem i2]
    simp only [qcl,ltN,decide_eq_true i1,cond_true,ixl i1,ixl hi,ixl i2,Option.bind_some,w1 hi hl,hs]
    cases inC c.2.1[i].type A.2.2.2.2[i] B.2.2.2.2[i] <;> rfl
   have hK:=qb5 (F:=qcl) (mk:=fun i=>qjp c A B (i:Int)) (n:=c.2.1.length) (ok:=inN c.2.1 A.2.2.2.2 B.2.2.2.2) (r1:=.ret false) (r0:=.exit 0 (qjp c A B (c.2.1.length:Int)))
    (fun i hi hk=>by rw [step i hi,hk];rfl) (fun i hi hk=>by rw [step i hi,hk];rfl)
    (by unfold qjp;simp only [qcl,ltN,l1,decide_eq_false (Nat.lt_irrefl _),cond_false])
   have hK:=hK _ (Nat.le_refl _)
   have e:qjp c A B ((0:Nat):Int)=qjp c A B 0:=rfl
   unfold qjp at hK
   rw [hd,he] at hK
   refine obB hK ?_
   cases Jo c.2.1.length (inN c.2.1 A.2.2.2.2 B.2.2.2.2) <;> rfl
end
end Su
end
section
namespace Su
open Go Fly
set_option linter.unusedVariables false
noncomputable section
def qf4 (a:Fm):Bool:=!a.1&&(decide (a.2.1=0)&&(Nat.beq a.2.2.1.length 0&&decide (a.2.2.2=0)))
theorem qps {a:Fm} (h:qf4 a=true):a=(false,(0,([],0))):=by
 obtain ⟨b,m,l,e⟩:=a
 unfold qf4 at h
 simp only [Bool.and_eq_true,Bool.not_eq_true',decide_eq_true_eq] at h
 obtain ⟨h1,h2,h3,h4⟩:=h
 have hl:l=[]:=List.length_eq_zero_iff.1 (Nat.eq_of_beq_eq_true h3)
 subst h1 h2 hl h4;rfl
def jF (a _:Fm):Fm:=bif a.1 then qqZ else (false,(0,([],0)))
def qlN (p:Fm×Fm):Option Fm:=bif p.1.1||(qf4 p.1&&qf4 p.2) then some (jF p.1 p.2) else none
end
end Su
end
section
namespace Su
open Go Fly
noncomputable section
abbrev YV:Dec (Bool×Bool×Int×Int×List (U 14)):=dc cB (dc cB (dc (cI .i64) (dc (cI .i64) (d1 (cL rCe)))))
theorem qpt (b:Bool×Bool×Int×Int×List (U 14)):∀ y∈YV.enc b,y.isAgg=false:=by
 obtain ⟨b1,b2,b3,b4,b5⟩:=b
 intro y hy
 have hy:y∈[cB.enc b1,cB.enc b2,(cI .i64).enc b3,(cI .i64).enc b4,(cL rCe).enc b5]:=hy
 simp only [List.mem_cons,List.not_mem_nil,or_false] at hy
 rcases hy with rfl | rfl | rfl | rfl | rfl <;> rfl
def cDo (f1 f2:Nat):Cod (Option (Bool×Bool×Int×Int×List (U 14))) where
 enc o:=match o with
  | none=>.fn f1 [] []
  | some b=>.fn f2 [] [.pt (.agg (YV.enc b)) 0]
 dec x:=match x with
  | .fn f [] []=>bif Nat.beq f f1 then some none else none
  | .fn f [] [.pt (.agg l) 0]=>bif Nat.beq f f2 then (YV.dec l).bind fun b=>some (some b) else none
  | _=>none
 good o:=match o with
  | none=>True
  | some b=>YV.good b
 rep {x a} h V v hr:=by
  split at h
  · obtain ⟨h1,h2⟩:=qj h
    have:=Nat.eq_of_beq_eq_true h1;subst this
    have:=soi h2;subst this
    exact hr
  · obtain ⟨h1,h2⟩:=qj h
    have:=Nat.eq_of_beq_eq_true h1;subst this
    obtain ⟨b,h3,h4⟩:=osm h2
    have:=soi h4;subst this
    cases hr with | fn k1 k2 =>
    cases k2 with | cons k2 k3 =>
    cases k2 with | pt k4 k5 k6 =>
    exact .fn k1 (.cons (.pt (YV.rep h3 k4) (qpt b) k6) k3)
  · exact non h
 de o:=by
  cases o with
  | none=>show (bif Nat.beq f1 f1 then some none else none)=_;rw [show Nat.beq f1 f1=true from by simp];rfl
  | some b =>
   show (bif Nat.beq f2 f2 then (YV.dec (YV.enc b)).bind fun b=>some (some b) else none)=_
   rw [show Nat.beq f2 f2=true from by simp,YV.de];rfl
 rng {a V v} h:=by
  cases a with
  | none=>trivial
  | some b =>
   have h:Rep V (.fn f2 [] [.pt (.agg (YV.enc b)) 0]) v:=h
   cases h with | fn k1 k2 =>
   cases k2 with | cons k2 k3 =>
   cases k2 with | pt k4 k5 k6=>exact YV.rng k4
def cJ (f2:Nat):Cod (Bool×Bool×Int×Int×List (U 14)) where
 enc b:=.fn f2 [] [.pt (.agg (YV.enc b)) 0]
 dec x:=match x with
  | .fn f [] [.pt (.agg l) 0]=>bif Nat.beq f f2 then YV.dec l else none
  | _=>none
 good b:=YV.good b
 rep {x a} h V v hr:=by
  split at h
  · obtain ⟨h1,h2⟩:=qj h
    have:=Nat.eq_of_beq_eq_true h1;subst this
    cases hr with | fn k1 k2 =>
    cases k2 with | cons k2 k3 =>
    cases k2 with | pt k4 k5 k6 =>
    exact .fn k1 (.cons (.pt (YV.rep h2 k4) (qpt a) k6) k3)
  · exact non h
 de b:=by
  show (bif Nat.beq f2 f2 then YV.dec (YV.enc b) else none)=_
  rw [show Nat.beq f2 f2=true from by simp,YV.de];rfl
 rng {b V v} h:=by
  cases h with | fn k1 k2 =>
  cases k2 with | cons k2 k3 =>
  cases k2 with | pt k4 k5 k6=>exact YV.rng k4
end
end Su
end
section
namespace Su
open Go Fly
set_option linter.unusedVariables false
noncomputable section
abbrev qf5:=(Int×((List Su.Cc)×((List Su.T)×((List Su.T)×((List Su.T)×((List Su.T)×(Int×((List Su.Ce)×(Int×(Int×((List Su.T)×(Bool×(Bool×(Int×(Int×(Nat×((List Su.T)×(Bool×(Bool×(Int×(Int×(Nat×Unit))))))))))))))))))))))
def qf6:qf5→Option (qf5 ⊕ (Lp qf5 (Bool×(Bool×(Int×(Int×(List Su.Ce))))))):=fun p0=>(bif (decide ((p0.2.2.2.2.2.2.2.2.2.1<p0.2.2.2.2.2.2.2.2.1))) then
 ((Su.idx p0.2.2.2.2.2.2.2.1 p0.2.2.2.2.2.2.2.2.2.1)).bind fun x1 =>
 ((Su.idx p0.2.1 p0.2.2.2.2.2.2.2.2.2.1)).bind fun x2 =>
 (bif (Su.qT (Su.qq x1 (Su.Cc.type x2)) (Su.Cc.type x2)) then
 some (.inr (.ret (true,(false,((0:Int),((0:Int),[]))))))
 else
  (bif ((true&&(Nat.beq p0.2.2.2.2.2.2.2.2.2.2.2.2.2.2.2.2.2.2.2.2.2.1 (List.length p0.2.2.2.2.2.2.2.2.2.2.2.2.2.2.2.2.1)))&&(Nat.ble ((List.length p0.2.2.2.2.2.2.2.2.2.2.2.2.2.2.2.2.1)+(List.length [(Su.view 14 (Su.qq x1 (Su.Cc.type x2)))])) 549755813888)) then
  some (.inl (p0.1,(p0.2.1,(p0.2.2.1,(p0.2.2.2.1,(p0.2.2.2.2.1,(p0.2.2.2.2.2.1,(p0.2.2.2.2.2.2.1,(p0.2.2.2.2.2.2.2.1,(p0.2.2.2.2.2.2.2.2.1,((Go.IntKind.wrap .i64 (p0.2.2.2.2.2.2.2.2.2.1+1)),(p0.2.2.2.2.2.2.2.2.2.2.1,(p0.2.2.2.2.2.2.2.2.2.2.2.1,(p0.2.2.2.2.2.2.2.2.2.2.2.2.1,(p0.2.2.2.2.2.2.2.2.2.2.2.2.2.1,(p0.2.2.2.2.2.2.2.2.2.2.2.2.2.2.1,(p0.2.2.2.2.2.2.2.2.2.2.2.2.2.2.2.1,((p0.2.2.2.2.2.2.2.2.2.2.2.2.2.2.2.2.1++[(Su.view 14 (Su.qq x1 (Su.Cc.type x2)))]),(p0.2.2.2.2.2.2.2.2.2.2.2.2.2.2.2.2.2.1,(p0.2.2.2.2.2.2.2.2.2.2.2.2.2.2.2.2.2.2.1,(p0.2.2.2.2.2.2.2.2.2.2.2.2.2.2.2.2.2.2.2.1,(p0.2.2.2.2.2.2.2.2.2.2.2.2.2.2.2.2.2.2.2.2.1,((List.length (p0.2.2.2.2.2.2.2.2.2.2.2.2.2.2.2.2.1++[(Su.view 14 (Su.qq x1 (Su.Cc.type x2)))])),())))))))))))))))))))))))
 else
  none))
 else
  some (.inr (.exit 0 (p0.1,(p0.2.1,(p0.2.2.1,(p0.2.2.2.1,(p0.2.2.2.2.1,(p0.2.2.2.2.2.1,(p0.2.2.2.2.2.2.1,(p0.2.2.2.2.2.2.2.1,(p0.2.2.2.2.2.2.2.2.1,(p0.2.2.2.2.2.2.2.2.2.1,(p0.2.2.2.2.2.2.2.2.2.2.1,(p0.2.2.2.2.2.2.2.2.2.2.2.1,(p0.2.2.2.2.2.2.2.2.2.2.2.2.1,(p0.2.2.2.2.2.2.2.2.2.2.2.2.2.1,(p0.2.2.2.2.2.2.2.2.2.2.2.2.2.2.1,(p0.2.2.2.2.2.2.2.2.2.2.2.2.2.2.2.1,(p0.2.2.2.2.2.2.2.2.2.2.2.2.2.2.2.2.1,(p0.2.2.2.2.2.2.2.2.2.2.2.2.2.2.2.2.2.1,(p0.2.2.2.2.2.2.2.2.2.2.2.2.2.2.2.2.2.2.1,(p0.2.2.2.2.2.2.2.2.2.2.2.2.2.2.2.2.2.2.2.1,(p0.2.2.2.2.2.2.2.2.2.2.2.2.2.2.2.2.2.2.2.2.1,(p0.2.2.2.2.2.2.2.2.2.2.2.2.2.2.2.2.2.2.2.2.2.1,())))))))))))))))))))))))))
def joS  (fu:Nat) (c:(Int×((List Su.Cc)×((List Su.T)×((List Su.T)×((List Su.T)×((List Su.T)×Int))))))) (s:(Bool×(Bool×(Int×(Int×(List Su.Ce)))))) (u:Unit):Option (Bool×(Bool×(Int×(Int×(List Su.Ce))))) :=
 (bif s.1 then
 some (true,(false,((0:Int),((0:Int),[]))))
 else
  (bif (!(decide (((((List.length s.2.2.2.2):Nat):Int)=(((List.length c.2.1):Nat):Int))))) then
  some (true,(false,((0:Int),((0:Int),[]))))
 else
  (bif (Su.qy [(s.2.1,(s.2.2.1,s.2.2.2.1))]).1 then
  some (true,(false,((0:Int),((0:Int),[]))))
 else
  (itP fu (qf6) (c.1,(c.2.1,(c.2.2.1,(c.2.2.2.1,(c.2.2.2.2.1,(c.2.2.2.2.2.1,(c.2.2.2.2.2.2,(s.2.2.2.2,((((List.length s.2.2.2.2):Nat):Int),((0:Int),([],(false,(false,((0:Int),((0:Int),(0,([],(false,((Su.qy [(s.2.1,(s.2.2.1,s.2.2.2.1))]).1,((Su.qy [(s.2.1,(s.2.2.1,s.2.2.2.1))]).2.1,((Su.qy [(s.2.1,(s.2.2.1,s.2.2.2.1))]).2.2,(0,()))))))))))))))))))))))).bind fun x3 =>
  (match x3 with
 | .exit i4 p5=>(bif (Nat.beq i4 0) then
  ((Su.sub p5.2.2.2.2.2.2.2.2.2.2.2.2.2.2.2.2.1 0 p5.2.2.2.2.2.2.2.2.2.2.2.2.2.2.2.2.2.2.2.2.2.1)).bind fun x6 =>
  (((((Su.unR (Su.rCe) x6)).bind fun x7 =>
  some (p5.2.2.2.2.2.2.2.2.2.2.2.2.2.2.2.2.2.2.2.2.1,x7)).bind fun x8 =>
  some (p5.2.2.2.2.2.2.2.2.2.2.2.2.2.2.2.2.2.2.2.1,x8)).bind fun x9 =>
  some (p5.2.2.2.2.2.2.2.2.2.2.2.2.2.2.2.2.2.2.1,x9)).bind fun x10 =>
  some (p5.2.2.2.2.2.2.2.2.2.2.2.2.2.2.2.2.2.1,x10)
 else
  none)
 | .ret o11=>some o11))))
abbrev qf7:=(Bool×(Bool×(Int×(Int×((List Su.Ce)×(Int×((List Su.Cc)×((List Su.T)×((List Su.T)×((List Su.T)×((List Su.T)×(Int×((List Su.Ce)×(Int×(Int×((List Su.T)×(Bool×(Bool×(Int×(Int×(Nat×((List Su.T)×(Bool×(Bool×(Int×(Int×(Nat×Unit)))))))))))))))))))))))))))
def qf8:qf7→Option (qf7 ⊕ (Lp qf7 (Bool×(Bool×(Int×(Int×(List Su.Ce))))))):=fun p0=>(bif (decide ((p0.2.2.2.2.2.2.2.2.2.2.2.2.2.2.1<p0.2.2.2.2.2.2.2.2.2.2.2.2.2.1))) then
 ((Su.idx p0.2.2.2.2.2.2.2.2.2.2.2.2.1 p0.2.2.2.2.2.2.2.2.2.2.2.2.2.2.1)).bind fun x1 =>
 ((Su.idx p0.2.2.2.2.2.2.1 p0.2.2.2.2.2.2.2.2.2.2.2.2.2.2.1)).bind fun x2 =>
 ((Su.idx p0.2.2.2.2.1 p0.2.2.2.2.2.2.2.2.2.2.2.2.2.2.1)).bind fun x3 =>
 ((Su.qlN (x1.8,x3.8))).bind fun x4 =>
 (bif (Su.qT (Su.qq (Su.Ce.mk ((Su.Ce.f x1)||(Su.Ce.f x3)) ((Su.Ce.t x1)||(Su.Ce.t x3)) (Su.qy [x1.3,x3.3]) (Su.yh (x1.4,x1.5) (x3.4,x3.5)).1 (Su.yh (x1.4,x1.5) (x3.4,x3.5)).2 (Su.QB [x1.6,x3.6]) (Su.y6 [(Su.Ce.sl x1),(Su.Ce.sl x3)]) x4) (Su.Cc.type x2)) (Su.Cc.type x2)) then
 some (.inr (.ret (true,(false,((0:Int),((0:Int),[]))))))
 else
  (bif ((true&&(Nat.beq p0.2.2.2.2.2.2.2.2.2.2.2.2.2.2.2.2.2.2.2.2.2.2.2.2.2.2.1 (List.length p0.2.2.2.2.2.2.2.2.2.2.2.2.2.2.2.2.2.2.2.2.2.1)))&&(Nat.ble ((List.length p0.2.2.2.2.2.2.2.2.2.2.2.2.2.2.2.2.2.2.2.2.2.1)+(List.length [(Su.view 14 (Su.qq (Su.Ce.mk ((Su.Ce.f x1)||(Su.Ce.f x3)) ((Su.Ce.t x1)||(Su.Ce.t x3)) (Su.qy [x1.3,x3.3]) (Su.yh (x1.4,x1.5) (x3.4,x3.5)).1 (Su.yh (x1.4,x1.5) (x3.4,x3.5)).2 (Su.QB [x1.6,x3.6]) (Su.y6 [(Su.Ce.sl x1),(Su.Ce.sl x3)]) x4) (Su.Cc.type x2)))])) 549755813888)) then
  some (.inl (p0.1,(p0.2.1,(p0.2.2.1,(p0.2.2.2.1,(p0.2.2.2.2.1,(p0.2.2.2.2.2.1,(p0.2.2.2.2.2.2.1,(p0.2.2.2.2.2.2.2.1,(p0.2.2.2.2.2.2.2.2.1,(p0.2.2.2.2.2.2.2.2.2.1,(p0.2.2.2.2.2.2.2.2.2.2.1,(p0.2.2.2.2.2.2.2.2.2.2.2.1,(p0.2.2.2.2.2.2.2.2.2.2.2.2.1,(p0.2.2.2.2.2.2.2.2.2.2.2.2.2.1,((Go.IntKind.wrap .i64 (p0.2.2.2.2.2.2.2.2.2.2.2.2.2.2.1+1)),(p0.2.2.2.2.2.2.2.2.2.2.2.2.2.2.2.1,(p0.2.2.2.2.2.2.2.2.2.2.2.2.2.2.2.2.1,(p0.2.2.2.2.2.2.2.2.2.2.2.2.2.2.2.2.2.1,(p0.2.2.2.2.2.2.2.2.2.2.2.2.2.2.2.2.2.2.1,(p0.2.2.2.2.2.2.2.2.2.2.2.2.2.2.2.2.2.2.2.1,(p0.2.2.2.2.2.2.2.2.2.2.2.2.2.2.2.2.2.2.2.2.1,((p0.2.2.2.2.2.2.2.2.2.2.2.2.2.2.2.2.2.2.2.2.2.1++[(Su.view 14 (Su.qq (Su.Ce.mk ((Su.Ce.f x1)||(Su.Ce.f x3)) ((Su.Ce.t x1)||(Su.Ce.t x3)) (Su.qy [x1.3,x3.3]) (Su.yh (x1.4,x1.5) (x3.4,x3.5)).1 (Su.yh (x1.4,x1.5) (x3.4,x3.5)).2 (Su.QB [x1.6,x3.6]) (Su.y6 [(Su.Ce.sl x1),(Su.Ce.sl x3)]) x4) (Su.Cc.type x2)))]),(p0.2.2.2.2.2.2.2.2.2.2.2.2.2.2.2.2.2.2.2.2.2.2.1,(p0.2.2.2.2.2.2.2.2.2.2.2.2.2.2.2.2.2.2.2.2.2.2.2.1,(p0.2.2.2.2.2.2.2.2.2.2.2.2.2.2.2.2.2.2.2.2.2.2.2.2.1,(p0.2.2.2.2.2.2.2.2.2.2.2.2.2.2.2.2.2.2.2.2.2.2.2.2.2.1,((List.length (p0.2.2.2.2.2.2.2.2.2.2.2.2.2.2.2.2.2.2.2.2.2.1++[(Su.view 14 (Su.qq (Su.Ce.mk ((Su.Ce.f x1)||(Su.Ce.f x3)) ((Su.Ce.t x1)||(Su.Ce.t x3)) (Su.qy [x1.3,x3.3]) (Su.yh (x1.4,x1.5) (x3.4,x3.5)).1 (Su.yh (x1.4,x1.5) (x3.4,x3.5)).2 (Su.QB [x1.6,x3.6]) (Su.y6 [(Su.Ce.sl x1),(Su.Ce.sl x3)]) x4) (Su.Cc.type x2)))])),()))))))))))))))))))))))))))))
 else
  none))
 else
  some (.inr (.exit 0 (p0.1,(p0.2.1,(p0.2.2.1,(p0.2.2.2.1,(p0.2.2.2.2.1,(p0.2.2.2.2.2.1,(p0.2.2.2.2.2.2.1,(p0.2.2.2.2.2.2.2.1,(p0.2.2.2.2.2.2.2.2.1,(p0.2.2.2.2.2.2.2.2.2.1,(p0.2.2.2.2.2.2.2.2.2.2.1,(p0.2.2.2.2.2.2.2.2.2.2.2.1,(p0.2.2.2.2.2.2.2.2.2.2.2.2.1,(p0.2.2.2.2.2.2.2.2.2.2.2.2.2.1,(p0.2.2.2.2.2.2.2.2.2.2.2.2.2.2.1,(p0.2.2.2.2.2.2.2.2.2.2.2.2.2.2.2.1,(p0.2.2.2.2.2.2.2.2.2.2.2.2.2.2.2.2.1,(p0.2.2.2.2.2.2.2.2.2.2.2.2.2.2.2.2.2.1,(p0.2.2.2.2.2.2.2.2.2.2.2.2.2.2.2.2.2.2.1,(p0.2.2.2.2.2.2.2.2.2.2.2.2.2.2.2.2.2.2.2.1,(p0.2.2.2.2.2.2.2.2.2.2.2.2.2.2.2.2.2.2.2.2.1,(p0.2.2.2.2.2.2.2.2.2.2.2.2.2.2.2.2.2.2.2.2.2.1,(p0.2.2.2.2.2.2.2.2.2.2.2.2.2.2.2.2.2.2.2.2.2.2.1,(p0.2.2.2.2.2.2.2.2.2.2.2.2.2.2.2.2.2.2.2.2.2.2.2.1,(p0.2.2.2.2.2.2.2.2.2.2.2.2.2.2.2.2.2.2.2.2.2.2.2.2.1,(p0.2.2.2.2.2.2.2.2.2.2.2.2.2.2.2.2.2.2.2.2.2.2.2.2.2.1,(p0.2.2.2.2.2.2.2.2.2.2.2.2.2.2.2.2.2.2.2.2.2.2.2.2.2.2.1,()))))))))))))))))))))))))))))))
def joJ  (fu:Nat) (c:(Int×((List Su.Cc)×((List Su.T)×((List Su.T)×((List Su.T)×((List Su.T)×Int))))))) (s:(Bool×(Bool×(Int×(Int×(List Su.Ce)))))) (b:(Bool×(Bool×(Int×(Int×(List Su.Ce)))))):Option (Bool×(Bool×(Int×(Int×(List Su.Ce))))) :=
 (bif s.1 then
 some (true,(false,((0:Int),((0:Int),[]))))
 else
  (bif (!(decide (((((List.length s.2.2.2.2):Nat):Int)=(((List.length c.2.1):Nat):Int))))) then
  some (true,(false,((0:Int),((0:Int),[]))))
 else
  (bif (Su.qy [(s.2.1,(s.2.2.1,s.2.2.2.1))]).1 then
  some (true,(false,((0:Int),((0:Int),[]))))
 else
  (itP fu (qf8) (b.1,(b.2.1,(b.2.2.1,(b.2.2.2.1,(b.2.2.2.2,(c.1,(c.2.1,(c.2.2.1,(c.2.2.2.1,(c.2.2.2.2.1,(c.2.2.2.2.2.1,(c.2.2.2.2.2.2,(s.2.2.2.2,((((List.length s.2.2.2.2):Nat):Int),((0:Int),([],(false,(false,((0:Int),((0:Int),(0,([],(false,((Su.qy [(s.2.1,(s.2.2.1,s.2.2.2.1))]).1,((Su.qy [(s.2.1,(s.2.2.1,s.2.2.2.1))]).2.1,((Su.qy [(s.2.1,(s.2.2.1,s.2.2.2.1))]).2.2,(0,())))))))))))))))))))))))))))).bind fun x5 =>
  (match x5 with
 | .exit i6 p7=>(bif (Nat.beq i6 0) then
  ((Su.sub p7.2.2.2.2.2.2.2.2.2.2.2.2.2.2.2.2.2.2.2.2.2.1 0 p7.2.2.2.2.2.2.2.2.2.2.2.2.2.2.2.2.2.2.2.2.2.2.2.2.2.2.1)).bind fun x8 =>
  (((((Su.unR (Su.rCe) x8)).bind fun x9 =>
  some (p7.2.2.2.2.2.2.2.2.2.2.2.2.2.2.2.2.2.2.2.2.2.2.2.2.2.1,x9)).bind fun x10 =>
  some (p7.2.2.2.2.2.2.2.2.2.2.2.2.2.2.2.2.2.2.2.2.2.2.2.2.1,x10)).bind fun x11 =>
  some (p7.2.2.2.2.2.2.2.2.2.2.2.2.2.2.2.2.2.2.2.2.2.2.2.1,x11)).bind fun x12 =>
  some (p7.2.2.2.2.2.2.2.2.2.2.2.2.2.2.2.2.2.2.2.2.2.2.1,x12)
 else
  none)
 | .ret o13=>some o13))))
def okJ (X Y:List Su.Ce) (i:Nat):Bool:=match X[i]?,Y[i]? with
 | some x,some y=>x.fm.1||(qf4 x.fm&&qf4 y.fm)
 | _,_=>false
def qrg (c:CoD) (b s:StD) (K:Iv) (i:Int) (P:List Su.Ce):=(b.1,(b.2.1,(b.2.2.1,(b.2.2.2.1,(b.2.2.2.2,yH c s K i P)))))
theorem qpu {X Y:List Su.Ce} {i:Nat} (h:okJ X Y i=true) (hi:i<X.length):∃ (h2:i<Y.length),(X[i].fm.1||(qf4 X[i].fm&&qf4 Y[i].fm))=true:=by
 unfold okJ at h
 rw [List.getElem?_eq_getElem hi] at h
 by_cases h2:i<Y.length
 · rw [List.getElem?_eq_getElem h2] at h;exact ⟨h2,h⟩
 · rw [List.getElem?_eq_none (by omega)] at h;cases h
theorem qrh (c:CoD) (s:StD) (K:Iv) (hl:s.2.2.2.2.length=c.2.1.length) (hs:s.2.2.2.2.length≤1000000) :
 jN (c.2.1.length+1) qf6 (yH c s K ((0:Nat):Int) []) (qfV (.ret qH) (fun P=>.exit 0 (yH c s K (c.2.1.length:Int) P)) (qP (qZ c.2.1 s.2.2.2.2 (qI)) c.2.1.length)):=by
 have hmx:s.2.2.2.2.length≤maxLen:=by rw [qG];omega
 refine yi (mk:=fun i P=>yH c s K (i:Int) P) ?_ ?_ ?_
 · intro i P x hi hP ho
   have i1:i<s.2.2.2.2.length:=by omega
   unfold qZ at ho
   rw [List.getElem?_eq_getElem hi,List.getElem?_eq_getElem i1] at ho
   simp only [] at ho
   have hb:Nat.ble (P.length+1) 549755813888=true:=Nat.ble_eq_true_of_le (by omega)
   unfold yH
   simp only [qf6,ltN,decide_eq_true i1,cond_true,ixl i1,ixl hi,Option.bind_some]
   generalize c.2.1[i]=d at *
   generalize s.2.2.2.2[i]=x0 at *
   have hf:qI i d x0=x0:=by rfl
   rw [hf] at ho
   rcases Bool.eq_false_or_eq_true (qT (qq (x0) d.type) d.type) with hn | hn
   · exact absurd ((qB hn).symm.trans ho) (by simp)
   · have:=soi ((qA hn).symm.trans ho);subst this
     refine (qA hn).trans ?_
     simp only [List.length_map,List.length_cons,List.length_nil,Nat.zero_add,qgn,hb,Bool.and_self,cond_true,QC,w1 i1 hmx]
     all_goals rfl
 · intro i P hi hP ho
   have i1:i<s.2.2.2.2.length:=by omega
   unfold qZ at ho
   rw [List.getElem?_eq_getElem hi,List.getElem?_eq_getElem i1] at ho
   simp only [] at ho
   have hb:Nat.ble (P.length+1) 549755813888=true:=Nat.ble_eq_true_of_le (by omega)
   unfold yH
   simp only [qf6,ltN,decide_eq_true i1,cond_true,ixl i1,ixl hi,Option.bind_some]
   generalize c.2.1[i]=d at *
   generalize s.2.2.2.2[i]=x0 at *
   have hf:qI i d x0=x0:=by rfl
   rw [hf] at ho
   rcases Bool.eq_false_or_eq_true (qT (qq (x0) d.type) d.type) with hn | hn
   · exact (qB hn).trans rfl
   · exact absurd ((qA hn).symm.trans ho) (by simp)
 · intro P hP
   unfold yH
   simp only [qf6,ltN,hl,decide_eq_false (Nat.lt_irrefl _),cond_false]
theorem qFF (c:CoD) (s:StD) (u:Unit) (hm:smS s=true):∃ n,joS n c s u=some (qp c s qI):=by
 refine ⟨c.2.1.length+1,?_⟩
 show joS (c.2.1.length+1) c s u=some (qp c s qI)
 unfold joS
 rcases Bool.eq_false_or_eq_true s.1 with hd | hd
 · rw [show qp c s _=qH from qB hd];exact qB hd
 · refine (qA hd).trans ?_
   by_cases hl:s.2.2.2.2.length=c.2.1.length
   · refine (qA (by rw [lnE,decide_eq_true hl];rfl)).trans ?_
     rcases Bool.eq_false_or_eq_true (qy [stK s]).1 with hK | hK
     · rw [show qp c s _=qH from (qA hd).trans ((qA (by rw [decide_eq_true hl];rfl)).trans (qB hK))]
       exact qB hK
     · refine (qA hK).trans ?_
       rw [jP _ hd hl hK]
       have hr:=qrh c s (qy [stK s]) hl (Qe hm) _ (Nat.le_refl _)
       refine obB hr ?_
       cases hb:qP (qZ c.2.1 s.2.2.2.2 (qI)) c.2.1.length with
       | none=>rfl
       | some P=>exact obB (YI P) (qnk P (qy [stK s]) false)
   · rw [show qp c s _=qH from (qA hd).trans (qB (by rw [decide_eq_false hl];rfl))]
     exact qB (by rw [lnE,decide_eq_false hl];rfl)
theorem qFG (c:CoD) (b s:StD) (K:Iv) (hl:s.2.2.2.2.length=c.2.1.length) (hs:s.2.2.2.2.length≤1000000) (hgd:Jo c.2.1.length (okJ s.2.2.2.2 b.2.2.2.2)=true) :
 jN (c.2.1.length+1) qf8 (qrg c b s K ((0:Nat):Int) []) (qfV (.ret qH) (fun P=>.exit 0 (qrg c b s K (c.2.1.length:Int) P)) (qP (qZ c.2.1 s.2.2.2.2 (jnF jF b.2.2.2.2)) c.2.1.length)):=by
 have hmx:s.2.2.2.2.length≤maxLen:=by rw [qG];omega
 refine yi (mk:=fun i P=>qrg c b s K (i:Int) P) ?_ ?_ ?_
 · intro i P x hi hP ho
   have i1:i<s.2.2.2.2.length:=by omega
   unfold qZ at ho
   rw [List.getElem?_eq_getElem hi,List.getElem?_eq_getElem i1] at ho
   simp only [] at ho
   have hb:Nat.ble (P.length+1) 549755813888=true:=Nat.ble_eq_true_of_le (by omega)
   obtain ⟨i2,hk⟩:=qpu (Yb.1 hgd i hi) i1
   unfold qrg yH
   simp only [qf8,ltN,decide_eq_true i1,cond_true,ixl i1,ixl hi,ixl i2,Option.bind_some]
   have hj:jnF jF b.2.2.2.2 i c.2.1[i] s.2.2.2.2[i]=yC jF s.2.2.2.2[i] b.2.2.2.2[i]:=by unfold jnF;rw [List.getElem?_eq_getElem i2]
   generalize b.2.2.2.2[i]=y0 at *
   generalize c.2.1[i]=d at *
   generalize s.2.2.2.2[i]=x0 at *
   have hf:(jnF jF b.2.2.2.2) i d x0=yC jF x0 y0:=by exact hj
   rw [hf] at ho
   rw [show qlN (x0.fm,y0.fm)=some (jF x0.fm y0.fm) from qB hk,Option.bind_some]
   rcases Bool.eq_false_or_eq_true (qT (qq (yC jF x0 y0) d.type) d.type) with hn | hn
   · exact absurd ((qB hn).symm.trans ho) (by simp)
   · have:=soi ((qA hn).symm.trans ho);subst this
     refine (qA hn).trans ?_
     simp only [List.length_map,List.length_cons,List.length_nil,Nat.zero_add,qgn,hb,Bool.and_self,cond_true,QC,w1 i1 hmx]
     all_goals rfl
 · intro i P hi hP ho
   have i1:i<s.2.2.2.2.length:=by omega
   unfold qZ at ho
   rw [List.getElem?_eq_getElem hi,List.getElem?_eq_getElem i1] at ho
   simp only [] at ho
   have hb:Nat.ble (P.length+1) 549755813888=true:=Nat.ble_eq_true_of_le (by omega)
   obtain ⟨i2,hk⟩:=qpu (Yb.1 hgd i hi) i1
   unfold qrg yH
   simp only [qf8,ltN,decide_eq_true i1,cond_true,ixl i1,ixl hi,ixl i2,Option.bind_some]
   have hj:jnF jF b.2.2.2.2 i c.2.1[i] s.2.2.2.2[i]=yC jF s.2.2.2.2[i] b.2.2.2.2[i]:=by unfold jnF;rw [List.getElem?_eq_getElem i2]
   generalize b.2.2.2.2[i]=y0 at *
   generalize c.2.1[i]=d at *
   generalize s.2.2.2.2[i]=x0 at *
   have hf:(jnF jF b.2.2.2.2) i d x0=yC jF x0 y0:=by exact hj
   rw [hf] at ho
   rw [show qlN (x0.fm,y0.fm)=some (jF x0.fm y0.fm) from qB hk,Option.bind_some]
   rcases Bool.eq_false_or_eq_true (qT (qq (yC jF x0 y0) d.type) d.type) with hn | hn
   · exact (qB hn).trans rfl
   · exact absurd ((qA hn).symm.trans ho) (by simp)
 · intro P hP
   unfold qrg yH
   simp only [qf8,ltN,hl,decide_eq_false (Nat.lt_irrefl _),cond_false]
theorem qFH (c:CoD) (s b:StD) (hm:smS s=true) (hgd:Jo c.2.1.length (okJ s.2.2.2.2 b.2.2.2.2)=true):∃ n,joJ n c s b=some (qp c s (jnF jF b.2.2.2.2)):=by
 refine ⟨c.2.1.length+1,?_⟩
 show joJ (c.2.1.length+1) c s b=some (qp c s (jnF jF b.2.2.2.2))
 unfold joJ
 rcases Bool.eq_false_or_eq_true s.1 with hd | hd
 · rw [show qp c s _=qH from qB hd];exact qB hd
 · refine (qA hd).trans ?_
   by_cases hl:s.2.2.2.2.length=c.2.1.length
   · refine (qA (by rw [lnE,decide_eq_true hl];rfl)).trans ?_
     rcases Bool.eq_false_or_eq_true (qy [stK s]).1 with hK | hK
     · rw [show qp c s _=qH from (qA hd).trans ((qA (by rw [decide_eq_true hl];rfl)).trans (qB hK))]
       exact qB hK
     · refine (qA hK).trans ?_
       rw [jP _ hd hl hK]
       have hr:=qFG c b s (qy [stK s]) hl (Qe hm) hgd _ (Nat.le_refl _)
       refine obB hr ?_
       cases hb:qP (qZ c.2.1 s.2.2.2.2 (jnF jF b.2.2.2.2)) c.2.1.length with
       | none=>rfl
       | some P=>exact obB (YI P) (qnk P (qy [stK s]) false)
   · rw [show qp c s _=qH from (qA hd).trans (qB (by rw [decide_eq_false hl];rfl))]
     exact qB (by rw [lnE,decide_eq_false hl];rfl)
def qac (p:CoD×(StD×Option StD)):Option StD:=match p.2.2 with
 | none=>bif smS p.2.1 then some (qp p.1 p.2.1 qI) else none
 | some b=>bif smS p.2.1&&Jo p.1.2.1.length (okJ p.2.1.2.2.2.2 b.2.2.2.2) then some (qp p.1 p.2.1 (jnF jF b.2.2.2.2)) else none
end
end Su
end
section
namespace Su
open Go Fly
set_option linter.unusedVariables false
noncomputable section
def qpv  (c:(Int×((List Su.Cc)×((List Su.T)×((List Su.T)×((List Su.T)×((List Su.T)×Int))))))) (a:(Bool×(Bool×(Int×(Int×(List Su.Ce)))))) (b:(Bool×(Bool×(Int×(Int×(List Su.Ce)))))):Option (Bool×(Bool×(Int×(Int×(List Su.Ce))))) :=
 ((Su.qac (c,(a,Option.none)))).bind fun x0 =>
 ((Su.qac (c,(b,Option.none)))).bind fun x1 =>
 (bif x0.1 then
 some x1
 else
  (bif x1.1 then
  some x0
 else
  ((Su.qac (c,((x0.1,((Su.qy [(x0.2.1,(x0.2.2.1,x0.2.2.2.1)),(x1.2.1,(x1.2.2.1,x1.2.2.2.1))]).1,((Su.qy [(x0.2.1,(x0.2.2.1,x0.2.2.2.1)),(x1.2.1,(x1.2.2.1,x1.2.2.2.1))]).2.1,((Su.qy [(x0.2.1,(x0.2.2.1,x0.2.2.2.1)),(x1.2.1,(x1.2.2.1,x1.2.2.2.1))]).2.2,x0.2.2.2.2)))),(Option.some x1))))).bind fun x2 =>
  some x2))
def jOk (c:CoD) (a b:StD):Bool:=(qp c a qI).1||((qp c b qI).1||Jo c.2.1.length (okJ (qp c a qI).2.2.2.2 (qp c b qI).2.2.2.2))
def qad (p:CoD×(StD×StD)):Option StD:=bif (smS p.2.1&&smS p.2.2)&&jOk p.1 p.2.1 p.2.2 then some (jt jF p.1 p.2.1 p.2.2) else none
theorem qvF (p:CoD×(StD×StD)) (y:StD) (hg:(dc cCo (dc cSt (d1 cSt))).good p) (h:qad p=some y):qpv p.1 p.2.1 p.2.2=some y:=by
 obtain ⟨c,a,b⟩:=p
 obtain ⟨hm,h⟩:=qj h
 have:=soi h;subst this
 have hm:((smS a&&smS b)&&jOk c a b)=true:=hm
 rw [Bool.and_eq_true,Bool.and_eq_true] at hm
 obtain ⟨⟨ha,hb⟩,hj⟩:=hm
 show qpv c a b=some (jt jF c a b)
 unfold qpv jt
 refine obB (x:=qp c a qI) (show qac (c,(a,none))=_ from qB ha) (obB (x:=qp c b qI) (show qac (c,(b,none))=_ from qB hb) ?_)
 have hA:=qcm (c:=c) ha
 unfold jOk at hj
 generalize qp c a qI=A at *
 generalize qp c b qI=B at *
 cases hd:A.1 with
 | true=>rfl
 | false =>
  cases he:B.1 with
  | true=>rfl
  | false =>
   rw [hd,he,Bool.false_or,Bool.false_or] at hj
   refine (qA rfl).trans ((qA rfl).trans ?_)
   refine obB (x:=qp c (mkS (qy [stK A,stK B]) A.2.2.2.2) (jnF jF B.2.2.2.2)) ?_ rfl
   exact qB (show (smS (mkS (qy [stK A,stK B]) A.2.2.2.2)&&Jo c.2.1.length (okJ A.2.2.2.2 B.2.2.2.2))=true from by
    rw [hj,Bool.and_true];exact hA)
theorem isZ0:qf4 fm0=true:=rfl
theorem qpw {x:Su.Ce} {t:Int} (h:qq x t=x) (ht:t≠3):x.fm=fm0:=by
 rw [← h]
 unfold qq
 cases decide (t=1) with
 | true=>rfl
 | false =>
  cases decide (t=2) with
  | true=>rfl
  | false=>rw [decide_eq_false ht];rfl
theorem qri {c:CoD} {p q:StD} (hp:p=qH∨Pl c p) (hq:q=qH∨Pl c q):jOk c p q=true:=by
 unfold jOk
 rcases hp with rfl | hp
 · rfl
 rcases hq with rfl | hq
 · rw [qde,Bool.or_eq_true];exact .inr rfl
 rw [QG hp.ev,QG hq.ev,hp.ev.live,hq.ev.live,Bool.false_or,Bool.false_or,Yb]
 intro i hi
 have l1:=hp.ev.len
 have l2:=hq.ev.len
 unfold okJ
 rw [List.getElem?_eq_getElem (show i<p.2.2.2.2.length by omega),List.getElem?_eq_getElem (show i<q.2.2.2.2.length by omega)]
 show (_||_)=true
 by_cases h3:c.2.1[i].type=3
 · rw [hp.bad i hi h3];rfl
 · rw [qpw (hp.ev.cell i hi).bare h3,qpw (hq.ev.cell i hi).bare h3,isZ0];rfl
theorem qjq {c:CoD} {a b:StD} (ha:smS a=true) (hb:smS b=true):smS (jt jF c a b)=true:=by
 unfold jt
 have hA:=qcm (c:=c) ha
 have hB:=qcm (c:=c) hb
 generalize qp c a qI=A at *
 generalize qp c b qI=B at *
 cases A.1 with
 | true=>exact hB
 | false =>
  cases B.1 with
  | true=>exact hA
  | false =>
   refine qeD (s:=mkS (qy [stK A,stK B]) A.2.2.2.2) hA fun i d x hx=>?_
   unfold jnF
   cases B.2.2.2.2[i]? with
   | none=>exact qeC hA hx
   | some y =>
    show (jF x.fm y.fm).2.2.1.length≤1000000
    unfold jF
    cases x.fm.1 <;> exact Nat.zero_le _
end
end Su
end
