/-
  Bits and rounding, in plain Lean. No condition.
-/
import Derived.Test.YtfckjjffdfkelaaGreatRjn
import Derived.Test.YtfckjjffdfkelaaGreatSuSd
import Derived.Test.YtfckjjffdfkelaaGreatNB25
set_option maxRecDepth 10000
section
namespace Su
open Go Fly
set_option linter.unusedVariables false
noncomputable section
theorem qvs {t:Int} {x:Su.Ce} {v:Su.Vl} {k:Int} (h:YK t (qo x t) v k=true):YK t x v k=true:=by
 obtain ⟨hv,ht⟩:=qa8 h
 rcases ht with ht | ht | ht
 · rw [qiY ht hv] at h ⊢;rw [qeu ht] at h;exact h
 · rw [qiZ ht hv] at h ⊢;rw [qev ht] at h;exact h
 · rw [qi0 ht hv] at h ⊢;rw [Z7 ht] at h;exact h
end
end Su
end
section
namespace Su
open Go Fly
set_option linter.unusedVariables false
noncomputable section
theorem qi4 {s:StD} (h:smS s=true) {x:Su.Ce} (hx:x∈s.2.2.2.2):x.fm.2.2.1.length≤1000000:=by
 unfold smS at h
 rw [Bool.and_eq_true] at h
 exact Nat.le_of_ble_eq_true (List.all_eq_true.1 h.2 x hx)
theorem qi5 {c:CoD} {s:StD} {f:Nat→Su.Cc→Su.Ce→Su.Ce} (hm:smS s=true) (hf:∀ (i:Nat) (d:Su.Cc) (x:Su.Ce),x∈s.2.2.2.2→(f i d x).fm.2.2.1.length≤1000000):smS (qC c s f)=true:=by
 cases h:(qC c s f).1 with
 | true=>rw [qhj h];rfl
 | false =>
  obtain ⟨h2,P,_,_,e,hl,hg⟩:=QL h
  rw [e]
  refine qFr (by have:=Jv hm;omega) fun x hx=>?_
  obtain ⟨j,hj,rfl⟩:=List.mem_iff_getElem.1 hx
  have:=(hg j (by omega)).1
  rw [List.getElem?_eq_getElem hj] at this
  rw [soi this]
  exact Nat.le_trans (qAa _ _) (hf _ _ _ (List.getElem_mem _))
theorem qFA {c:CoD} {s:StD} (hm:smS s=true):smS (qcg c s)=true:=qi5 hm fun i d x hx=>by
 have:(Zr s i d x).fm=x.fm:=by unfold Zr;cases decide (d.type=2) <;> rfl
 rw [this];exact qi4 hm hx
theorem qvt {c:CoD} {s:StD} (hm:smS s=true):smS (jR c s)=true:=qi5 (qFA hm) fun i d x hx=>Nat.zero_le _
theorem st_w {s:StD} (g:∀ x∈s.2.2.2.2,dCe.good x):Sw s:=fun x hx=>by
 obtain ⟨_,_,_,_,_,_,_,_,_,_,_,_,h1,h2,h3,_,h4,⟨h5,_⟩,h6⟩:=g x hx
 exact ⟨⟨yx.1 h1,yx.1 h2⟩,yx.1 h3,⟨yx.1 h4,yx.1 h6,fun t ht=>yx.1 (h5 t ht).2⟩⟩
end
end Su
end
section
namespace Su
open Go Fly
set_option linter.unusedVariables false
noncomputable section
abbrev qdb:=(Int×((List Su.Cc)×((List Su.T)×((List Su.T)×((List Su.T)×((List Su.T)×(Int×((List Su.Ce)×(Int×(Int×(Bool×(Bool×(Int×(Int×((List Su.Ce)×(Bool×(Bool×(Int×(Int×((List Su.Ce)×Unit))))))))))))))))))))
def qcl:qdb→Option (qdb ⊕ (Lp qdb Bool)):=fun p2=>(bif (decide ((p2.2.2.2.2.2.2.2.2.2.1<p2.2.2.2.2.2.2.2.2.1))) then
 ((Su.idx p2.2.2.2.2.2.2.2.1 p2.2.2.2.2.2.2.2.2.2.1)).bind fun x3 =>
 ((Su.idx p2.2.1 p2.2.2.2.2.2.2.2.2.2.1)).bind fun x4 =>
 ((Su.idx p2.2.2.2.2.2.2.2.2.2.2.2.2.2.2.2.2.2.2.2.1 p2.2.2.2.2.2.2.2.2.2.1)).bind fun x5 =>
 ((Su.qfX (x3,((Su.Cc.type x4),x5)))).bind fun x6 =>
 (bif (!x6) then
 some (.inr (.ret false))
 else
  some (.inl (p2.1,(p2.2.1,(p2.2.2.1,(p2.2.2.2.1,(p2.2.2.2.2.1,(p2.2.2.2.2.2.1,(p2.2.2.2.2.2.2.1,(p2.2.2.2.2.2.2.2.1,(p2.2.2.2.2.2.2.2.2.1,((Go.IntKind.wrap .i64 (p2.2.2.2.2.2.2.2.2.2.1+1)),(p2.2.2.2.2.2.2.2.2.2.2.1,(p2.2.2.2.2.2.2.2.2.2.2.2.1,(p2.2.2.2.2.2.2.2.2.2.2.2.2.1,(p2.2.2.2.2.2.2.2.2.2.2.2.2.2.1,(p2.2.2.2.2.2.2.2.2.2.2.2.2.2.2.1,(p2.2.2.2.2.2.2.2.2.2.2.2.2.2.2.2.1,(p2.2.2.2.2.2.2.2.2.2.2.2.2.2.2.2.2.1,(p2.2.2.2.2.2.2.2.2.2.2.2.2.2.2.2.2.2.1,(p2.2.2.2.2.2.2.2.2.2.2.2.2.2.2.2.2.2.2.1,(p2.2.2.2.2.2.2.2.2.2.2.2.2.2.2.2.2.2.2.2.1,()))))))))))))))))))))))
 else
  some (.inr (.exit 0 (p2.1,(p2.2.1,(p2.2.2.1,(p2.2.2.2.1,(p2.2.2.2.2.1,(p2.2.2.2.2.2.1,(p2.2.2.2.2.2.2.1,(p2.2.2.2.2.2.2.2.1,(p2.2.2.2.2.2.2.2.2.1,(p2.2.2.2.2.2.2.2.2.2.1,(p2.2.2.2.2.2.2.2.2.2.2.1,(p2.2.2.2.2.2.2.2.2.2.2.2.1,(p2.2.2.2.2.2.2.2.2.2.2.2.2.1,(p2.2.2.2.2.2.2.2.2.2.2.2.2.2.1,(p2.2.2.2.2.2.2.2.2.2.2.2.2.2.2.1,(p2.2.2.2.2.2.2.2.2.2.2.2.2.2.2.2.1,(p2.2.2.2.2.2.2.2.2.2.2.2.2.2.2.2.2.1,(p2.2.2.2.2.2.2.2.2.2.2.2.2.2.2.2.2.2.1,(p2.2.2.2.2.2.2.2.2.2.2.2.2.2.2.2.2.2.2.1,(p2.2.2.2.2.2.2.2.2.2.2.2.2.2.2.2.2.2.2.2.1,())))))))))))))))))))))))
def qAf  (fu:Nat) (c:(Int×((List Su.Cc)×((List Su.T)×((List Su.T)×((List Su.T)×((List Su.T)×Int))))))) (a:(Bool×(Bool×(Int×(Int×(List Su.Ce)))))) (b:(Bool×(Bool×(Int×(Int×(List Su.Ce)))))):Option Bool :=
 ((Su.Z9 (c,(a,())))).bind fun x0 =>
 ((Su.Z9 (c,(b,())))).bind fun x1 =>
 (bif x0.1 then
 some x0.1
 else
  (bif x1.1 then
  some x0.1
 else
  (itP fu (qcl) (c.1,(c.2.1,(c.2.2.1,(c.2.2.2.1,(c.2.2.2.2.1,(c.2.2.2.2.2.1,(c.2.2.2.2.2.2,(x0.2.2.2.2,((((List.length x0.2.2.2.2):Nat):Int),((0:Int),(x0.1,(x0.2.1,(x0.2.2.1,(x0.2.2.2.1,(x0.2.2.2.2,(x1.1,(x1.2.1,(x1.2.2.1,(x1.2.2.2.1,(x1.2.2.2.2,()))))))))))))))))))))).bind fun x7 =>
  (match x7 with
 | .exit i8 p9=>(bif (Nat.beq i8 0) then
  some (Su.y6 (p9.2.2.2.2.2.2.2.2.2.2.2.1,(p9.2.2.2.2.2.2.2.2.2.2.2.2.1,p9.2.2.2.2.2.2.2.2.2.2.2.2.2.1)) (p9.2.2.2.2.2.2.2.2.2.2.2.2.2.2.2.2.1,(p9.2.2.2.2.2.2.2.2.2.2.2.2.2.2.2.2.2.1,p9.2.2.2.2.2.2.2.2.2.2.2.2.2.2.2.2.2.2.1)))
 else
  none)
 | .ret o10=>some o10)))
def qi6 (c:CoD) (A B:StD) (i:Int):Int×(List Su.Cc×(List Su.T×(List Su.T×(List Su.T×(List Su.T×(Int×(List Su.Ce×(Int×(Int×(Bool×(Bool×(Int×(Int×(List Su.Ce×(Bool×(Bool×(Int×(Int×(List Su.Ce×Unit))))))))))))))))))) :=
 (c.1,(c.2.1,(c.2.2.1,(c.2.2.2.1,(c.2.2.2.2.1,(c.2.2.2.2.2.1,(c.2.2.2.2.2.2,(A.2.2.2.2,(((A.2.2.2.2.length:Nat):Int),(i,(A.1,(A.2.1,(A.2.2.1,(A.2.2.2.1,(A.2.2.2.2,(B.1,(B.2.1,(B.2.2.1,(B.2.2.2.1,(B.2.2.2.2,()))))))))))))))))))))
def qdc (p:CoD×(StD×StD)):Option Bool:=bif smS p.2.1&&smS p.2.2 then some (qda p.1 p.2.1 p.2.2) else none
theorem qpa {c:CoD} {s:StD} (hm:smS s=true):smS (qC c s jH)=true:=qi5 hm fun i d x hx=>qi4 hm hx
theorem qlt {c:CoD} {s:StD} {f:Nat→Su.Cc→Su.Ce→Su.Ce} (h:(qC c s f).1=false):(qC c s f).2.2.2.2.length=c.2.1.length:=by
 obtain ⟨_,P,_,_,e,hl,_⟩:=QL h
 rw [e];exact hl
theorem qAg (p:CoD×(StD×StD)) (y:Bool) (hg:(dc cCo (dc cSt (d1 cSt))).good p) (h:qdc p=some y):∃ n,qAf n p.1 p.2.1 p.2.2=some y:=by
 obtain ⟨c,a,b⟩:=p
 obtain ⟨hm,h⟩:=qj h
 have:=soi h;subst this
 have hm:(smS a&&smS b)=true:=hm
 rw [Bool.and_eq_true] at hm
 refine ⟨c.2.1.length+1,?_⟩
 show qAf (c.2.1.length+1) c a b=some (qda c a b)
 unfold qAf
 refine obB (x:=qC c a jH) (show Z9 (c,(a,()))=_ from qz hm.1) (obB (x:=qC c b jH) (show Z9 (c,(b,()))=_ from qz hm.2) ?_)
 have hB:=qpa (c:=c) hm.2
 have lA:=qlt (c:=c) (s:=a) (f:=jH)
 have lB:=qlt (c:=c) (s:=b) (f:=jH)
 have hA:=qpa (c:=c) hm.1
 unfold qda
 generalize qC c a jH=A at *
 generalize qC c b jH=B at *
 cases hd:A.1 with
 | true=>rfl
 | false =>
  cases he:B.1 with
  | true=>rfl
  | false =>
   have l1:=lA hd
   have l2:=lB he
   have hl:c.2.1.length≤maxLen:=by have:=Jv hA;rw [qF];omega
   refine (qt rfl).trans ((qt rfl).trans ?_)
   have step:∀ i,i<c.2.1.length→qcl (qi6 c A B (i:Int))=some (bif inN c.2.1 A.2.2.2.2 B.2.2.2.2 i then .inl (qi6 c A B ((i+1:Nat):Int)) else .inr (.ret false)):=by
    intro i hi
    have i1:i<A.2.2.2.2.length:=by omega
    have i2:i<B.2.2.2.2.length:=by omega
    have hs:qfX (A.2.2.2.2[i],(c.2.1[i].type,B.2.2.2.2[i]))=some (inC c.2.1[i].type A.2.2.2.2[i] B.2.2.2.2[i]):=by
     unfold qfX
     exact qz (Nat.ble_eq_true_of_le (qi4 hB (List.getElem_mem i2)))
    unfold inN qi6
    rw [List.getElem?_eq_getElem hi,List.getElem?_eq_getElem i1,List.getElem?_eq_getElem i2]
    simp only [qcl,ltN,decide_eq_true i1,cond_true,ixl i1,ixl hi,ixl i2,Option.bind_some,w1 hi hl,hs]
    cases inC c.2.1[i].type A.2.2.2.2[i] B.2.2.2.2[i] <;> rfl
   have hK:=Zi (F:=qcl) (mk:=fun i=>qi6 c A B (i:Int)) (n:=c.2.1.length) (ok:=inN c.2.1 A.2.2.2.2 B.2.2.2.2) (r1:=.ret false) (r0:=.exit 0 (qi6 c A B (c.2.1.length:Int)))
    (fun i hi hk=>by rw [step i hi,hk];rfl) (fun i hi hk=>by rw [step i hi,hk];rfl)
    (by unfold qi6;simp only [qcl,ltN,l1,decide_eq_false (Nat.lt_irrefl _),cond_false])
   have hK:=hK _ (Nat.le_refl _)
   have e:qi6 c A B ((0:Nat):Int)=qi6 c A B 0:=rfl
   unfold qi6 at hK
   rw [hd,he] at hK
   refine obB hK ?_
   cases Yv c.2.1.length (inN c.2.1 A.2.2.2.2 B.2.2.2.2) <;> rfl
end
end Su
end
section
namespace Su
open Go Fly
set_option linter.unusedVariables false
noncomputable section
theorem qcm {a b:Iv} {n:Int} (h:y6 a b=true) (hn:qT a n=true):qT b n=true:=by
 obtain ⟨h1,h2,h3⟩:=jE.1 hn
 unfold y6 at h
 rw [h1,Bool.false_or,Bool.and_eq_true,Bool.and_eq_true,decide_eq_true_eq,decide_eq_true_eq,Bool.not_eq_true'] at h
 obtain ⟨e,k1,k2⟩:=h
 obtain ⟨p1,p2,p3,p4,p5⟩:=qaZ (qfM b) e
 exact jE.2 ⟨e,by omega,by omega⟩
theorem qvu {a b:Ckp} {v k:Int} (h:qfL a b=true) (hn:J4 a v k=true):J4 b v k=true:=by
 unfold qfL at h
 rw [Bool.and_eq_true] at h
 obtain ⟨r,h1,h2⟩:=QK.1 hn
 exact QK.2 ⟨r,qcm h.1 h1,qcm h.2 h2⟩
theorem qvv {a b:Spn} {f:Int} (wa:SpW a) (wb:SpW b) (wf:Fw f) (h:Zl a b=true) (hn:qau a f=true):qau b f=true:=by
 obtain ⟨h1,h2,h3,h4⟩:=(Z8 wf wa).1 hn
 unfold Zl at h
 rw [h2,Bool.false_or,Bool.and_eq_true,Bool.and_eq_true,Bool.not_eq_true',Qy,Qy] at h
 obtain ⟨e,⟨_,_,k1⟩,⟨_,_,k2⟩⟩:=h
 exact (Z8 wf wb).2 ⟨h1,e,by omega,by omega⟩
theorem qvw {a:Fm} {f:Int} (h:ofS a f=true):fI f=true:=by
 unfold ofS at h
 rw [Bool.and_eq_true,qfY,Bool.not_not] at h
 exact h.1
theorem qm7 {a:Fm} {lo hi f:Int} (h1:ofS a lo=true) (h2:ofS a hi=true) (hf:fI f=true) (k1:ky lo≤ky f) (k2:ky f≤ky hi):ofS a f=true:=by
 have f1:=qvw h1
 have f2:=qvw h2
 have g1:=(qvr f1 hf).2 k1
 have g2:=(qvr hf f2).2 k2
 unfold ofS at h1 h2 ⊢
 rw [qfY,hf,Bool.not_true,Bool.not_false,Bool.true_and]
 rw [Bool.and_eq_true] at h1 h2
 cases ho:okF a with
 | false=>rfl
 | true =>
  rw [ho] at h1 h2
  have e1:(fv lo.toNat-fv a.2.1.toNat).natAbs≤qm5 a:=of_decide_eq_true (by simpa using h1.2)
  have e2:(fv hi.toNat-fv a.2.1.toNat).natAbs≤qm5 a:=of_decide_eq_true (by simpa using h2.2)
  rw [Bool.not_true,Bool.false_or]
  exact decide_eq_true (by omega)
theorem qAh {t:Int} {x y:Su.Ce} {v:Su.Vl} {k:Int} (wx:SpW x.s) (wy:SpW y.s) (wf:Fw v.f) (h:inC t x y=true) (hn:YK t x v k=true):YK t y v k=true:=by
 obtain ⟨hv,ht⟩:=qa8 hn
 rcases ht with ht | ht | ht
 · rw [qCT ht] at h
   rw [qiY ht hv] at hn ⊢
   revert h hn
   cases x.f <;> cases x.t <;> cases y.f <;> cases y.t <;> cases v.b <;> simp
 · rw [qCU ht,Bool.and_eq_true] at h
   rw [qiZ ht hv,Bool.and_eq_true] at hn ⊢
   exact ⟨qcm h.1 hn.1,qvu h.2 hn.2⟩
 · rw [qvj ht,Bool.and_eq_true,Bool.and_eq_true] at h
   rw [qi0 ht hv,Bool.and_eq_true] at hn ⊢
   obtain ⟨hF,hS,-⟩:=h
   refine ⟨qvv wx wy wf hS hn.1,?_⟩
   obtain ⟨hf,h0,h1,h2⟩:=(Z8 wf wx).1 hn.1
   rcases Ju wx with e | ⟨_,n1,n2,_,_,_,e⟩
   · rw [e] at h0;cases h0
   · rw [e] at h1 h2
     have h1:ky (nzI x.s.2.1)≤ky v.f:=h1
     have h2:ky v.f≤ky (nzI x.s.2.2):=h2
     rw [(qhf wx.1 n1).2] at h1
     rw [(qhf wx.2 n2).2] at h2
     rw [Bool.or_eq_true,Bool.and_eq_true] at hF
     rcases hF with hb | ⟨h3,h4⟩
     · have ho:okF y.fm=false:=by unfold okF;rw [hb];rfl
       unfold ofS
       rw [qfY,hf,ho];rfl
     · exact qm7 h3 h4 hf h1 h2
theorem qAi {c:CoD} {a b:StD} {row:List Su.Vl} {k:Int} (wa:Sw a) (wb:Sw b) (hf:∀ v∈row,Fw v.f) (h:qda c a b=true) (hn:qan c a row k=true):qan c b row k=true∧b.1=false:=by
 obtain ⟨hd,hl,hr,hk,hN⟩:=qck.1 hn
 obtain ⟨P,hP,hPl,hPg,hPh⟩:=qlq (c:=c) (s:=a) (N:=row) (k:=k) (f:=jH) hd hl hr hk (fun i hi=>(wa _ (List.getElem_mem (by omega))).1) hf (fun i hi=>by
  have:=hN i hi
  rwa [qfV hi (by omega) (by omega)] at this)
 unfold qda at h
 rw [hP] at h
 have e1:(mkS (ivN (stK a)) P).1=false:=rfl
 rw [e1,Bool.false_or] at h
 cases hb:(qC c b jH).1 with
 | true=>rw [hb] at h;cases h
 | false =>
  rw [hb,cond_false,Bool.and_eq_true,Jc] at h
  obtain ⟨hall,hK⟩:=h
  obtain ⟨l2,Q,q1,q3,e,hql,hqg⟩:=QL hb
  rw [e] at hall hK
  have hK:y6 (ivN (stK a)) (ivN (stK b))=true:=hK
  refine ⟨qck.2 ⟨q1,l2,hr,qcm (by rw [← qE2,← qzu];exact hK) hk,fun i hi=>?_⟩,q1⟩
  rw [qfV hi (by omega) (by omega)]
  have h1:=hall i hi
  have iP:i<P.length:=by omega
  have iQ:i<Q.length:=by omega
  have h1:inN c.2.1 P Q i=true:=h1
  unfold inN at h1
  rw [List.getElem?_eq_getElem hi,List.getElem?_eq_getElem iP,List.getElem?_eq_getElem iQ] at h1
  have g1:=hPg i hi
  have g2:=(hqg i hi).1
  rw [List.getElem?_eq_getElem iP] at g1
  rw [List.getElem?_eq_getElem iQ] at g2
  have h1:inC c.2.1[i].type P[i] Q[i]=true:=h1
  rw [soi g1,soi g2] at h1
  have hc:=hN i hi
  rw [qfV hi (by omega) (by omega)] at hc
  have wai:=wa _ (List.getElem_mem (show i<a.2.2.2.2.length by omega))
  have wbi:=wb _ (List.getElem_mem (show i<b.2.2.2.2.length by omega))
  have hc2:=(qlp wai.1 (hf _ (List.getElem_mem (by omega))) hc).2
  exact qvs (qAh (qi3 wai.1 wai.2.1 _).1 (qi3 wbi.1 wbi.2.1 _).1 (hf _ (List.getElem_mem (by omega))) h1 hc2)
theorem qHJ {a b:Int} (ha:Fw a) (hb:Fw b) (h:qfO [a,b]=gdF b):ky (gdF a)≤ky (gdF b):=by
 rw [qls ha hb] at h
 by_cases hl:ky (gdF a)<ky (gdF b)
 · omega
 · rw [if_neg hl] at h;rw [h];exact Int.le_refl _
theorem qAj (p r:Int):(!decide (0<qam p r))=decide (p≤r):=by
 rw [← qo4]
 by_cases h:qam p r≤0
 · rw [decide_eq_true h,decide_eq_false (by omega)];rfl
 · rw [decide_eq_false h,decide_eq_true (by omega)];rfl
def prR (v:Su.Vl) (r:Int) (k:Bool):Su.Pr:=⟨v,(yo r.toNat).1,(yo r.toNat).2.1,(yo r.toNat).2.2,k⟩
theorem qvx (t sl:Int) (v:Su.Vl) (r:Int) (k:Bool):qcc t sl (prR v r k)=(!(decide (t=3)&&fI (gdF sl))||(k&&(fI v.f&&decide (((fv v.f.toNat-fv r.toNat).natAbs:Int)≤fv (gdF sl).toNat)))):=by
 unfold qcc
 rw [qfY,qfY,Bool.not_not,Bool.not_not]
 have e:(prR v r k).real=yo r.toNat:=rfl
 have e1:(prR v r k).v=v:=rfl
 have e2:(prR v r k).known=k:=rfl
 rw [e,e1,e2,Yx,Yx,Yx,subD,qoW _ Jf,cmpD,qAj]
 cases (decide (t=3)&&fI (gdF sl)) <;> rfl
theorem qAk {t a b:Int} {v:Su.Vl} {r:Int} {k:Bool} (ha:Fw a) (hb:Fw b) (hle:ky (gdF a)≤ky (gdF b)) (h:qcc t a (prR v r k)=true):qcc t b (prR v r k)=true:=by
 rw [qvx] at h ⊢
 obtain ⟨a1,a2⟩:=qlr ha
 obtain ⟨b1,b2⟩:=qlr hb
 cases ht:decide (t=3) with
 | false=>rfl
 | true =>
  cases fb:fI (gdF b) with
  | false=>rfl
  | true =>
   have fa:fI (gdF a)=true:=by
    have h1:=qa0 (gdF a)
    have h2:=qFy fb
    exact qFz.2 (by unfold qgb;omega)
   rw [ht,fa,Bool.and_self,Bool.not_true,Bool.false_or,Bool.and_eq_true,Bool.and_eq_true,decide_eq_true_eq] at h
   obtain ⟨h1,h2,h3⟩:=h
   have:=(qvr fa fb).2 hle
   rw [h1,h2,decide_eq_true (show ((fv v.f.toNat-fv r.toNat).natAbs:Int)≤fv (gdF b).toNat by omega)];rfl
theorem qlu {c:CoD} {s:StD} {row:List Su.Pr}:Zo c s row=true↔s.1=false∧s.2.2.2.2.length=c.2.1.length∧row.length=c.2.1.length∧∀ i,i<c.2.1.length→qcd c.2.1 s.2.2.2.2 row i=true:=by
 unfold Zo
 cases hd:s.1 with
 | true=>simp
 | false =>
  by_cases h1:s.2.2.2.2.length=c.2.1.length
  · by_cases h2:row.length=c.2.1.length
    · rw [cond_false,decide_eq_true h1,decide_eq_true h2]
      simp only [Bool.not_true,cond_false]
      rw [Jc]
      exact ⟨fun h=>⟨trivial,h1,h2,h⟩,fun h=>h.2.2.2⟩
    · rw [decide_eq_true h1,decide_eq_false h2]
      simp only [cond_false,cond_true,Bool.not_true,Bool.not_false]
      exact ⟨fun h=>(by cases h),fun h=>absurd h.2.2.1 h2⟩
  · rw [decide_eq_false h1]
    simp only [cond_false,cond_true,Bool.not_false]
    exact ⟨fun h=>(by cases h),fun h=>absurd h.2.1 h1⟩
theorem qvy {C:List Su.Cc} {X:List Su.Ce} {row:List Su.Pr} {i:Nat} (h1:i<C.length) (h2:i<X.length) (h3:i<row.length):qcd C X row i=qcc C[i].type X[i].sl row[i]:=by
 unfold qcd
 rw [List.getElem?_eq_getElem h1,List.getElem?_eq_getElem h2,List.getElem?_eq_getElem h3]
theorem qqW {t a:Int} {p:Su.Pr} (h:t≠3):qcc t a p=true:=by
 unfold qcc;rw [decide_eq_false h];rfl
theorem qlv {x:Su.Ce} {t:Int} (h:t=3):(qo x t).sl=x.sl:=by rw [Z7 h]
theorem qvz {c:CoD} {a b:StD} {row:List Su.Vl} {k:Int} {r:Int} (kn:Su.Vl→Bool) (wa:Sw a) (wb:Sw b) (hf:∀ v∈row,Fw v.f) (h:qda c a b=true) (hn:qan c a row k=true)
 (hne:Zo c a (row.map fun v=>prR v r (kn v))=true):Zo c b (row.map fun v=>prR v r (kn v))=true:=by
 obtain ⟨hd,hl,hr,hk,hN⟩:=qck.1 hn
 obtain ⟨P,hP,hPl,hPg,hPh⟩:=qlq (c:=c) (s:=a) (N:=row) (k:=k) (f:=jH) hd hl hr hk (fun i hi=>(wa _ (List.getElem_mem (by omega))).1) hf (fun i hi=>by
  have:=hN i hi
  rwa [qfV hi (by omega) (by omega)] at this)
 unfold qda at h
 rw [hP] at h
 have e1:(mkS (ivN (stK a)) P).1=false:=rfl
 rw [e1,Bool.false_or] at h
 cases hb:(qC c b jH).1 with
 | true=>rw [hb] at h;cases h
 | false =>
  rw [hb,cond_false,Bool.and_eq_true,Jc] at h
  obtain ⟨hall,_⟩:=h
  obtain ⟨l2,Q,q1,q3,e,hql,hqg⟩:=QL hb
  rw [e] at hall
  obtain ⟨_,_,n3,n4⟩:=qlu.1 hne
  refine qlu.2 ⟨q1,l2,n3,fun i hi=>?_⟩
  have h0:=n4 i hi
  rw [qvy hi (by omega) (by rw [List.length_map];omega),List.getElem_map] at h0 ⊢
  by_cases t3:c.2.1[i].type=3
  · have iP:i<P.length:=by omega
    have iQ:i<Q.length:=by omega
    have h1:inN c.2.1 P Q i=true:=hall i hi
    unfold inN at h1
    rw [List.getElem?_eq_getElem hi,List.getElem?_eq_getElem iP,List.getElem?_eq_getElem iQ] at h1
    have g1:=hPg i hi
    have g2:=(hqg i hi).1
    rw [List.getElem?_eq_getElem iP] at g1
    rw [List.getElem?_eq_getElem iQ] at g2
    have h1:inC c.2.1[i].type P[i] Q[i]=true:=h1
    rw [soi g1,soi g2,qvj t3,qlv t3,qlv t3,Bool.and_eq_true,Bool.and_eq_true,decide_eq_true_eq] at h1
    have wai:=wa _ (List.getElem_mem (show i<a.2.2.2.2.length by omega))
    have wbi:=wb _ (List.getElem_mem (show i<b.2.2.2.2.length by omega))
    exact qAk wai.2.1 wbi.2.1 (qHJ wai.2.1 wbi.2.1 h1.2.2) h0
  · exact qqW t3
end
end Su
end
section
namespace Su
open Go Fly
set_option linter.unusedVariables false
noncomputable section
abbrev qdd:=((List Su.Vl)×(Bool×((List Int)×((List Int)×(Nat×(Int×((List Su.T)×Unit)))))))
def qex:qdd→Option (qdd ⊕ qdd):=fun p0=>(bif (decide ((p0.2.2.2.2.2.1<(((List.length p0.1):Nat):Int)))) then
 ((Su.idx p0.1 p0.2.2.2.2.2.1)).bind fun x1 =>
 ((Su.idx p0.1 p0.2.2.2.2.2.1)).bind fun x2 =>
 (bif (decide (((Su.Vl.type x2)=3))) then
 ((Su.idx p0.1 p0.2.2.2.2.2.1)).bind fun x3 =>
 (bif ((true&&(Nat.beq p0.2.2.2.2.1 (List.length p0.2.2.2.2.2.2.1)))&&(Nat.ble ((List.length p0.2.2.2.2.2.2.1)+(List.length [(T.agg [(T.s (.int .u8 (Su.Vl.type x1))),(T.s (.bool (Su.Vl.b x1))),(T.s (.int .i32 (Su.Vl.i x1))),(T.s (.int .u64 (Su.Vl.f x1))),(T.s (.bool p0.2.1)),(T.ql 1 1 p0.2.2.1),(T.ql 1 1 p0.2.2.2.1),(T.s (.bool (Su.jz (Su.bK (Int.toNat (Su.Vl.f x3))))))])])) 549755813888)) then
 some (.inl (p0.1,(p0.2.1,(p0.2.2.1,(p0.2.2.2.1,((List.length (p0.2.2.2.2.2.2.1++[(T.agg [(T.s (.int .u8 (Su.Vl.type x1))),(T.s (.bool (Su.Vl.b x1))),(T.s (.int .i32 (Su.Vl.i x1))),(T.s (.int .u64 (Su.Vl.f x1))),(T.s (.bool p0.2.1)),(T.ql 1 1 p0.2.2.1),(T.ql 1 1 p0.2.2.2.1),(T.s (.bool (Su.jz (Su.bK (Int.toNat (Su.Vl.f x3))))))])])),((Go.IntKind.wrap .i64 (p0.2.2.2.2.2.1+1)),((p0.2.2.2.2.2.2.1++[(T.agg [(T.s (.int .u8 (Su.Vl.type x1))),(T.s (.bool (Su.Vl.b x1))),(T.s (.int .i32 (Su.Vl.i x1))),(T.s (.int .u64 (Su.Vl.f x1))),(T.s (.bool p0.2.1)),(T.ql 1 1 p0.2.2.1),(T.ql 1 1 p0.2.2.2.1),(T.s (.bool (Su.jz (Su.bK (Int.toNat (Su.Vl.f x3))))))])]),()))))))))
 else
  none)
 else
  (bif ((true&&(Nat.beq p0.2.2.2.2.1 (List.length p0.2.2.2.2.2.2.1)))&&(Nat.ble ((List.length p0.2.2.2.2.2.2.1)+(List.length [(T.agg [(T.s (.int .u8 (Su.Vl.type x1))),(T.s (.bool (Su.Vl.b x1))),(T.s (.int .i32 (Su.Vl.i x1))),(T.s (.int .u64 (Su.Vl.f x1))),(T.s (.bool p0.2.1)),(T.ql 1 1 p0.2.2.1),(T.ql 1 1 p0.2.2.2.1),(T.s (.bool false))])])) 549755813888)) then
  some (.inl (p0.1,(p0.2.1,(p0.2.2.1,(p0.2.2.2.1,((List.length (p0.2.2.2.2.2.2.1++[(T.agg [(T.s (.int .u8 (Su.Vl.type x1))),(T.s (.bool (Su.Vl.b x1))),(T.s (.int .i32 (Su.Vl.i x1))),(T.s (.int .u64 (Su.Vl.f x1))),(T.s (.bool p0.2.1)),(T.ql 1 1 p0.2.2.1),(T.ql 1 1 p0.2.2.2.1),(T.s (.bool false))])])),((Go.IntKind.wrap .i64 (p0.2.2.2.2.2.1+1)),((p0.2.2.2.2.2.2.1++[(T.agg [(T.s (.int .u8 (Su.Vl.type x1))),(T.s (.bool (Su.Vl.b x1))),(T.s (.int .i32 (Su.Vl.i x1))),(T.s (.int .u64 (Su.Vl.f x1))),(T.s (.bool p0.2.1)),(T.ql 1 1 p0.2.2.1),(T.ql 1 1 p0.2.2.2.1),(T.s (.bool false))])]),()))))))))
 else
  none))
 else
  some (.inr (p0.1,(p0.2.1,(p0.2.2.1,(p0.2.2.2.1,(p0.2.2.2.2.1,(p0.2.2.2.2.2.1,(p0.2.2.2.2.2.2.1,())))))))))
def qAl  (fu:Nat) (row:(List Su.Vl)) (r:(Bool×((List Int)×(List Int)))):Option (List Su.Pr) :=
 (itP fu (qex) (row,(r.1,(r.2.1,(r.2.2,(0,((0:Int),([],())))))))).bind fun x4 =>
 ((Su.sub x4.2.2.2.2.2.2.1 0 x4.2.2.2.2.1)).bind fun x5 =>
 (Su.unR (Su.rPr) x5)
def pairW (r:Rt) (v:Su.Vl):Su.Pr:=⟨v,r.1,r.2.1,r.2.2,decide (v.type=3)&&fI v.f⟩
def vwP (p:Su.Pr):T:=.agg [.s (.int .u8 p.v.type),.s (.bool p.v.b),.s (.int .i32 p.v.i),.s (.int .u64 p.v.f),.s (.bool p.neg),.ql 1 1 p.num,.ql 1 1 p.den,.s (.bool p.known)]
theorem qAm (P:List Su.Pr):unR rPr (P.map vwP)=some P:=qiI rPr P
theorem qqX {α β:Type} (l:List α) (f:α→β):qP (fun i=>(l[i]?).map f) l.length=some (l.map f):=by
 obtain ⟨P,hP⟩:=Yy (out:=fun i=>(l[i]?).map f) (n:=l.length) fun i hi=>by rw [List.getElem?_eq_getElem hi];simp
 rw [hP]
 refine congrArg some (List.ext_getElem? fun i=>?_)
 by_cases hi:i<l.length
 · rw [← Jg hP i hi,List.getElem?_map]
 · rw [List.getElem?_eq_none (by rw [jl hP];omega),List.getElem?_eq_none (by rw [List.length_map];omega)]
def qqY (row:List Su.Vl) (r:Rt) (i:Int) (P:List Su.Pr):List Su.Vl×(Bool×(List Int×(List Int×(Nat×(Int×(List T×Unit)))))):=(row,(r.1,(r.2.1,(r.2.2,(P.length,(i,(P.map vwP,())))))))
theorem qAn (row:List Su.Vl) (r:Rt) (h:row.length≤1000000):jN (row.length+1) qex (qqY row r ((0:Nat):Int) []) (qfQ (qqY row r 0 []) (fun P=>qqY row r (row.length:Int) P) (qP (fun i=>(row[i]?).map (pairW r)) row.length)):=by
 have hmx:row.length≤maxLen:=by rw [qF];omega
 refine yi (mk:=fun i P=>qqY row r (i:Int) P) ?_ ?_ ?_
 · intro i P x hi hP ho
   rw [List.getElem?_eq_getElem hi] at ho
   have:=soi ho;subst this
   have hb:Nat.ble (P.length+1) 549755813888=true:=Nat.ble_eq_true_of_le (by omega)
   have e:∀ k:Bool,(decide (row[i].type=3)&&fI row[i].f)=k→P.map vwP++[T.agg [(T.s (.int .u8 row[i].type)),(T.s (.bool row[i].b)),(T.s (.int .i32 row[i].i)),(T.s (.int .u64 row[i].f)),(T.s (.bool r.1)),(T.ql 1 1 r.2.1),(T.ql 1 1 r.2.2),(T.s (.bool k))]]=(P++[pairW r row[i]]).map vwP:=by
    intro k hk
    subst hk
    rw [List.map_append];rfl
   unfold qqY
   simp only [qex,ltN,decide_eq_true hi,cond_true,ixl hi,Option.bind_some]
   cases h3:decide (row[i].type=3) with
   | true =>
    have:=e (fI row[i].f) (by rw [h3];rfl)
    have e2:jz (bK (Int.toNat row[i].f))=fI row[i].f:=rfl
    simp only [cond_true,List.length_map,List.length_cons,List.length_nil,Nat.zero_add,Zj,hb,Bool.and_self,w1 hi hmx,e2,this]
   | false =>
    have:=e false (by rw [h3];rfl)
    simp only [cond_true,cond_false,List.length_map,List.length_cons,List.length_nil,Nat.zero_add,Zj,hb,Bool.and_self,w1 hi hmx,this]
 · intro i P hi hP ho
   rw [List.getElem?_eq_getElem hi] at ho
   cases ho
 · intro P hP
   unfold qqY
   simp only [qex,ltN,decide_eq_false (Nat.lt_irrefl _),cond_false]
def qi7 (p:List Su.Vl×Rt):Option (List Su.Pr):=bif Nat.ble p.1.length 1000000 then some (p.1.map (pairW p.2)) else none
theorem qAo (p:List Su.Vl×Rt) (y:List Su.Pr) (hg:(dc (cL rVl) (d1 cRt)).good p) (h:qi7 p=some y):∃ n,qAl n p.1 p.2=some y:=by
 obtain ⟨row,r⟩:=p
 obtain ⟨hm,h⟩:=qj h
 have:=soi h;subst this
 have hm:row.length≤1000000:=Nat.le_of_ble_eq_true hm
 refine ⟨row.length+1,?_⟩
 have hr:=qAn row r hm _ (Nat.le_refl _)
 rw [qqX] at hr
 show qAl (row.length+1) row r=some (row.map (pairW r))
 unfold qAl
 refine obB hr ?_
 have hsub:sub ((row.map (pairW r)).map vwP) 0 (row.map (pairW r)).length=some ((row.map (pairW r)).map vwP):=by
  unfold sub
  rw [show Nat.ble (0+(row.map (pairW r)).length) ((row.map (pairW r)).map vwP).length=true from Nat.ble_eq_true_of_le (by simp),cond_true,List.drop_zero]
  congr 1
  exact List.take_of_length_le (by simp)
 refine obB hsub ?_
 exact qAm _
end
end Su
end
section
namespace Su
open Go Fly
set_option linter.unusedVariables false
noncomputable section
def qAp  (c:(Int×((List Su.Cc)×((List Su.T)×((List Su.T)×((List Su.T)×((List Su.T)×Int))))))) (a:(Bool×(Bool×(Int×(Int×(List Su.Ce)))))) (b:(Bool×(Bool×(Int×(Int×(List Su.Ce)))))) (row:(List Su.Vl)) (k:Int) (real:Int):Option Bool :=
 ((bif (Su.qa3 c [a,b]) then
 some (row,(k,(real,(c.1,(c.2.1,(c.2.2.1,(c.2.2.2.1,(c.2.2.2.2.1,(c.2.2.2.2.2.1,(c.2.2.2.2.2.2,(a.1,(a.2.1,(a.2.2.1,(a.2.2.2.1,(a.2.2.2.2,(b.1,(b.2.1,(b.2.2.1,(b.2.2.2.1,(b.2.2.2.2,(true,(true,()))))))))))))))))))))))
 else
  some (row,(k,(real,(c.1,(c.2.1,(c.2.2.1,(c.2.2.2.1,(c.2.2.2.2.1,(c.2.2.2.2.2.1,(c.2.2.2.2.2.2,(a.1,(a.2.1,(a.2.2.1,(a.2.2.2.1,(a.2.2.2.2,(b.1,(b.2.1,(b.2.2.1,(b.2.2.2.1,(b.2.2.2.2,(true,((decide ((40<(((List.length row):Nat):Int)))),())))))))))))))))))))))))).bind fun x0 =>
  (bif x0.2.2.2.2.2.2.2.2.2.2.2.2.2.2.2.2.2.2.2.2.2.1 then
  some x0.2.2.2.2.2.2.2.2.2.2.2.2.2.2.2.2.2.2.2.2.1
 else
  ((Su.qch ((x0.2.2.2.1,(x0.2.2.2.2.1,(x0.2.2.2.2.2.1,(x0.2.2.2.2.2.2.1,(x0.2.2.2.2.2.2.2.1,(x0.2.2.2.2.2.2.2.2.1,x0.2.2.2.2.2.2.2.2.2.1)))))),(x0.2.2.2.2.2.2.2.2.2.2.1,(x0.2.2.2.2.2.2.2.2.2.2.2.1,(x0.2.2.2.2.2.2.2.2.2.2.2.2.1,(x0.2.2.2.2.2.2.2.2.2.2.2.2.2.1,x0.2.2.2.2.2.2.2.2.2.2.2.2.2.2.1))))))).bind fun x1 =>
  ((Su.qdc ((x0.2.2.2.1,(x0.2.2.2.2.1,(x0.2.2.2.2.2.1,(x0.2.2.2.2.2.2.1,(x0.2.2.2.2.2.2.2.1,(x0.2.2.2.2.2.2.2.2.1,x0.2.2.2.2.2.2.2.2.2.1)))))),(x1,x1)))).bind fun x2 =>
  (bif (!x2) then
  some false
 else
  ((Su.qdc ((x0.2.2.2.1,(x0.2.2.2.2.1,(x0.2.2.2.2.2.1,(x0.2.2.2.2.2.2.1,(x0.2.2.2.2.2.2.2.1,(x0.2.2.2.2.2.2.2.2.1,x0.2.2.2.2.2.2.2.2.2.1)))))),((x0.2.2.2.2.2.2.2.2.2.2.1,(x0.2.2.2.2.2.2.2.2.2.2.2.1,(x0.2.2.2.2.2.2.2.2.2.2.2.2.1,(x0.2.2.2.2.2.2.2.2.2.2.2.2.2.1,x0.2.2.2.2.2.2.2.2.2.2.2.2.2.2.1)))),(x0.2.2.2.2.2.2.2.2.2.2.2.2.2.2.2.1,(x0.2.2.2.2.2.2.2.2.2.2.2.2.2.2.2.2.1,(x0.2.2.2.2.2.2.2.2.2.2.2.2.2.2.2.2.2.1,(x0.2.2.2.2.2.2.2.2.2.2.2.2.2.2.2.2.2.2.1,x0.2.2.2.2.2.2.2.2.2.2.2.2.2.2.2.2.2.2.2.1)))))))).bind fun x3 =>
  (bif (!x3) then
  some x0.2.2.2.2.2.2.2.2.2.2.2.2.2.2.2.2.2.2.2.2.1
 else
  (((Su.qa7 ((x0.2.2.2.1,(x0.2.2.2.2.1,(x0.2.2.2.2.2.1,(x0.2.2.2.2.2.2.1,(x0.2.2.2.2.2.2.2.1,(x0.2.2.2.2.2.2.2.2.1,x0.2.2.2.2.2.2.2.2.2.1)))))),((x0.2.2.2.2.2.2.2.2.2.2.1,(x0.2.2.2.2.2.2.2.2.2.2.2.1,(x0.2.2.2.2.2.2.2.2.2.2.2.2.1,(x0.2.2.2.2.2.2.2.2.2.2.2.2.2.1,x0.2.2.2.2.2.2.2.2.2.2.2.2.2.2.1)))),(x0.1,x0.2.1))))).bind fun x4 =>
  (bif x4 then
  ((Su.qa7 ((x0.2.2.2.1,(x0.2.2.2.2.1,(x0.2.2.2.2.2.1,(x0.2.2.2.2.2.2.1,(x0.2.2.2.2.2.2.2.1,(x0.2.2.2.2.2.2.2.2.1,x0.2.2.2.2.2.2.2.2.2.1)))))),((x0.2.2.2.2.2.2.2.2.2.2.2.2.2.2.2.1,(x0.2.2.2.2.2.2.2.2.2.2.2.2.2.2.2.2.1,(x0.2.2.2.2.2.2.2.2.2.2.2.2.2.2.2.2.2.1,(x0.2.2.2.2.2.2.2.2.2.2.2.2.2.2.2.2.2.2.1,x0.2.2.2.2.2.2.2.2.2.2.2.2.2.2.2.2.2.2.2.1)))),(x0.1,x0.2.1))))).bind fun x5 =>
  some (x0.1,(x0.2.1,(x0.2.2.1,(x0.2.2.2.1,(x0.2.2.2.2.1,(x0.2.2.2.2.2.1,(x0.2.2.2.2.2.2.1,(x0.2.2.2.2.2.2.2.1,(x0.2.2.2.2.2.2.2.2.1,(x0.2.2.2.2.2.2.2.2.2.1,(x0.2.2.2.2.2.2.2.2.2.2.1,(x0.2.2.2.2.2.2.2.2.2.2.2.1,(x0.2.2.2.2.2.2.2.2.2.2.2.2.1,(x0.2.2.2.2.2.2.2.2.2.2.2.2.2.1,(x0.2.2.2.2.2.2.2.2.2.2.2.2.2.2.1,(x0.2.2.2.2.2.2.2.2.2.2.2.2.2.2.2.1,(x0.2.2.2.2.2.2.2.2.2.2.2.2.2.2.2.2.1,(x0.2.2.2.2.2.2.2.2.2.2.2.2.2.2.2.2.2.1,(x0.2.2.2.2.2.2.2.2.2.2.2.2.2.2.2.2.2.2.1,(x0.2.2.2.2.2.2.2.2.2.2.2.2.2.2.2.2.2.2.2.1,(x0.2.2.2.2.2.2.2.2.2.2.2.2.2.2.2.2.2.2.2.2.1,((!x5),()))))))))))))))))))))))
 else
  some (x0.1,(x0.2.1,(x0.2.2.1,(x0.2.2.2.1,(x0.2.2.2.2.1,(x0.2.2.2.2.2.1,(x0.2.2.2.2.2.2.1,(x0.2.2.2.2.2.2.2.1,(x0.2.2.2.2.2.2.2.2.1,(x0.2.2.2.2.2.2.2.2.2.1,(x0.2.2.2.2.2.2.2.2.2.2.1,(x0.2.2.2.2.2.2.2.2.2.2.2.1,(x0.2.2.2.2.2.2.2.2.2.2.2.2.1,(x0.2.2.2.2.2.2.2.2.2.2.2.2.2.1,(x0.2.2.2.2.2.2.2.2.2.2.2.2.2.2.1,(x0.2.2.2.2.2.2.2.2.2.2.2.2.2.2.2.1,(x0.2.2.2.2.2.2.2.2.2.2.2.2.2.2.2.2.1,(x0.2.2.2.2.2.2.2.2.2.2.2.2.2.2.2.2.2.1,(x0.2.2.2.2.2.2.2.2.2.2.2.2.2.2.2.2.2.2.1,(x0.2.2.2.2.2.2.2.2.2.2.2.2.2.2.2.2.2.2.2.1,(x0.2.2.2.2.2.2.2.2.2.2.2.2.2.2.2.2.2.2.2.2.1,(false,())))))))))))))))))))))))).bind fun x6 =>
  (bif x6.2.2.2.2.2.2.2.2.2.2.2.2.2.2.2.2.2.2.2.2.2.1 then
  some false
 else
  ((Su.yB x6.2.2.1)).bind fun x7 =>
  ((Su.qi7 (x6.1,x7.1))).bind fun x8 =>
  ((bif x6.2.2.2.2.2.2.2.2.2.2.2.2.2.2.2.2.2.2.2.2.1 then
  (bif (!x7.2) then
  some (true,())
 else
  ((Su.qa7 ((x6.2.2.2.1,(x6.2.2.2.2.1,(x6.2.2.2.2.2.1,(x6.2.2.2.2.2.2.1,(x6.2.2.2.2.2.2.2.1,(x6.2.2.2.2.2.2.2.2.1,x6.2.2.2.2.2.2.2.2.2.1)))))),((x6.2.2.2.2.2.2.2.2.2.2.1,(x6.2.2.2.2.2.2.2.2.2.2.2.1,(x6.2.2.2.2.2.2.2.2.2.2.2.2.1,(x6.2.2.2.2.2.2.2.2.2.2.2.2.2.1,x6.2.2.2.2.2.2.2.2.2.2.2.2.2.2.1)))),(x6.1,x6.2.1))))).bind fun x9 =>
  (bif (!x9) then
  some (true,())
 else
  ((Su.Z4 ((x6.2.2.2.1,(x6.2.2.2.2.1,(x6.2.2.2.2.2.1,(x6.2.2.2.2.2.2.1,(x6.2.2.2.2.2.2.2.1,(x6.2.2.2.2.2.2.2.2.1,x6.2.2.2.2.2.2.2.2.2.1)))))),((x6.2.2.2.2.2.2.2.2.2.2.1,(x6.2.2.2.2.2.2.2.2.2.2.2.1,(x6.2.2.2.2.2.2.2.2.2.2.2.2.1,(x6.2.2.2.2.2.2.2.2.2.2.2.2.2.1,x6.2.2.2.2.2.2.2.2.2.2.2.2.2.2.1)))),x8)))).bind fun x10 =>
  (bif (!x10) then
  some (true,())
 else
  ((Su.Z4 ((x6.2.2.2.1,(x6.2.2.2.2.1,(x6.2.2.2.2.2.1,(x6.2.2.2.2.2.2.1,(x6.2.2.2.2.2.2.2.1,(x6.2.2.2.2.2.2.2.2.1,x6.2.2.2.2.2.2.2.2.2.1)))))),((x6.2.2.2.2.2.2.2.2.2.2.2.2.2.2.2.1,(x6.2.2.2.2.2.2.2.2.2.2.2.2.2.2.2.2.1,(x6.2.2.2.2.2.2.2.2.2.2.2.2.2.2.2.2.2.1,(x6.2.2.2.2.2.2.2.2.2.2.2.2.2.2.2.2.2.2.1,x6.2.2.2.2.2.2.2.2.2.2.2.2.2.2.2.2.2.2.2.1)))),x8)))).bind fun x11 =>
  some (x11,()))))
 else
  some (false,()))).bind fun x12 =>
  some x12.1))))
theorem qm8 {c:CoD} {a:StD} (hw:Sw a):qda c (jR c a) (jR c a)=true:=by
 cases hd:(jR c a).1 with
 | true=>rw [qm6 hd];exact qvn c ji
 | false =>
  have h:=qvm hw hd
  exact (qAd h.ev h.ev).2 ⟨fun i hi=>qAb (h.ev.cell i hi) (fun ht=>by rw [h.bad i hi ht];rfl),Z2 _⟩
theorem qlw (row:List Su.Vl) (r:Int):(row.map (pairW (yo r.toNat))).all okP=true:=by
 refine List.all_eq_true.2 fun p hp=>?_
 obtain ⟨v,-,rfl⟩:=List.mem_map.1 hp
 have h:=qcb r.toNat
 unfold okP pairW
 rw [Nat.ble_eq_true_of_le (Nat.le_trans h.ln (by omega)),Nat.ble_eq_true_of_le (Nat.le_trans h.ld (by omega))];rfl
def qvA (_:CoD×(StD×(StD×(List Su.Vl×(Int×Int))))):Option Bool:=some true
theorem qAq (p:CoD×(StD×(StD×(List Su.Vl×(Int×Int))))) (y:Bool) (hg:(dc cCo (dc cSt (dc cSt (dc (cL rVl) (dc (cI .i64) (d1 (cI .u64))))))).good p) (h:qvA p=some y):qAp p.1 p.2.1 p.2.2.1 p.2.2.2.1 p.2.2.2.2.1 p.2.2.2.2.2=some y:=by
 obtain ⟨c,a,b,row,k,real⟩:=p
 have:=soi h;subst this
 show qAp c a b row k real=some true
 have wa:Sw a:=st_w hg.2.1.2.2.2.2.1
 have wb:Sw b:=st_w hg.2.2.1.2.2.2.2.1
 have hf:∀ v∈row,Fw v.f:=fun v hv=>yx.1 (hg.2.2.2.1.1 v hv).2.2.2
 unfold qAp
 rcases Bool.eq_false_or_eq_true (qa3 c [a,b]) with hh | hh
 · exact obB (qz hh) rfl
 refine obB (qt hh) ?_
 obtain ⟨hc,hs0⟩:=qqT hh
 obtain ⟨a1,a2⟩:=hs0 a (by simp)
 obtain ⟨b1,b2⟩:=hs0 b (by simp)
 have ma:=qve a1 a2
 have mb:=qve b1 b2
 by_cases q1:40<(row.length:Int)
 · exact qz (decide_eq_true q1)
 refine (qt (decide_eq_false q1)).trans ?_
 have mp:=qvt (c:=c) ma
 refine obB (x:=jR c a) (show qch (c,a)=_ from qz ma) ?_
 refine obB (x:=true) (show qdc (c,(jR c a,jR c a))=_ from by
  rw [← qm8 (c:=c) wa]
  exact qz (show (smS (jR c a)&&smS (jR c a))=true by rw [mp];rfl)) ?_
 refine (qt rfl).trans ?_
 refine obB (x:=qda c a b) (show qdc (c,(a,b))=_ from qz (show (smS a&&smS b)=true by rw [ma,mb];rfl)) ?_
 cases hin:qda c a b with
 | false=>exact qz rfl
 | true =>
  refine (qt rfl).trans ?_
  have ha:qa7 (c,(a,(row,k)))=some (qan c a row k):=qz ma
  have hb:qa7 (c,(b,(row,k)))=some (qan c b row k):=qz mb
  have vf:yB real=some (bif j7 real.toNat then ((false,([],[])),false) else (yo real.toNat,true)):=by
   unfold yB;rw [qbX];rfl
  have pf:∀ r:Rt,qi7 (row,r)=some (row.map (pairW r)):=fun r=>qz (show Nat.ble row.length 1000000=true from Nat.ble_eq_true_of_le (by omega))
  cases hha:qan c a row k with
  | false =>
   rw [hha] at ha
   refine obB (obB (x:=false) ha (qt rfl)) ?_
   refine (qt rfl).trans ?_
   refine obB vf ?_
   refine obB (pf _) ?_
   cases hn:j7 real.toNat with
   | true=>rfl
   | false=>exact obB (x:=(true,())) ((qz rfl).trans ((qt rfl).trans (obB ha (qz rfl)))) rfl
  | true =>
   rw [hha] at ha
   have hhb:=(qAi wa wb hf hin hha).1
   rw [hhb] at hb
   refine obB (obB (x:=true) ha ((qz rfl).trans (obB hb rfl))) ?_
   refine (qt rfl).trans ?_
   refine obB vf ?_
   refine obB (pf _) ?_
   cases hn:j7 real.toNat with
   | true=>rfl
   | false =>
    have na:Z4 (c,(a,row.map (pairW (yo real.toNat))))=some (Zo c a (row.map (pairW (yo real.toNat)))):=qz (qlw row real)
    have nb:Z4 (c,(b,row.map (pairW (yo real.toNat))))=some (Zo c b (row.map (pairW (yo real.toNat)))):=qz (qlw row real)
    refine obB (x:=(true,())) ((qz rfl).trans ((qt rfl).trans (obB ha ((qt rfl).trans (obB na ?_))))) rfl
    cases hne:Zo c a (row.map (pairW (yo real.toNat))) with
    | false=>exact qz rfl
    | true =>
     have:=qvz (c:=c) (a:=a) (b:=b) (row:=row) (k:=k) (r:=real) (fun v=>decide (v.type=3)&&fI v.f) wa wb hf hin hha hne
     have hnb:Zo c b (row.map (pairW (yo real.toNat)))=true:=this
     rw [hnb] at nb
     refine (qt rfl).trans ?_
     exact obB nb rfl
end
end Su
end
