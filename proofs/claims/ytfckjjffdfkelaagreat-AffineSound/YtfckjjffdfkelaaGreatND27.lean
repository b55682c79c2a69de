/-
  What functions of the program compute, in plain Lean, and that the evaluator finds it.
-/
import Derived.Test.YtfckjjffdfkelaaGreatSuSd
import Derived.Test.YtfckjjffdfkelaaGreatRay
set_option maxRecDepth 10000
section
namespace Su
open Go Fly
set_option linter.unusedVariables false
noncomputable section
def wit  (r:(Bool×((List Int)×(List Int)))) (s:(Bool×(Int×Int))):Option Bool :=
 ((Su.PVal_s s.2.1)).bind fun x0 =>
 ((Su.PVal_s s.2.2)).bind fun x1 =>
 (bif (!s.1) then
 (bif (!x0.2) then
 (bif (!x1.2) then
 some true
 else
  ((Su.RCmp_s (r,x1.1))).bind fun x2 =>
  some (decide ((x2≤0))))
 else
  ((Su.RCmp_s (x0.1,r))).bind fun x3 =>
  (bif (decide ((x3≤0))) then
  (bif (!x1.2) then
  some true
 else
  ((Su.RCmp_s (r,x1.1))).bind fun x4 =>
  some (decide ((x4≤0))))
 else
  some false))
 else
  some false)
abbrev sumf_l1_S:=((List Int)×(Int×(Bool×(Int×((List Su.Tm)×(Int×((List Su.T)×((List Su.T)×(Bool×(Nat×(Nat×(Bool×((List Int)×((List Int)×Unit))))))))))))))
def sumf_l1:sumf_l1_S→Option (sumf_l1_S ⊕ sumf_l1_S):=fun p1=>(bif (decide ((p1.2.1<(((List.length p1.2.2.2.2.1):Nat):Int)))) then
 ((Su.idx p1.2.2.2.2.1 p1.2.1)).bind fun x2 =>
 ((Su.PVal_s (Su.Tm.c x2))).bind fun x3 =>
 ((Su.idx p1.2.2.2.2.1 p1.2.1)).bind fun x4 =>
 ((Su.RMul_s (x3.1,(Su.mkQ (Su.nzF p1.1 (Su.Tm.id x4)) 8)))).bind fun x5 =>
 ((Su.RAdd_s ((p1.2.2.2.2.2.2.2.2.2.2.2.1,(p1.2.2.2.2.2.2.2.2.2.2.2.2.1,p1.2.2.2.2.2.2.2.2.2.2.2.2.2.1)),x5))).bind fun x6 =>
 some (.inl (p1.1,((Go.IntKind.wrap .i64 (p1.2.1+1)),(p1.2.2.1,(p1.2.2.2.1,(p1.2.2.2.2.1,(p1.2.2.2.2.2.1,(p1.2.2.2.2.2.2.1,(p1.2.2.2.2.2.2.2.1,(p1.2.2.2.2.2.2.2.2.1,(p1.2.2.2.2.2.2.2.2.2.1,(p1.2.2.2.2.2.2.2.2.2.2.1,(x6.1,(x6.2.1,(x6.2.2,())))))))))))))))
 else
  some (.inr (p1.1,(p1.2.1,(p1.2.2.1,(p1.2.2.2.1,(p1.2.2.2.2.1,(p1.2.2.2.2.2.1,(p1.2.2.2.2.2.2.1,(p1.2.2.2.2.2.2.2.1,(p1.2.2.2.2.2.2.2.2.1,(p1.2.2.2.2.2.2.2.2.2.1,(p1.2.2.2.2.2.2.2.2.2.2.1,(p1.2.2.2.2.2.2.2.2.2.2.2.1,(p1.2.2.2.2.2.2.2.2.2.2.2.2.1,(p1.2.2.2.2.2.2.2.2.2.2.2.2.2.1,()))))))))))))))))
def sumf  (fu:Nat) (a:(Bool×(Int×((List Su.Tm)×Int)))) (l:(List Int)):Option (Bool×((List Int)×(List Int))) :=
 ((Su.PVal_s a.2.1)).bind fun x0 =>
 (itP fu (sumf_l1) (l,((0:Int),(a.1,(a.2.1,(a.2.2.1,(a.2.2.2,([],([],(false,(0,(0,(x0.1.1,(x0.1.2.1,(x0.1.2.2,()))))))))))))))).bind fun x7 =>
 some (x7.2.2.2.2.2.2.2.2.2.2.2.1,(x7.2.2.2.2.2.2.2.2.2.2.2.2.1,x7.2.2.2.2.2.2.2.2.2.2.2.2.2.1))
def witB (r:Rt) (s:Spn):Bool:=!s.1&&((noNum s.2.1.toNat||decide (rcmp (valR s.2.1.toNat) r≤0))&&(noNum s.2.2.toNat||decide (rcmp r (valR s.2.2.toNat)≤0)))
def wit_s (p:Rt×Spn):Option Bool:=bif ok4 p.1 then some (witB p.1 p.2) else none
theorem wit_ok (p:Rt×Spn) (y:Bool) (hg:(dc cRt (d1 cSpn)).good p) (h:wit_s p=some y):wit p.1 p.2=some y:=by
 obtain ⟨r,b,lo,hi⟩:=p
 obtain ⟨h1,h⟩:=bif_some h
 have:=soi h;subst this
 have h1:ok4 r=true:=h1
 have c1:RCmp_s (valR lo.toNat,r)=some (rcmp (valR lo.toNat) r):=bifT (show (ok4 _&&ok4 _)=true by rw [(valR_sz lo.toNat).ok4 (by omega),h1];rfl)
 have c2:RCmp_s (r,valR hi.toNat)=some (rcmp r (valR hi.toNat)):=bifT (show (ok4 _&&ok4 _)=true by rw [(valR_sz hi.toNat).ok4 (by omega),h1];rfl)
 show wit r (b,(lo,hi))=some (witB r (b,(lo,hi)))
 unfold wit witB
 simp only [PVal_of,Option.bind_some]
 cases b with
 | true=>rfl
 | false =>
  cases hn:noNum lo.toNat with
  | true =>
   cases hm:noNum hi.toNat with
   | true=>rfl
   | false=>exact obB c2 rfl
  | false =>
   simp only [cond_false,cond_true,Bool.not_false,Bool.not_true,Bool.false_or,Bool.true_and]
   refine obB c1 ?_
   cases hd:decide (rcmp (valR lo.toNat) r≤0) with
   | false=>rfl
   | true =>
    cases hm:noNum hi.toNat with
    | true=>rfl
    | false=>exact obB c2 rfl
def finF (a:Fm):Bool:=fI a.2.1&&(fI a.2.2.2&&(a.2.2.1.all fun t=>fI t.c))
def okW (a:Fm):Bool:=finF a&&Nat.ble a.2.2.1.length 1000
theorem finF_iff {a:Fm}:finF a=true↔fI a.2.1=true∧fI a.2.2.2=true∧∀ t∈a.2.2.1,fI t.c=true:=by
 unfold finF;rw [Bool.and_eq_true,Bool.and_eq_true,List.all_eq_true]
def sumf_s (p:Fm×List Int):Option Rt:=bif okW p.1 then some (mkQ (smN (nzF p.2) p.1) Q8) else none
theorem ln_app (nz:Int→Int) (t:Tm):∀ A:List Tm,lnS nz (A++[t])=lnS nz A+fv t.c.toNat*nz t.id
 | []=>by show fv t.c.toNat*nz t.id+0=0+_;omega
 | u::A=>by
  show fv u.c.toNat*nz u.id+lnS nz (A++[t])=fv u.c.toNat*nz u.id+lnS nz A+_
  rw [ln_app nz t A];omega
theorem num_fin {c:Int} (h:fI c=true):noNum c.toNat=false:=by rw [num_fI,h];rfl
theorem val_fin {c:Int} (h:fI c=true):PVal_s c=some (mkQ (fv c.toNat) QD,true):=by rw [PVal_of,num_fin h,← valR_mk];rfl
theorem q_szc (c:Int):Sz (mkQ (fv c.toNat) QD) 66:=by rw [← valR_mk];exact valR_sz _
theorem sumf_loop (a:Fm) (l:List Int) (hl:a.2.2.1.length≤1000) (hf:∀ t∈a.2.2.1,fI t.c=true):∀ (rest A:List Tm),A++rest=a.2.2.1 →
 Runs (rest.length+1) sumf_l1 (l,((A.length:Int),(a.1,(a.2.1,(a.2.2.1,(a.2.2.2,([],([],(false,(0,(0,((mkQ (8*fv a.2.1.toNat+lnS (nzF l) A) Q8).1,((mkQ (8*fv a.2.1.toNat+lnS (nzF l) A) Q8).2.1,((mkQ (8*fv a.2.1.toNat+lnS (nzF l) A) Q8).2.2,()))))))))))))))
  (l,((a.2.2.1.length:Int),(a.1,(a.2.1,(a.2.2.1,(a.2.2.2,([],([],(false,(0,(0,((mkQ (smN (nzF l) a) Q8).1,((mkQ (smN (nzF l) a) Q8).2.1,((mkQ (smN (nzF l) a) Q8).2.2,()))))))))))))))
 | [],A,h=>by
  rw [List.append_nil] at h;subst h
  refine Runs.stop ?_
  simp only [sumf_l1,ltN,decide_eq_false (Nat.lt_irrefl _),cond_false]
  rfl
 | t::rest,A,h=>by
  have hi:A.length<a.2.2.1.length:=by rw [← h];simp
  have hg:idx a.2.2.1 (A.length:Int)=some t:=by
   rw [idx_nat,← h,List.getElem?_append_right (by omega),Nat.sub_self];rfl
  have ft:=hf t (by rw [← h];simp)
  have ih:=sumf_loop a l hl hf rest (A++[t]) (by rw [← h];simp)
  have ei:((A++[t]).length:Int)=((A.length+1:Nat):Int):=by simp
  refine Runs.next ?_ ih
  have hA:A.length≤1000:=by omega
  have bnd:=sm_lt (nz8 l) (a:=(false,(a.2.1,(A,0)))) hA
  have s1:Sz (mkQ (8*fv a.2.1.toNat+lnS (nzF l) A) Q8) 100:=q8_sz (Nat.lt_of_lt_of_le bnd (Nat.mul_le_mul_right _ (by omega)))
  have s2:=(eight_sz (nzF l t.id) (nz8 l t.id).1 (nz8 l t.id).2)
  have m1:RMul_s (mkQ (fv t.c.toNat) QD,mkQ (nzF l t.id) 8)=some (mkQ (fv t.c.toNat*nzF l t.id) Q8):=by
   rw [← q_mul8]
   exact rmul_of (q_szc t.c) s2 (by omega) (by omega)
  have s3:Sz (mkQ (fv t.c.toNat*nzF l t.id) Q8) 67:=by rw [← q_mul8];exact sz_mul (q_szc t.c) s2 (by omega) (by omega)
  have a1:RAdd_s (mkQ (8*fv a.2.1.toNat+lnS (nzF l) A) Q8,mkQ (fv t.c.toNat*nzF l t.id) Q8)=some (mkQ (8*fv a.2.1.toNat+lnS (nzF l) (A++[t])) Q8):=by
   rw [ln_app,← Int.add_assoc,← q_add (8*fv a.2.1.toNat+lnS (nzF l) A) (fv t.c.toNat*nzF l t.id) Q8_pos]
   exact radd_of s1 s3 (by omega) (by omega)
  have hw:=w1 hi (by rw [maxLen_eq];omega:a.2.2.1.length≤maxLen)
  rw [ei]
  simp only [sumf_l1,ltN,decide_eq_true hi,cond_true,hg,Option.bind_some,val_fin ft,m1]
  refine obB a1 ?_
  simp only [hw]
theorem sumf_ok (p:Fm×List Int) (y:Rt) (hg:(dc cFrm (d1 (cQ 3 1))).good p) (h:sumf_s p=some y):∃ n,sumf n p.1 p.2=some y:=by
 obtain ⟨a,l⟩:=p
 obtain ⟨h1,h⟩:=bif_some h
 have:=soi h;subst this
 have h1:(finF a&&Nat.ble a.2.2.1.length 1000)=true:=h1
 rw [Bool.and_eq_true,finF_iff] at h1
 obtain ⟨⟨f1,f2,f3⟩,hl⟩:=h1
 have hl:=Nat.le_of_ble_eq_true hl
 refine ⟨a.2.2.1.length+1,?_⟩
 show sumf (a.2.2.1.length+1) a l=some (mkQ (smN (nzF l) a) Q8)
 unfold sumf
 refine obB (val_fin f1) ?_
 have hr:=sumf_loop a l hl f3 a.2.2.1 [] rfl _ (Nat.le_refl _)
 have e:(mkQ (8*fv a.2.1.toNat+lnS (nzF l) []) Q8)=mkQ (fv a.2.1.toNat) QD:=by
  rw [q_up8];show mkQ (8*fv a.2.1.toNat+0) Q8=_;rw [Int.add_zero]
 rw [e] at hr
 exact obB hr rfl
end
end Su
end
section
namespace Su
open Go Fly
set_option linter.unusedVariables false
noncomputable section
def numb  (a:(Bool×(Int×((List Su.Tm)×Int)))) (l:(List Int)) (rest:Int):Option (Bool×((List Int)×(List Int))) :=
 ((Su.PVal_s a.2.2.2)).bind fun x0 =>
 ((Su.rDiv_s ((Su.lowR (decide (((min (max rest (-8)) 8)<0))) (Int.natAbs (min (max rest (-8)) 8)) 1),(Su.lowR false 8 1)))).bind fun x1 =>
 ((Su.sumf_s (a,l))).bind fun x2 =>
 ((Su.RMul_s (x0.1,x1.1))).bind fun x3 =>
 ((Su.RAdd_s (x2,x3))).bind fun x4 =>
 some x4
def hasq  (a:(Bool×(Int×((List Su.Tm)×Int)))) (l:(List Int)) (r:(Bool×((List Int)×(List Int)))):Option Bool :=
 (bif a.1 then
 some true
 else
  ((Su.PVal_s a.2.2.2)).bind fun x0 =>
  ((Su.sumf_s (a,l))).bind fun x1 =>
  ((Su.RSub_s (x1,r))).bind fun x2 =>
  ((Su.RAbs_s x2)).bind fun x3 =>
  ((Su.RCmp_s (x3,x0.1))).bind fun x4 =>
  some (decide ((x4≤0))))
def nmN (nz:Int→Int) (a:Fm) (rest:Int):Int:=smN nz a+fv a.2.2.2.toNat*min (max rest (-8)) 8
def numb_s (p:Fm×(List Int×Int)):Option Rt:=bif okW p.1 then some (mkQ (nmN (nzF p.2.1) p.1 p.2.2) Q8) else none
theorem sm_sz (l:List Int) {a:Fm} (hl:a.2.2.1.length≤1000):Sz (mkQ (smN (nzF l) a) Q8) 100:=q8_sz (Nat.lt_of_lt_of_le (sm_lt (nz8 l) hl) (Nat.mul_le_mul_right _ (by omega)))
theorem okW_iff {a:Fm} (h:okW a=true):(fI a.2.1=true∧fI a.2.2.2=true∧∀ t∈a.2.2.1,fI t.c=true)∧a.2.2.1.length≤1000:=by
 unfold okW at h
 rw [Bool.and_eq_true,finF_iff] at h
 exact ⟨h.1,Nat.le_of_ble_eq_true h.2⟩
theorem numb_ok (p:Fm×(List Int×Int)) (y:Rt) (hg:(dc cFrm (dc (cQ 3 1) (d1 (cI .i64)))).good p) (h:numb_s p=some y):numb p.1 p.2.1 p.2.2=some y:=by
 obtain ⟨a,l,rest⟩:=p
 obtain ⟨h1,h⟩:=bif_some h
 have:=soi h;subst this
 have h1:okW a=true:=h1
 obtain ⟨⟨f1,f2,f3⟩,hl⟩:=okW_iff h1
 show numb a l rest=some (mkQ (nmN (nzF l) a rest) Q8)
 have hk : -8≤min (max rest (-8)) 8∧min (max rest (-8)) 8≤8:=by omega
 unfold numb
 refine obB (val_fin f2) (obB (div8 hk.1 hk.2) (obB (x:=mkQ (smN (nzF l) a) Q8) (show sumf_s (a,l)=_ from bifT h1) ?_))
 have s2:=eight_sz _ hk.1 hk.2
 have s3:Sz (rmul (mkQ (fv a.2.2.2.toNat) QD) (mkQ (min (max rest (-8)) 8) 8)) 67:=sz_mul (q_szc _) s2 (by omega) (by omega)
 refine obB (rmul_of (q_szc a.2.2.2) s2 (by omega) (by omega)) (obB (radd_of (sm_sz l hl) s3 (by omega) (by omega)) ?_)
 unfold nmN
 rw [q_mul8,q_add _ _ Q8_pos]
def okK (r:Rt):Bool:=Nat.ble r.2.1.length 1000&&Nat.ble r.2.2.length 1000
def hasB (a:Fm) (l:List Int) (r:Rt):Bool:=decide (rcmp (rabs (rsub (mkQ (smN (nzF l) a) Q8) r)) (valR a.2.2.2.toNat)≤0)
def hasq_s (p:Fm×(List Int×Rt)):Option Bool:=bif p.1.1 then some true else bif okW p.1&&okK p.2.2 then some (hasB p.1 p.2.1 p.2.2) else none
theorem hasq_ok (p:Fm×(List Int×Rt)) (y:Bool) (hg:(dc cFrm (dc (cQ 3 1) (d1 cRt))).good p) (h:hasq_s p=some y):hasq p.1 p.2.1 p.2.2=some y:=by
 obtain ⟨a,l,r⟩:=p
 have hr:cRt.good r:=hg.2.2
 show hasq a l r=some y
 unfold hasq_s at h
 unfold hasq
 cases hb:a.1 with
 | true=>rw [hb] at h;exact h
 | false =>
  rw [hb] at h
  obtain ⟨h1,h⟩:=bif_some (show (bif okW a&&okK r then some (hasB a l r) else none)=some y from h)
  have:=soi h;subst this
  rw [Bool.and_eq_true] at h1
  obtain ⟨⟨f1,f2,f3⟩,hl⟩:=okW_iff h1.1
  have hk:=h1.2
  unfold okK at hk
  rw [Bool.and_eq_true] at hk
  have sr:Sz r 1000:=⟨Wd.of hr.2.1.1,Wd.of hr.2.2.1,Nat.le_of_ble_eq_true hk.1,Nat.le_of_ble_eq_true hk.2⟩
  have s1:=sm_sz l hl
  have s2:=rsub_sz s1 sr (by omega) (by omega)
  have s3:=rabs_sz s2 (by omega)
  refine (bifF rfl).trans ?_
  refine obB (val_fin f2) (obB (x:=mkQ (smN (nzF l) a) Q8) (show sumf_s (a,l)=_ from bifT h1.1) (obB (rsub_of s1 sr (by omega) (by omega)) (obB (x:=rabs (rsub (mkQ (smN (nzF l) a) Q8) r)) ?_ (obB (rcmp_of s3 (q_szc _) (by omega) (by omega)) ?_))))
  · unfold RAbs_s;rw [s2.okRt (by omega)];rfl
  · unfold hasB;rw [valR_mk]
end
end Su
end
section
namespace Su
open Go Fly
set_option linter.unusedVariables false
noncomputable section
def lSnd  (a:(Bool×(Int×((List Su.Tm)×Int)))) (b:(Bool×(Int×((List Su.Tm)×Int)))) (noises:(List Int)) (p:Int) (q:Int):Option Bool :=
 (bif (decide ((8<(((List.length a.2.2.1):Nat):Int)))) then
 some true
 else
  (bif (decide ((8<(((List.length b.2.2.1):Nat):Int)))) then
  some true
 else
  (bif a.1 then
  some true
 else
  (bif b.1 then
  some true
 else
  (bif (!(Su.mayF a)) then
  some true
 else
  (bif (!(Su.mayF b)) then
  some true
 else
  ((Su.numb_s (a,(noises,p)))).bind fun x0 =>
  ((Su.numb_s (b,(noises,q)))).bind fun x1 =>
  ((Su.aSum_s (a,b))).bind fun x2 =>
  ((Su.RAdd_s (x0,x1))).bind fun x3 =>
  ((Su.hasq_s (x2,(noises,x3)))).bind fun x4 =>
  (bif x4 then
  ((Su.aSub_s (a,b))).bind fun x5 =>
  ((Su.RSub_s (x0,x1))).bind fun x6 =>
  ((Su.hasq_s (x5,(noises,x6)))).bind fun x7 =>
  ((Su.aMulF_s (a,b))).bind fun x8 =>
  ((Su.RMul_s (x0,x1))).bind fun x9 =>
  ((Su.hasq_s (x8,(noises,x9)))).bind fun x10 =>
  (bif x10 then
  ((Su.aNeg_s a)).bind fun x11 =>
  ((Su.RNeg1_s x0)).bind fun x12 =>
  ((Su.hasq_s (x11,(noises,x12)))).bind fun x13 =>
  ((Su.aSpan_s a)).bind fun x14 =>
  ((Su.wit_s (x0,x14))).bind fun x15 =>
  (bif x15 then
  ((Su.RMul_s (x0,x1))).bind fun x16 =>
  ((Su.aMulF_s (a,b))).bind fun x17 =>
  ((Su.aSpan_s x17)).bind fun x18 =>
  ((Su.wit_s (x16,x18))).bind fun x19 =>
  (bif x7 then
  (bif x13 then
  some x19
 else
  some false)
 else
  some false)
 else
  (bif x7 then
  (bif x13 then
  some false
 else
  some false)
 else
  some false))
 else
  ((Su.aSpan_s a)).bind fun x20 =>
  ((Su.wit_s (x0,x20))).bind fun x21 =>
  (bif x21 then
  ((Su.RMul_s (x0,x1))).bind fun x22 =>
  ((Su.aMulF_s (a,b))).bind fun x23 =>
  ((Su.aSpan_s x23)).bind fun x24 =>
  ((Su.wit_s (x22,x24))).bind fun x25 =>
  (bif x7 then
  some false
 else
  some false)
 else
  (bif x7 then
  some false
 else
  some false)))
 else
  ((Su.aMulF_s (a,b))).bind fun x26 =>
  ((Su.RMul_s (x0,x1))).bind fun x27 =>
  ((Su.hasq_s (x26,(noises,x27)))).bind fun x28 =>
  (bif x28 then
  ((Su.aNeg_s a)).bind fun x29 =>
  ((Su.RNeg1_s x0)).bind fun x30 =>
  ((Su.hasq_s (x29,(noises,x30)))).bind fun x31 =>
  ((Su.aSpan_s a)).bind fun x32 =>
  ((Su.wit_s (x0,x32))).bind fun x33 =>
  (bif x33 then
  ((Su.RMul_s (x0,x1))).bind fun x34 =>
  ((Su.aMulF_s (a,b))).bind fun x35 =>
  ((Su.aSpan_s x35)).bind fun x36 =>
  ((Su.wit_s (x34,x36))).bind fun x37 =>
  some false
 else
  some false)
 else
  ((Su.aSpan_s a)).bind fun x38 =>
  ((Su.wit_s (x0,x38))).bind fun x39 =>
  (bif x39 then
  ((Su.RMul_s (x0,x1))).bind fun x40 =>
  ((Su.aMulF_s (a,b))).bind fun x41 =>
  ((Su.aSpan_s x41)).bind fun x42 =>
  ((Su.wit_s (x40,x42))).bind fun x43 =>
  some false
 else
  some false)))))))))
theorem merge_len (f:Int→Int→Int→Int×Int):∀ (n:Nat) (l m:List Tm) (e:Int),(mergeN f n l m e).1.length≤n:=by
 intro n
 induction n with
 | zero=>intro l m e;exact Nat.zero_le _
 | succ n ih =>
  have one:∀ (id:Int) (r:Int×Int) (l' m':List Tm),(stepM id r (mergeN f n l' m')).1.length≤n+1:=fun id r l' m'=>by
   show (mergeN f n l' m' r.2).1.length+1≤n+1
   have:=ih l' m' r.2;omega
  intro l m e
  match l,m with
  | [],[]=>exact Nat.zero_le _
  | a::l,[]=>exact one _ _ _ _
  | [],b::m=>exact one _ _ _ _
  | a::l,b::m =>
   simp only [mergeN]
   cases decide (a.id<b.id) with
   | true=>exact one _ _ _ _
   | false =>
    cases decide (b.id<a.id) with
    | true=>exact one _ _ _ _
    | false=>exact one _ _ _ _
theorem done_ok {m e:Int} {l:List Tm} (hl:l.length≤1000):(doneF (false,(m,(l,e)))).1=true∨okW (doneF (false,(m,(l,e))))=true:=by
 rw [doneF_eq]
 simp only []
 cases hc:(fI (nzI m)&&fI (nzI e))&&!((delZ l).any fun t=>!fI t.c) with
 | false=>exact .inl rfl
 | true =>
  right
  rw [Bool.and_eq_true,Bool.and_eq_true,Bool.not_eq_true'] at hc
  obtain ⟨⟨h1,h2⟩,h3⟩:=hc
  show (finF (false,(nzI m,(delZ l,nzI e)))&&Nat.ble (delZ l).length 1000)=true
  rw [Bool.and_eq_true,finF_iff]
  refine ⟨⟨h1,h2,fun t ht=>?_⟩,Nat.ble_eq_true_of_le (Nat.le_trans (List.length_filter_le _ _) hl)⟩
  have:=List.any_eq_false.1 h3 t ht
  simpa using this
theorem add_okW {a b:Fm} (h:a.2.2.1.length+b.2.2.1.length≤1000):(addFm a b).1=true∨okW (addFm a b)=true:=by
 rw [addFm_eq];unfold addO'
 cases okF a&&okF b with
 | false=>exact .inl rfl
 | true=>exact done_ok (Nat.le_trans (merge_len _ _ _ _ _) h)
theorem mul_okW {a b:Fm} (h:a.2.2.1.length+b.2.2.1.length≤1000):(mulFm a b).1=true∨okW (mulFm a b)=true:=by
 rw [mulFm_eq];unfold mulFm'
 cases okF a&&okF b with
 | false=>exact .inl rfl
 | true =>
  rw [cond_true]
  cases (fI (restF a)&&fI (restF b))&&okMm a.2.1 b.2.1 (a.2.2.1.length+b.2.2.1.length) a.2.2.1 b.2.2.1 with
  | false=>exact .inl rfl
  | true=>exact done_ok (Nat.le_trans (merge_len (mulD a.2.1 b.2.1) (a.2.2.1.length+b.2.2.1.length) a.2.2.1 b.2.2.1 (mulE a b (restF a) (restF b))) h)
theorem done_l (x:Fm):(doneF x).2.2.1.length≤x.2.2.1.length:=by
 rw [doneF_eq]
 cases (fI (nzI x.2.1)&&fI (nzI x.2.2.2))&&!((delZ x.2.2.1).any fun t=>!fI t.c) with
 | true=>exact List.length_filter_le _ _
 | false=>exact Nat.zero_le _
theorem neg_len (a:Fm):(negFm a).2.2.1.length≤a.2.2.1.length:=by
 unfold negFm
 cases okF a with
 | false=>exact Nat.zero_le _
 | true=>exact Nat.le_trans (done_l _) (by rw [List.length_map];exact Nat.le_refl _)
theorem neg_okW {a:Fm} (h:a.2.2.1.length≤1000):(negFm a).1=true∨okW (negFm a)=true:=by
 unfold negFm
 cases okF a with
 | false=>exact .inl rfl
 | true=>exact done_ok (by rw [List.length_map];exact h)
theorem sz_okK {r:Rt} {k:Nat} (h:Sz r k) (hk:k≤1000):okK r=true:=by
 unfold okK
 rw [Nat.ble_eq_true_of_le (Nat.le_trans h.ln hk),Nat.ble_eq_true_of_le (Nat.le_trans h.ld hk)];rfl
theorem hasq_of {c:Fm} {l:List Int} {R:Int} {k:Nat} (hk:0<k) (hw:c.1=true∨okW c=true) (hr:okK (mkQ R (Q8*k))=true) (h:HasN (nzF l) c R k):hasq_s (c,(l,mkQ R (Q8*k)))=some true:=by
 unfold hasq_s
 cases hb:c.1 with
 | true=>exact bifT rfl
 | false =>
  refine (bifF rfl).trans ((bifT (show (okW c&&okK (mkQ R (Q8*k)))=true by rw [hr,Bool.and_true];exact hw.resolve_left (by rw [hb];simp))).trans (congrArg some ?_))
  show hasB c l (mkQ R (Q8*k))=true
  unfold hasB
  rw [has_q hk]
  exact decide_eq_true (h.resolve_left (by rw [hb];simp))
theorem wit_of {R:Int} {k:Nat} {s:Spn} (hk:0<k) (h:WithinN R (8*(k:Int)) s):witB (mkQ R (Q8*k)) s=true:=by
 obtain ⟨h1,h2,h3⟩:=h
 unfold witB
 rw [h1,lo_q hk,hi_q hk]
 cases hn:noNum s.2.1.toNat with
 | true =>
  cases hm:noNum s.2.2.toNat with
  | true=>rfl
  | false=>rw [decide_eq_true (h3 hm)];rfl
 | false =>
  rw [decide_eq_true (h2 hn)]
  cases hm:noNum s.2.2.toNat with
  | true=>rfl
  | false=>rw [decide_eq_true (h3 hm)];rfl
theorem nm_has (l:List Int) {a:Fm} (ha:okF a=true) (p:Int):HasN (nzF l) a (nmN (nzF l) a p) 1:=by
 right
 have h:=fv_err ha
 have k : -8≤min (max p (-8)) 8∧min (max p (-8)) 8≤8:=by omega
 unfold nmN
 have k:=natAbs_mul_le (d:=fv a.2.2.2.toNat) (Int.le_refl _) k.1 k.2
 generalize fv a.2.2.2.toNat*min (max p (-8)) 8=u at *
 rw [Int.mul_one,Int.mul_one]
 omega
theorem nm_sz (l:List Int) {a:Fm} (hl:a.2.2.1.length≤1000) (p:Int):Sz (mkQ (nmN (nzF l) a p) Q8) 100:=by
 have h1:=sm_lt (nz8 l) hl
 have h2:=fv_abs a.2.2.2.toNat
 have k : -8≤min (max p (-8)) 8∧min (max p (-8)) 8≤8:=by omega
 have k:=natAbs_mul_le (d:=fv a.2.2.2.toNat) (Int.le_refl _) k.1 k.2
 refine q8_sz ?_
 unfold nmN
 generalize fv a.2.2.2.toNat*min (max p (-8)) 8=u at *
 omega
theorem Q8_int:((Q8:Nat):Int)=8*(QD:Int):=by unfold Q8;rw [Int.natCast_mul];rfl
def lSnd_s (_:Fm×(Fm×(List Int×(Int×Int)))):Option Bool:=some true
theorem lSnd_ok (x:Fm×(Fm×(List Int×(Int×Int)))) (y:Bool) (hg:(dc cFrm (dc cFrm (dc (cQ 3 1) (dc (cI .i64) (d1 (cI .i64)))))).good x) (h:lSnd_s x=some y):lSnd x.1 x.2.1 x.2.2.1 x.2.2.2.1 x.2.2.2.2=some y:=by
 obtain ⟨a,b,l,p,q⟩:=x
 have:=soi h;subst this
 show lSnd a b l p q=some true
 have ga:=hg.1
 have gb:=hg.2.1
 have wa:FmW a:=⟨inR_u64.1 ga.2.1,inR_u64.1 ga.2.2.2,fun t ht=>inR_u64.1 (ga.2.2.1.1 t ht).2⟩
 have wb:FmW b:=⟨inR_u64.1 gb.2.1,inR_u64.1 gb.2.2.2,fun t ht=>inR_u64.1 (gb.2.2.1.1 t ht).2⟩
 unfold lSnd
 by_cases h1:8<(a.2.2.1.length:Int)
 · exact bifT (decide_eq_true h1)
 refine (bifF (decide_eq_false h1)).trans ?_
 by_cases h2:8<(b.2.2.1.length:Int)
 · exact bifT (decide_eq_true h2)
 refine (bifF (decide_eq_false h2)).trans ?_
 cases ha:a.1 with
 | true=>rfl
 | false =>
 cases hb:b.1 with
 | true=>rfl
 | false =>
 cases hma:mayF a with
 | false=>rfl
 | true =>
 cases hmb:mayF b with
 | false=>rfl
 | true =>
 refine (bifF rfl).trans ((bifF rfl).trans ((bifF rfl).trans ((bifF rfl).trans ?_)))
 have oa:okF a=true:=by unfold okF;rw [ha,hma];rfl
 have ob:okF b=true:=by unfold okF;rw [hb,hmb];rfl
 have la:a.2.2.1.length≤8:=by omega
 have lb:b.2.2.1.length≤8:=by omega
 have okWa:okW a=true:=by
  obtain ⟨-,F⟩:=okF_fin oa
  unfold okW
  rw [Bool.and_eq_true,finF_iff]
  exact ⟨⟨F.mid,F.err,F.tms⟩,Nat.ble_eq_true_of_le (by omega)⟩
 have okWb:okW b=true:=by
  obtain ⟨-,F⟩:=okF_fin ob
  unfold okW
  rw [Bool.and_eq_true,finF_iff]
  exact ⟨⟨F.mid,F.err,F.tms⟩,Nat.ble_eq_true_of_le (by omega)⟩
 have nx:numb_s (a,(l,p))=some (mkQ (nmN (nzF l) a p) Q8):=bifT okWa
 have ny:numb_s (b,(l,q))=some (mkQ (nmN (nzF l) b q) Q8):=bifT okWb
 have hX:=nm_has l oa p
 have hY:=nm_has l ob q
 have sX:=nm_sz l (a:=a) (by omega) p
 have sY:=nm_sz l (a:=b) (by omega) q
 generalize nmN (nzF l) a p=X at *
 generalize nmN (nzF l) b q=Y at *
 have q1:∀ R:Int,mkQ R Q8=mkQ R (Q8*1):=fun R=>by rw [Nat.mul_one]
 -- the sum
 have sA:=radd_sz sX sY (by omega) (by omega)
 have eA:radd (mkQ X Q8) (mkQ Y Q8)=mkQ (X+Y) (Q8*1):=by rw [q_add _ _ Q8_pos,q1]
 rw [eA] at sA
 have hA:=hasq_of (c:=addFm a b) (l:=l) (R:=X+Y) (k:=1) (by omega) (add_okW (by omega)) (sz_okK sA (by omega)) (add_sound (nz8 l) oa ob wa wb hX hY)
 have rA:=radd_of sX sY (by omega) (by omega)
 rw [eA] at rA
 -- the difference
 have sS:=rsub_sz sX sY (by omega) (by omega)
 have eS:rsub (mkQ X Q8) (mkQ Y Q8)=mkQ (X-Y) (Q8*1):=by rw [q_sub _ _ Q8_pos,q1]
 rw [eS] at sS
 have hS:=hasq_of (c:=subFm a b) (l:=l) (R:=X-Y) (k:=1) (by omega) (add_okW (by have:=neg_len b;omega)) (sz_okK sS (by omega)) (sub_sound (nz8 l) oa ob wa wb hX hY)
 have rS:=rsub_of sX sY (by omega) (by omega)
 rw [eS] at rS
 -- the product
 have sM:=sz_mul sX sY (by omega) (by omega)
 have eM:rmul (mkQ X Q8) (mkQ Y Q8)=mkQ (X*Y) (Q8*Q8):=rmul_mk _ _ Q8_pos Q8_pos
 rw [eM] at sM
 have mS:=mul_sound (nz8 l) oa ob wa wb hX hY
 have hM:=hasq_of (c:=mulFm a b) (l:=l) (R:=X*Y) (k:=Q8) Q8_pos (mul_okW (by omega)) (sz_okK sM (by omega)) (by rw [Q8_int];exact mS)
 have rM:=rmul_of sX sY (by omega) (by omega)
 rw [eM] at rM
 -- the other sign
 have sN:=rneg_sz sX (by omega)
 have eN:rneg (mkQ X Q8)=mkQ (-X) (Q8*1):=by rw [rneg_mk _ Q8_pos,q1]
 rw [eN] at sN
 have hN:=hasq_of (c:=negFm a) (l:=l) (R:=-X) (k:=1) (by omega) (neg_okW (by omega)) (sz_okK sN (by omega)) (neg_sound oa wa hX)
 have rN:RNeg1_s (mkQ X Q8)=some (mkQ (-X) (Q8*1)):=by rw [← eN];exact bifT (sX.okRt (by omega))
 -- spans
 have w1:wit_s (mkQ X Q8,spanF a)=some true:=by
  have:=wit_of (R:=X) (k:=1) (by omega) (span_within (nz8 l) (by omega) wa hX)
  rw [← q1] at this
  rw [← this]
  exact bifT (sX.ok4 (by omega))
 have w2:wit_s (mkQ (X*Y) (Q8*Q8),spanF (mulFm a b))=some true:=by
  have:=wit_of (R:=X*Y) (k:=Q8) Q8_pos (span_within (nz8 l) (by have:=Q8_pos;omega) (fw_mulFm wa wb) (by rw [Q8_int];exact mS))
  rw [← this]
  exact bifT (sM.ok4 (by omega))
 have lenM:(mulFm a b).2.2.1.length≤16:=by
  rw [mulFm_eq];unfold mulFm'
  cases okF a&&okF b with
  | false=>exact Nat.zero_le _
  | true =>
   rw [cond_true]
   cases (fI (restF a)&&fI (restF b))&&okMm a.2.1 b.2.1 (a.2.2.1.length+b.2.2.1.length) a.2.2.1 b.2.2.1 with
   | false=>exact Nat.zero_le _
   | true=>exact Nat.le_trans (done_l _) (Nat.le_trans (merge_len (mulD a.2.1 b.2.1) (a.2.2.1.length+b.2.2.1.length) a.2.2.1 b.2.2.1 (mulE a b (restF a) (restF b))) (by omega))
 have fA:aSum_s (a,b)=some (addFm a b):=bifT (Nat.ble_eq_true_of_le (by show a.2.2.1.length+b.2.2.1.length≤_;omega))
 have fS:aSub_s (a,b)=some (subFm a b):=bifT (show (Nat.ble b.2.2.1.length 549755813888&&Nat.ble (a.2.2.1.length+(negFm b).2.2.1.length) 549755813888)=true from by
  have:=neg_len b
  rw [Nat.ble_eq_true_of_le (by omega),Nat.ble_eq_true_of_le (by omega)];rfl)
 have fM:aMulF_s (a,b)=some (mulFm a b):=bifT (Nat.ble_eq_true_of_le (by show a.2.2.1.length+b.2.2.1.length≤_;omega))
 have fN:aNeg_s a=some (negFm a):=bifT (Nat.ble_eq_true_of_le (by show a.2.2.1.length≤_;omega))
 have pA:aSpan_s a=some (spanF a):=bifT (Nat.ble_eq_true_of_le (by show a.2.2.1.length≤_;omega))
 have pM:aSpan_s (mulFm a b)=some (spanF (mulFm a b)):=bifT (Nat.ble_eq_true_of_le (by omega))
 refine obB nx (obB ny (obB fA (obB rA (obB hA ((bifT rfl).trans ?_)))))
 refine obB fS (obB rS (obB hS (obB fM (obB rM (obB hM ((bifT rfl).trans ?_))))))
 refine obB fN (obB rN (obB hN (obB pA (obB w1 ((bifT rfl).trans ?_)))))
 exact obB rM (obB fM (obB pM (obB w2 rfl)))
end
end Su
end
