/-
  What functions of the program compute, in plain Lean, and that the evaluator finds it.
-/
import Derived.Test.YtfckjjffdfkelaaGreatSuSd
import Derived.Test.YtfckjjffdfkelaaGreatRay
import Derived.Test.YtfckjjffdfkelaaGreatRro
set_option maxRecDepth 10000
section
namespace Su
open Go Fly
set_option linter.unusedVariables false
noncomputable section
def wit  (r:(Bool×((List Int)×(List Int)))) (s:(Bool×(Int×Int))):Option Bool :=
 ((Je s.2.1)).bind fun x0 =>
 ((Je s.2.2)).bind fun x1 =>
 (bif (!s.1) then
 (bif (!x0.2) then
 (bif (!x1.2) then
 some true
 else
  ((ZT (r,x1.1))).bind fun x2 =>
  some (decide ((x2≤0))))
 else
  ((ZT (x0.1,r))).bind fun x3 =>
  (bif (decide ((x3≤0))) then
  (bif (!x1.2) then
  some true
 else
  ((ZT (r,x1.1))).bind fun x4 =>
  some (decide ((x4≤0))))
 else
  some false))
 else
  some false)
abbrev qdv:=((List Int)×(Int×(Bool×(Int×((List Tm)×(Int×((List T)×((List T)×(Bool×(Nat×(Nat×(Bool×((List Int)×((List Int)×Unit))))))))))))))
def qe3:qdv→Option (qdv ⊕ qdv):=fun p1=>(bif (decide ((p1.2.1<(((List.length p1.2.2.2.2.1):Nat):Int)))) then
 ((idx p1.2.2.2.2.1 p1.2.1)).bind fun x2 =>
 ((Je (Tm.c x2))).bind fun x3 =>
 ((idx p1.2.2.2.2.1 p1.2.1)).bind fun x4 =>
 ((qaw (x3.1,(mkQ (nzF p1.1 (Tm.id x4)) 8)))).bind fun x5 =>
 ((ZS ((p1.2.2.2.2.2.2.2.2.2.2.2.1,(p1.2.2.2.2.2.2.2.2.2.2.2.2.1,p1.2.2.2.2.2.2.2.2.2.2.2.2.2.1)),x5))).bind fun x6 =>
 some (.inl (p1.1,((IntKind.wrap .i64 (p1.2.1+1)),(p1.2.2.1,(p1.2.2.2.1,(p1.2.2.2.2.1,(p1.2.2.2.2.2.1,(p1.2.2.2.2.2.2.1,(p1.2.2.2.2.2.2.2.1,(p1.2.2.2.2.2.2.2.2.1,(p1.2.2.2.2.2.2.2.2.2.1,(p1.2.2.2.2.2.2.2.2.2.2.1,(x6.1,(x6.2.1,(x6.2.2,())))))))))))))))
 else
  some (.inr (p1.1,(p1.2.1,(p1.2.2.1,(p1.2.2.2.1,(p1.2.2.2.2.1,(p1.2.2.2.2.2.1,(p1.2.2.2.2.2.2.1,(p1.2.2.2.2.2.2.2.1,(p1.2.2.2.2.2.2.2.2.1,(p1.2.2.2.2.2.2.2.2.2.1,(p1.2.2.2.2.2.2.2.2.2.2.1,(p1.2.2.2.2.2.2.2.2.2.2.2.1,(p1.2.2.2.2.2.2.2.2.2.2.2.2.1,(p1.2.2.2.2.2.2.2.2.2.2.2.2.2.1,()))))))))))))))))
def qy1  (fu:Nat) (a:Fm) (l:(List Int)):Option (Bool×((List Int)×(List Int))) :=
 ((Je a.2.1)).bind fun x0 =>
 (itP fu (qe3) (l,((0:Int),(a.1,(a.2.1,(a.2.2.1,(a.2.2.2,([],([],(false,(0,(0,(x0.1.1,(x0.1.2.1,(x0.1.2.2,()))))))))))))))).bind fun x7 =>
 some (x7.2.2.2.2.2.2.2.2.2.2.2.1,(x7.2.2.2.2.2.2.2.2.2.2.2.2.1,x7.2.2.2.2.2.2.2.2.2.2.2.2.2.1))
def quF (r:Rt) (s:Spn):Bool:=!s.1&&((QA s.2.1.toNat||decide (qdj (ZU s.2.1.toNat) r≤0))&&(QA s.2.2.toNat||decide (qdj r (ZU s.2.2.toNat)≤0)))
def qaE (p:Rt×Spn):Option Bool:=bif ok4 p.1 then some (quF p.1 p.2) else none
theorem qDG (p:Rt×Spn) (y:Bool) (hg:(dc cRt (d1 Yv)).good p) (h:qaE p=some y):wit p.1 p.2=some y:=by
 obtain ⟨r,b,lo,hi⟩:=p
 obtain ⟨h1,h⟩:=qj h
 have:=soi h;subst this
 have h1:ok4 r=true:=h1
 have c1:ZT (ZU lo.toNat,r)=some (qdj (ZU lo.toNat) r):=yh (show (ok4 _&&ok4 _)=true by rw [(qjo lo.toNat).ok4 (by omega),h1];rfl)
 have c2:ZT (r,ZU hi.toNat)=some (qdj r (ZU hi.toNat)):=yh (show (ok4 _&&ok4 _)=true by rw [(qjo hi.toNat).ok4 (by omega),h1];rfl)
 show wit r (b,(lo,hi))=some (quF r (b,(lo,hi)))
 unfold wit quF
 simp only [qeZ,Option.bind_some]
 cases b with
 | true=>rfl
 | false =>
  cases hn:QA lo.toNat with
  | true =>
   cases hm:QA hi.toNat with
   | true=>rfl
   | false=>exact obB c2 rfl
  | false =>
   simp only [cond_false,cond_true,Bool.not_false,Bool.not_true,Bool.false_or,Bool.true_and]
   refine obB c1 ?_
   cases hd:decide (qdj (ZU lo.toNat) r≤0) with
   | false=>rfl
   | true =>
    cases hm:QA hi.toNat with
    | true=>rfl
    | false=>exact obB c2 rfl
def quG (a:Fm):Bool:=fI a.2.1&&(fI a.2.2.2&&(a.2.2.1.all fun t=>fI t.c))
def okW (a:Fm):Bool:=quG a&&Nat.ble a.2.2.1.length 1000
theorem qcO {a:Fm}:quG a=true↔fI a.2.1=true∧fI a.2.2.2=true∧∀ t∈a.2.2.1,fI t.c=true:=by
 unfold quG;rw [Bool.and_eq_true,Bool.and_eq_true,List.all_eq_true]
def qdw (p:Fm×List Int):Option Rt:=bif okW p.1 then some (mkQ (smN (nzF p.2) p.1) Q8) else none
theorem quH (nz:Int→Int) (t:Tm):∀ A:List Tm,lnS nz (A++[t])=lnS nz A+fv t.c.toNat*nz t.id
 | []=>by show fv t.c.toNat*nz t.id+0=0+_;omega
 | u::A=>by
  show fv u.c.toNat*nz u.id+lnS nz (A++[t])=fv u.c.toNat*nz u.id+lnS nz A+_
  rw [quH nz t A];omega
theorem qy2 {c:Int} (h:fI c=true):QA c.toNat=false:=by rw [qbM,h];rfl
theorem qe4 {c:Int} (h:fI c=true):Je c=some (mkQ (fv c.toNat) QD,true):=by rw [qeZ,qy2 h,← JU];rfl
theorem qhF (c:Int):Sz (mkQ (fv c.toNat) QD) 66:=by rw [← JU];exact qjo _
theorem qhG (a:Fm) (l:List Int) (hl:a.2.2.1.length≤1000) (hf:∀ t∈a.2.2.1,fI t.c=true):∀ (rest A:List Tm),A++rest=a.2.2.1 →
 YF (rest.length+1) qe3 (l,((A.length:Int),(a.1,(a.2.1,(a.2.2.1,(a.2.2.2,([],([],(false,(0,(0,((mkQ (8*fv a.2.1.toNat+lnS (nzF l) A) Q8).1,((mkQ (8*fv a.2.1.toNat+lnS (nzF l) A) Q8).2.1,((mkQ (8*fv a.2.1.toNat+lnS (nzF l) A) Q8).2.2,()))))))))))))))
  (l,((a.2.2.1.length:Int),(a.1,(a.2.1,(a.2.2.1,(a.2.2.2,([],([],(false,(0,(0,((mkQ (smN (nzF l) a) Q8).1,((mkQ (smN (nzF l) a) Q8).2.1,((mkQ (smN (nzF l) a) Q8).2.2,()))))))))))))))
 | [],A,h=>by
  rw [List.append_nil] at h;subst h
  refine YF.stop ?_
  simp only [qe3,ltN,decide_eq_false (Nat.lt_irrefl _),cond_false]
  rfl
 | t::rest,A,h=>by
  have hi:A.length<a.2.2.1.length:=by rw [← h];simp
  have hg:idx a.2.2.1 (A.length:Int)=some t:=by
   rw [jJ,← h,List.getElem?_append_right (by omega),Nat.sub_self];rfl
  have ft:=hf t (by rw [← h];simp)
  have ih:=qhG a l hl hf rest (A++[t]) (by rw [← h];simp)
  have ei:((A++[t]).length:Int)=((A.length+1:Nat):Int):=by simp
  refine YF.next ?_ ih
  have hA:A.length≤1000:=by omega
  have bnd:=quB (nz8 l) (a:=(false,(a.2.1,(A,0)))) hA
  have s1:Sz (mkQ (8*fv a.2.1.toNat+lnS (nzF l) A) Q8) 100:=quz (Nat.lt_of_lt_of_le bnd (Nat.mul_le_mul_right _ (by omega)))
  have s2:=(qlL (nzF l t.id) (nz8 l t.id).1 (nz8 l t.id).2)
  have m1:qaw (mkQ (fv t.c.toNat) QD,mkQ (nzF l t.id) 8)=some (mkQ (fv t.c.toNat*nzF l t.id) Q8):=by
   rw [← qno]
   exact qo9 (qhF t.c) s2 (by omega) (by omega)
  have s3:Sz (mkQ (fv t.c.toNat*nzF l t.id) Q8) 67:=by rw [← qno];exact quA (qhF t.c) s2 (by omega) (by omega)
  have a1:ZS (mkQ (8*fv a.2.1.toNat+lnS (nzF l) A) Q8,mkQ (fv t.c.toNat*nzF l t.id) Q8)=some (mkQ (8*fv a.2.1.toNat+lnS (nzF l) (A++[t])) Q8):=by
   rw [quH,← Int.add_assoc,← qBh (8*fv a.2.1.toNat+lnS (nzF l) A) (fv t.c.toNat*nzF l t.id) qgi]
   exact qpa s1 s3 (by omega) (by omega)
  have hw:=w1 hi (by rw [jQ];omega:a.2.2.1.length≤maxLen)
  rw [ei]
  simp only [qe3,ltN,decide_eq_true hi,cond_true,hg,Option.bind_some,qe4 ft,m1]
  refine obB a1 ?_
  simp only [hw]
theorem qy3 (p:Fm×List Int) (y:Rt) (hg:(dc qu (d1 (cQ 3 1))).good p) (h:qdw p=some y):∃ n,qy1 n p.1 p.2=some y:=by
 obtain ⟨a,l⟩:=p
 obtain ⟨h1,h⟩:=qj h
 have:=soi h;subst this
 have h1:(quG a&&Nat.ble a.2.2.1.length 1000)=true:=h1
 rw [Bool.and_eq_true,qcO] at h1
 obtain ⟨⟨f1,f2,f3⟩,hl⟩:=h1
 have hl:=Nat.le_of_ble_eq_true hl
 refine ⟨a.2.2.1.length+1,?_⟩
 show qy1 (a.2.2.1.length+1) a l=some (mkQ (smN (nzF l) a) Q8)
 unfold qy1
 refine obB (qe4 f1) ?_
 have hr:=qhG a l hl f3 a.2.2.1 [] rfl _ (Nat.le_refl _)
 have e:(mkQ (8*fv a.2.1.toNat+lnS (nzF l) []) Q8)=mkQ (fv a.2.1.toNat) QD:=by
  rw [qFL];show mkQ (8*fv a.2.1.toNat+0) Q8=_;rw [Int.add_zero]
 rw [e] at hr
 exact obB hr rfl
end
end Su
end
section
namespace Su
open Go Fly
set_option linter.unusedVariables false
noncomputable section
def qy4  (a:Fm) (l:(List Int)) (rest:Int):Option (Bool×((List Int)×(List Int))) :=
 ((Je a.2.2.2)).bind fun x0 =>
 ((qdu ((yB (decide (((min (max rest (-8)) 8)<0))) (Int.natAbs (min (max rest (-8)) 8)) 1),(yB false 8 1)))).bind fun x1 =>
 ((qdw (a,l))).bind fun x2 =>
 ((qaw (x0.1,x1.1))).bind fun x3 =>
 ((ZS (x2,x3))).bind fun x4 =>
 some x4
def qy5  (a:Fm) (l:(List Int)) (r:(Bool×((List Int)×(List Int)))):Option Bool :=
 (bif a.1 then
 some true
 else
  ((Je a.2.2.2)).bind fun x0 =>
  ((qdw (a,l))).bind fun x1 =>
  ((qi4 (x1,r))).bind fun x2 =>
  ((qi3 x2)).bind fun x3 =>
  ((ZT (x3,x0.1))).bind fun x4 =>
  some (decide ((x4≤0))))
def nmN (nz:Int→Int) (a:Fm) (rest:Int):Int:=smN nz a+fv a.2.2.2.toNat*min (max rest (-8)) 8
def yY (p:Fm×(List Int×Int)):Option Rt:=bif okW p.1 then some (mkQ (nmN (nzF p.2.1) p.1 p.2.2) Q8) else none
theorem qBk (l:List Int) {a:Fm} (hl:a.2.2.1.length≤1000):Sz (mkQ (smN (nzF l) a) Q8) 100:=quz (Nat.lt_of_lt_of_le (quB (nz8 l) hl) (Nat.mul_le_mul_right _ (by omega)))
theorem qpd {a:Fm} (h:okW a=true):(fI a.2.1=true∧fI a.2.2.2=true∧∀ t∈a.2.2.1,fI t.c=true)∧a.2.2.1.length≤1000:=by
 unfold okW at h
 rw [Bool.and_eq_true,qcO] at h
 exact ⟨h.1,Nat.le_of_ble_eq_true h.2⟩
theorem qy6 (p:Fm×(List Int×Int)) (y:Rt) (hg:(dc qu (dc (cQ 3 1) (d1 (cI .i64)))).good p) (h:yY p=some y):qy4 p.1 p.2.1 p.2.2=some y:=by
 obtain ⟨a,l,rest⟩:=p
 obtain ⟨h1,h⟩:=qj h
 have:=soi h;subst this
 have h1:okW a=true:=h1
 obtain ⟨⟨f1,f2,f3⟩,hl⟩:=qpd h1
 show qy4 a l rest=some (mkQ (nmN (nzF l) a rest) Q8)
 have hk : -8≤min (max rest (-8)) 8∧min (max rest (-8)) 8≤8:=by omega
 unfold qy4
 refine obB (qe4 f2) (obB (div8 hk.1 hk.2) (obB (x:=mkQ (smN (nzF l) a) Q8) (show qdw (a,l)=_ from yh h1) ?_))
 have s2:=qlL _ hk.1 hk.2
 have s3:Sz (qgC (mkQ (fv a.2.2.2.toNat) QD) (mkQ (min (max rest (-8)) 8) 8)) 67:=quA (qhF _) s2 (by omega) (by omega)
 refine obB (qo9 (qhF a.2.2.2) s2 (by omega) (by omega)) (obB (qpa (qBk l hl) s3 (by omega) (by omega)) ?_)
 unfold nmN
 rw [qno,qBh _ _ qgi]
def okK (r:Rt):Bool:=Nat.ble r.2.1.length 1000&&Nat.ble r.2.2.length 1000
def quI (a:Fm) (l:List Int) (r:Rt):Bool:=decide (qdj (qmZ (qep (mkQ (smN (nzF l) a) Q8) r)) (ZU a.2.2.2.toNat)≤0)
def qT (p:Fm×(List Int×Rt)):Option Bool:=bif p.1.1 then some true else bif okW p.1&&okK p.2.2 then some (quI p.1 p.2.1 p.2.2) else none
theorem qy7 (p:Fm×(List Int×Rt)) (y:Bool) (hg:(dc qu (dc (cQ 3 1) (d1 cRt))).good p) (h:qT p=some y):qy5 p.1 p.2.1 p.2.2=some y:=by
 obtain ⟨a,l,r⟩:=p
 have hr:cRt.good r:=hg.2.2
 show qy5 a l r=some y
 unfold qT at h
 unfold qy5
 cases hb:a.1 with
 | true=>rw [hb] at h;exact h
 | false =>
  rw [hb] at h
  obtain ⟨h1,h⟩:=qj (show (bif okW a&&okK r then some (quI a l r) else none)=some y from h)
  have:=soi h;subst this
  rw [Bool.and_eq_true] at h1
  obtain ⟨⟨f1,f2,f3⟩,hl⟩:=qpd h1.1
  have hk:=h1.2
  unfold okK at hk
  rw [Bool.and_eq_true] at hk
  have sr:Sz r 1000:=⟨Wd.of hr.2.1.1,Wd.of hr.2.2.1,Nat.le_of_ble_eq_true hk.1,Nat.le_of_ble_eq_true hk.2⟩
  have s1:=qBk l hl
  have s2:=qyR s1 sr (by omega) (by omega)
  have s3:=qyO s2 (by omega)
  refine (QY rfl).trans ?_
  refine obB (qe4 f2) (obB (x:=mkQ (smN (nzF l) a) Q8) (show qdw (a,l)=_ from yh h1.1) (obB (qyX s1 sr (by omega) (by omega)) (obB (x:=qmZ (qep (mkQ (smN (nzF l) a) Q8) r)) ?_ (obB (qyY s3 (qhF _) (by omega) (by omega)) ?_))))
  · unfold qi3;rw [s2.okRt (by omega)];rfl
  · unfold quI;rw [JU]
end
end Su
end
section
namespace Su
open Go Fly
set_option linter.unusedVariables false
noncomputable section
def quJ  (a:Fm) (e:Int):Option Fm :=
 (bif (List.any [(a.1,(a.2.1,(a.2.2.1,a.2.2.2)))] (fun z0=>(z0.1||(!(yU z0))))) then
 some (true,((0:Int),([],(0:Int))))
 else
  (bif (!(jK (bK (Int.toNat e)))) then
  some (true,((0:Int),([],(0:Int))))
 else
  ((bif (Jv a.2.2.1) then
  some a.2.2.1
 else
  none)).bind fun x1 =>
  (bif (true&&(Nat.beq (List.length (List.map (vT) x1)) (List.length (List.map (vT) x1)))) then
  ((((((yt (List.map (vT) x1))).bind fun x2 =>
  some (x2,(((upS 0 [a.2.2.2,(((YK (Int.toNat e)):Nat):Int)]):Nat):Int))).bind fun x3 =>
  some (a.2.1,x3)).bind fun x4 =>
  some (a.1,x4)).bind fun x5 =>
  some (qH x5)).bind fun x6 =>
  some (x6.1,(x6.2.1,(x6.2.2.1,x6.2.2.2)))
 else
  none)))
set_option linter.unusedSimpArgs false
def qcP (a:Fm) (e:Int):Fm:=bif okF a&&fI e then qH (a.1,(a.2.1,(a.2.2.1,upI [a.2.2.2,qcJ e]))) else qbK
def JX (p:Fm×Int):Option Fm:=bif Jv p.1.2.2.1 then some (qcP p.1 p.2) else none
theorem quK (p:Fm×Int) (y:Fm) (hg:(dc qu (d1 (cI .u64))).good p) (h:JX p=some y):quJ p.1 p.2=some y:=by
 obtain ⟨⟨b,m,l,r⟩,e⟩:=p
 obtain ⟨h1,h2⟩:=qj h
 have:=soi h2;subst this
 have h1:Jv l=true:=h1
 have ha:List.any [((b,(m,(l,r))):Fm)] (fun z0=>(z0.1||(!(yU z0)))) = !okF (b,(m,(l,r))):=by simp [okF]
 have hf:∀ f:Int,jK (bK (Int.toNat f))=fI f:=fun _=>rfl
 unfold quJ qcP
 simp only []
 rw [ha,hf]
 cases okF (b,(m,(l,r))) with
 | false=>rfl
 | true =>
  cases fI e with
  | false=>rfl
  | true =>
   simp only [Bool.not_true,cond_false,cond_true,Bool.and_self,h1,Option.bind_some,qy]
   exact obs (obs (obs (obs (obs (jR l) rfl) rfl) rfl) rfl) rfl
end
end Su
end
section
namespace Su
open Go Fly
set_option linter.unusedVariables false
noncomputable section
end
end Su
end
section
namespace Su
open Go Fly
set_option linter.unusedVariables false
noncomputable section
theorem qa5 {f:Int}:fI f=true↔Zp f=false∧qD (bK f.toNat)≠3:=by
 unfold fI Zp
 rw [jH,YA,Zi]
 by_cases h:bK f.toNat=9218868437227405312
 · rw [if_pos h];omega
 · rw [if_neg h]
   constructor
   · intro h1
     refine ⟨by omega,?_⟩
     rw [if_neg (by omega)]
     split <;> (try split) <;> omega
   · rintro ⟨h1,-⟩;omega
theorem QB {s:Spn} {f:Int} (hf:Fw f) (hs:SpW s):qej s f=true↔fI f=true∧(qo s).1=false∧ky (qo s).2.1≤ky f∧ky f≤ky (qo s).2.2:=by
 unfold qej
 by_cases hc:qD (bK f.toNat)=3
 · rw [decide_eq_true hc]
   constructor
   · intro h;cases h
   · rintro ⟨h,-⟩;exact absurd hc (qa5.1 h).2
 · rw [decide_eq_false hc]
   cases hn:Zp f with
   | true =>
    have e:qng f f=qlt:=by
     rcases qel (s:=(false,(f,f))) ⟨hf,hf⟩ with h | ⟨_,h,_⟩
     · exact h
     · rw [hn] at h;cases h
    rw [e]
    constructor
    · intro h;cases h
    · rintro ⟨h,-⟩;rw [(qa5.1 h).1] at hn;cases hn
   | false =>
    have hfi:fI f=true:=qa5.2 ⟨hn,hc⟩
    have ok:=Jw (s:=(false,(f,f))) ⟨hf,hf⟩
    have hk:=jH.1 (show jK (bK f.toNat)=true from hfi)
    have hab:=qdr f
    have n1:f≠9218868437227405312:=fun e=>by subst e;revert hk;decide
    have n2:f≠18442240474082181120:=fun e=>by subst e;revert hk;decide
    have e:qng f f=(false,(nzI f,nzI f)):=by
     unfold qng qo
     simp only []
     rw [JV.2 ⟨hn,hn,Int.le_refl _⟩,decide_eq_false n1,decide_eq_false n2];rfl
    have e2:qo (qng f f)=qng f f:=qaC ok
    obtain ⟨z1,z2⟩:=qek hf hn
    unfold qnh
    rw [e2,e]
    simp only [Bool.not_false,Bool.true_and,Bool.false_or]
    cases h0:(qo s).1 with
    | true=>simp
    | false =>
     obtain ⟨a1,a2,-⟩:=qgf (Jw hs) h0
     simp only [Bool.not_false,Bool.true_and,Bool.and_eq_true]
     rw [JV,JV,z2]
     constructor
     · rintro ⟨⟨_,_,b1⟩,_,_,b2⟩;exact ⟨hfi,trivial,b1,b2⟩
     · rintro ⟨_,_,b1,b2⟩;exact ⟨⟨a1.n,z1.n,b1⟩,z1.n,a2.n,b2⟩
theorem quL {lo hi f:Int} (wl:Fw lo) (wh:Fw hi) (wf:Fw f) (hf:fI f=true) (h1:Dn lo (fv f.toNat)) (h2:Up hi (fv f.toNat)):qej (qo (false,(lo,hi))) f=true:=by
 have k:=qnm hf
 have kl:Zp lo=false∧lo≠qgG∧ky lo≤ky f:=by
  rcases h1 with ⟨a,b⟩ | rfl
  · obtain ⟨n1,-⟩:=qa5.1 a
    refine ⟨n1,fun e=>?_,(qgg a hf).1 b⟩
    subst e;cases a
  · exact ⟨rfl,by decide,by rw [qlE];omega⟩
 have kh:Zp hi=false∧hi≠Y6∧ky f≤ky hi:=by
  rcases h2 with ⟨a,b⟩ | rfl
  · obtain ⟨n1,-⟩:=qa5.1 a
    refine ⟨n1,fun e=>?_,(qgg hf a).1 b⟩
    subst e;cases a
  · exact ⟨rfl,by decide,by rw [qjr];omega⟩
 have w:SpW (false,(lo,hi)):=⟨wl,wh⟩
 rw [QB wf (Jw w).w,qaC (Jw w)]
 have e:qo (false,(lo,hi))=(false,(nzI lo,nzI hi)):=by
  unfold qo
  simp only []
  rw [JV.2 ⟨kl.1,kh.1,by omega⟩,decide_eq_false kl.2.1,decide_eq_false kh.2.1];rfl
 rw [e]
 refine ⟨hf,rfl,?_,?_⟩
 · show ky (nzI lo)≤ky f
   rw [(qek wl kl.1).2];exact kl.2.2
 · show ky f≤ky (nzI hi)
   rw [(qek wh kh.1).2];exact kh.2.2
theorem qlN {a:Fm} {f:Int} (wa:FmW a) (wf:Fw f) (hf:fI f=true) (h:ofS a f=true):qej (Z4 a) f=true:=by
 unfold Z4
 cases ho:okF a with
 | false =>
  rw [cond_false]
  have k:=qnm hf
  have w:SpW (false,(Y6,qgG)):=⟨⟨by decide,by decide⟩,⟨by decide,by decide⟩⟩
  refine (QB wf w).2 ?_
  have e:qo (false,(Y6,qgG))=(false,(Y6,qgG)):=by decide +kernel
  rw [e]
  refine ⟨hf,rfl,?_,?_⟩
  · show ky Y6≤ky f
    rw [qlE];omega
  · show ky f≤ky qgG
    rw [qjr];omega
 | true =>
  rw [cond_true]
  obtain ⟨_,hfin⟩:=Qm ho
  unfold ofS at h
  rw [ho,Bool.and_eq_true] at h
  have h2:(fv f.toNat-fv a.2.1.toNat).natAbs≤quj a:=of_decide_eq_true (by simpa using h.2)
  have u:=qDA ho
  have wr:=quu wa
  have up:Up (Qq a.2.1 (qjh a) 1) (fv f.toNat):=qe0 (Qr (yV hfin.mid) u) (by omega)
  have dn:Dn (Qq a.2.1 (QW (qjh a)) 2) (fv f.toNat):=by
   have:=qDx hfin.mid (Int.le_refl _) (qDy wr u)
   exact this.imp (fun ⟨a1,b1⟩=>⟨a1,by omega⟩) id
  exact quL (yQ wa.mid (Y5 wr) 2) (yQ wa.mid wr 1) wf hf dn up
def qBl:Bool×Int×List Tm×Int:=(true,(0,([],0)))
theorem qcQ {f:Int} (h:fI f=true):ofS qBl f=true:=by
 unfold ofS
 have e:okF qBl=false:=rfl
 rw [qbM,h,e];rfl
def qer (lo hi:Int):Int:=((Zj (Qq hi (QW (jx lo hi)) 1).toNat (Qq (jx lo hi) (QW lo) 1).toNat:Nat):Int)
def quM (n:Spn) (id:Int):Fm :=
 bif n.1 then qbK else bif !fI n.2.1 then qbK else bif !fI n.2.2 then qbK else
 bif decide (id<0) then qH (false,(jx n.2.1 n.2.2,([],qer n.2.1 n.2.2)))
 else qH (false,(jx n.2.1 n.2.2,([⟨id,qer n.2.1 n.2.2⟩],0)))
def Qf (s:Spn) (id:Int):Fm:=quM (qo s) id
theorem qdx {x n:Int} (h:Up x n):qO (bK x.toNat)=false:=by
 rcases h with ⟨h,_⟩ | rfl
 · exact (qa5.1 h).1
 · rfl
theorem qhH {x n:Int} (h:Up x n) (hf:fI x=true):n≤fv x.toNat:=by
 rcases h with ⟨_,h⟩ | rfl
 · exact h
 · cases hf
theorem qnp {x y n m:Int} (wx:Fw x) (wy:Fw y) (hx:Up x n) (hy:Up y m):Up (mxI x y) n∧Up (mxI x y) m:=by
 have nx:Zp x=false:=qdx hx
 have ny:Zp y=false:=qdx hy
 have big:∀ {x y:Int} {n m:Int},Up x n→Up y m→ky x≤ky y→Up y n:=by
  intro x y n m hx hy hk
  rcases hy with ⟨fy,hy⟩ | rfl
  · rcases hx with ⟨fx,hx⟩ | rfl
    · exact .inl ⟨fy,by have:=(qgg fx fy).2 hk;omega⟩
    · have:=qnm fy
      rw [qjr] at hk;omega
  · exact .inr rfl
 rw [qBa wx wy nx ny]
 by_cases h:ky x<ky y
 · rw [if_pos h];exact ⟨big hx hy (by omega),hy⟩
 · rw [if_neg h];exact ⟨hx,big hy hx (by omega)⟩
theorem qy8 {l:List Tm} {t:Tm} (hz:zI t.c=false) (ht:t∈l):t∈qP l:=List.mem_filter.2 ⟨ht,by rw [hz];rfl⟩
theorem quN {t:Tm} (hz:zI t.c=false):qP [t]=[t]:=by unfold qP;simp [hz]
theorem qBm (f:Int):fv (nzI f).toNat=fv f.toNat:=by
 unfold nzI
 cases h:zI f with
 | false=>rfl
 | true =>
  rw [cond_true,JW (f:=f.toNat) (Nat.eq_of_beq_eq_true h)];rfl
theorem qpe {s:Spn} {f id:Int} (ws:SpW s) (wf:Fw f) (h:qej s f=true):ofS (Qf s id) f=true:=by
 obtain ⟨hf,h0,h1,h2⟩:=(QB wf ws).1 h
 have wn:=(Jw ws).w
 unfold Qf quM
 generalize qo s=n at *
 rw [h0,cond_false]
 cases f1:fI n.2.1 with
 | false=>exact qcQ hf
 | true =>
 cases f2:fI n.2.2 with
 | false=>exact qcQ hf
 | true =>
 rw [Bool.not_true,cond_false,cond_false]
 have g1:=(qgg f1 hf).2 h1
 have g2:=(qgg hf f2).2 h2
 have hh:Fw 4602678819172646912:=⟨by decide,by decide⟩
 have wmul:∀ {a:Int},Fw a→Fw (yF a 4602678819172646912 0):=fun {a} ha=>qds (qjc 0)
 have wm:Fw (jx n.2.1 n.2.2):=yQ (wmul wn.1) (wmul wn.2) 0
 have e:qer n.2.1 n.2.2=mxI (Qq n.2.2 (QW (jx n.2.1 n.2.2)) 1) (Qq (jx n.2.1 n.2.2) (QW n.2.1) 1):=rfl
 have key:∀ m r:Int,fI m=true→fI r=true→m=jx n.2.1 n.2.2→r=qer n.2.1 n.2.2→(fv f.toNat-fv m.toNat).natAbs≤avF r:=by
  intro m r fm fr em er
  rw [← em] at wm e
  rw [e] at er
  have un:Up (QW m) (-fv m.toNat):=by
   obtain ⟨k1,k2⟩:=qe1 (qem wm) (jj.1 fm)
   refine .inl ⟨jj.2 (by unfold QW;rw [Int.toNat_natCast];exact k1),?_⟩
   unfold QW;rw [Int.toNat_natCast,k2];exact Int.le_refl _
  have ul:Up (QW n.2.1) (-fv n.2.1.toNat):=by
   obtain ⟨k1,k2⟩:=qe1 (qem wn.1) (jj.1 f1)
   refine .inl ⟨jj.2 (by unfold QW;rw [Int.toNat_natCast];exact k1),?_⟩
   unfold QW;rw [Int.toNat_natCast,k2];exact Int.le_refl _
  obtain ⟨u1,u2⟩:=qnp (yQ wn.2 (Y5 wm) 1) (yQ wm (Y5 wn.1) 1) (Qr (yV f2) un) (Qr (yV fm) ul)
  rw [← er] at u1 u2
  have v1:=qhH u1 fr
  have v2:=qhH u2 fr
  unfold avF
  omega
 have fin:∀ (l:List Tm) (r0:Int),(∀ m r,fI m=true→fI r0=true→(∀ t∈l,fI t.c=true)→m=jx n.2.1 n.2.2→r=quj (false,(nzI m,(qP l,nzI r0)))→(fv f.toNat-fv m.toNat).natAbs≤r)→ofS (qH (false,(jx n.2.1 n.2.2,(l,r0)))) f=true:=by
  intro l r0 hl
  rw [Ju]
  generalize hm:jx n.2.1 n.2.2=m at *
  show ofS (bif (fI (nzI m)&&fI (nzI r0))&&!((qP l).any fun t=>!fI t.c) then ((false,(nzI m,(qP l,nzI r0))):Fm) else qbK) f=true
  have fz:∀ x:Int,fI (nzI x)=true→fI x=true:=fun x hx=>by
   unfold nzI at hx
   cases hz:zI x with
   | false=>rw [hz] at hx;exact hx
   | true=>exact jj.2 (by rw [Nat.eq_of_beq_eq_true hz];exact Nat.zero_le _)
  cases c1:fI (nzI m) with
  | false=>exact qcQ hf
  | true =>
  cases c2:fI (nzI r0) with
  | false=>exact qcQ hf
  | true =>
  cases c3:((qP l).any fun t=>!fI t.c) with
  | true=>exact qcQ hf
  | false =>
   have ft:∀ t∈l,fI t.c=true:=fun t ht=>by
    cases hz:zI t.c with
    | true=>exact jj.2 (by rw [Nat.eq_of_beq_eq_true hz];exact Nat.zero_le _)
    | false =>
     have hin:t∈qP l:=qy8 hz ht
     have:=List.any_eq_false.1 c3 t hin
     simpa using this
   have:=hl m _ (fz _ c1) (fz _ c2) ft rfl rfl
   show ofS (false,(nzI m,(qP l,nzI r0))) f=true
   unfold ofS
   rw [qbM,hf]
   show (!!true&&(_||decide ((fv f.toNat-fv (nzI m).toNat).natAbs≤_)))=true
   rw [qBm,decide_eq_true this,Bool.or_true];rfl
 have av0:∀ r:Int,avF (nzI r)=avF r:=fun r=>by unfold avF;rw [qBm]
 cases decide (id<0) with
 | true =>
  refine fin [] _ fun m r fm fr _ em er=>?_
  have:=key m _ fm fr em rfl
  rw [er]
  show _≤qjp (qP []) (avF (nzI (qer n.2.1 n.2.2)))
  rw [av0];exact this
 | false =>
  refine fin [⟨id,qer n.2.1 n.2.2⟩] 0 fun m r fm fr ft em er=>?_
  have hk:(fv f.toNat-fv m.toNat).natAbs≤avF (qer n.2.1 n.2.2):=key m _ fm (ft _ (List.mem_singleton.2 rfl)) em rfl
  rw [er]
  show _≤qjp (qP [(⟨id,qer n.2.1 n.2.2⟩:Tm)]) (avF (nzI 0))
  cases hz:zI (qer n.2.1 n.2.2) with
  | false =>
   rw [quN hz]
   show _≤avF (nzI 0)+avF (qer n.2.1 n.2.2)
   omega
  | true =>
   have:avF (qer n.2.1 n.2.2)=0:=by unfold avF;rw [JW (Nat.eq_of_beq_eq_true hz)];rfl
   omega
end
end Su
end
section
namespace Su
open Go Fly
set_option linter.unusedVariables false
noncomputable section
abbrev qbN:=((List T)×(Int×(Int×(Bool×(Int×(Int×(Bool×(Int×(Int×Unit)))))))))
def qaF:qbN→Option (qbN ⊕ qbN):=fun p0=>(bif (decide ((p0.2.2.1<p0.2.1))) then
 ((idx p0.1 p0.2.2.1)).bind fun x1 =>
 (((T.cells x1))[0]?).bind fun x2 =>
 ((asB (.t x2))).bind fun x3 =>
 (((T.cells x1))[1]?).bind fun x4 =>
 ((asI .u64 (.t x4))).bind fun x5 =>
 (((T.cells x1))[2]?).bind fun x6 =>
 ((asI .u64 (.t x6))).bind fun x7 =>
 (bif (qo (x3,(x5,x7))).1 then
 some (.inl (p0.1,(p0.2.1,((IntKind.wrap .i64 (p0.2.2.1+1)),(p0.2.2.2.1,(p0.2.2.2.2.1,(p0.2.2.2.2.2.1,(p0.2.2.2.2.2.2.1,(p0.2.2.2.2.2.2.2.1,(p0.2.2.2.2.2.2.2.2.1,()))))))))))
 else
  (bif p0.2.2.2.2.2.2.1 then
  some (.inl (p0.1,(p0.2.1,((IntKind.wrap .i64 (p0.2.2.1+1)),(p0.2.2.2.1,(p0.2.2.2.2.1,(p0.2.2.2.2.2.1,((qo (x3,(x5,x7))).1,((qo (x3,(x5,x7))).2.1,((qo (x3,(x5,x7))).2.2,()))))))))))
 else
  some (.inl (p0.1,(p0.2.1,((IntKind.wrap .i64 (p0.2.2.1+1)),(p0.2.2.2.1,(p0.2.2.2.2.1,(p0.2.2.2.2.2.1,((qo (false,((((qsT (Int.toNat p0.2.2.2.2.2.2.2.1) (Int.toNat (qo (x3,(x5,x7))).2.1)):Nat):Int),(((Zj (Int.toNat p0.2.2.2.2.2.2.2.2.1) (Int.toNat (qo (x3,(x5,x7))).2.2)):Nat):Int)))).1,((qo (false,((((qsT (Int.toNat p0.2.2.2.2.2.2.2.1) (Int.toNat (qo (x3,(x5,x7))).2.1)):Nat):Int),(((Zj (Int.toNat p0.2.2.2.2.2.2.2.2.1) (Int.toNat (qo (x3,(x5,x7))).2.2)):Nat):Int)))).2.1,((qo (false,((((qsT (Int.toNat p0.2.2.2.2.2.2.2.1) (Int.toNat (qo (x3,(x5,x7))).2.1)):Nat):Int),(((Zj (Int.toNat p0.2.2.2.2.2.2.2.2.1) (Int.toNat (qo (x3,(x5,x7))).2.2)):Nat):Int)))).2.2,()))))))))))))
 else
  some (.inr (p0.1,(p0.2.1,(p0.2.2.1,(p0.2.2.2.1,(p0.2.2.2.2.1,(p0.2.2.2.2.2.1,(p0.2.2.2.2.2.2.1,(p0.2.2.2.2.2.2.2.1,(p0.2.2.2.2.2.2.2.2.1,())))))))))))
def quO  (fu:Nat) (s:(Bool×(Int×Int))) (id:Int):Option Fm :=
 (itP fu (qaF) ([(T.agg [(T.s (.bool s.1)),(T.s (.int .u64 s.2.1)),(T.s (.int .u64 s.2.2))])],((((List.length [(T.agg [(T.s (.bool s.1)),(T.s (.int .u64 s.2.1)),(T.s (.int .u64 s.2.2))])]):Nat):Int),((0:Int),(false,((0:Int),((0:Int),(true,((0:Int),((0:Int),())))))))))).bind fun x8 =>
 (bif x8.2.2.2.2.2.2.1 then
 some (true,((0:Int),([],(0:Int))))
 else
  (bif (!(jK (bK (Int.toNat x8.2.2.2.2.2.2.2.1)))) then
  some (true,((0:Int),([],(0:Int))))
 else
  (bif (!(jK (bK (Int.toNat x8.2.2.2.2.2.2.2.2.1)))) then
  some (true,((0:Int),([],(0:Int))))
 else
  (bif (decide ((id<0))) then
  some ((qH (false,((jx x8.2.2.2.2.2.2.2.1 x8.2.2.2.2.2.2.2.2.1),([],(((Zj (Int.toNat (((jL (Int.toNat x8.2.2.2.2.2.2.2.2.1) (Int.toNat (((jU (Int.toNat (jx x8.2.2.2.2.2.2.2.1 x8.2.2.2.2.2.2.2.2.1))):Nat):Int)) 1):Nat):Int)) (Int.toNat (((jL (Int.toNat (jx x8.2.2.2.2.2.2.2.1 x8.2.2.2.2.2.2.2.2.1)) (Int.toNat (((jU (Int.toNat x8.2.2.2.2.2.2.2.1)):Nat):Int)) 1):Nat):Int))):Nat):Int))))).1,((qH (false,((jx x8.2.2.2.2.2.2.2.1 x8.2.2.2.2.2.2.2.2.1),([],(((Zj (Int.toNat (((jL (Int.toNat x8.2.2.2.2.2.2.2.2.1) (Int.toNat (((jU (Int.toNat (jx x8.2.2.2.2.2.2.2.1 x8.2.2.2.2.2.2.2.2.1))):Nat):Int)) 1):Nat):Int)) (Int.toNat (((jL (Int.toNat (jx x8.2.2.2.2.2.2.2.1 x8.2.2.2.2.2.2.2.2.1)) (Int.toNat (((jU (Int.toNat x8.2.2.2.2.2.2.2.1)):Nat):Int)) 1):Nat):Int))):Nat):Int))))).2.1,((qH (false,((jx x8.2.2.2.2.2.2.2.1 x8.2.2.2.2.2.2.2.2.1),([],(((Zj (Int.toNat (((jL (Int.toNat x8.2.2.2.2.2.2.2.2.1) (Int.toNat (((jU (Int.toNat (jx x8.2.2.2.2.2.2.2.1 x8.2.2.2.2.2.2.2.2.1))):Nat):Int)) 1):Nat):Int)) (Int.toNat (((jL (Int.toNat (jx x8.2.2.2.2.2.2.2.1 x8.2.2.2.2.2.2.2.2.1)) (Int.toNat (((jU (Int.toNat x8.2.2.2.2.2.2.2.1)):Nat):Int)) 1):Nat):Int))):Nat):Int))))).2.2.1,(qH (false,((jx x8.2.2.2.2.2.2.2.1 x8.2.2.2.2.2.2.2.2.1),([],(((Zj (Int.toNat (((jL (Int.toNat x8.2.2.2.2.2.2.2.2.1) (Int.toNat (((jU (Int.toNat (jx x8.2.2.2.2.2.2.2.1 x8.2.2.2.2.2.2.2.2.1))):Nat):Int)) 1):Nat):Int)) (Int.toNat (((jL (Int.toNat (jx x8.2.2.2.2.2.2.2.1 x8.2.2.2.2.2.2.2.2.1)) (Int.toNat (((jU (Int.toNat x8.2.2.2.2.2.2.2.1)):Nat):Int)) 1):Nat):Int))):Nat):Int))))).2.2.2)))
 else
  some ((qH (false,((jx x8.2.2.2.2.2.2.2.1 x8.2.2.2.2.2.2.2.2.1),([(Tm.mk id (((Zj (Int.toNat (((jL (Int.toNat x8.2.2.2.2.2.2.2.2.1) (Int.toNat (((jU (Int.toNat (jx x8.2.2.2.2.2.2.2.1 x8.2.2.2.2.2.2.2.2.1))):Nat):Int)) 1):Nat):Int)) (Int.toNat (((jL (Int.toNat (jx x8.2.2.2.2.2.2.2.1 x8.2.2.2.2.2.2.2.2.1)) (Int.toNat (((jU (Int.toNat x8.2.2.2.2.2.2.2.1)):Nat):Int)) 1):Nat):Int))):Nat):Int))],(0:Int))))).1,((qH (false,((jx x8.2.2.2.2.2.2.2.1 x8.2.2.2.2.2.2.2.2.1),([(Tm.mk id (((Zj (Int.toNat (((jL (Int.toNat x8.2.2.2.2.2.2.2.2.1) (Int.toNat (((jU (Int.toNat (jx x8.2.2.2.2.2.2.2.1 x8.2.2.2.2.2.2.2.2.1))):Nat):Int)) 1):Nat):Int)) (Int.toNat (((jL (Int.toNat (jx x8.2.2.2.2.2.2.2.1 x8.2.2.2.2.2.2.2.2.1)) (Int.toNat (((jU (Int.toNat x8.2.2.2.2.2.2.2.1)):Nat):Int)) 1):Nat):Int))):Nat):Int))],(0:Int))))).2.1,((qH (false,((jx x8.2.2.2.2.2.2.2.1 x8.2.2.2.2.2.2.2.2.1),([(Tm.mk id (((Zj (Int.toNat (((jL (Int.toNat x8.2.2.2.2.2.2.2.2.1) (Int.toNat (((jU (Int.toNat (jx x8.2.2.2.2.2.2.2.1 x8.2.2.2.2.2.2.2.2.1))):Nat):Int)) 1):Nat):Int)) (Int.toNat (((jL (Int.toNat (jx x8.2.2.2.2.2.2.2.1 x8.2.2.2.2.2.2.2.2.1)) (Int.toNat (((jU (Int.toNat x8.2.2.2.2.2.2.2.1)):Nat):Int)) 1):Nat):Int))):Nat):Int))],(0:Int))))).2.2.1,(qH (false,((jx x8.2.2.2.2.2.2.2.1 x8.2.2.2.2.2.2.2.2.1),([(Tm.mk id (((Zj (Int.toNat (((jL (Int.toNat x8.2.2.2.2.2.2.2.2.1) (Int.toNat (((jU (Int.toNat (jx x8.2.2.2.2.2.2.2.1 x8.2.2.2.2.2.2.2.2.1))):Nat):Int)) 1):Nat):Int)) (Int.toNat (((jL (Int.toNat (jx x8.2.2.2.2.2.2.2.1 x8.2.2.2.2.2.2.2.2.1)) (Int.toNat (((jU (Int.toNat x8.2.2.2.2.2.2.2.1)):Nat):Int)) 1):Nat):Int))):Nat):Int))],(0:Int))))).2.2.2)))))))
def zIn  (a:(Bool×(Int×Int))) (b:(Bool×(Int×Int))):Option Bool :=
 (bif (qo (a.1,(a.2.1,a.2.2))).1 then
 some true
 else
  (bif (!(qo (b.1,(b.2.1,b.2.2))).1) then
  (bif (leF (qo (b.1,(b.2.1,b.2.2))).2.1 (qo (a.1,(a.2.1,a.2.2))).2.1) then
  some (leF (qo (a.1,(a.2.1,a.2.2))).2.2 (qo (b.1,(b.2.1,b.2.2))).2.2)
 else
  some false)
 else
  some false))
set_option linter.unusedSimpArgs false
theorem qqM (s:Spn) (h:(qo s).1=true):qo s=qlt:=by
 unfold qo at *
 cases hc:s.1||(!leF s.2.1 s.2.2||(decide (s.2.1=9218868437227405312)||decide (s.2.2=18442240474082181120))) with
 | true=>rfl
 | false =>
  rw [hc,cond_false] at h
  have h:s.1=true:=h
  rw [h] at hc;cases hc
def frL (s:Spn):List T:=[T.agg [T.s (.bool s.1),T.s (.int .u64 s.2.1),T.s (.int .u64 s.2.2)]]
theorem quP (s:Spn):qaF (frL s,(1,(0,(false,(0,(0,(true,(0,(0,())))))))))=some (.inl (frL s,(1,(1,(false,(0,(0,((qo s).1,((qo s).2.1,((qo s).2.2,())))))))))):=by
 have w1:IntKind.i64.wrap (0+1)=1:=by decide
 have i0:idx (frL s) 0=some (T.agg [T.s (.bool s.1),T.s (.int .u64 s.2.1),T.s (.int .u64 s.2.2)]):=rfl
 have c1:(T.agg [T.s (.bool s.1),T.s (.int .u64 s.2.1),T.s (.int .u64 s.2.2)]).cells=[T.s (.bool s.1),T.s (.int .u64 s.2.1),T.s (.int .u64 s.2.2)]:=rfl
 have d1:decide ((0:Int)<1)=true:=rfl
 have e1:(s.1,(s.2.1,s.2.2))=s:=rfl
 have g0:([T.s (.bool s.1),T.s (.int .u64 s.2.1),T.s (.int .u64 s.2.2)]:List T)[0]?=some (T.s (.bool s.1)):=rfl
 have g1:([T.s (.bool s.1),T.s (.int .u64 s.2.1),T.s (.int .u64 s.2.2)]:List T)[1]?=some (T.s (.int .u64 s.2.1)):=rfl
 have g2:([T.s (.bool s.1),T.s (.int .u64 s.2.1),T.s (.int .u64 s.2.2)]:List T)[2]?=some (T.s (.int .u64 s.2.2)):=rfl
 have k0:asB (.t (T.s (.bool s.1)))=some s.1:=rfl
 have k1:∀ n:Int,asI .u64 (.t (T.s (.int .u64 n)))=some n:=fun n=>by simp [asI]
 unfold qaF
 simp only [d1,cond_true,i0,Option.bind_some,c1,g0,g1,g2,k0,k1,e1,w1]
 cases h:(qo s).1 with
 | true =>
  have hn:=qqM s h
  rw [hn];rfl
 | false=>rfl
theorem quQ (a:List T) (z:Bool×(Int×(Int×Unit))):qaF (a,(1,(1,(false,(0,(0,z))))))=some (.inr (a,(1,(1,(false,(0,(0,z))))))):=rfl
theorem qqN (s:Spn):∃ n,itP n qaF (frL s,(1,(0,(false,(0,(0,(true,(0,(0,())))))))))=some (frL s,(1,(1,(false,(0,(0,((qo s).1,((qo s).2.1,((qo s).2.2,()))))))))) :=
 Qk (quP s) (Qp (quQ _ _))
def qpf (p:Spn×Int):Option Fm:=some (Qf p.1 p.2)
theorem quR (p:Spn×Int) (y:Fm) (hg:(dc Yv (d1 (cI .i64))).good p) (h:qpf p=some y):∃ n,quO n p.1 p.2=some y:=by
 obtain ⟨s,id⟩:=p
 have:=soi h;subst this
 obtain ⟨n,h1⟩:=qqN s
 refine ⟨n,?_⟩
 unfold quO
 refine obs h1 ?_
 unfold Qf quM
 cases (qo s).1 <;> simp only [cond_true,cond_false]
 · have f1:jK (bK ((qo s).2.1).toNat)=fI (qo s).2.1:=rfl
   have f2:jK (bK ((qo s).2.2).toNat)=fI (qo s).2.2:=rfl
   rw [f1,f2]
   cases fI (qo s).2.1 <;> simp only [Bool.not_true,Bool.not_false,cond_true,cond_false]
   · rfl
   · cases fI (qo s).2.2 <;> simp only [Bool.not_true,Bool.not_false,cond_true,cond_false]
     · rfl
     · cases decide (id<0) <;> rfl
 · rfl
def qBn (p:Spn×Spn):Option Bool:=some (qnh p.1 p.2)
theorem qDH (p:Spn×Spn) (y:Bool) (hg:(dc Yv (d1 Yv)).good p) (h:qBn p=some y):zIn p.1 p.2=some y:=by
 have:=soi h;subst this
 unfold zIn qnh
 generalize qo p.1=t
 generalize qo p.2=t'
 cases t.1 with
 | true=>rfl
 | false =>
  cases t'.1 with
  | true=>rfl
  | false=>cases leF t'.2.1 t.2.1 <;> rfl
end
end Su
end
section
namespace Su
open Go Fly
set_option linter.unusedVariables false
noncomputable section
def awI (a b:Int):Int:=mxI (Qq a (QW b) 1) (Qq b (QW a) 1)
def jnD (f:Int→Int→Int) (e x y:Int):Int×Int:=(f x y,e)
def YM (e x y:Int):Int×Int:=(0,bif decide (x=0) then e else upI [e,awI x y])
theorem qa6 {m:Int} (wm:Fw m) (fm:fI m=true):Up (QW m) (-fv m.toNat):=by
 obtain ⟨k1,k2⟩:=qe1 (qem wm) (jj.1 fm)
 refine .inl ⟨jj.2 (by unfold QW;rw [Int.toNat_natCast];exact k1),?_⟩
 unfold QW;rw [Int.toNat_natCast,k2];exact Int.le_refl _
theorem qBo {a b:Int} (wa:Fw a) (fa:fI a=true) (wb:Fw b) (fb:fI b=true):Up (awI a b) ((fv a.toNat-fv b.toNat).natAbs:Int):=by
 obtain ⟨u1,u2⟩:=qnp (yQ wa (Y5 wb) 1) (yQ wb (Y5 wa) 1) (Qr (yV fa) (qa6 wb fb)) (Qr (yV fb) (qa6 wa fa))
 have e:awI a b=mxI (Qq a (QW b) 1) (Qq b (QW a) 1):=rfl
 rw [← e] at u1 u2
 by_cases h:0≤fv a.toNat-fv b.toNat
 · exact qe0 u1 (by omega)
 · exact qe0 u2 (by omega)
theorem qBp {a b:Int} (ha:Fw a) (hb:Fw b) (na:Zp a=false) (nb:Zp b=false):Fw (mxI a b):=by
 rw [qBa ha hb na nb]
 by_cases h:ky a<ky b
 · rw [if_pos h];exact hb
 · rw [if_neg h];exact ha
theorem qBq {a b:Int} (wa:Fw a) (fa:fI a=true) (wb:Fw b) (fb:fI b=true):Fw (awI a b) :=
 qBp (yQ wa (Y5 wb) 1) (yQ wb (Y5 wa) 1) (qdx (Qr (yV fa) (qa6 wb fb))) (qdx (Qr (yV fb) (qa6 wa fa)))
theorem qdy (f:Int→Int→Int→Int×Int) (k:Nat) (e:Int):qh f k [] [] e=([],e):=by cases k <;> rfl
theorem Zq (f:Int→Int→Int→Int×Int) (k:Nat) (a b:Tm) (l m:List Tm) (e:Int) (h:a.id=b.id):qh f (k+1) (a::l) (b::m) e=jI a.id (f e a.c b.c) (qh f k l m):=by
 simp only [qh,decide_eq_false (show ¬ a.id<b.id by omega),decide_eq_false (show ¬ b.id<a.id by omega),cond_false]
theorem qaG (f:Int→Int→Int→Int×Int) (k:Nat) (a b:Tm) (l m:List Tm) (e:Int) (h:a.id<b.id):qh f (k+1) (a::l) (b::m) e=jI a.id (f e a.c 0) (qh f k l (b::m)):=by
 simp only [qh,decide_eq_true h,cond_true]
theorem Zr (f:Int→Int→Int→Int×Int) (k:Nat) (a b:Tm) (l m:List Tm) (e:Int) (h:b.id<a.id):qh f (k+1) (a::l) (b::m) e=jI b.id (f e 0 b.c) (qh f k (a::l) m):=by
 simp only [qh,decide_eq_false (show ¬ a.id<b.id by omega),decide_eq_true h,cond_true,cond_false]
theorem qnq (f:Int→Int→Int→Int×Int):∀ (n:Nat) (l m:List Tm) (e:Int),qh f n l m e=qh (fun e x y=>f e y x) n m l e:=by
 intro n
 induction n with
 | zero=>intro l m e;rfl
 | succ n ih =>
  intro l m e
  have st:∀ (id:Int) (r:Int×Int) (g h:Int→List Tm×Int),(∀ e,g e=h e)→jI id r g=jI id r h:=fun id r g h hh=>by unfold jI;rw [hh]
  match l,m with
  | [],[]=>rfl
  | a::l,[]=>exact st _ _ _ _ fun e=>ih l [] e
  | [],b::m=>exact st _ _ _ _ fun e=>ih [] m e
  | a::l,b::m =>
   by_cases h1:a.id<b.id
   · rw [qaG _ _ _ _ _ _ _ h1,Zr _ _ _ _ _ _ _ h1]
     exact st _ _ _ _ fun e=>ih l (b::m) e
   · by_cases h2:b.id<a.id
     · rw [Zr _ _ _ _ _ _ _ h2,qaG _ _ _ _ _ _ _ h2]
       exact st _ _ _ _ fun e=>ih (a::l) m e
     · have hid:a.id=b.id:=by omega
       rw [Zq _ _ _ _ _ _ _ hid,Zq _ _ _ _ _ _ _ hid.symm,hid]
       exact st _ _ _ _ fun e=>ih l m e
theorem qy9 {nz:Int→Int} (hz:Nz8 nz) {f:Int→Int→Int} (h0:∀ x,f x 0=0) (h1:∀ y,f 0 y=0) (hf:∀ x y,(Fw x∧fI x=true)→(Fw y∧fI y=true)→Fw (f x y)∧fI (f x y)=true) (z:Int) :
 ∀ (n:Nat) (l m:List Tm) (k:Nat) (e E:Int),l.length+m.length≤n→l.length+(qh (jnD f) n l m z).1.length≤k→(∀ t∈l,Fw t.c∧fI t.c=true)→(∀ t∈m,Fw t.c∧fI t.c=true)→Up e E →
 ∃ D:Int,0≤D∧Up (qh YM k l (qh (jnD f) n l m z).1 e).2 (E+D)∧((lnS nz (qh (jnD f) n l m z).1-lnS nz l).natAbs:Int)≤8*D:=by
 intro n
 induction n with
 | zero =>
  intro l m k e E hn hk hl hm he
  have e1:l=[]:=List.length_eq_zero_iff.1 (by omega)
  have e2:m=[]:=List.length_eq_zero_iff.1 (by omega)
  subst e1 e2
  rw [show (qh (jnD f) 0 [] [] z).1=[] from rfl,qdy]
  exact ⟨0,by omega,by rw [Int.add_zero];exact he,by show ((0-0:Int).natAbs:Int)≤8*0;decide⟩
 | succ n ih =>
  intro l m k e E hn hk hl hm he
  -- both have the ID
  have both:∀ (a:Tm) (l' m':List Tm) (y:Int),l'.length+m'.length≤n→(∀ t∈a::l',Fw t.c∧fI t.c=true)→(∀ t∈m',Fw t.c∧fI t.c=true)→(Fw y∧fI y=true) →
   (a::l').length+(jI a.id (jnD f z a.c y) (qh (jnD f) n l' m')).1.length≤k →
   ∃ D:Int,0≤D∧Up (qh YM k (a::l') (jI a.id (jnD f z a.c y) (qh (jnD f) n l' m')).1 e).2 (E+D)∧((lnS nz (jI a.id (jnD f z a.c y) (qh (jnD f) n l' m')).1-lnS nz (a::l')).natAbs:Int)≤8*D:=by
   intro a l' m' y hn' hl' hm' hy hk'
   have ha:=hl' a (List.mem_cons_self ..)
   have er:(jI a.id (jnD f z a.c y) (qh (jnD f) n l' m')).1=⟨a.id,f a.c y⟩::(qh (jnD f) n l' m' z).1:=rfl
   rw [er] at hk' ⊢
   simp only [List.length_cons] at hk'
   obtain ⟨k',rfl⟩:∃ k',k=k'+1:=⟨k-1,by omega⟩
   rw [Zq YM k' a ⟨a.id,f a.c y⟩ l' _ e rfl]
   have hc:=hf a.c y ha hy
   have s1:∃ D:Int,0≤D∧Up (YM e a.c (f a.c y)).2 (E+D)∧((fv (f a.c y).toNat-fv a.c.toNat).natAbs:Int)≤D:=by
    unfold YM
    by_cases hx:a.c=0
    · rw [hx,decide_eq_true rfl,h1]
      exact ⟨0,by omega,by rw [Int.add_zero];exact he,by omega⟩
    · rw [decide_eq_false hx]
      refine ⟨_,by omega,qyW he (qBo ha.1 ha.2 hc.1 hc.2),by omega⟩
   obtain ⟨D1,a0,a1,a2⟩:=s1
   obtain ⟨D2,b0,b1,b2⟩:=ih l' m' k' (YM e a.c (f a.c y)).2 (E+D1) hn' (by omega) (fun t ht=>hl' t (List.mem_cons_of_mem _ ht)) hm' a1
   refine ⟨D1+D2,by omega,by rw [← Int.add_assoc];exact b1,?_⟩
   show ((fv (f a.c y).toNat*nz a.id+lnS nz (qh (jnD f) n l' m' z).1-(fv a.c.toNat*nz a.id+lnS nz l')).natAbs:Int)≤_
   have kk:=Qe a2 (hz a.id).1 (hz a.id).2
   rw [Int.sub_mul] at kk
   omega
  -- the other one alone has it
  have other:∀ (b:Tm) (l' m':List Tm),l'.length+m'.length≤n→(∀ t∈l',Fw t.c∧fI t.c=true)→(∀ t∈m',Fw t.c∧fI t.c=true)→(∀ a r,l'=a::r→b.id<a.id) →
   l'.length+(jI b.id (jnD f z 0 b.c) (qh (jnD f) n l' m')).1.length≤k →
   ∃ D:Int,0≤D∧Up (qh YM k l' (jI b.id (jnD f z 0 b.c) (qh (jnD f) n l' m')).1 e).2 (E+D)∧((lnS nz (jI b.id (jnD f z 0 b.c) (qh (jnD f) n l' m')).1-lnS nz l').natAbs:Int)≤8*D:=by
   intro b l' m' hn' hl' hm' hb hk'
   have er:(jI b.id (jnD f z 0 b.c) (qh (jnD f) n l' m')).1=⟨b.id,0⟩::(qh (jnD f) n l' m' z).1:=by
    show (⟨b.id,f 0 b.c⟩:Tm)::(qh (jnD f) n l' m' z).1=_
    rw [h1]
   rw [er] at hk' ⊢
   simp only [List.length_cons] at hk'
   obtain ⟨k',rfl⟩:∃ k',k=k'+1:=⟨k-1,by omega⟩
   obtain ⟨D2,b0,b1,b2⟩:=ih l' m' k' e E hn' (by omega) hl' hm' he
   have em:(qh YM (k'+1) l' (⟨b.id,0⟩::(qh (jnD f) n l' m' z).1) e).2=(qh YM k' l' (qh (jnD f) n l' m' z).1 e).2:=by
    match l',hb with
    | [],_=>rfl
    | a::r,hb=>rw [Zr _ _ _ _ _ _ _ (show (⟨b.id,0⟩:Tm).id<a.id from hb a r rfl)];rfl
   rw [em]
   refine ⟨D2,b0,b1,?_⟩
   show ((fv (0:Int).toNat*nz b.id+lnS nz (qh (jnD f) n l' m' z).1-lnS nz l').natAbs:Int)≤_
   rw [fv_0,Int.zero_mul,Int.zero_add];exact b2
  match l,m,hn with
  | [],[],_ =>
   rw [qdy,qdy]
   exact ⟨0,by omega,by rw [Int.add_zero];exact he,by show ((0-0:Int).natAbs:Int)≤8*0;decide⟩
  | a::l,[],hn=>exact both a l [] 0 (by simp at hn ⊢;omega) hl hm ⟨qbL,rfl⟩ hk
  | [],b::m,hn=>exact other b [] m (by simp at hn ⊢;omega) hl (fun t ht=>hm t (List.mem_cons_of_mem _ ht)) (fun a r h=>by cases h) hk
  | a::l,b::m,hn =>
   simp only [List.length_cons] at hn
   by_cases g1:a.id<b.id
   · rw [qaG (jnD f) _ _ _ _ _ _ g1] at hk ⊢
     exact both a l (b::m) 0 (by simp only [List.length_cons];omega) hl hm ⟨qbL,rfl⟩ hk
   · by_cases g2:b.id<a.id
     · rw [Zr (jnD f) _ _ _ _ _ _ g2] at hk ⊢
       exact other b (a::l) m (by simp only [List.length_cons];omega) hl (fun t ht=>hm t (List.mem_cons_of_mem _ ht)) (fun a' r h=>by cases h;exact g2) hk
     · have hid:a.id=b.id:=by omega
       rw [Zq (jnD f) _ _ _ _ _ _ hid] at hk ⊢
       exact both a l m b.c (by omega) hl (fun t ht=>hm t (List.mem_cons_of_mem _ ht)) (hm b (List.mem_cons_self ..)) hk
theorem qza:∀ (k:Nat) (l m:List Tm) (e:Int),Fw e→(∀ t∈l,Fw t.c∧fI t.c=true)→(∀ t∈m,Fw t.c∧fI t.c=true)→Fw (qh YM k l m e).2:=by
 intro k
 induction k with
 | zero=>intro l m e he _ _;exact he
 | succ k ih =>
  intro l m e he hl hm
  have one:∀ (id x y:Int) (l' m':List Tm),(Fw x∧fI x=true)→(Fw y∧fI y=true)→(∀ t∈l',Fw t.c∧fI t.c=true)→(∀ t∈m',Fw t.c∧fI t.c=true)→Fw (jI id (YM e x y) (qh YM k l' m')).2:=by
   intro id x y l' m' hx hy hl' hm'
   refine ih l' m' (YM e x y).2 ?_ hl' hm'
   unfold YM
   cases decide (x=0) with
   | true=>exact he
   | false=>exact qo6 he (qBq hx.1 hx.2 hy.1 hy.2)
  match l,m with
  | [],[]=>exact he
  | a::l,[]=>exact one a.id a.c 0 l [] (hl a (List.mem_cons_self ..)) ⟨qbL,rfl⟩ (fun t ht=>hl t (List.mem_cons_of_mem _ ht)) hm
  | [],b::m=>exact one b.id 0 b.c [] m ⟨qbL,rfl⟩ (hm b (List.mem_cons_self ..)) hl (fun t ht=>hm t (List.mem_cons_of_mem _ ht))
  | a::l,b::m =>
   by_cases g1:a.id<b.id
   · rw [qaG _ _ _ _ _ _ _ g1]
     exact one a.id a.c 0 l (b::m) (hl a (List.mem_cons_self ..)) ⟨qbL,rfl⟩ (fun t ht=>hl t (List.mem_cons_of_mem _ ht)) hm
   · by_cases g2:b.id<a.id
     · rw [Zr _ _ _ _ _ _ _ g2]
       exact one b.id 0 b.c (a::l) m ⟨qbL,rfl⟩ (hm b (List.mem_cons_self ..)) hl (fun t ht=>hm t (List.mem_cons_of_mem _ ht))
     · rw [Zq _ _ _ _ _ _ _ (show a.id=b.id by omega)]
       exact one a.id a.c b.c l m (hl a (List.mem_cons_self ..)) (hm b (List.mem_cons_self ..)) (fun t ht=>hl t (List.mem_cons_of_mem _ ht)) (fun t ht=>hm t (List.mem_cons_of_mem _ ht))
theorem qqO {p:Int→Prop} (p0:p 0) {f:Int→Int→Int} (hf:∀ x y,p x→p y→p (f x y)) (z:Int):∀ (n:Nat) (l m:List Tm),(∀ t∈l,p t.c)→(∀ t∈m,p t.c)→∀ t∈(qh (jnD f) n l m z).1,p t.c:=by
 intro n
 induction n with
 | zero=>intro l m _ _ t ht;cases ht
 | succ n ih =>
  intro l m hl hm
  have one:∀ (id x y:Int) (l' m':List Tm),p x→p y→(∀ t∈l',p t.c)→(∀ t∈m',p t.c)→∀ t∈(jI id (jnD f z x y) (qh (jnD f) n l' m')).1,p t.c:=by
   intro id x y l' m' hx hy hl' hm' t ht
   rcases List.mem_cons.1 ht with rfl | ht
   · exact hf x y hx hy
   · exact ih l' m' hl' hm' t ht
  match l,m with
  | [],[]=>intro t ht;cases ht
  | a::l,[]=>exact one a.id a.c 0 l [] (hl a (List.mem_cons_self ..)) p0 (fun t ht=>hl t (List.mem_cons_of_mem _ ht)) hm
  | [],b::m=>exact one b.id 0 b.c [] m p0 (hm b (List.mem_cons_self ..)) hl (fun t ht=>hm t (List.mem_cons_of_mem _ ht))
  | a::l,b::m =>
   by_cases g1:a.id<b.id
   · rw [qaG _ _ _ _ _ _ _ g1]
     exact one a.id a.c 0 l (b::m) (hl a (List.mem_cons_self ..)) p0 (fun t ht=>hl t (List.mem_cons_of_mem _ ht)) hm
   · by_cases g2:b.id<a.id
     · rw [Zr _ _ _ _ _ _ _ g2]
       exact one b.id 0 b.c (a::l) m p0 (hm b (List.mem_cons_self ..)) hl (fun t ht=>hm t (List.mem_cons_of_mem _ ht))
     · rw [Zq _ _ _ _ _ _ _ (show a.id=b.id by omega)]
       exact one a.id a.c b.c l m (hl a (List.mem_cons_self ..)) (hm b (List.mem_cons_self ..)) (fun t ht=>hl t (List.mem_cons_of_mem _ ht)) (fun t ht=>hm t (List.mem_cons_of_mem _ ht))
def qgj (a:Fm) (r:List Tm) (mid:Int):Int:=upI [(qh YM (a.2.2.1.length+r.length) a.2.2.1 r (awI a.2.1 mid)).2,a.2.2.2]
def Zs (f:Int→Int→Int) (a b:Fm):List Tm:=(qh (jnD f) (a.2.2.1.length+b.2.2.1.length) a.2.2.1 b.2.2.1 0).1
def Zt (f:Int→Int→Int) (a b:Fm):Fm:=bif okF a&&okF b then qH (false,(jx a.2.1 b.2.1,(Zs f a b,mxI (qgj a (Zs f a b) (jx a.2.1 b.2.1)) (qgj b (Zs f a b) (jx a.2.1 b.2.1))))) else qbK
structure Pick (f:Int→Int→Int):Prop where
 l:∀ x,f x 0=0
 r:∀ y,f 0 y=0
 o:∀ x y,f x y=0∨f x y=x∨f x y=y
theorem Pick.swap {f:Int→Int→Int} (h:Pick f):Pick (fun x y=>f y x):=⟨h.r,h.l,fun x y=>(h.o y x).imp id Or.symm⟩
theorem Pick.all {f:Int→Int→Int} (h:Pick f) {p:Int→Prop} (p0:p 0) (x y:Int) (hx:p x) (hy:p y):p (f x y):=by
 rcases h.o x y with e | e | e <;> rw [e] <;> assumption
theorem qpg {nz:Int→Int} (hz:Nz8 nz) {f:Int→Int→Int} (hf:Pick f) {a:Fm} {m:List Tm} {X mid z:Int} {n:Nat} (ha:okF a=true) (wa:FmW a) (hm:∀ t∈m,Fw t.c∧fI t.c=true) (wm:Fw mid) (fm:fI mid=true)
 (hn:a.2.2.1.length+m.length≤n) (hX:qdt nz a X 1):Fw (qgj a (qh (jnD f) n a.2.2.1 m z).1 mid) ∧
 ∃ S:Int,Up (qgj a (qh (jnD f) n a.2.2.1 m z).1 mid) S∧((8*fv mid.toNat+lnS nz (qh (jnD f) n a.2.2.1 m z).1-X).natAbs:Int)≤8*S:=by
 obtain ⟨fa,Fa⟩:=Qm ha
 have hX:=hX.resolve_left (by rw [fa];simp)
 have hl:∀ t∈a.2.2.1,Fw t.c∧fI t.c=true:=fun t ht=>⟨wa.tms t ht,Fa.tms t ht⟩
 have hr:=qqO (p:=fun c=>Fw c∧fI c=true) ⟨qbL,rfl⟩ (f:=f) (fun x y hx hy=>hf.all (p:=fun c=>Fw c∧fI c=true) ⟨qbL,rfl⟩ x y hx hy) z n a.2.2.1 m hl hm
 have e0:=qBo wa.mid Fa.mid wm fm
 obtain ⟨D,d0,d1,d2⟩:=qy9 hz hf.l hf.r (fun x y hx hy=>hf.all (p:=fun c=>Fw c∧fI c=true) ⟨qbL,rfl⟩ x y hx hy) z n a.2.2.1 m (a.2.2.1.length+(qh (jnD f) n a.2.2.1 m z).1.length) (awI a.2.1 mid) _ hn (Nat.le_refl _) hl hm e0
 refine ⟨qo6 (qza _ _ _ _ (qBq wa.mid Fa.mid wm fm) hl hr) wa.err,_,qyW d1 (qDD ha),?_⟩
 unfold smN at hX
 simp only [Int.mul_one] at hX
 omega
theorem qnr {nz:Int→Int} (hz:Nz8 nz) {f:Int→Int→Int} (hf:Pick f) {a b:Fm} {X Y:Int} (ha:okF a=true) (hb:okF b=true) (wa:FmW a) (wb:FmW b) (hX:qdt nz a X 1) (hY:qdt nz b Y 1) :
 qdt nz (Zt f a b) X 1∧qdt nz (Zt f a b) Y 1:=by
 cases hc:(Zt f a b).1 with
 | true=>exact ⟨.inl hc,.inl hc⟩
 | false =>
  unfold Zt at hc ⊢
  rw [ha,hb] at hc ⊢
  simp only [Bool.and_self,cond_true] at hc ⊢
  obtain ⟨fm,fe,ft,e⟩:=qaD hc
  rw [e]
  have Fa:=(Qm ha).2
  have Fb:=(Qm hb).2
  have wmul:∀ {a:Int},Fw a→Fw (yF a 4602678819172646912 0):=fun {a} ha=>qds (qjc 0)
  have wm:Fw (jx a.2.1 b.2.1):=yQ (wmul wa.mid) (wmul wb.mid) 0
  have eb:Zs f a b=(qh (jnD fun x y=>f y x) (a.2.2.1.length+b.2.2.1.length) b.2.2.1 a.2.2.1 0).1:=congrArg Prod.fst (qnq (jnD f) _ _ _ _)
  obtain ⟨w1,S1,u1,g1⟩:=qpg hz hf (m:=b.2.2.1) (mid:=jx a.2.1 b.2.1) (z:=0) (n:=a.2.2.1.length+b.2.2.1.length) ha wa (fun t ht=>⟨wb.tms t ht,Fb.tms t ht⟩) wm fm (Nat.le_refl _) hX
  obtain ⟨w2,S2,u2,g2⟩:=qpg hz hf.swap (m:=a.2.2.1) (mid:=jx a.2.1 b.2.1) (z:=0) (n:=a.2.2.1.length+b.2.2.1.length) hb wb (fun t ht=>⟨wa.tms t ht,Fa.tms t ht⟩) wm fm (by omega) hY
  rw [← eb] at w2 u2 g2
  change Fw (qgj a (Zs f a b) _) at w1
  change Up (qgj a (Zs f a b) _) S1 at u1
  change ((_+lnS nz (Zs f a b)-X).natAbs:Int)≤_ at g1
  obtain ⟨v1,v2⟩:=qnp w1 w2 u1 u2
  have v1:=qhH v1 fe
  have v2:=qhH v2 fe
  refine ⟨.inr ?_,.inr ?_⟩
  all_goals
   unfold smN
   simp only [quy,qe2,Int.mul_one]
   omega
theorem qqP {nz:Int→Int} {a:Fm} {X e:Int} (ha:okF a=true) (wa:FmW a) (fe:fI e=true) (hX:qdt nz a X 1):qdt nz (qH (a.1,(a.2.1,(a.2.2.1,upI [a.2.2.2,qcJ e])))) X 1:=by
 obtain ⟨fa,Fa⟩:=Qm ha
 have hX:=hX.resolve_left (by rw [fa];simp)
 rw [fa]
 cases hc:(qH (false,(a.2.1,(a.2.2.1,upI [a.2.2.2,qcJ e])))).1 with
 | true=>exact .inl hc
 | false =>
  right
  obtain ⟨fm,fe',ft,ee⟩:=qaD hc
  rw [ee]
  obtain ⟨k1,k2⟩:=qju fe
  have u:=qyW (qDD ha) (yV k1)
  have u:=qhH u fe'
  unfold smN at hX ⊢
  simp only [quy,qe2,Int.mul_one] at hX ⊢
  omega
theorem qph (nz:Int→Int) {l m:List Tm} (h:l.Perm m):lnS nz l=lnS nz m:=by
 induction h with
 | nil=>rfl
 | cons x _ ih=>show _+lnS nz _=_+lnS nz _;rw [ih]
 | swap x y l=>show _+(_+lnS nz l)=_+(_+lnS nz l);omega
 | trans _ _ h1 h2=>rw [h1,h2]
theorem quS (nz:Int→Int):∀ l m:List Tm,lnS nz (l++m)=lnS nz l+lnS nz m
 | [],m=>by show _=0+_;rw [Int.zero_add];rfl
 | t::l,m=>by show _+lnS nz (l++m)=_+lnS nz l+lnS nz m;rw [quS nz l m];omega
def qjw (K:Tm→Bool):List Tm→Int→Int
 | [],e=>e
 | t::l,e=>qjw K l (bif K t then e else upI [e,qcJ t.c])
theorem qns {nz:Int→Int} (hz:Nz8 nz) (K:Tm→Bool):∀ (l:List Tm) (e E:Int),(∀ t∈l,fI t.c=true)→Up e E→∃ D:Int,0≤D∧Up (qjw K l e) (E+D)∧((lnS nz (l.filter fun t=>!K t)).natAbs:Int)≤8*D
 | [],e,E,_,he=>⟨0,by omega,by rw [Int.add_zero];exact he,by show ((0:Int).natAbs:Int)≤_;decide⟩
 | t::l,e,E,hl,he=>by
  have ft:=hl t (List.mem_cons_self ..)
  have hl':∀ t∈l,fI t.c=true:=fun t ht=>hl t (List.mem_cons_of_mem _ ht)
  unfold qjw
  rw [List.filter_cons]
  cases hk:K t with
  | true =>
   rw [Bool.not_true,if_neg (by simp)]
   exact qns hz K l e E hl' he
  | false =>
   rw [Bool.not_false,if_pos rfl]
   obtain ⟨k1,k2⟩:=qju ft
   have u:=qyW he (yV k1)
   rw [k2] at u
   obtain ⟨D,d0,d1,d2⟩:=qns hz K l _ _ hl' u
   refine ⟨(avF t.c:Int)+D,by omega,by rw [← Int.add_assoc];exact d1,?_⟩
   show ((fv t.c.toNat*nz t.id+lnS nz (l.filter fun t=>!K t)).natAbs:Int)≤_
   have kk:=Qe (d:=fv t.c.toNat) (D:=(avF t.c:Int)) (by unfold avF;omega) (hz t.id).1 (hz t.id).2
   omega
theorem qqQ {nz:Int→Int} (hz:Nz8 nz) {a:Fm} {X:Int} {K:Tm→Bool} {l:List Tm} (ha:okF a=true) (wa:FmW a) (hK:l.Perm (a.2.2.1.filter K)) (hX:qdt nz a X 1):qdt nz (qH (false,(a.2.1,(l,qjw K a.2.2.1 a.2.2.2)))) X 1:=by
 obtain ⟨fa,Fa⟩:=Qm ha
 have hX:=hX.resolve_left (by rw [fa];simp)
 cases hc:(qH (false,(a.2.1,(l,qjw K a.2.2.1 a.2.2.2)))).1 with
 | true=>exact .inl hc
 | false =>
  right
  obtain ⟨fm,fe',ft,ee⟩:=qaD hc
  rw [ee]
  obtain ⟨D,d0,d1,d2⟩:=qns hz K a.2.2.1 _ _ Fa.tms (qDD ha)
  have d1:=qhH d1 fe'
  have h1:=qph nz hK
  have h2:=qph nz (List.filter_append_perm K a.2.2.1)
  rw [quS] at h2
  unfold smN at hX ⊢
  simp only [quy,qe2,Int.mul_one] at hX ⊢
  omega
end
end Su
end
