/-
  What functions of the program compute, in plain Lean, and that the evaluator finds it.
-/
import Derived.Test.YtfckjjffdfkelaaGreatSuSd
import Derived.Test.YtfckjjffdfkelaaGreatNC24
import Derived.Test.YtfckjjffdfkelaaGreatNB10
set_option maxRecDepth 10000
section
namespace Su
open Go Fly
set_option linter.unusedVariables false
noncomputable section
def qCR  (lo:Int) (hi:Int):Option (Bool×(Int×Int)) :=
 some (Su.qm (false,(lo,hi)))
def zIn  (a:(Bool×(Int×Int))) (b:(Bool×(Int×Int))):Option Bool :=
 (bif (Su.qm a).1 then
 some true
 else
  (bif (!(Su.qm b).1) then
  (bif (Su.leF (Su.qm b).2.1 (Su.qm a).2.1) then
  some (Su.leF (Su.qm a).2.2 (Su.qm b).2.2)
 else
  some false)
 else
  some false))
def qFk  (s:(Bool×(Int×Int))) (f:Int):Option Bool :=
 (bif (!(decide (((((Su.qF (Su.bK (Int.toNat f))):Nat):Int)=3)))) then
 (bif (!(Su.qm (false,(f,f))).1) then
 (bif (Su.qm (Su.qm (false,(f,f)))).1 then
 some true
 else
  (bif (!(Su.qm s).1) then
  (bif (Su.leF (Su.qm s).2.1 (Su.qm (Su.qm (false,(f,f)))).2.1) then
  some (Su.leF (Su.qm (Su.qm (false,(f,f)))).2.2 (Su.qm s).2.2)
 else
  some false)
 else
  some false))
 else
  some false)
 else
  some false)
def qu6  (a:(Bool×(Int×Int))) (b:(Bool×(Int×Int))):Option (Bool×(Int×Int)) :=
 (bif (Su.qm a).1 then
 some (true,((0:Int),(0:Int)))
 else
  (bif (Su.qm b).1 then
  some (true,((0:Int),(0:Int)))
 else
  some (Su.qm (false,((((Su.qfA (Int.toNat (Su.qm a).2.1) (Int.toNat (Su.qm b).2.1)):Nat):Int),(((Su.qiQ (Int.toNat (Su.qm a).2.2) (Int.toNat (Su.qm b).2.2)):Nat):Int))))))
abbrev qa1:=((List (Bool×(Int×Int)))×(Int×(Int×(Bool×(Int×(Int×(Bool×(Int×(Int×Unit)))))))))
def qcd:qa1→Option (qa1 ⊕ qa1):=fun p0=>(bif (decide ((p0.2.2.1<p0.2.1))) then
 ((Su.idx p0.1 p0.2.2.1)).bind fun x1 =>
 (bif (Su.qm x1).1 then
 some (.inl (p0.1,(p0.2.1,((Go.IntKind.wrap .i64 (p0.2.2.1+1)),(p0.2.2.2.1,(p0.2.2.2.2.1,(p0.2.2.2.2.2.1,(p0.2.2.2.2.2.2.1,(p0.2.2.2.2.2.2.2.1,(p0.2.2.2.2.2.2.2.2.1,()))))))))))
 else
  (bif p0.2.2.2.2.2.2.1 then
  some (.inl (p0.1,(p0.2.1,((Go.IntKind.wrap .i64 (p0.2.2.1+1)),(p0.2.2.2.1,(p0.2.2.2.2.1,(p0.2.2.2.2.2.1,((Su.qm x1).1,((Su.qm x1).2.1,((Su.qm x1).2.2,()))))))))))
 else
  some (.inl (p0.1,(p0.2.1,((Go.IntKind.wrap .i64 (p0.2.2.1+1)),(p0.2.2.2.1,(p0.2.2.2.2.1,(p0.2.2.2.2.2.1,((Su.qm (false,((((Su.qiQ (Int.toNat p0.2.2.2.2.2.2.2.1) (Int.toNat (Su.qm x1).2.1)):Nat):Int),(((Su.qfA (Int.toNat p0.2.2.2.2.2.2.2.2.1) (Int.toNat (Su.qm x1).2.2)):Nat):Int)))).1,((Su.qm (false,((((Su.qiQ (Int.toNat p0.2.2.2.2.2.2.2.1) (Int.toNat (Su.qm x1).2.1)):Nat):Int),(((Su.qfA (Int.toNat p0.2.2.2.2.2.2.2.2.1) (Int.toNat (Su.qm x1).2.2)):Nat):Int)))).2.1,((Su.qm (false,((((Su.qiQ (Int.toNat p0.2.2.2.2.2.2.2.1) (Int.toNat (Su.qm x1).2.1)):Nat):Int),(((Su.qfA (Int.toNat p0.2.2.2.2.2.2.2.2.1) (Int.toNat (Su.qm x1).2.2)):Nat):Int)))).2.2,()))))))))))))
 else
  some (.inr (p0.1,(p0.2.1,(p0.2.2.1,(p0.2.2.2.1,(p0.2.2.2.2.1,(p0.2.2.2.2.2.1,(p0.2.2.2.2.2.2.1,(p0.2.2.2.2.2.2.2.1,(p0.2.2.2.2.2.2.2.2.1,())))))))))))
def qu7  (fu:Nat) (l:(List (Bool×(Int×Int)))):Option (Bool×(Int×Int)) :=
 (itP fu (qcd) (l,((((List.length l):Nat):Int),((0:Int),(false,((0:Int),((0:Int),(true,((0:Int),((0:Int),())))))))))).bind fun x2 =>
 some (x2.2.2.2.2.2.2.1,(x2.2.2.2.2.2.2.2.1,x2.2.2.2.2.2.2.2.2.1))
def Z8:(Int×((List Int)×(Int×(Int×Unit))))→Option ((Int×((List Int)×(Int×(Int×Unit)))) ⊕ (Int×((List Int)×(Int×(Int×Unit))))):=fun p0=>(bif (decide ((p0.2.2.2.1<p0.2.2.1))) then
 ((Su.idx p0.2.1 p0.2.2.2.1)).bind fun x1 =>
 some (.inl ((((Su.qfA (Int.toNat p0.1) (Int.toNat (Su.gdF x1))):Nat):Int),(p0.2.1,(p0.2.2.1,((Go.IntKind.wrap .i64 (p0.2.2.2.1+1)),())))))
 else
  some (.inr (p0.1,(p0.2.1,(p0.2.2.1,(p0.2.2.2.1,()))))))
def qnh  (fu:Nat) (l:(List Int)):Option Int :=
 (itP fu (Z8) ((0:Int),(l,((((List.length l):Nat):Int),((0:Int),()))))).bind fun x2 =>
 some x2.1
def qo7 (p:Int×Int):Option Spn:=some (Zv p.1 p.2)
theorem qu8 (p:Int×Int) (y:Spn) (hg:(dc (cI .u64) (d1 (cI .u64))).good p) (h:qo7 p=some y):qCR p.1 p.2=some y:=by
 have:=soi h;subst this;rfl
def qCS (p:Spn×Spn):Option Bool:=some (Yc p.1 p.2)
theorem qFl (p:Spn×Spn) (y:Bool) (hg:(dc yE (d1 yE)).good p) (h:qCS p=some y):zIn p.1 p.2=some y:=by
 have:=soi h;subst this
 unfold zIn Yc
 generalize qm p.1=t
 generalize qm p.2=t'
 cases t.1 with
 | true=>rfl
 | false =>
  cases t'.1 with
  | true=>rfl
  | false=>cases leF t'.2.1 t.2.1 <;> rfl
def qu9 (p:Spn×Int):Option Bool:=some (qly p.1 p.2)
theorem qzR (p:Spn×Int) (y:Bool) (hg:(dc yE (d1 (cI .u64))).good p) (h:qu9 p=some y):qFk p.1 p.2=some y:=by
 have:=soi h;subst this
 unfold qFk qly Yc Zv
 have e:decide (((qF (bK p.2.toNat):Nat):Int)=3)=decide (qF (bK p.2.toNat)=3):=qmT _ 3
 rw [e]
 generalize qm (false,(p.2,p.2))=t
 generalize qm t=u
 generalize qm p.1=t'
 cases decide (qF (bK p.2.toNat)=3) with
 | true=>rfl
 | false =>
  cases t.1 with
  | true=>rfl
  | false =>
   cases u.1 with
   | true=>rfl
   | false =>
    cases t'.1 with
    | true=>rfl
    | false=>cases leF t'.2.1 u.2.1 <;> rfl
def qo8 (p:Spn×Spn):Option Spn:=some (Jp p.1 p.2)
theorem qva (p:Spn×Spn) (y:Spn) (hg:(dc yE (d1 yE)).good p) (h:qo8 p=some y):qu6 p.1 p.2=some y:=by
 have:=soi h;subst this
 unfold qu6 Jp
 generalize qm p.1=t
 generalize qm p.2=t'
 cases t.1 with
 | true=>rfl
 | false=>cases t'.1 <;> rfl
abbrev ZjS:=List Spn×(Int×(Int×(Bool×(Int×(Int×(Bool×(Int×(Int×Unit))))))))
def qzS (l:List Spn) (i:Int) (j:Spn):ZjS:=(l,(((l.length:Nat):Int),(i,(false,(0,(0,(j.1,(j.2.1,(j.2.2,())))))))))
theorem qo9 (l:List Spn) (hl:l.length≤maxLen):∀ (r A:List Spn) (j:Spn),A++r=l→jN (r.length+1) qcd (qzS l A.length j) (qzS l l.length (r.foldl qjc j))
 | [],A,j,h=>by
  rw [List.append_nil] at h;subst h
  refine jN.stop ?_
  unfold qzS
  simp only [qcd,ltN,decide_eq_false (Nat.lt_irrefl _),cond_false];rfl
 | x::r,A,j,h=>by
  have hi:A.length<l.length:=by rw [← h];simp
  have hg:idx l (A.length:Int)=some x:=by
   rw [je,← h,List.getElem?_append_right (by omega),Nat.sub_self];rfl
  have ih:=qo9 l hl r (A++[x]) (qjc j x) (by rw [← h];simp)
  refine jN.next ?_ ih
  unfold qzS
  simp only [qcd,ltN,decide_eq_true hi,cond_true,hg,Option.bind_some,w1 hi hl]
  rw [show (A++[x]).length=A.length+1 by simp]
  unfold qjc Zv mnI mxI
  obtain ⟨j1,j2,j3⟩:=j
  simp only []
  generalize qm x=t
  obtain ⟨t1,t2,t3⟩:=t
  cases t1 with
  | true=>rfl
  | false=>cases j1 <;> rfl
def qpa (l:List Spn):Option Spn:=some (QB l)
theorem qvb (l:List Spn) (y:Spn) (hg:(d1 (cL rSp)).good l) (h:qpa l=some y):∃ n,qu7 n l=some y:=by
 have:=soi h;subst this
 refine ⟨l.length+1,?_⟩
 unfold qu7
 have:=qo9 l hg.2 l [] Zt rfl
 exact obB (this _ (Nat.le_refl _)) rfl
def qni (j e:Int):Int:=mxI j (gdF e)
def y6 (l:List Int):Int:=l.foldl qni 0
theorem qlA (l:List Int) (hl:l.length≤maxLen):∀ (r A:List Int) (j:Int),A++r=l→jN (r.length+1) Z8 (j,(l,((l.length:Int),((A.length:Int),())))) (r.foldl qni j,(l,((l.length:Int),((l.length:Int),()))))
 | [],A,j,h=>by
  rw [List.append_nil] at h;subst h
  refine jN.stop ?_
  simp only [Z8,ltN,decide_eq_false (Nat.lt_irrefl _),cond_false];rfl
 | x::r,A,j,h=>by
  have hi:A.length<l.length:=by rw [← h];simp
  have hg:idx l (A.length:Int)=some x:=by
   rw [je,← h,List.getElem?_append_right (by omega),Nat.sub_self];rfl
  have ih:=qlA l hl r (A++[x]) (qni j x) (by rw [← h];simp)
  refine jN.next ?_ ih
  simp only [Z8,ltN,decide_eq_true hi,cond_true,hg,Option.bind_some,w1 hi hl]
  rw [show (A++[x]).length=A.length+1 by simp]
  rfl
def qlB (l:List Int):Option Int:=some (y6 l)
theorem qq8 (l:List Int) (y:Int) (hg:(d1 (cQ 2 1)).good l) (h:qlB l=some y):∃ n,qnh n l=some y:=by
 have:=soi h;subst this
 refine ⟨l.length+1,?_⟩
 unfold qnh
 have:=qlA l hg.2 l [] 0 rfl
 exact obB (this _ (Nat.le_refl _)) rfl
end
end Su
end
section
namespace Su
open Go Fly
set_option linter.unusedVariables false
noncomputable section
def qvc  (x:Su.Ce) (t:Int):Option Su.Ce :=
 (bif (decide ((t=1))) then
 some (Su.Ce.mk (Su.Ce.f x) (Su.Ce.t x) (false,((0:Int),(0:Int))) (false,((0:Int),(0:Int))) (false,((0:Int),(0:Int))) (false,((0:Int),(0:Int))) (0:Int) (false,((0:Int),([],(0:Int)))))
 else
  (bif (decide ((t=2))) then
  some (Su.Ce.mk false false x.3 x.4 x.5 (false,((0:Int),(0:Int))) (0:Int) (false,((0:Int),([],(0:Int)))))
 else
  (bif (decide ((t=3))) then
  some (Su.Ce.mk false false (false,((0:Int),(0:Int))) (false,((0:Int),(0:Int))) (false,((0:Int),(0:Int))) x.6 (Su.Ce.sl x) x.8)
 else
  some (Su.Ce.mk false false (false,((0:Int),(0:Int))) (false,((0:Int),(0:Int))) (false,((0:Int),(0:Int))) (false,((0:Int),(0:Int))) (0:Int) (false,((0:Int),([],(0:Int))))))))
def qvd  (x:Su.Ce) (t:Int):Option Bool :=
 (bif (decide ((t=1))) then
 some (((Su.Ce.f x) == false)&&(((Su.Ce.t x) == false)&&true))
 else
  (bif (decide ((t=2))) then
  (bif (Su.qy [x.3]).1 then
  some true
 else
  some (Su.qap (x.4,x.5) (x.4,x.5)).1.1)
 else
  (bif (decide ((t=3))) then
  some (Su.QB [x.6]).1
 else
  some true)))
def iv0:Iv:=(false,(0,0))
def fm0:Bool×Int×List Su.Tm×Int:=(false,(0,([],0)))
def qq (x:Su.Ce) (t:Int):Su.Ce :=
 bif decide (t=1) then ⟨x.f,x.t,iv0,iv0,iv0,iv0,0,fm0⟩
 else bif decide (t=2) then ⟨false,false,x.i,x.d,x.p,iv0,0,fm0⟩
 else bif decide (t=3) then ⟨false,false,iv0,iv0,iv0,x.s,x.sl,x.fm⟩
 else ⟨false,false,iv0,iv0,iv0,iv0,0,fm0⟩
def qT (x:Su.Ce) (t:Int):Bool :=
 bif decide (t=1) then (x.f == false)&&((x.t == false)&&true)
 else bif decide (t=2) then (bif (qy [x.i]).1 then true else (qap (x.d,x.p) (x.d,x.p)).1.1)
 else bif decide (t=3) then (QB [x.s]).1 else true
def qpb (p:Su.Ce×Int):Option Su.Ce:=some (qq p.1 p.2)
theorem qve (p:Su.Ce×Int) (y:Su.Ce) (hg:(dc cCe (d1 (cI .u8))).good p) (h:qpb p=some y):qvc p.1 p.2=some y:=by
 have:=soi h;subst this
 unfold qvc qq
 cases decide (p.2=1) with
 | true=>rfl
 | false =>
  cases decide (p.2=2) with
  | true=>rfl
  | false=>cases decide (p.2=3) <;> rfl
def qpc (p:Su.Ce×Int):Option Bool:=some (qT p.1 p.2)
theorem qvf (p:Su.Ce×Int) (y:Bool) (hg:(dc cCe (d1 (cI .u8))).good p) (h:qpc p=some y):qvd p.1 p.2=some y:=by
 have:=soi h;subst this
 unfold qvd qT
 cases decide (p.2=1) with
 | true=>rfl
 | false =>
  cases decide (p.2=2) with
  | true=>cases (qy [p.1.i]).1 <;> rfl
  | false=>cases decide (p.2=3) <;> rfl
end
end Su
end
section
namespace Su
open Go Fly
set_option linter.unusedVariables false
noncomputable section
def Ye:((List (Bool×(Bool×(Int×(Int×(List Su.Ce))))))×(Int×(Int×Unit)))→Option (((List (Bool×(Bool×(Int×(Int×(List Su.Ce))))))×(Int×(Int×Unit))) ⊕ (Lp ((List (Bool×(Bool×(Int×(Int×(List Su.Ce))))))×(Int×(Int×Unit))) (((List (Bool×(Bool×(Int×(Int×(List Su.Ce))))))×(Int×Unit)) ⊕ (Lp ((List (Bool×(Bool×(Int×(Int×(List Su.Ce))))))×(Int×Unit)) Bool)))):=fun p2=>((Su.idx p2.1 p2.2.1)).bind fun x3 =>
 (bif (decide ((p2.2.2.1<(((List.length x3.2.2.2.2):Nat):Int)))) then
 ((Su.idx p2.1 p2.2.1)).bind fun x4 =>
 ((Su.idx x4.2.2.2.2 p2.2.2.1)).bind fun x5 =>
 (bif (decide ((8<(((List.length x5.8.2.2.1):Nat):Int)))) then
 some (.inr (.ret (.inr (.ret true))))
 else
  some (.inl (p2.1,(p2.2.1,((Go.IntKind.wrap .i64 (p2.2.2.1+1)),())))))
 else
  some (.inr (.exit 2 (p2.1,(p2.2.1,(p2.2.2.1,()))))))
def Zw (fu:Nat):((List (Bool×(Bool×(Int×(Int×(List Su.Ce))))))×(Int×Unit))→Option (((List (Bool×(Bool×(Int×(Int×(List Su.Ce))))))×(Int×Unit)) ⊕ (Lp ((List (Bool×(Bool×(Int×(Int×(List Su.Ce))))))×(Int×Unit)) Bool)):=fun p0=>(bif (decide ((p0.2.1<(((List.length p0.1):Nat):Int)))) then
 ((Su.idx p0.1 p0.2.1)).bind fun x1 =>
 (bif (decide ((40<(((List.length x1.2.2.2.2):Nat):Int)))) then
 some (.inr (.ret true))
 else
  (itP fu (Ye) (p0.1,(p0.2.1,((0:Int),())))).bind fun x6 =>
  (match x6 with
 | .exit i7 p8=>(bif (Nat.beq i7 2) then
  some (.inl (p8.1,((Go.IntKind.wrap .i64 (p8.2.1+1)),())))
 else
  (bif (Nat.beq i7 1) then
  some (.inl (p8.1,((Go.IntKind.wrap .i64 (p8.2.1+1)),())))
 else
  some (.inr (.exit i7 (p8.1,(p8.2.1,()))))))
 | .ret o9=>some o9))
 else
  some (.inr (.exit 0 (p0.1,(p0.2.1,())))))
def qpd  (fu:Nat) (c:(Int×((List Su.Cc)×((List Su.T)×((List Su.T)×((List Su.T)×((List Su.T)×Int))))))) (l:(List (Bool×(Bool×(Int×(Int×(List Su.Ce))))))):Option Bool :=
 (bif (decide ((40<(((List.length c.2.1):Nat):Int)))) then
 some true
 else
  (itP fu (Zw fu) (l,((0:Int),()))).bind fun x10 =>
  (match x10 with
 | .exit i11 p12=>(bif (Nat.beq i11 0) then
  some false
 else
  none)
 | .ret o13=>some o13))
abbrev CoD:=Int×(List Su.Cc×(List Su.T×(List Su.T×(List Su.T×(List Su.T×Int)))))
abbrev StD:=Bool×(Bool×(Int×(Int×List Su.Ce)))
abbrev StD.cells (s:StD):List Su.Ce:=s.2.2.2.2
abbrev CoD.cells (c:CoD):List Su.Cc:=c.2.1
def qa2 (X:List Su.Ce) (j:Nat):Bool:=match X[j]? with
 | some x=>!decide (8<((x.fm.2.2.1.length:Nat):Int))
 | none=>true
def YH (l:List StD) (i:Nat):Bool:=match l[i]? with
 | some s=>!decide (40<(s.cells.length:Int))&&Jo s.cells.length (qa2 s.cells)
 | none=>true
def qa3 (c:CoD) (l:List StD):Bool:=bif decide (40<(c.cells.length:Int)) then true else !Jo l.length (YH l)
def qpe (a:CoD×List StD):Option Bool:=some (qa3 a.1 a.2)
theorem qvg (l:List StD) (hl:l.length≤maxLen) {i:Nat} (hi:i<l.length) (hx:l[i].cells.length≤maxLen) :
 jN (l[i].cells.length+1) Ye (l,((i:Int),((0:Int),()))) (bif Jo l[i].cells.length (qa2 l[i].cells) then .exit 2 (l,((i:Int),((l[i].cells.length:Int),()))) else .ret (.inr (.ret true))):=by
 have step:∀ j,j<l[i].cells.length→Ye (l,((i:Int),((j:Int),())))=some (bif qa2 l[i].cells j then .inl (l,((i:Int),(((j+1:Nat):Int),()))) else .inr (.ret (.inr (.ret true)))):=by
  intro j hj
  unfold qa2
  rw [List.getElem?_eq_getElem hj]
  simp only [Ye,ixl hi,Option.bind_some,ltN,decide_eq_true hj,cond_true]
  rw [ixl hj]
  simp only [Option.bind_some,w1 hj hx]
  generalize l[i].cells[j]=x
  have e:x.8.2.2.1=x.fm.2.2.1:=rfl
  rw [e]
  cases decide (8<((x.fm.2.2.1.length:Nat):Int)) <;> rfl
 exact qb5 (F:=Ye) (mk:=fun j=>(l,((i:Int),((j:Int),())))) (n:=l[i].cells.length) (ok:=qa2 l[i].cells) (fun j hj hk=>by rw [step j hj,hk];rfl) (fun j hj hk=>by rw [step j hj,hk];rfl)
  (by simp only [Ye,ixl hi,Option.bind_some,ltN,decide_eq_false (Nat.lt_irrefl _),cond_false])
theorem qvh (a:CoD×List StD) (y:Bool) (hg:(dc cCo (d1 (cL rSt))).good a) (h:qpe a=some y):∃ n,qpd n a.1 a.2=some y:=by
 obtain ⟨c,l⟩:=a
 have:=soi h;subst this
 have hl:l.length≤maxLen:=hg.2.2
 have hx:∀ s∈l,s.cells.length≤maxLen:=fun s hs=>(hg.2.1 s hs).2.2.2.2.2
 show ∃ n,qpd n c l=some (qa3 c l)
 unfold qpd qa3
 cases decide (40<((c.2.1.length:Nat):Int)) with
 | true=>exact ⟨0,rfl⟩
 | false =>
  simp only [cond_false]
  have step:∀ i,i<l.length→Zw (maxLen+1) (l,((i:Int),()))=some (bif YH l i then .inl (l,(((i+1:Nat):Int),())) else .inr (.ret true)):=by
   intro i hi
   have h1:=hx _ (List.getElem_mem hi)
   have h2:=qvg l hl hi h1 (maxLen+1) (by omega)
   unfold YH
   rw [List.getElem?_eq_getElem hi]
   simp only [Zw,ltN,decide_eq_true hi,cond_true,ixl hi,Option.bind_some,h2,w1 hi hl]
   generalize l[i]=s
   show (bif decide (40<(s.cells.length:Int)) then _ else _)=_
   cases decide (40<(s.cells.length:Int)) with
   | true=>rfl
   | false =>
    cases Jo s.cells.length (qa2 s.cells) with
    | false=>rfl
    | true =>
     simp only [cond_true,cond_false,Bool.not_false,Bool.true_and,qgn,w1 hi hl]
  have run:=qb5 (F:=Zw (maxLen+1)) (mk:=fun i=>(l,((i:Int),()))) (n:=l.length) (ok:=YH l) (r1:=.ret true) (r0:=.exit 0 (l,(((l.length:Nat):Int),()))) (fun i hi hk=>by rw [step i hi,hk];rfl) (fun i hi hk=>by rw [step i hi,hk];rfl)
   (by simp only [Zw,ltN,decide_eq_false (Nat.lt_irrefl _),cond_false])
  refine ⟨maxLen+1,?_⟩
  rw [show ((0:Int))=((0:Nat):Int) from rfl,run _ (by omega)]
  show _=some (!Jo l.length (YH l))
  cases Jo l.length (YH l) <;> rfl
end
end Su
end
section
namespace Su
open Go Fly
set_option linter.unusedVariables false
noncomputable section
def qP {α:Type} (out:Nat→Option α):Nat→Option (List α)
 | 0=>some []
 | n+1=>(qP out n).bind fun P=>(out n).bind fun x=>some (P++[x])
theorem jJ {α:Type} {out:Nat→Option α}:∀ {n:Nat} {P:List α},qP out n=some P→P.length=n
 | 0,P,h=>by have:=soi h;subst this;rfl
 | n+1,P,h=>by
  obtain ⟨Q,h1,h⟩:=osm h
  obtain ⟨x,h2,h⟩:=osm h
  have:=soi h;subst this
  rw [List.length_append,jJ h1];rfl
theorem qa4 {α:Type} {out:Nat→Option α}:∀ {n:Nat} {P:List α},qP out n=some P→∀ i,i<n→out i=P[i]?
 | 0,_,_,i,hi=>by omega
 | n+1,P,h,i,hi=>by
  obtain ⟨Q,h1,h⟩:=osm h
  obtain ⟨x,h2,h⟩:=osm h
  have:=soi h;subst this
  have hl:=jJ h1
  by_cases e:i=n
  · subst e
    rw [List.getElem?_append_right (by omega),hl,Nat.sub_self,h2];rfl
  · rw [List.getElem?_append_left (by omega)]
    exact qa4 h1 i (by omega)
theorem qhv {α:Type} {out:Nat→Option α} {i:Nat} (h:out i=none):∀ {n:Nat},i<n→qP out n=none
 | 0,hi=>by omega
 | n+1,hi=>by
  unfold qP
  by_cases e:i=n
  · subst e
    cases qP out i with
    | none=>rfl
    | some P=>rw [Option.bind_some,h];rfl
  · rw [qhv h (by omega:i<n)];rfl
theorem qfU {α:Type} {out:Nat→Option α}:∀ {n:Nat},(∀ i,i<n→out i≠none)→∃ P,qP out n=some P
 | 0,_=>⟨[],rfl⟩
 | n+1,h=>by
  obtain ⟨P,hP⟩:=qfU (n:=n) fun i hi=>h i (by omega)
  cases ho:out n with
  | none=>exact absurd ho (h n (by omega))
  | some x=>exact ⟨P++[x],by unfold qP;rw [hP,Option.bind_some,ho];rfl⟩
def qfV {α R:Type} (r1:R) (r0:List α→R):Option (List α)→R
 | some P=>r0 P
 | none=>r1
theorem qfW {S R α:Type} {F:S→Option (S ⊕ R)} {mk:Nat→List α→S} {n:Nat} {out:Nat→Option α} {r1:R} {r0:List α→R}
 (h1:∀ i P x,i<n→P.length=i→out i=some x→F (mk i P)=some (.inl (mk (i+1) (P++[x]))))
 (h2:∀ i P,i<n→P.length=i→out i=none→F (mk i P)=some (.inr r1))
 (h0:∀ P,P.length=n→F (mk n P)=some (.inr (r0 P))) :
 ∀ (j i:Nat) (P:List α),i+j=n→qP out i=some P→jN (j+1) F (mk i P) (qfV r1 r0 (qP out n))
 | 0,i,P,h,hb=>by
  have:i=n:=by omega
  subst this
  rw [hb]
  exact jN.stop (h0 P (jJ hb))
 | j+1,i,P,h,hb=>by
  cases ho:out i with
  | none =>
   rw [qhv ho (by omega:i<n)]
   exact jN.stop (h2 i P (by omega) (jJ hb) ho)
  | some x =>
   exact jN.next (h1 i P x (by omega) (jJ hb) ho) (qfW h1 h2 h0 j (i+1) (P++[x]) (by omega) (by show (qP out i).bind _=_;rw [hb,Option.bind_some,ho];rfl))
theorem yi {S R α:Type} {F:S→Option (S ⊕ R)} {mk:Nat→List α→S} {n:Nat} {out:Nat→Option α} {r1:R} {r0:List α→R}
 (h1:∀ i P x,i<n→P.length=i→out i=some x→F (mk i P)=some (.inl (mk (i+1) (P++[x]))))
 (h2:∀ i P,i<n→P.length=i→out i=none→F (mk i P)=some (.inr r1))
 (h0:∀ P,P.length=n→F (mk n P)=some (.inr (r0 P))):jN (n+1) F (mk 0 []) (qfV r1 r0 (qP out n)) :=
 qfW h1 h2 h0 n 0 [] (by omega) rfl
end
end Su
end
section
namespace Su
open Go Fly
set_option linter.unusedVariables false
noncomputable section
abbrev qa5:=(Int×((List Su.Cc)×((List Su.T)×((List Su.T)×((List Su.T)×((List Su.T)×(Int×((List Su.Ce)×(Int×(Int×((List Su.T)×(Bool×(Bool×(Int×(Int×(Nat×((List Su.T)×(Bool×(Bool×(Int×(Int×(Nat×Unit))))))))))))))))))))))
def Zx:qa5→Option (qa5 ⊕ (Lp qa5 (Bool×(Bool×(Int×(Int×(List Su.Ce))))))):=fun p0=>(bif (decide ((p0.2.2.2.2.2.2.2.2.2.1<p0.2.2.2.2.2.2.2.2.1))) then
 ((Su.idx p0.2.2.2.2.2.2.2.1 p0.2.2.2.2.2.2.2.2.2.1)).bind fun x1 =>
 ((Su.idx p0.2.1 p0.2.2.2.2.2.2.2.2.2.1)).bind fun x2 =>
 (bif (Su.qT (Su.qq (Su.Ce.mk (Su.Ce.f x1) (Su.Ce.t x1) x1.3 (Su.yA (x1.4,x1.5)).1 (Su.yA (x1.4,x1.5)).2 x1.6 (Su.Ce.sl x1) x1.8) (Su.Cc.type x2)) (Su.Cc.type x2)) then
 some (.inr (.ret (true,(false,((0:Int),((0:Int),[]))))))
 else
  (bif ((true&&(Nat.beq p0.2.2.2.2.2.2.2.2.2.2.2.2.2.2.2.2.2.2.2.2.2.1 (List.length p0.2.2.2.2.2.2.2.2.2.2.2.2.2.2.2.2.1)))&&(Nat.ble ((List.length p0.2.2.2.2.2.2.2.2.2.2.2.2.2.2.2.2.1)+(List.length [(Su.view 14 (Su.qq (Su.Ce.mk (Su.Ce.f x1) (Su.Ce.t x1) x1.3 (Su.yA (x1.4,x1.5)).1 (Su.yA (x1.4,x1.5)).2 x1.6 (Su.Ce.sl x1) x1.8) (Su.Cc.type x2)))])) 549755813888)) then
  some (.inl (p0.1,(p0.2.1,(p0.2.2.1,(p0.2.2.2.1,(p0.2.2.2.2.1,(p0.2.2.2.2.2.1,(p0.2.2.2.2.2.2.1,(p0.2.2.2.2.2.2.2.1,(p0.2.2.2.2.2.2.2.2.1,((Go.IntKind.wrap .i64 (p0.2.2.2.2.2.2.2.2.2.1+1)),(p0.2.2.2.2.2.2.2.2.2.2.1,(p0.2.2.2.2.2.2.2.2.2.2.2.1,(p0.2.2.2.2.2.2.2.2.2.2.2.2.1,(p0.2.2.2.2.2.2.2.2.2.2.2.2.2.1,(p0.2.2.2.2.2.2.2.2.2.2.2.2.2.2.1,(p0.2.2.2.2.2.2.2.2.2.2.2.2.2.2.2.1,((p0.2.2.2.2.2.2.2.2.2.2.2.2.2.2.2.2.1++[(Su.view 14 (Su.qq (Su.Ce.mk (Su.Ce.f x1) (Su.Ce.t x1) x1.3 (Su.yA (x1.4,x1.5)).1 (Su.yA (x1.4,x1.5)).2 x1.6 (Su.Ce.sl x1) x1.8) (Su.Cc.type x2)))]),(p0.2.2.2.2.2.2.2.2.2.2.2.2.2.2.2.2.2.1,(p0.2.2.2.2.2.2.2.2.2.2.2.2.2.2.2.2.2.2.1,(p0.2.2.2.2.2.2.2.2.2.2.2.2.2.2.2.2.2.2.2.1,(p0.2.2.2.2.2.2.2.2.2.2.2.2.2.2.2.2.2.2.2.2.1,((List.length (p0.2.2.2.2.2.2.2.2.2.2.2.2.2.2.2.2.1++[(Su.view 14 (Su.qq (Su.Ce.mk (Su.Ce.f x1) (Su.Ce.t x1) x1.3 (Su.yA (x1.4,x1.5)).1 (Su.yA (x1.4,x1.5)).2 x1.6 (Su.Ce.sl x1) x1.8) (Su.Cc.type x2)))])),())))))))))))))))))))))))
 else
  none))
 else
  some (.inr (.exit 0 (p0.1,(p0.2.1,(p0.2.2.1,(p0.2.2.2.1,(p0.2.2.2.2.1,(p0.2.2.2.2.2.1,(p0.2.2.2.2.2.2.1,(p0.2.2.2.2.2.2.2.1,(p0.2.2.2.2.2.2.2.2.1,(p0.2.2.2.2.2.2.2.2.2.1,(p0.2.2.2.2.2.2.2.2.2.2.1,(p0.2.2.2.2.2.2.2.2.2.2.2.1,(p0.2.2.2.2.2.2.2.2.2.2.2.2.1,(p0.2.2.2.2.2.2.2.2.2.2.2.2.2.1,(p0.2.2.2.2.2.2.2.2.2.2.2.2.2.2.1,(p0.2.2.2.2.2.2.2.2.2.2.2.2.2.2.2.1,(p0.2.2.2.2.2.2.2.2.2.2.2.2.2.2.2.2.1,(p0.2.2.2.2.2.2.2.2.2.2.2.2.2.2.2.2.2.1,(p0.2.2.2.2.2.2.2.2.2.2.2.2.2.2.2.2.2.2.1,(p0.2.2.2.2.2.2.2.2.2.2.2.2.2.2.2.2.2.2.2.1,(p0.2.2.2.2.2.2.2.2.2.2.2.2.2.2.2.2.2.2.2.2.1,(p0.2.2.2.2.2.2.2.2.2.2.2.2.2.2.2.2.2.2.2.2.2.1,())))))))))))))))))))))))))
def qpf  (fu:Nat) (c:(Int×((List Su.Cc)×((List Su.T)×((List Su.T)×((List Su.T)×((List Su.T)×Int))))))) (s:(Bool×(Bool×(Int×(Int×(List Su.Ce)))))):Option (Bool×(Bool×(Int×(Int×(List Su.Ce))))) :=
 (bif s.1 then
 some (true,(false,((0:Int),((0:Int),[]))))
 else
  (bif (!(decide (((((List.length s.2.2.2.2):Nat):Int)=(((List.length c.2.1):Nat):Int))))) then
  some (true,(false,((0:Int),((0:Int),[]))))
 else
  (bif (Su.qy [(s.2.1,(s.2.2.1,s.2.2.2.1))]).1 then
  some (true,(false,((0:Int),((0:Int),[]))))
 else
  (itP fu (Zx) (c.1,(c.2.1,(c.2.2.1,(c.2.2.2.1,(c.2.2.2.2.1,(c.2.2.2.2.2.1,(c.2.2.2.2.2.2,(s.2.2.2.2,((((List.length s.2.2.2.2):Nat):Int),((0:Int),([],(false,(false,((0:Int),((0:Int),(0,([],(false,((Su.qy [(s.2.1,(s.2.2.1,s.2.2.2.1))]).1,((Su.qy [(s.2.1,(s.2.2.1,s.2.2.2.1))]).2.1,((Su.qy [(s.2.1,(s.2.2.1,s.2.2.2.1))]).2.2,(0,()))))))))))))))))))))))).bind fun x3 =>
  (match x3 with
 | .exit i4 p5=>(bif (Nat.beq i4 0) then
  ((Su.sub p5.2.2.2.2.2.2.2.2.2.2.2.2.2.2.2.2.1 0 p5.2.2.2.2.2.2.2.2.2.2.2.2.2.2.2.2.2.2.2.2.2.1)).bind fun x6 =>
  (bif (!p5.2.2.2.2.2.2.2.2.2.2.2.2.2.2.2.2.2.1) then
  (((((Su.unR (Su.rCe) x6)).bind fun x7 =>
  some ((Su.yz (p5.2.2.2.2.2.2.2.2.2.2.2.2.2.2.2.2.2.2.1,(p5.2.2.2.2.2.2.2.2.2.2.2.2.2.2.2.2.2.2.2.1,p5.2.2.2.2.2.2.2.2.2.2.2.2.2.2.2.2.2.2.2.2.1)) (Su.yF 1 1)).2.2,x7)).bind fun x8 =>
  some ((Su.yz (p5.2.2.2.2.2.2.2.2.2.2.2.2.2.2.2.2.2.2.1,(p5.2.2.2.2.2.2.2.2.2.2.2.2.2.2.2.2.2.2.2.1,p5.2.2.2.2.2.2.2.2.2.2.2.2.2.2.2.2.2.2.2.2.1)) (Su.yF 1 1)).2.1,x8)).bind fun x9 =>
  some ((Su.yz (p5.2.2.2.2.2.2.2.2.2.2.2.2.2.2.2.2.2.2.1,(p5.2.2.2.2.2.2.2.2.2.2.2.2.2.2.2.2.2.2.2.1,p5.2.2.2.2.2.2.2.2.2.2.2.2.2.2.2.2.2.2.2.2.1)) (Su.yF 1 1)).1,x9)).bind fun x10 =>
  some (p5.2.2.2.2.2.2.2.2.2.2.2.2.2.2.2.2.2.1,x10)
 else
  (((((Su.unR (Su.rCe) x6)).bind fun x11 =>
  some (p5.2.2.2.2.2.2.2.2.2.2.2.2.2.2.2.2.2.2.2.2.1,x11)).bind fun x12 =>
  some (p5.2.2.2.2.2.2.2.2.2.2.2.2.2.2.2.2.2.2.2.1,x12)).bind fun x13 =>
  some (p5.2.2.2.2.2.2.2.2.2.2.2.2.2.2.2.2.2.2.1,x13)).bind fun x14 =>
  some (p5.2.2.2.2.2.2.2.2.2.2.2.2.2.2.2.2.2.1,x14))
 else
  none)
 | .ret o15=>some o15))))
def vCe (x:Su.Ce):T:=view 14 x
theorem qzT (P:List Su.Ce):unR rCe (P.map vCe)=some P:=qow rCe P
def qH:StD:=(true,(false,(0,(0,[]))))
def stK (s:StD):Iv:=(s.2.1,(s.2.2.1,s.2.2.2.1))
def qZ (C:List Su.Cc) (X:List Su.Ce) (f:Nat→Su.Cc→Su.Ce→Su.Ce) (i:Nat):Option Su.Ce :=
 match C[i]?,X[i]? with
 | some d,some x=>bif qT (qq (f i d x) d.type) d.type then none else some (qq (f i d x) d.type)
 | _,_=>none
def mkS (K:Iv) (X:List Su.Ce):StD:=(false,(K.1,(K.2.1,(K.2.2,X))))
def qp (c:CoD) (s:StD) (f:Nat→Su.Cc→Su.Ce→Su.Ce):StD :=
 bif s.1 then qH else bif !decide (s.2.2.2.2.length=c.2.1.length) then qH else bif (qy [stK s]).1 then qH else
 qfV qH (mkS (qy [stK s])) (qP (qZ c.2.1 s.2.2.2.2 f) c.2.1.length)
def smS (s:StD):Bool:=Nat.ble s.2.2.2.2.length 1000000&&s.2.2.2.2.all fun x=>Nat.ble x.fm.2.2.1.length 1000000
def qnj (x:Su.Ce) (k:Ckp):Su.Ce:=⟨x.f,x.t,x.i,k.1,k.2,x.s,x.sl,x.fm⟩
def qvi (c:CoD) (s:StD):StD:=let t:=qp c s fun _ _ x=>qnj x (yA (x.d,x.p));bif t.1 then t else mkS (yz (stK t) (yF 1 1)) t.2.2.2.2
abbrev TkS:=Int×(List Su.Cc×(List Su.T×(List Su.T×(List Su.T×(List Su.T×(Int×(List Su.Ce×(Int×(Int×(List Su.T×(Bool×(Bool×(Int×(Int×(Nat×(List Su.T×(Bool×(Bool×(Int×(Int×(Nat×Unit)))))))))))))))))))))
def yH (c:CoD) (s:StD) (K:Iv) (i:Int) (P:List Su.Ce):TkS :=
 (c.1,(c.2.1,(c.2.2.1,(c.2.2.2.1,(c.2.2.2.2.1,(c.2.2.2.2.2.1,(c.2.2.2.2.2.2,(s.2.2.2.2,(((s.2.2.2.2.length:Nat):Int),(i,([],(false,(false,(0,(0,(0,(P.map vCe,(false,(K.1,(K.2.1,(K.2.2,(P.length,()))))))))))))))))))))))
def qpg (p:CoD×StD):Option StD:=bif smS p.2 then some (qvi p.1 p.2) else none
theorem Qe {s:StD} (h:smS s=true):s.2.2.2.2.length≤1000000:=by
 unfold smS at h
 rw [Bool.and_eq_true] at h
 exact Nat.le_of_ble_eq_true h.1
theorem QC (P:List Su.Ce) (x:Su.Ce):P.map vCe++[view 14 x]=(P++[x]).map vCe:=by rw [List.map_append];rfl
theorem YI (P:List Su.Ce):sub (P.map vCe) 0 P.length=some (P.map vCe):=by
 unfold sub
 rw [show Nat.ble (0+P.length) (P.map vCe).length=true from Nat.ble_eq_true_of_le (by simp),cond_true,List.drop_zero]
 congr 1
 exact List.take_of_length_le (by simp)
theorem qFm (c:CoD) (s:StD) (K:Iv) (hl:s.2.2.2.2.length=c.2.1.length) (hs:s.2.2.2.2.length≤1000000) :
 jN (c.2.1.length+1) Zx (yH c s K ((0:Nat):Int) []) (qfV (.ret qH) (fun P=>.exit 0 (yH c s K (c.2.1.length:Int) P)) (qP (qZ c.2.1 s.2.2.2.2 fun _ _ x=>qnj x (yA (x.d,x.p))) c.2.1.length)):=by
 refine yi (mk:=fun i P=>yH c s K (i:Int) P) ?_ ?_ ?_
 · intro i P x hi hP ho
   have i1:i<s.2.2.2.2.length:=by omega
   unfold qZ at ho
   rw [List.getElem?_eq_getElem hi,List.getElem?_eq_getElem i1] at ho
   simp only [] at ho
   unfold yH
   have hb:Nat.ble (P.length+1) 549755813888=true:=Nat.ble_eq_true_of_le (by omega)
   simp only [Zx,ltN,decide_eq_true i1,cond_true,ixl i1,ixl hi,Option.bind_some]
   generalize c.2.1[i]=d at *
   generalize s.2.2.2.2[i]=x0 at *
   cases hn:qT (qq (qnj x0 (yA (x0.d,x0.p))) d.type) d.type with
   | true=>rw [hn] at ho;cases ho
   | false =>
    rw [hn] at ho
    have:=soi ho;subst this
    unfold qnj at hn ⊢
    rw [hn]
    simp only [cond_false,List.length_map,List.length_cons,List.length_nil,Nat.zero_add,qgn,hb,Bool.and_self,cond_true,QC,w1 i1 (by rw [qG];omega)]
 · intro i P hi hP ho
   have i1:i<s.2.2.2.2.length:=by omega
   unfold qZ at ho
   rw [List.getElem?_eq_getElem hi,List.getElem?_eq_getElem i1] at ho
   simp only [] at ho
   unfold yH
   simp only [Zx,ltN,decide_eq_true i1,cond_true,ixl i1,ixl hi,Option.bind_some]
   generalize c.2.1[i]=d at *
   generalize s.2.2.2.2[i]=x0 at *
   cases hn:qT (qq (qnj x0 (yA (x0.d,x0.p))) d.type) d.type with
   | false=>rw [hn] at ho;cases ho
   | true =>
    unfold qnj at hn
    rw [hn];rfl
 · intro P hP
   unfold yH
   simp only [Zx,ltN,hl,decide_eq_false (Nat.lt_irrefl _),cond_false]
theorem qA {α:Type} {b:Bool} {x y:α} (h:b=false):(bif b then x else y)=y:=by rw [h];rfl
theorem qB {α:Type} {b:Bool} {x y:α} (h:b=true):(bif b then x else y)=x:=by rw [h];rfl
theorem jP {c:CoD} {s:StD} (f:Nat→Su.Cc→Su.Ce→Su.Ce) (hd:s.1=false) (hl:s.2.2.2.2.length=c.2.1.length) (hK:(qy [stK s]).1=false):qp c s f=qfV qH (mkS (qy [stK s])) (qP (qZ c.2.1 s.2.2.2.2 f) c.2.1.length):=by
 unfold qp;rw [qA hd,qA (by rw [decide_eq_true hl];rfl),qA hK]
theorem lnE (a b:Nat):(!decide ((a:Int)=(b:Int))) = !decide (a=b):=by rw [JI]
theorem qnk (P:List Su.Ce) (K:Iv) (e:Bool):((((unR rCe (P.map vCe)).bind fun x=>some (K.2.2,x)).bind fun x=>some (K.2.1,x)).bind fun x=>some (K.1,x)).bind (fun x=>some (e,x))=some (e,(K.1,(K.2.1,(K.2.2,P)))):=by rw [qzT];rfl
theorem qvj (p:CoD×StD) (y:StD) (hg:(dc cCo (d1 cSt)).good p) (h:qpg p=some y):∃ n,qpf n p.1 p.2=some y:=by
 obtain ⟨c,s⟩:=p
 obtain ⟨hm,h⟩:=qj h
 have:=soi h;subst this
 have hm:smS s=true:=hm
 refine ⟨c.2.1.length+1,?_⟩
 show qpf (c.2.1.length+1) c s=some (qvi c s)
 unfold qpf qvi
 rcases Bool.eq_false_or_eq_true s.1 with hd | hd
 · rw [show qp c s _=qH from qB hd];exact qB hd
 · refine (qA hd).trans ?_
   by_cases hl:s.2.2.2.2.length=c.2.1.length
   · refine (qA (by rw [lnE,decide_eq_true hl];rfl)).trans ?_
     rcases Bool.eq_false_or_eq_true (qy [stK s]).1 with hK | hK
     · rw [show qp c s _=qH from (qA hd).trans ((qA (by rw [decide_eq_true hl];rfl)).trans (qB hK))]
       exact qB hK
     · refine (qA hK).trans ?_
       rw [jP _ hd hl hK]
       have hr:=qFm c s (qy [stK s]) hl (Qe hm) _ (Nat.le_refl _)
       refine obB hr ?_
       cases hb:qP (qZ c.2.1 s.2.2.2.2 fun _ _ x=>qnj x (yA (x.d,x.p))) c.2.1.length with
       | none=>rfl
       | some P=>exact obB (YI P) (qnk P (yz (qy [stK s]) (yF 1 1)) false)
   · rw [show qp c s _=qH from (qA hd).trans (qB (by rw [decide_eq_false hl];rfl))]
     exact qB (by rw [lnE,decide_eq_false hl];rfl)
end
end Su
end
section
namespace Su
open Go Fly
set_option linter.unusedVariables false
noncomputable section
abbrev qda:=(Int×((List Su.Cc)×((List Su.T)×((List Su.T)×((List Su.T)×((List Su.T)×(Int×(Bool×(Bool×(Int×(Int×((List Su.Ce)×(Int×((List Su.Cc)×((List Su.T)×((List Su.T)×((List Su.T)×((List Su.T)×(Int×((List Su.Ce)×(Int×(Int×((List Su.T)×(Bool×(Bool×(Int×(Int×(Nat×((List Su.T)×(Bool×(Bool×(Int×(Int×(Nat×Unit))))))))))))))))))))))))))))))))))
def qce:qda→Option (qda ⊕ (Lp qda (Bool×(Bool×(Int×(Int×(List Su.Ce))))))):=fun p0=>(bif (decide ((p0.2.2.2.2.2.2.2.2.2.2.2.2.2.2.2.2.2.2.2.2.2.1<p0.2.2.2.2.2.2.2.2.2.2.2.2.2.2.2.2.2.2.2.2.1))) then
 ((Su.idx p0.2.2.2.2.2.2.2.2.2.2.2.2.2.2.2.2.2.2.2.1 p0.2.2.2.2.2.2.2.2.2.2.2.2.2.2.2.2.2.2.2.2.2.1)).bind fun x1 =>
 ((Su.idx p0.2.2.2.2.2.2.2.2.2.2.2.2.2.1 p0.2.2.2.2.2.2.2.2.2.2.2.2.2.2.2.2.2.2.2.2.2.1)).bind fun x2 =>
 ((Su.idx p0.2.1 p0.2.2.2.2.2.2.2.2.2.2.2.2.2.2.2.2.2.2.2.2.2.1)).bind fun x3 =>
 (bif (!(Su.Cc.input x3)) then
 (bif (Su.qT (Su.qq x1 (Su.Cc.type x2)) (Su.Cc.type x2)) then
 some (.inr (.ret (true,(false,((0:Int),((0:Int),[]))))))
 else
  (bif ((true&&(Nat.beq p0.2.2.2.2.2.2.2.2.2.2.2.2.2.2.2.2.2.2.2.2.2.2.2.2.2.2.2.2.2.2.2.2.2.1 (List.length p0.2.2.2.2.2.2.2.2.2.2.2.2.2.2.2.2.2.2.2.2.2.2.2.2.2.2.2.2.1)))&&(Nat.ble ((List.length p0.2.2.2.2.2.2.2.2.2.2.2.2.2.2.2.2.2.2.2.2.2.2.2.2.2.2.2.2.1)+(List.length [(Su.view 14 (Su.qq x1 (Su.Cc.type x2)))])) 549755813888)) then
  some (.inl (p0.1,(p0.2.1,(p0.2.2.1,(p0.2.2.2.1,(p0.2.2.2.2.1,(p0.2.2.2.2.2.1,(p0.2.2.2.2.2.2.1,(p0.2.2.2.2.2.2.2.1,(p0.2.2.2.2.2.2.2.2.1,(p0.2.2.2.2.2.2.2.2.2.1,(p0.2.2.2.2.2.2.2.2.2.2.1,(p0.2.2.2.2.2.2.2.2.2.2.2.1,(p0.2.2.2.2.2.2.2.2.2.2.2.2.1,(p0.2.2.2.2.2.2.2.2.2.2.2.2.2.1,(p0.2.2.2.2.2.2.2.2.2.2.2.2.2.2.1,(p0.2.2.2.2.2.2.2.2.2.2.2.2.2.2.2.1,(p0.2.2.2.2.2.2.2.2.2.2.2.2.2.2.2.2.1,(p0.2.2.2.2.2.2.2.2.2.2.2.2.2.2.2.2.2.1,(p0.2.2.2.2.2.2.2.2.2.2.2.2.2.2.2.2.2.2.1,(p0.2.2.2.2.2.2.2.2.2.2.2.2.2.2.2.2.2.2.2.1,(p0.2.2.2.2.2.2.2.2.2.2.2.2.2.2.2.2.2.2.2.2.1,((Go.IntKind.wrap .i64 (p0.2.2.2.2.2.2.2.2.2.2.2.2.2.2.2.2.2.2.2.2.2.1+1)),(p0.2.2.2.2.2.2.2.2.2.2.2.2.2.2.2.2.2.2.2.2.2.2.1,(p0.2.2.2.2.2.2.2.2.2.2.2.2.2.2.2.2.2.2.2.2.2.2.2.1,(p0.2.2.2.2.2.2.2.2.2.2.2.2.2.2.2.2.2.2.2.2.2.2.2.2.1,(p0.2.2.2.2.2.2.2.2.2.2.2.2.2.2.2.2.2.2.2.2.2.2.2.2.2.1,(p0.2.2.2.2.2.2.2.2.2.2.2.2.2.2.2.2.2.2.2.2.2.2.2.2.2.2.1,(p0.2.2.2.2.2.2.2.2.2.2.2.2.2.2.2.2.2.2.2.2.2.2.2.2.2.2.2.1,((p0.2.2.2.2.2.2.2.2.2.2.2.2.2.2.2.2.2.2.2.2.2.2.2.2.2.2.2.2.1++[(Su.view 14 (Su.qq x1 (Su.Cc.type x2)))]),(p0.2.2.2.2.2.2.2.2.2.2.2.2.2.2.2.2.2.2.2.2.2.2.2.2.2.2.2.2.2.1,(p0.2.2.2.2.2.2.2.2.2.2.2.2.2.2.2.2.2.2.2.2.2.2.2.2.2.2.2.2.2.2.1,(p0.2.2.2.2.2.2.2.2.2.2.2.2.2.2.2.2.2.2.2.2.2.2.2.2.2.2.2.2.2.2.2.1,(p0.2.2.2.2.2.2.2.2.2.2.2.2.2.2.2.2.2.2.2.2.2.2.2.2.2.2.2.2.2.2.2.2.1,((List.length (p0.2.2.2.2.2.2.2.2.2.2.2.2.2.2.2.2.2.2.2.2.2.2.2.2.2.2.2.2.1++[(Su.view 14 (Su.qq x1 (Su.Cc.type x2)))])),())))))))))))))))))))))))))))))))))))
 else
  none))
 else
  (bif (Su.qT (Su.qq (Su.Ce.mk true true (Su.yF (Go.IntKind.wrap .i64 (Su.Cc.fr x3)) (Go.IntKind.wrap .i64 (Su.Cc.to x3))) (Su.yG (Su.yF (Go.IntKind.wrap .i64 (Su.Cc.fr x3)) (Go.IntKind.wrap .i64 (Su.Cc.to x3))) (p0.2.2.2.2.2.2.2.2.1,(p0.2.2.2.2.2.2.2.2.2.1,p0.2.2.2.2.2.2.2.2.2.2.1))).1 (Su.yG (Su.yF (Go.IntKind.wrap .i64 (Su.Cc.fr x3)) (Go.IntKind.wrap .i64 (Su.Cc.to x3))) (p0.2.2.2.2.2.2.2.2.1,(p0.2.2.2.2.2.2.2.2.2.1,p0.2.2.2.2.2.2.2.2.2.2.1))).2 (Su.Zv (Su.Cc.lo x3) (Su.Cc.hi x3)) (0:Int) (true,((0:Int),([],(0:Int))))) (Su.Cc.type x2)) (Su.Cc.type x2)) then
  some (.inr (.ret (true,(false,((0:Int),((0:Int),[]))))))
 else
  (bif ((true&&(Nat.beq p0.2.2.2.2.2.2.2.2.2.2.2.2.2.2.2.2.2.2.2.2.2.2.2.2.2.2.2.2.2.2.2.2.2.1 (List.length p0.2.2.2.2.2.2.2.2.2.2.2.2.2.2.2.2.2.2.2.2.2.2.2.2.2.2.2.2.1)))&&(Nat.ble ((List.length p0.2.2.2.2.2.2.2.2.2.2.2.2.2.2.2.2.2.2.2.2.2.2.2.2.2.2.2.2.1)+(List.length [(Su.view 14 (Su.qq (Su.Ce.mk true true (Su.yF (Go.IntKind.wrap .i64 (Su.Cc.fr x3)) (Go.IntKind.wrap .i64 (Su.Cc.to x3))) (Su.yG (Su.yF (Go.IntKind.wrap .i64 (Su.Cc.fr x3)) (Go.IntKind.wrap .i64 (Su.Cc.to x3))) (p0.2.2.2.2.2.2.2.2.1,(p0.2.2.2.2.2.2.2.2.2.1,p0.2.2.2.2.2.2.2.2.2.2.1))).1 (Su.yG (Su.yF (Go.IntKind.wrap .i64 (Su.Cc.fr x3)) (Go.IntKind.wrap .i64 (Su.Cc.to x3))) (p0.2.2.2.2.2.2.2.2.1,(p0.2.2.2.2.2.2.2.2.2.1,p0.2.2.2.2.2.2.2.2.2.2.1))).2 (Su.Zv (Su.Cc.lo x3) (Su.Cc.hi x3)) (0:Int) (true,((0:Int),([],(0:Int))))) (Su.Cc.type x2)))])) 549755813888)) then
  some (.inl (p0.1,(p0.2.1,(p0.2.2.1,(p0.2.2.2.1,(p0.2.2.2.2.1,(p0.2.2.2.2.2.1,(p0.2.2.2.2.2.2.1,(p0.2.2.2.2.2.2.2.1,(p0.2.2.2.2.2.2.2.2.1,(p0.2.2.2.2.2.2.2.2.2.1,(p0.2.2.2.2.2.2.2.2.2.2.1,(p0.2.2.2.2.2.2.2.2.2.2.2.1,(p0.2.2.2.2.2.2.2.2.2.2.2.2.1,(p0.2.2.2.2.2.2.2.2.2.2.2.2.2.1,(p0.2.2.2.2.2.2.2.2.2.2.2.2.2.2.1,(p0.2.2.2.2.2.2.2.2.2.2.2.2.2.2.2.1,(p0.2.2.2.2.2.2.2.2.2.2.2.2.2.2.2.2.1,(p0.2.2.2.2.2.2.2.2.2.2.2.2.2.2.2.2.2.1,(p0.2.2.2.2.2.2.2.2.2.2.2.2.2.2.2.2.2.2.1,(p0.2.2.2.2.2.2.2.2.2.2.2.2.2.2.2.2.2.2.2.1,(p0.2.2.2.2.2.2.2.2.2.2.2.2.2.2.2.2.2.2.2.2.1,((Go.IntKind.wrap .i64 (p0.2.2.2.2.2.2.2.2.2.2.2.2.2.2.2.2.2.2.2.2.2.1+1)),(p0.2.2.2.2.2.2.2.2.2.2.2.2.2.2.2.2.2.2.2.2.2.2.1,(p0.2.2.2.2.2.2.2.2.2.2.2.2.2.2.2.2.2.2.2.2.2.2.2.1,(p0.2.2.2.2.2.2.2.2.2.2.2.2.2.2.2.2.2.2.2.2.2.2.2.2.1,(p0.2.2.2.2.2.2.2.2.2.2.2.2.2.2.2.2.2.2.2.2.2.2.2.2.2.1,(p0.2.2.2.2.2.2.2.2.2.2.2.2.2.2.2.2.2.2.2.2.2.2.2.2.2.2.1,(p0.2.2.2.2.2.2.2.2.2.2.2.2.2.2.2.2.2.2.2.2.2.2.2.2.2.2.2.1,((p0.2.2.2.2.2.2.2.2.2.2.2.2.2.2.2.2.2.2.2.2.2.2.2.2.2.2.2.2.1++[(Su.view 14 (Su.qq (Su.Ce.mk true true (Su.yF (Go.IntKind.wrap .i64 (Su.Cc.fr x3)) (Go.IntKind.wrap .i64 (Su.Cc.to x3))) (Su.yG (Su.yF (Go.IntKind.wrap .i64 (Su.Cc.fr x3)) (Go.IntKind.wrap .i64 (Su.Cc.to x3))) (p0.2.2.2.2.2.2.2.2.1,(p0.2.2.2.2.2.2.2.2.2.1,p0.2.2.2.2.2.2.2.2.2.2.1))).1 (Su.yG (Su.yF (Go.IntKind.wrap .i64 (Su.Cc.fr x3)) (Go.IntKind.wrap .i64 (Su.Cc.to x3))) (p0.2.2.2.2.2.2.2.2.1,(p0.2.2.2.2.2.2.2.2.2.1,p0.2.2.2.2.2.2.2.2.2.2.1))).2 (Su.Zv (Su.Cc.lo x3) (Su.Cc.hi x3)) (0:Int) (true,((0:Int),([],(0:Int))))) (Su.Cc.type x2)))]),(p0.2.2.2.2.2.2.2.2.2.2.2.2.2.2.2.2.2.2.2.2.2.2.2.2.2.2.2.2.2.1,(p0.2.2.2.2.2.2.2.2.2.2.2.2.2.2.2.2.2.2.2.2.2.2.2.2.2.2.2.2.2.2.1,(p0.2.2.2.2.2.2.2.2.2.2.2.2.2.2.2.2.2.2.2.2.2.2.2.2.2.2.2.2.2.2.2.1,(p0.2.2.2.2.2.2.2.2.2.2.2.2.2.2.2.2.2.2.2.2.2.2.2.2.2.2.2.2.2.2.2.2.1,((List.length (p0.2.2.2.2.2.2.2.2.2.2.2.2.2.2.2.2.2.2.2.2.2.2.2.2.2.2.2.2.1++[(Su.view 14 (Su.qq (Su.Ce.mk true true (Su.yF (Go.IntKind.wrap .i64 (Su.Cc.fr x3)) (Go.IntKind.wrap .i64 (Su.Cc.to x3))) (Su.yG (Su.yF (Go.IntKind.wrap .i64 (Su.Cc.fr x3)) (Go.IntKind.wrap .i64 (Su.Cc.to x3))) (p0.2.2.2.2.2.2.2.2.1,(p0.2.2.2.2.2.2.2.2.2.1,p0.2.2.2.2.2.2.2.2.2.2.1))).1 (Su.yG (Su.yF (Go.IntKind.wrap .i64 (Su.Cc.fr x3)) (Go.IntKind.wrap .i64 (Su.Cc.to x3))) (p0.2.2.2.2.2.2.2.2.1,(p0.2.2.2.2.2.2.2.2.2.1,p0.2.2.2.2.2.2.2.2.2.2.1))).2 (Su.Zv (Su.Cc.lo x3) (Su.Cc.hi x3)) (0:Int) (true,((0:Int),([],(0:Int))))) (Su.Cc.type x2)))])),())))))))))))))))))))))))))))))))))))
 else
  none)))
 else
  some (.inr (.exit 0 (p0.1,(p0.2.1,(p0.2.2.1,(p0.2.2.2.1,(p0.2.2.2.2.1,(p0.2.2.2.2.2.1,(p0.2.2.2.2.2.2.1,(p0.2.2.2.2.2.2.2.1,(p0.2.2.2.2.2.2.2.2.1,(p0.2.2.2.2.2.2.2.2.2.1,(p0.2.2.2.2.2.2.2.2.2.2.1,(p0.2.2.2.2.2.2.2.2.2.2.2.1,(p0.2.2.2.2.2.2.2.2.2.2.2.2.1,(p0.2.2.2.2.2.2.2.2.2.2.2.2.2.1,(p0.2.2.2.2.2.2.2.2.2.2.2.2.2.2.1,(p0.2.2.2.2.2.2.2.2.2.2.2.2.2.2.2.1,(p0.2.2.2.2.2.2.2.2.2.2.2.2.2.2.2.2.1,(p0.2.2.2.2.2.2.2.2.2.2.2.2.2.2.2.2.2.1,(p0.2.2.2.2.2.2.2.2.2.2.2.2.2.2.2.2.2.2.1,(p0.2.2.2.2.2.2.2.2.2.2.2.2.2.2.2.2.2.2.2.1,(p0.2.2.2.2.2.2.2.2.2.2.2.2.2.2.2.2.2.2.2.2.1,(p0.2.2.2.2.2.2.2.2.2.2.2.2.2.2.2.2.2.2.2.2.2.1,(p0.2.2.2.2.2.2.2.2.2.2.2.2.2.2.2.2.2.2.2.2.2.2.1,(p0.2.2.2.2.2.2.2.2.2.2.2.2.2.2.2.2.2.2.2.2.2.2.2.1,(p0.2.2.2.2.2.2.2.2.2.2.2.2.2.2.2.2.2.2.2.2.2.2.2.2.1,(p0.2.2.2.2.2.2.2.2.2.2.2.2.2.2.2.2.2.2.2.2.2.2.2.2.2.1,(p0.2.2.2.2.2.2.2.2.2.2.2.2.2.2.2.2.2.2.2.2.2.2.2.2.2.2.1,(p0.2.2.2.2.2.2.2.2.2.2.2.2.2.2.2.2.2.2.2.2.2.2.2.2.2.2.2.1,(p0.2.2.2.2.2.2.2.2.2.2.2.2.2.2.2.2.2.2.2.2.2.2.2.2.2.2.2.2.1,(p0.2.2.2.2.2.2.2.2.2.2.2.2.2.2.2.2.2.2.2.2.2.2.2.2.2.2.2.2.2.1,(p0.2.2.2.2.2.2.2.2.2.2.2.2.2.2.2.2.2.2.2.2.2.2.2.2.2.2.2.2.2.2.1,(p0.2.2.2.2.2.2.2.2.2.2.2.2.2.2.2.2.2.2.2.2.2.2.2.2.2.2.2.2.2.2.2.1,(p0.2.2.2.2.2.2.2.2.2.2.2.2.2.2.2.2.2.2.2.2.2.2.2.2.2.2.2.2.2.2.2.2.1,(p0.2.2.2.2.2.2.2.2.2.2.2.2.2.2.2.2.2.2.2.2.2.2.2.2.2.2.2.2.2.2.2.2.2.1,())))))))))))))))))))))))))))))))))))))
def qzU  (fu:Nat) (c:(Int×((List Su.Cc)×((List Su.T)×((List Su.T)×((List Su.T)×((List Su.T)×Int))))))) (s:(Bool×(Bool×(Int×(Int×(List Su.Ce)))))):Option (Bool×(Bool×(Int×(Int×(List Su.Ce))))) :=
 (bif s.1 then
 some (true,(false,((0:Int),((0:Int),[]))))
 else
  (bif (!(decide (((((List.length s.2.2.2.2):Nat):Int)=(((List.length c.2.1):Nat):Int))))) then
  some (true,(false,((0:Int),((0:Int),[]))))
 else
  (bif (Su.qy [(s.2.1,(s.2.2.1,s.2.2.2.1))]).1 then
  some (true,(false,((0:Int),((0:Int),[]))))
 else
  (itP fu (qce) (c.1,(c.2.1,(c.2.2.1,(c.2.2.2.1,(c.2.2.2.2.1,(c.2.2.2.2.2.1,(c.2.2.2.2.2.2,(s.1,(s.2.1,(s.2.2.1,(s.2.2.2.1,(s.2.2.2.2,(c.1,(c.2.1,(c.2.2.1,(c.2.2.2.1,(c.2.2.2.2.1,(c.2.2.2.2.2.1,(c.2.2.2.2.2.2,(s.2.2.2.2,((((List.length s.2.2.2.2):Nat):Int),((0:Int),([],(false,(false,((0:Int),((0:Int),(0,([],(false,((Su.qy [(s.2.1,(s.2.2.1,s.2.2.2.1))]).1,((Su.qy [(s.2.1,(s.2.2.1,s.2.2.2.1))]).2.1,((Su.qy [(s.2.1,(s.2.2.1,s.2.2.2.1))]).2.2,(0,()))))))))))))))))))))))))))))))))))).bind fun x4 =>
  (match x4 with
 | .exit i5 p6=>(bif (Nat.beq i5 0) then
  ((Su.sub p6.2.2.2.2.2.2.2.2.2.2.2.2.2.2.2.2.2.2.2.2.2.2.2.2.2.2.2.2.1 0 p6.2.2.2.2.2.2.2.2.2.2.2.2.2.2.2.2.2.2.2.2.2.2.2.2.2.2.2.2.2.2.2.2.2.1)).bind fun x7 =>
  (((((Su.unR (Su.rCe) x7)).bind fun x8 =>
  some (p6.2.2.2.2.2.2.2.2.2.2.2.2.2.2.2.2.2.2.2.2.2.2.2.2.2.2.2.2.2.2.2.2.1,x8)).bind fun x9 =>
  some (p6.2.2.2.2.2.2.2.2.2.2.2.2.2.2.2.2.2.2.2.2.2.2.2.2.2.2.2.2.2.2.2.1,x9)).bind fun x10 =>
  some (p6.2.2.2.2.2.2.2.2.2.2.2.2.2.2.2.2.2.2.2.2.2.2.2.2.2.2.2.2.2.2.1,x10)).bind fun x11 =>
  some (p6.2.2.2.2.2.2.2.2.2.2.2.2.2.2.2.2.2.2.2.2.2.2.2.2.2.2.2.2.2.1,x11)
 else
  none)
 | .ret o12=>some o12))))
abbrev CapS:=Int×(List Su.Cc×(List Su.T×(List Su.T×(List Su.T×(List Su.T×(Int×(Bool×(Bool×(Int×(Int×(List Su.Ce×(Int×(List Su.Cc×(List Su.T×(List Su.T×(List Su.T×(List Su.T×(Int×(List Su.Ce×(Int×(Int×(List Su.T×(Bool×(Bool×(Int×(Int×(Nat×(List Su.T×(Bool×(Bool×(Int×(Int×(Nat×Unit)))))))))))))))))))))))))))))))))
def qd6 (c:CoD) (s:StD) (K:Iv) (i:Int) (P:List Su.Ce):CapS :=
 (c.1,(c.2.1,(c.2.2.1,(c.2.2.2.1,(c.2.2.2.2.1,(c.2.2.2.2.2.1,(c.2.2.2.2.2.2,(s.1,(s.2.1,(s.2.2.1,(s.2.2.2.1,(s.2.2.2.2,(c.1,(c.2.1,(c.2.2.1,(c.2.2.2.1,(c.2.2.2.2.1,(c.2.2.2.2.2.1,(c.2.2.2.2.2.2,(s.2.2.2.2,(((s.2.2.2.2.length:Nat):Int),(i,([],(false,(false,(0,(0,(0,(P.map vCe,(false,(K.1,(K.2.1,(K.2.2,(P.length,()))))))))))))))))))))))))))))))))))
def Jj (d:Su.Cc):Iv:=yF (IntKind.i64.wrap d.fr) (IntKind.i64.wrap d.to)
def qfX (s:StD) (_:Nat) (d:Su.Cc) (x:Su.Ce):Su.Ce :=
 bif !d.input then x else ⟨true,true,Jj d,(yG (Jj d) (stK s)).1,(yG (Jj d) (stK s)).2,Zv d.lo d.hi,0,(true,(0,([],0)))⟩
theorem qzV (c:CoD) (s:StD) (K:Iv) (hl:s.2.2.2.2.length=c.2.1.length) (hs:s.2.2.2.2.length≤1000000) :
 jN (c.2.1.length+1) qce (qd6 c s K ((0:Nat):Int) []) (qfV (.ret qH) (fun P=>.exit 0 (qd6 c s K (c.2.1.length:Int) P)) (qP (qZ c.2.1 s.2.2.2.2 (qfX s)) c.2.1.length)):=by
 have hmx:s.2.2.2.2.length≤maxLen:=by rw [qG];omega
 refine yi (mk:=fun i P=>qd6 c s K (i:Int) P) ?_ ?_ ?_
 · intro i P x hi hP ho
   have i1:i<s.2.2.2.2.length:=by omega
   unfold qZ at ho
   rw [List.getElem?_eq_getElem hi,List.getElem?_eq_getElem i1] at ho
   simp only [] at ho
   have hb:Nat.ble (P.length+1) 549755813888=true:=Nat.ble_eq_true_of_le (by omega)
   unfold qd6
   simp only [qce,ltN,decide_eq_true i1,cond_true,ixl i1,ixl hi,Option.bind_some]
   generalize c.2.1[i]=d at *
   generalize s.2.2.2.2[i]=x0 at *
   cases e1:d.input with
   | false =>
    have hf:(qfX s) i d x0=x0:=by unfold qfX;rw [e1];rfl
    rw [hf] at ho
    refine (qB rfl).trans ?_
    rcases Bool.eq_false_or_eq_true (qT (qq (x0) d.type) d.type) with hn | hn
    · exact absurd ((qB hn).symm.trans ho) (by simp)
    · have:=soi ((qA hn).symm.trans ho);subst this
      refine (qA hn).trans ?_
      simp only [List.length_map,List.length_cons,List.length_nil,Nat.zero_add,qgn,hb,Bool.and_self,cond_true,QC,w1 i1 hmx]
      all_goals rfl
   | true =>
    have hf:(qfX s) i d x0=⟨true,true,Jj d,(yG (Jj d) (stK s)).1,(yG (Jj d) (stK s)).2,Zv d.lo d.hi,0,(true,(0,([],0)))⟩:=by unfold qfX;rw [e1];rfl
    rw [hf] at ho
    refine (qA rfl).trans ?_
    rcases Bool.eq_false_or_eq_true (qT (qq (⟨true,true,Jj d,(yG (Jj d) (stK s)).1,(yG (Jj d) (stK s)).2,Zv d.lo d.hi,0,(true,(0,([],0)))⟩) d.type) d.type) with hn | hn
    · exact absurd ((qB hn).symm.trans ho) (by simp)
    · have:=soi ((qA hn).symm.trans ho);subst this
      refine (qA hn).trans ?_
      simp only [List.length_map,List.length_cons,List.length_nil,Nat.zero_add,qgn,hb,Bool.and_self,cond_true,QC,w1 i1 hmx]
      all_goals rfl
 · intro i P hi hP ho
   have i1:i<s.2.2.2.2.length:=by omega
   unfold qZ at ho
   rw [List.getElem?_eq_getElem hi,List.getElem?_eq_getElem i1] at ho
   simp only [] at ho
   have hb:Nat.ble (P.length+1) 549755813888=true:=Nat.ble_eq_true_of_le (by omega)
   unfold qd6
   simp only [qce,ltN,decide_eq_true i1,cond_true,ixl i1,ixl hi,Option.bind_some]
   generalize c.2.1[i]=d at *
   generalize s.2.2.2.2[i]=x0 at *
   cases e1:d.input with
   | false =>
    have hf:(qfX s) i d x0=x0:=by unfold qfX;rw [e1];rfl
    rw [hf] at ho
    refine (qB rfl).trans ?_
    rcases Bool.eq_false_or_eq_true (qT (qq (x0) d.type) d.type) with hn | hn
    · exact (qB hn).trans rfl
    · exact absurd ((qA hn).symm.trans ho) (by simp)
   | true =>
    have hf:(qfX s) i d x0=⟨true,true,Jj d,(yG (Jj d) (stK s)).1,(yG (Jj d) (stK s)).2,Zv d.lo d.hi,0,(true,(0,([],0)))⟩:=by unfold qfX;rw [e1];rfl
    rw [hf] at ho
    refine (qA rfl).trans ?_
    rcases Bool.eq_false_or_eq_true (qT (qq (⟨true,true,Jj d,(yG (Jj d) (stK s)).1,(yG (Jj d) (stK s)).2,Zv d.lo d.hi,0,(true,(0,([],0)))⟩) d.type) d.type) with hn | hn
    · exact (qB hn).trans rfl
    · exact absurd ((qA hn).symm.trans ho) (by simp)
 · intro P hP
   unfold qd6
   simp only [qce,ltN,hl,decide_eq_false (Nat.lt_irrefl _),cond_false]
def qFn (c:CoD) (s:StD):StD:=qp c s (qfX s)
def qvk (p:CoD×StD):Option StD:=bif smS p.2 then some (qFn p.1 p.2) else none
theorem qzW (p:CoD×StD) (y:StD) (hg:(dc cCo (d1 cSt)).good p) (h:qvk p=some y):∃ n,qzU n p.1 p.2=some y:=by
 obtain ⟨c,s⟩:=p
 obtain ⟨hm,h⟩:=qj h
 have:=soi h;subst this
 have hm:smS s=true:=hm
 refine ⟨c.2.1.length+1,?_⟩
 show qzU (c.2.1.length+1) c s=some (qFn c s)
 unfold qzU qFn
 rcases Bool.eq_false_or_eq_true s.1 with hd | hd
 · rw [show qp c s _=qH from qB hd];exact qB hd
 · refine (qA hd).trans ?_
   by_cases hl:s.2.2.2.2.length=c.2.1.length
   · refine (qA (by rw [lnE,decide_eq_true hl];rfl)).trans ?_
     rcases Bool.eq_false_or_eq_true (qy [stK s]).1 with hK | hK
     · rw [show qp c s _=qH from (qA hd).trans ((qA (by rw [decide_eq_true hl];rfl)).trans (qB hK))]
       exact qB hK
     · refine (qA hK).trans ?_
       rw [jP _ hd hl hK]
       have hr:=qzV c s (qy [stK s]) hl (Qe hm) _ (Nat.le_refl _)
       refine obB hr ?_
       cases hb:qP (qZ c.2.1 s.2.2.2.2 (qfX s)) c.2.1.length with
       | none=>rfl
       | some P=>exact obB (YI P) (qnk P (qy [stK s]) false)
   · rw [show qp c s _=qH from (qA hd).trans (qB (by rw [decide_eq_false hl];rfl))]
     exact qB (by rw [lnE,decide_eq_false hl];rfl)
end
end Su
end
