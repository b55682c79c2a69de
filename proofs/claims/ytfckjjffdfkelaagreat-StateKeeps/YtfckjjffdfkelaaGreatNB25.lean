/-
  What functions of the program compute, in plain Lean, and that the evaluator finds it.
-/
import Derived.Test.YtfckjjffdfkelaaGreatSuSd
import Derived.Test.YtfckjjffdfkelaaGreatNC24
import Derived.Test.YtfckjjffdfkelaaGreatNB10
set_option maxRecDepth 10000
section
namespace Su
open Go Fly
set_option linter.unusedVariables false
noncomputable section
def qCM  (lo:Int) (hi:Int):Option (Bool×(Int×Int)) :=
 some (Su.qk (false,(lo,hi)))
def zIn  (a:(Bool×(Int×Int))) (b:(Bool×(Int×Int))):Option Bool :=
 (bif (Su.qk a).1 then
 some true
 else
  (bif (!(Su.qk b).1) then
  (bif (Su.leF (Su.qk b).2.1 (Su.qk a).2.1) then
  some (Su.leF (Su.qk a).2.2 (Su.qk b).2.2)
 else
  some false)
 else
  some false))
def qFh  (s:(Bool×(Int×Int))) (f:Int):Option Bool :=
 (bif (!(decide (((((Su.qD (Su.bK (Int.toNat f))):Nat):Int)=3)))) then
 (bif (!(Su.qk (false,(f,f))).1) then
 (bif (Su.qk (Su.qk (false,(f,f)))).1 then
 some true
 else
  (bif (!(Su.qk s).1) then
  (bif (Su.leF (Su.qk s).2.1 (Su.qk (Su.qk (false,(f,f)))).2.1) then
  some (Su.leF (Su.qk (Su.qk (false,(f,f)))).2.2 (Su.qk s).2.2)
 else
  some false)
 else
  some false))
 else
  some false)
 else
  some false)
def quU  (a:(Bool×(Int×Int))) (b:(Bool×(Int×Int))):Option (Bool×(Int×Int)) :=
 (bif (Su.qk a).1 then
 some (true,((0:Int),(0:Int)))
 else
  (bif (Su.qk b).1 then
  some (true,((0:Int),(0:Int)))
 else
  some (Su.qk (false,((((Su.qbZ (Int.toNat (Su.qk a).2.1) (Int.toNat (Su.qk b).2.1)):Nat):Int),(((Su.qiL (Int.toNat (Su.qk a).2.2) (Int.toNat (Su.qk b).2.2)):Nat):Int))))))
abbrev qa4:=((List (Bool×(Int×Int)))×(Int×(Int×(Bool×(Int×(Int×(Bool×(Int×(Int×Unit)))))))))
def qcm:qa4→Option (qa4 ⊕ qa4):=fun p0=>(bif (decide ((p0.2.2.1<p0.2.1))) then
 ((Su.idx p0.1 p0.2.2.1)).bind fun x1 =>
 (bif (Su.qk x1).1 then
 some (.inl (p0.1,(p0.2.1,((Go.IntKind.wrap .i64 (p0.2.2.1+1)),(p0.2.2.2.1,(p0.2.2.2.2.1,(p0.2.2.2.2.2.1,(p0.2.2.2.2.2.2.1,(p0.2.2.2.2.2.2.2.1,(p0.2.2.2.2.2.2.2.2.1,()))))))))))
 else
  (bif p0.2.2.2.2.2.2.1 then
  some (.inl (p0.1,(p0.2.1,((Go.IntKind.wrap .i64 (p0.2.2.1+1)),(p0.2.2.2.1,(p0.2.2.2.2.1,(p0.2.2.2.2.2.1,((Su.qk x1).1,((Su.qk x1).2.1,((Su.qk x1).2.2,()))))))))))
 else
  some (.inl (p0.1,(p0.2.1,((Go.IntKind.wrap .i64 (p0.2.2.1+1)),(p0.2.2.2.1,(p0.2.2.2.2.1,(p0.2.2.2.2.2.1,((Su.qk (false,((((Su.qiL (Int.toNat p0.2.2.2.2.2.2.2.1) (Int.toNat (Su.qk x1).2.1)):Nat):Int),(((Su.qbZ (Int.toNat p0.2.2.2.2.2.2.2.2.1) (Int.toNat (Su.qk x1).2.2)):Nat):Int)))).1,((Su.qk (false,((((Su.qiL (Int.toNat p0.2.2.2.2.2.2.2.1) (Int.toNat (Su.qk x1).2.1)):Nat):Int),(((Su.qbZ (Int.toNat p0.2.2.2.2.2.2.2.2.1) (Int.toNat (Su.qk x1).2.2)):Nat):Int)))).2.1,((Su.qk (false,((((Su.qiL (Int.toNat p0.2.2.2.2.2.2.2.1) (Int.toNat (Su.qk x1).2.1)):Nat):Int),(((Su.qbZ (Int.toNat p0.2.2.2.2.2.2.2.2.1) (Int.toNat (Su.qk x1).2.2)):Nat):Int)))).2.2,()))))))))))))
 else
  some (.inr (p0.1,(p0.2.1,(p0.2.2.1,(p0.2.2.2.1,(p0.2.2.2.2.1,(p0.2.2.2.2.2.1,(p0.2.2.2.2.2.2.1,(p0.2.2.2.2.2.2.2.1,(p0.2.2.2.2.2.2.2.2.1,())))))))))))
def quV  (fu:Nat) (l:(List (Bool×(Int×Int)))):Option (Bool×(Int×Int)) :=
 (itP fu (qcm) (l,((((List.length l):Nat):Int),((0:Int),(false,((0:Int),((0:Int),(true,((0:Int),((0:Int),())))))))))).bind fun x2 =>
 some (x2.2.2.2.2.2.2.1,(x2.2.2.2.2.2.2.2.1,x2.2.2.2.2.2.2.2.2.1))
def qag:(Int×((List Int)×(Int×(Int×Unit))))→Option ((Int×((List Int)×(Int×(Int×Unit)))) ⊕ (Int×((List Int)×(Int×(Int×Unit))))):=fun p0=>(bif (decide ((p0.2.2.2.1<p0.2.2.1))) then
 ((Su.idx p0.2.1 p0.2.2.2.1)).bind fun x1 =>
 some (.inl ((((Su.qbZ (Int.toNat p0.1) (Int.toNat (Su.gdF x1))):Nat):Int),(p0.2.1,(p0.2.2.1,((Go.IntKind.wrap .i64 (p0.2.2.2.1+1)),())))))
 else
  some (.inr (p0.1,(p0.2.1,(p0.2.2.1,(p0.2.2.2.1,()))))))
def qni  (fu:Nat) (l:(List Int)):Option Int :=
 (itP fu (qag) ((0:Int),(l,((((List.length l):Nat):Int),((0:Int),()))))).bind fun x2 =>
 some x2.1
def qo5 (p:Int×Int):Option Spn:=some (Qw p.1 p.2)
theorem quW (p:Int×Int) (y:Spn) (hg:(dc (cI .u64) (d1 (cI .u64))).good p) (h:qo5 p=some y):qCM p.1 p.2=some y:=by
 have:=soi h;subst this;rfl
def qCN (p:Spn×Spn):Option Bool:=some (quS p.1 p.2)
theorem qFi (p:Spn×Spn) (y:Bool) (hg:(dc yn (d1 yn)).good p) (h:qCN p=some y):zIn p.1 p.2=some y:=by
 have:=soi h;subst this
 unfold zIn quS
 generalize qk p.1=t
 generalize qk p.2=t'
 cases t.1 with
 | true=>rfl
 | false =>
  cases t'.1 with
  | true=>rfl
  | false=>cases leF t'.2.1 t.2.1 <;> rfl
def quX (p:Spn×Int):Option Bool:=some (yO p.1 p.2)
theorem qzM (p:Spn×Int) (y:Bool) (hg:(dc yn (d1 (cI .u64))).good p) (h:quX p=some y):qFh p.1 p.2=some y:=by
 have:=soi h;subst this
 unfold qFh yO quS Qw
 have e:decide (((qD (bK p.2.toNat):Nat):Int)=3)=decide (qD (bK p.2.toNat)=3):=qmT _ 3
 rw [e]
 generalize qk (false,(p.2,p.2))=t
 generalize qk t=u
 generalize qk p.1=t'
 cases decide (qD (bK p.2.toNat)=3) with
 | true=>rfl
 | false =>
  cases t.1 with
  | true=>rfl
  | false =>
   cases u.1 with
   | true=>rfl
   | false =>
    cases t'.1 with
    | true=>rfl
    | false=>cases leF t'.2.1 u.2.1 <;> rfl
def qo6 (p:Spn×Spn):Option Spn:=some (Qm p.1 p.2)
theorem quY (p:Spn×Spn) (y:Spn) (hg:(dc yn (d1 yn)).good p) (h:qo6 p=some y):quU p.1 p.2=some y:=by
 have:=soi h;subst this
 unfold quU Qm
 generalize qk p.1=t
 generalize qk p.2=t'
 cases t.1 with
 | true=>rfl
 | false=>cases t'.1 <;> rfl
abbrev ZjS:=List Spn×(Int×(Int×(Bool×(Int×(Int×(Bool×(Int×(Int×Unit))))))))
def qzN (l:List Spn) (i:Int) (j:Spn):ZjS:=(l,(((l.length:Nat):Int),(i,(false,(0,(0,(j.1,(j.2.1,(j.2.2,())))))))))
theorem qo7 (l:List Spn) (hl:l.length≤maxLen):∀ (r A:List Spn) (j:Spn),A++r=l→jU (r.length+1) qcm (qzN l A.length j) (qzN l l.length (r.foldl qq0 j))
 | [],A,j,h=>by
  rw [List.append_nil] at h;subst h
  refine jU.stop ?_
  unfold qzN
  simp only [qcm,ltN,decide_eq_false (Nat.lt_irrefl _),cond_false];rfl
 | x::r,A,j,h=>by
  have hi:A.length<l.length:=by rw [← h];simp
  have hg:idx l (A.length:Int)=some x:=by
   rw [jc,← h,List.getElem?_append_right (by omega),Nat.sub_self];rfl
  have ih:=qo7 l hl r (A++[x]) (qq0 j x) (by rw [← h];simp)
  refine jU.next ?_ ih
  unfold qzN
  simp only [qcm,ltN,decide_eq_true hi,cond_true,hg,Option.bind_some,w1 hi hl]
  rw [show (A++[x]).length=A.length+1 by simp]
  unfold qq0 Qw mnI mxI
  obtain ⟨j1,j2,j3⟩:=j
  simp only []
  generalize qk x=t
  obtain ⟨t1,t2,t3⟩:=t
  cases t1 with
  | true=>rfl
  | false=>cases j1 <;> rfl
def qo8 (l:List Spn):Option Spn:=some (Qx l)
theorem quZ (l:List Spn) (y:Spn) (hg:(d1 (cL rSp)).good l) (h:qo8 l=some y):∃ n,quV n l=some y:=by
 have:=soi h;subst this
 refine ⟨l.length+1,?_⟩
 unfold quV
 have:=qo7 l hg.2 l [] qaB rfl
 exact obB (this _ (Nat.le_refl _)) rfl
def qFj (j e:Int):Int:=mxI j (gdF e)
def slJn (l:List Int):Int:=l.foldl qFj 0
theorem qlr (l:List Int) (hl:l.length≤maxLen):∀ (r A:List Int) (j:Int),A++r=l→jU (r.length+1) qag (j,(l,((l.length:Int),((A.length:Int),())))) (r.foldl qFj j,(l,((l.length:Int),((l.length:Int),()))))
 | [],A,j,h=>by
  rw [List.append_nil] at h;subst h
  refine jU.stop ?_
  simp only [qag,ltN,decide_eq_false (Nat.lt_irrefl _),cond_false];rfl
 | x::r,A,j,h=>by
  have hi:A.length<l.length:=by rw [← h];simp
  have hg:idx l (A.length:Int)=some x:=by
   rw [jc,← h,List.getElem?_append_right (by omega),Nat.sub_self];rfl
  have ih:=qlr l hl r (A++[x]) (qFj j x) (by rw [← h];simp)
  refine jU.next ?_ ih
  simp only [qag,ltN,decide_eq_true hi,cond_true,hg,Option.bind_some,w1 hi hl]
  rw [show (A++[x]).length=A.length+1 by simp]
  rfl
def qls (l:List Int):Option Int:=some (slJn l)
theorem qq1 (l:List Int) (y:Int) (hg:(d1 (cQ 2 1)).good l) (h:qls l=some y):∃ n,qni n l=some y:=by
 have:=soi h;subst this
 refine ⟨l.length+1,?_⟩
 unfold qni
 have:=qlr l hg.2 l [] 0 rfl
 exact obB (this _ (Nat.le_refl _)) rfl
end
end Su
end
section
namespace Su
open Go Fly
set_option linter.unusedVariables false
noncomputable section
def qu0  (x:Su.Ce) (t:Int):Option Su.Ce :=
 (bif (decide ((t=1))) then
 some (Su.Ce.mk (Su.Ce.f x) (Su.Ce.t x) (false,((0:Int),(0:Int))) (false,((0:Int),(0:Int))) (false,((0:Int),(0:Int))) (false,((0:Int),(0:Int))) (0:Int) (false,((0:Int),([],(0:Int)))))
 else
  (bif (decide ((t=2))) then
  some (Su.Ce.mk false false x.3 x.4 x.5 (false,((0:Int),(0:Int))) (0:Int) (false,((0:Int),([],(0:Int)))))
 else
  (bif (decide ((t=3))) then
  some (Su.Ce.mk false false (false,((0:Int),(0:Int))) (false,((0:Int),(0:Int))) (false,((0:Int),(0:Int))) x.6 (Su.Ce.sl x) x.8)
 else
  some (Su.Ce.mk false false (false,((0:Int),(0:Int))) (false,((0:Int),(0:Int))) (false,((0:Int),(0:Int))) (false,((0:Int),(0:Int))) (0:Int) (false,((0:Int),([],(0:Int))))))))
def qu1  (x:Su.Ce) (t:Int):Option Bool :=
 (bif (decide ((t=1))) then
 some (((Su.Ce.f x) == false)&&(((Su.Ce.t x) == false)&&true))
 else
  (bif (decide ((t=2))) then
  (bif (Su.qJ [x.3]).1 then
  some true
 else
  some (Su.YK (x.4,x.5) (x.4,x.5)).1.1)
 else
  (bif (decide ((t=3))) then
  some (Su.Qx [x.6]).1
 else
  some true)))
def iv0:Iv:=(false,(0,0))
def fm0:Bool×Int×List Su.Tm×Int:=(false,(0,([],0)))
def qw (x:Su.Ce) (t:Int):Su.Ce :=
 bif decide (t=1) then ⟨x.f,x.t,iv0,iv0,iv0,iv0,0,fm0⟩
 else bif decide (t=2) then ⟨false,false,x.i,x.d,x.p,iv0,0,fm0⟩
 else bif decide (t=3) then ⟨false,false,iv0,iv0,iv0,x.s,x.sl,x.fm⟩
 else ⟨false,false,iv0,iv0,iv0,iv0,0,fm0⟩
def jj (x:Su.Ce) (t:Int):Bool :=
 bif decide (t=1) then (x.f == false)&&((x.t == false)&&true)
 else bif decide (t=2) then (bif (qJ [x.i]).1 then true else (YK (x.d,x.p) (x.d,x.p)).1.1)
 else bif decide (t=3) then (Qx [x.s]).1 else true
def qo9 (p:Su.Ce×Int):Option Su.Ce:=some (qw p.1 p.2)
theorem qu2 (p:Su.Ce×Int) (y:Su.Ce) (hg:(dc cCe (d1 (cI .u8))).good p) (h:qo9 p=some y):qu0 p.1 p.2=some y:=by
 have:=soi h;subst this
 unfold qu0 qw
 cases decide (p.2=1) with
 | true=>rfl
 | false =>
  cases decide (p.2=2) with
  | true=>rfl
  | false=>cases decide (p.2=3) <;> rfl
def qpa (p:Su.Ce×Int):Option Bool:=some (jj p.1 p.2)
theorem qu3 (p:Su.Ce×Int) (y:Bool) (hg:(dc cCe (d1 (cI .u8))).good p) (h:qpa p=some y):qu1 p.1 p.2=some y:=by
 have:=soi h;subst this
 unfold qu1 jj
 cases decide (p.2=1) with
 | true=>rfl
 | false =>
  cases decide (p.2=2) with
  | true=>cases (qJ [p.1.i]).1 <;> rfl
  | false=>cases decide (p.2=3) <;> rfl
end
end Su
end
section
namespace Su
open Go Fly
set_option linter.unusedVariables false
noncomputable section
def Yk:((List (Bool×(Bool×(Int×(Int×(List Su.Ce))))))×(Int×(Int×Unit)))→Option (((List (Bool×(Bool×(Int×(Int×(List Su.Ce))))))×(Int×(Int×Unit))) ⊕ (Lp ((List (Bool×(Bool×(Int×(Int×(List Su.Ce))))))×(Int×(Int×Unit))) (((List (Bool×(Bool×(Int×(Int×(List Su.Ce))))))×(Int×Unit)) ⊕ (Lp ((List (Bool×(Bool×(Int×(Int×(List Su.Ce))))))×(Int×Unit)) Bool)))):=fun p2=>((Su.idx p2.1 p2.2.1)).bind fun x3 =>
 (bif (decide ((p2.2.2.1<(((List.length x3.2.2.2.2):Nat):Int)))) then
 ((Su.idx p2.1 p2.2.1)).bind fun x4 =>
 ((Su.idx x4.2.2.2.2 p2.2.2.1)).bind fun x5 =>
 (bif (decide ((8<(((List.length x5.8.2.2.1):Nat):Int)))) then
 some (.inr (.ret (.inr (.ret true))))
 else
  some (.inl (p2.1,(p2.2.1,((Go.IntKind.wrap .i64 (p2.2.2.1+1)),())))))
 else
  some (.inr (.exit 2 (p2.1,(p2.2.1,(p2.2.2.1,()))))))
def ZA (fu:Nat):((List (Bool×(Bool×(Int×(Int×(List Su.Ce))))))×(Int×Unit))→Option (((List (Bool×(Bool×(Int×(Int×(List Su.Ce))))))×(Int×Unit)) ⊕ (Lp ((List (Bool×(Bool×(Int×(Int×(List Su.Ce))))))×(Int×Unit)) Bool)):=fun p0=>(bif (decide ((p0.2.1<(((List.length p0.1):Nat):Int)))) then
 ((Su.idx p0.1 p0.2.1)).bind fun x1 =>
 (bif (decide ((40<(((List.length x1.2.2.2.2):Nat):Int)))) then
 some (.inr (.ret true))
 else
  (itP fu (Yk) (p0.1,(p0.2.1,((0:Int),())))).bind fun x6 =>
  (match x6 with
 | .exit i7 p8=>(bif (Nat.beq i7 2) then
  some (.inl (p8.1,((Go.IntKind.wrap .i64 (p8.2.1+1)),())))
 else
  (bif (Nat.beq i7 1) then
  some (.inl (p8.1,((Go.IntKind.wrap .i64 (p8.2.1+1)),())))
 else
  some (.inr (.exit i7 (p8.1,(p8.2.1,()))))))
 | .ret o9=>some o9))
 else
  some (.inr (.exit 0 (p0.1,(p0.2.1,())))))
def qpb  (fu:Nat) (c:(Int×((List Su.Cc)×((List Su.T)×((List Su.T)×((List Su.T)×((List Su.T)×Int))))))) (l:(List (Bool×(Bool×(Int×(Int×(List Su.Ce))))))):Option Bool :=
 (bif (decide ((40<(((List.length c.2.1):Nat):Int)))) then
 some true
 else
  (itP fu (ZA fu) (l,((0:Int),()))).bind fun x10 =>
  (match x10 with
 | .exit i11 p12=>(bif (Nat.beq i11 0) then
  some false
 else
  none)
 | .ret o13=>some o13))
abbrev CoD:=Int×(List Su.Cc×(List Su.T×(List Su.T×(List Su.T×(List Su.T×Int)))))
abbrev StD:=Bool×(Bool×(Int×(Int×List Su.Ce)))
abbrev StD.cells (s:StD):List Su.Ce:=s.2.2.2.2
abbrev CoD.cells (c:CoD):List Su.Cc:=c.2.1
def qa5 (X:List Su.Ce) (j:Nat):Bool:=match X[j]? with
 | some x=>!decide (8<((x.fm.2.2.1.length:Nat):Int))
 | none=>true
def YM (l:List StD) (i:Nat):Bool:=match l[i]? with
 | some s=>!decide (40<(s.cells.length:Int))&&qch s.cells.length (qa5 s.cells)
 | none=>true
def qa6 (c:CoD) (l:List StD):Bool:=bif decide (40<(c.cells.length:Int)) then true else !qch l.length (YM l)
def qpc (a:CoD×List StD):Option Bool:=some (qa6 a.1 a.2)
theorem qu4 (l:List StD) (hl:l.length≤maxLen) {i:Nat} (hi:i<l.length) (hx:l[i].cells.length≤maxLen) :
 jU (l[i].cells.length+1) Yk (l,((i:Int),((0:Int),()))) (bif qch l[i].cells.length (qa5 l[i].cells) then .exit 2 (l,((i:Int),((l[i].cells.length:Int),()))) else .ret (.inr (.ret true))):=by
 have step:∀ j,j<l[i].cells.length→Yk (l,((i:Int),((j:Int),())))=some (bif qa5 l[i].cells j then .inl (l,((i:Int),(((j+1:Nat):Int),()))) else .inr (.ret (.inr (.ret true)))):=by
  intro j hj
  unfold qa5
  rw [List.getElem?_eq_getElem hj]
  simp only [Yk,ixl hi,Option.bind_some,ltN,decide_eq_true hj,cond_true]
  rw [ixl hj]
  simp only [Option.bind_some,w1 hj hx]
  generalize l[i].cells[j]=x
  have e:x.8.2.2.1=x.fm.2.2.1:=rfl
  rw [e]
  cases decide (8<((x.fm.2.2.1.length:Nat):Int)) <;> rfl
 exact qf4 (F:=Yk) (mk:=fun j=>(l,((i:Int),((j:Int),())))) (n:=l[i].cells.length) (ok:=qa5 l[i].cells) (fun j hj hk=>by rw [step j hj,hk];rfl) (fun j hj hk=>by rw [step j hj,hk];rfl)
  (by simp only [Yk,ixl hi,Option.bind_some,ltN,decide_eq_false (Nat.lt_irrefl _),cond_false])
theorem qu5 (a:CoD×List StD) (y:Bool) (hg:(dc cCo (d1 (cL rSt))).good a) (h:qpc a=some y):∃ n,qpb n a.1 a.2=some y:=by
 obtain ⟨c,l⟩:=a
 have:=soi h;subst this
 have hl:l.length≤maxLen:=hg.2.2
 have hx:∀ s∈l,s.cells.length≤maxLen:=fun s hs=>(hg.2.1 s hs).2.2.2.2.2
 show ∃ n,qpb n c l=some (qa6 c l)
 unfold qpb qa6
 cases decide (40<((c.2.1.length:Nat):Int)) with
 | true=>exact ⟨0,rfl⟩
 | false =>
  simp only [cond_false]
  have step:∀ i,i<l.length→ZA (maxLen+1) (l,((i:Int),()))=some (bif YM l i then .inl (l,(((i+1:Nat):Int),())) else .inr (.ret true)):=by
   intro i hi
   have h1:=hx _ (List.getElem_mem hi)
   have h2:=qu4 l hl hi h1 (maxLen+1) (by omega)
   unfold YM
   rw [List.getElem?_eq_getElem hi]
   simp only [ZA,ltN,decide_eq_true hi,cond_true,ixl hi,Option.bind_some,h2,w1 hi hl]
   generalize l[i]=s
   show (bif decide (40<(s.cells.length:Int)) then _ else _)=_
   cases decide (40<(s.cells.length:Int)) with
   | true=>rfl
   | false =>
    cases qch s.cells.length (qa5 s.cells) with
    | false=>rfl
    | true =>
     simp only [cond_true,cond_false,Bool.not_false,Bool.true_and,qlp,w1 hi hl]
  have run:=qf4 (F:=ZA (maxLen+1)) (mk:=fun i=>(l,((i:Int),()))) (n:=l.length) (ok:=YM l) (r1:=.ret true) (r0:=.exit 0 (l,(((l.length:Nat):Int),()))) (fun i hi hk=>by rw [step i hi,hk];rfl) (fun i hi hk=>by rw [step i hi,hk];rfl)
   (by simp only [ZA,ltN,decide_eq_false (Nat.lt_irrefl _),cond_false])
  refine ⟨maxLen+1,?_⟩
  rw [show ((0:Int))=((0:Nat):Int) from rfl,run _ (by omega)]
  show _=some (!qch l.length (YM l))
  cases qch l.length (YM l) <;> rfl
end
end Su
end
section
namespace Su
open Go Fly
set_option linter.unusedVariables false
noncomputable section
def qX {α:Type} (out:Nat→Option α):Nat→Option (List α)
 | 0=>some []
 | n+1=>(qX out n).bind fun P=>(out n).bind fun x=>some (P++[x])
theorem jB {α:Type} {out:Nat→Option α}:∀ {n:Nat} {P:List α},qX out n=some P→P.length=n
 | 0,P,h=>by have:=soi h;subst this;rfl
 | n+1,P,h=>by
  obtain ⟨Q,h1,h⟩:=osm h
  obtain ⟨x,h2,h⟩:=osm h
  have:=soi h;subst this
  rw [List.length_append,jB h1];rfl
theorem YN {α:Type} {out:Nat→Option α}:∀ {n:Nat} {P:List α},qX out n=some P→∀ i,i<n→out i=P[i]?
 | 0,_,_,i,hi=>by omega
 | n+1,P,h,i,hi=>by
  obtain ⟨Q,h1,h⟩:=osm h
  obtain ⟨x,h2,h⟩:=osm h
  have:=soi h;subst this
  have hl:=jB h1
  by_cases e:i=n
  · subst e
    rw [List.getElem?_append_right (by omega),hl,Nat.sub_self,h2];rfl
  · rw [List.getElem?_append_left (by omega)]
    exact YN h1 i (by omega)
theorem qhv {α:Type} {out:Nat→Option α} {i:Nat} (h:out i=none):∀ {n:Nat},i<n→qX out n=none
 | 0,hi=>by omega
 | n+1,hi=>by
  unfold qX
  by_cases e:i=n
  · subst e
    cases qX out i with
    | none=>rfl
    | some P=>rw [Option.bind_some,h];rfl
  · rw [qhv h (by omega:i<n)];rfl
theorem qa7 {α:Type} {out:Nat→Option α}:∀ {n:Nat},(∀ i,i<n→out i≠none)→∃ P,qX out n=some P
 | 0,_=>⟨[],rfl⟩
 | n+1,h=>by
  obtain ⟨P,hP⟩:=qa7 (n:=n) fun i hi=>h i (by omega)
  cases ho:out n with
  | none=>exact absurd ho (h n (by omega))
  | some x=>exact ⟨P++[x],by unfold qX;rw [hP,Option.bind_some,ho];rfl⟩
def qi9 {α R:Type} (r1:R) (r0:List α→R):Option (List α)→R
 | some P=>r0 P
 | none=>r1
theorem qf5 {S R α:Type} {F:S→Option (S ⊕ R)} {mk:Nat→List α→S} {n:Nat} {out:Nat→Option α} {r1:R} {r0:List α→R}
 (h1:∀ i P x,i<n→P.length=i→out i=some x→F (mk i P)=some (.inl (mk (i+1) (P++[x]))))
 (h2:∀ i P,i<n→P.length=i→out i=none→F (mk i P)=some (.inr r1))
 (h0:∀ P,P.length=n→F (mk n P)=some (.inr (r0 P))) :
 ∀ (j i:Nat) (P:List α),i+j=n→qX out i=some P→jU (j+1) F (mk i P) (qi9 r1 r0 (qX out n))
 | 0,i,P,h,hb=>by
  have:i=n:=by omega
  subst this
  rw [hb]
  exact jU.stop (h0 P (jB hb))
 | j+1,i,P,h,hb=>by
  cases ho:out i with
  | none =>
   rw [qhv ho (by omega:i<n)]
   exact jU.stop (h2 i P (by omega) (jB hb) ho)
  | some x =>
   exact jU.next (h1 i P x (by omega) (jB hb) ho) (qf5 h1 h2 h0 j (i+1) (P++[x]) (by omega) (by show (qX out i).bind _=_;rw [hb,Option.bind_some,ho];rfl))
theorem Jk {S R α:Type} {F:S→Option (S ⊕ R)} {mk:Nat→List α→S} {n:Nat} {out:Nat→Option α} {r1:R} {r0:List α→R}
 (h1:∀ i P x,i<n→P.length=i→out i=some x→F (mk i P)=some (.inl (mk (i+1) (P++[x]))))
 (h2:∀ i P,i<n→P.length=i→out i=none→F (mk i P)=some (.inr r1))
 (h0:∀ P,P.length=n→F (mk n P)=some (.inr (r0 P))):jU (n+1) F (mk 0 []) (qi9 r1 r0 (qX out n)) :=
 qf5 h1 h2 h0 n 0 [] (by omega) rfl
end
end Su
end
section
namespace Su
open Go Fly
set_option linter.unusedVariables false
noncomputable section
abbrev qa8:=(Int×((List Su.Cc)×((List Su.T)×((List Su.T)×((List Su.T)×((List Su.T)×(Int×((List Su.Ce)×(Int×(Int×((List Su.T)×(Bool×(Bool×(Int×(Int×(Nat×((List Su.T)×(Bool×(Bool×(Int×(Int×(Nat×Unit))))))))))))))))))))))
def ZB:qa8→Option (qa8 ⊕ (Lp qa8 (Bool×(Bool×(Int×(Int×(List Su.Ce))))))):=fun p0=>(bif (decide ((p0.2.2.2.2.2.2.2.2.2.1<p0.2.2.2.2.2.2.2.2.1))) then
 ((Su.idx p0.2.2.2.2.2.2.2.1 p0.2.2.2.2.2.2.2.2.2.1)).bind fun x1 =>
 ((Su.idx p0.2.1 p0.2.2.2.2.2.2.2.2.2.1)).bind fun x2 =>
 (bif (Su.jj (Su.qw (Su.Ce.mk (Su.Ce.f x1) (Su.Ce.t x1) x1.3 (Su.js (x1.4,x1.5)).1 (Su.js (x1.4,x1.5)).2 x1.6 (Su.Ce.sl x1) x1.8) (Su.Cc.type x2)) (Su.Cc.type x2)) then
 some (.inr (.ret (true,(false,((0:Int),((0:Int),[]))))))
 else
  (bif ((true&&(Nat.beq p0.2.2.2.2.2.2.2.2.2.2.2.2.2.2.2.2.2.2.2.2.2.1 (List.length p0.2.2.2.2.2.2.2.2.2.2.2.2.2.2.2.2.1)))&&(Nat.ble ((List.length p0.2.2.2.2.2.2.2.2.2.2.2.2.2.2.2.2.1)+(List.length [(Su.view 14 (Su.qw (Su.Ce.mk (Su.Ce.f x1) (Su.Ce.t x1) x1.3 (Su.js (x1.4,x1.5)).1 (Su.js (x1.4,x1.5)).2 x1.6 (Su.Ce.sl x1) x1.8) (Su.Cc.type x2)))])) 549755813888)) then
  some (.inl (p0.1,(p0.2.1,(p0.2.2.1,(p0.2.2.2.1,(p0.2.2.2.2.1,(p0.2.2.2.2.2.1,(p0.2.2.2.2.2.2.1,(p0.2.2.2.2.2.2.2.1,(p0.2.2.2.2.2.2.2.2.1,((Go.IntKind.wrap .i64 (p0.2.2.2.2.2.2.2.2.2.1+1)),(p0.2.2.2.2.2.2.2.2.2.2.1,(p0.2.2.2.2.2.2.2.2.2.2.2.1,(p0.2.2.2.2.2.2.2.2.2.2.2.2.1,(p0.2.2.2.2.2.2.2.2.2.2.2.2.2.1,(p0.2.2.2.2.2.2.2.2.2.2.2.2.2.2.1,(p0.2.2.2.2.2.2.2.2.2.2.2.2.2.2.2.1,((p0.2.2.2.2.2.2.2.2.2.2.2.2.2.2.2.2.1++[(Su.view 14 (Su.qw (Su.Ce.mk (Su.Ce.f x1) (Su.Ce.t x1) x1.3 (Su.js (x1.4,x1.5)).1 (Su.js (x1.4,x1.5)).2 x1.6 (Su.Ce.sl x1) x1.8) (Su.Cc.type x2)))]),(p0.2.2.2.2.2.2.2.2.2.2.2.2.2.2.2.2.2.1,(p0.2.2.2.2.2.2.2.2.2.2.2.2.2.2.2.2.2.2.1,(p0.2.2.2.2.2.2.2.2.2.2.2.2.2.2.2.2.2.2.2.1,(p0.2.2.2.2.2.2.2.2.2.2.2.2.2.2.2.2.2.2.2.2.1,((List.length (p0.2.2.2.2.2.2.2.2.2.2.2.2.2.2.2.2.1++[(Su.view 14 (Su.qw (Su.Ce.mk (Su.Ce.f x1) (Su.Ce.t x1) x1.3 (Su.js (x1.4,x1.5)).1 (Su.js (x1.4,x1.5)).2 x1.6 (Su.Ce.sl x1) x1.8) (Su.Cc.type x2)))])),())))))))))))))))))))))))
 else
  none))
 else
  some (.inr (.exit 0 (p0.1,(p0.2.1,(p0.2.2.1,(p0.2.2.2.1,(p0.2.2.2.2.1,(p0.2.2.2.2.2.1,(p0.2.2.2.2.2.2.1,(p0.2.2.2.2.2.2.2.1,(p0.2.2.2.2.2.2.2.2.1,(p0.2.2.2.2.2.2.2.2.2.1,(p0.2.2.2.2.2.2.2.2.2.2.1,(p0.2.2.2.2.2.2.2.2.2.2.2.1,(p0.2.2.2.2.2.2.2.2.2.2.2.2.1,(p0.2.2.2.2.2.2.2.2.2.2.2.2.2.1,(p0.2.2.2.2.2.2.2.2.2.2.2.2.2.2.1,(p0.2.2.2.2.2.2.2.2.2.2.2.2.2.2.2.1,(p0.2.2.2.2.2.2.2.2.2.2.2.2.2.2.2.2.1,(p0.2.2.2.2.2.2.2.2.2.2.2.2.2.2.2.2.2.1,(p0.2.2.2.2.2.2.2.2.2.2.2.2.2.2.2.2.2.2.1,(p0.2.2.2.2.2.2.2.2.2.2.2.2.2.2.2.2.2.2.2.1,(p0.2.2.2.2.2.2.2.2.2.2.2.2.2.2.2.2.2.2.2.2.1,(p0.2.2.2.2.2.2.2.2.2.2.2.2.2.2.2.2.2.2.2.2.2.1,())))))))))))))))))))))))))
def qpd  (fu:Nat) (c:(Int×((List Su.Cc)×((List Su.T)×((List Su.T)×((List Su.T)×((List Su.T)×Int))))))) (s:(Bool×(Bool×(Int×(Int×(List Su.Ce)))))):Option (Bool×(Bool×(Int×(Int×(List Su.Ce))))) :=
 (bif s.1 then
 some (true,(false,((0:Int),((0:Int),[]))))
 else
  (bif (!(decide (((((List.length s.2.2.2.2):Nat):Int)=(((List.length c.2.1):Nat):Int))))) then
  some (true,(false,((0:Int),((0:Int),[]))))
 else
  (bif (Su.qJ [(s.2.1,(s.2.2.1,s.2.2.2.1))]).1 then
  some (true,(false,((0:Int),((0:Int),[]))))
 else
  (itP fu (ZB) (c.1,(c.2.1,(c.2.2.1,(c.2.2.2.1,(c.2.2.2.2.1,(c.2.2.2.2.2.1,(c.2.2.2.2.2.2,(s.2.2.2.2,((((List.length s.2.2.2.2):Nat):Int),((0:Int),([],(false,(false,((0:Int),((0:Int),(0,([],(false,((Su.qJ [(s.2.1,(s.2.2.1,s.2.2.2.1))]).1,((Su.qJ [(s.2.1,(s.2.2.1,s.2.2.2.1))]).2.1,((Su.qJ [(s.2.1,(s.2.2.1,s.2.2.2.1))]).2.2,(0,()))))))))))))))))))))))).bind fun x3 =>
  (match x3 with
 | .exit i4 p5=>(bif (Nat.beq i4 0) then
  ((Su.sub p5.2.2.2.2.2.2.2.2.2.2.2.2.2.2.2.2.1 0 p5.2.2.2.2.2.2.2.2.2.2.2.2.2.2.2.2.2.2.2.2.2.1)).bind fun x6 =>
  (bif (!p5.2.2.2.2.2.2.2.2.2.2.2.2.2.2.2.2.2.1) then
  (((((Su.unR (Su.rCe) x6)).bind fun x7 =>
  some ((Su.ye (p5.2.2.2.2.2.2.2.2.2.2.2.2.2.2.2.2.2.2.1,(p5.2.2.2.2.2.2.2.2.2.2.2.2.2.2.2.2.2.2.2.1,p5.2.2.2.2.2.2.2.2.2.2.2.2.2.2.2.2.2.2.2.2.1)) (Su.yf 1 1)).2.2,x7)).bind fun x8 =>
  some ((Su.ye (p5.2.2.2.2.2.2.2.2.2.2.2.2.2.2.2.2.2.2.1,(p5.2.2.2.2.2.2.2.2.2.2.2.2.2.2.2.2.2.2.2.1,p5.2.2.2.2.2.2.2.2.2.2.2.2.2.2.2.2.2.2.2.2.1)) (Su.yf 1 1)).2.1,x8)).bind fun x9 =>
  some ((Su.ye (p5.2.2.2.2.2.2.2.2.2.2.2.2.2.2.2.2.2.2.1,(p5.2.2.2.2.2.2.2.2.2.2.2.2.2.2.2.2.2.2.2.1,p5.2.2.2.2.2.2.2.2.2.2.2.2.2.2.2.2.2.2.2.2.1)) (Su.yf 1 1)).1,x9)).bind fun x10 =>
  some (p5.2.2.2.2.2.2.2.2.2.2.2.2.2.2.2.2.2.1,x10)
 else
  (((((Su.unR (Su.rCe) x6)).bind fun x11 =>
  some (p5.2.2.2.2.2.2.2.2.2.2.2.2.2.2.2.2.2.2.2.2.1,x11)).bind fun x12 =>
  some (p5.2.2.2.2.2.2.2.2.2.2.2.2.2.2.2.2.2.2.2.1,x12)).bind fun x13 =>
  some (p5.2.2.2.2.2.2.2.2.2.2.2.2.2.2.2.2.2.2.1,x13)).bind fun x14 =>
  some (p5.2.2.2.2.2.2.2.2.2.2.2.2.2.2.2.2.2.1,x14))
 else
  none)
 | .ret o15=>some o15))))
def vCe (x:Su.Ce):T:=view 14 x
theorem qzO (P:List Su.Ce):unR rCe (P.map vCe)=some P:=qoz rCe P
def jw:StD:=(true,(false,(0,(0,[]))))
def stK (s:StD):Iv:=(s.2.1,(s.2.2.1,s.2.2.2.1))
def jo (C:List Su.Cc) (X:List Su.Ce) (f:Nat→Su.Cc→Su.Ce→Su.Ce) (i:Nat):Option Su.Ce :=
 match C[i]?,X[i]? with
 | some d,some x=>bif jj (qw (f i d x) d.type) d.type then none else some (qw (f i d x) d.type)
 | _,_=>none
def mkS (K:Iv) (X:List Su.Ce):StD:=(false,(K.1,(K.2.1,(K.2.2,X))))
def qO (c:CoD) (s:StD) (f:Nat→Su.Cc→Su.Ce→Su.Ce):StD :=
 bif s.1 then jw else bif !decide (s.2.2.2.2.length=c.2.1.length) then jw else bif (qJ [stK s]).1 then jw else
 qi9 jw (mkS (qJ [stK s])) (qX (jo c.2.1 s.2.2.2.2 f) c.2.1.length)
def smS (s:StD):Bool:=Nat.ble s.2.2.2.2.length 1000000&&s.2.2.2.2.all fun x=>Nat.ble x.fm.2.2.1.length 1000000
def qdm (x:Su.Ce) (k:Ckp):Su.Ce:=⟨x.f,x.t,x.i,k.1,k.2,x.s,x.sl,x.fm⟩
def ZC (c:CoD) (s:StD):StD:=let t:=qO c s fun _ _ x=>qdm x (js (x.d,x.p));bif t.1 then t else mkS (ye (stK t) (yf 1 1)) t.2.2.2.2
abbrev TkS:=Int×(List Su.Cc×(List Su.T×(List Su.T×(List Su.T×(List Su.T×(Int×(List Su.Ce×(Int×(Int×(List Su.T×(Bool×(Bool×(Int×(Int×(Nat×(List Su.T×(Bool×(Bool×(Int×(Int×(Nat×Unit)))))))))))))))))))))
def YZ (c:CoD) (s:StD) (K:Iv) (i:Int) (P:List Su.Ce):TkS :=
 (c.1,(c.2.1,(c.2.2.1,(c.2.2.2.1,(c.2.2.2.2.1,(c.2.2.2.2.2.1,(c.2.2.2.2.2.2,(s.2.2.2.2,(((s.2.2.2.2.length:Nat):Int),(i,([],(false,(false,(0,(0,(0,(P.map vCe,(false,(K.1,(K.2.1,(K.2.2,(P.length,()))))))))))))))))))))))
def qeM (p:CoD×StD):Option StD:=bif smS p.2 then some (ZC p.1 p.2) else none
theorem JC {s:StD} (h:smS s=true):s.2.2.2.2.length≤1000000:=by
 unfold smS at h
 rw [Bool.and_eq_true] at h
 exact Nat.le_of_ble_eq_true h.1
theorem YO (P:List Su.Ce) (x:Su.Ce):P.map vCe++[view 14 x]=(P++[x]).map vCe:=by rw [List.map_append];rfl
theorem qcn (P:List Su.Ce):sub (P.map vCe) 0 P.length=some (P.map vCe):=by
 unfold sub
 rw [show Nat.ble (0+P.length) (P.map vCe).length=true from Nat.ble_eq_true_of_le (by simp),cond_true,List.drop_zero]
 congr 1
 exact List.take_of_length_le (by simp)
theorem qFk (c:CoD) (s:StD) (K:Iv) (hl:s.2.2.2.2.length=c.2.1.length) (hs:s.2.2.2.2.length≤1000000) :
 jU (c.2.1.length+1) ZB (YZ c s K ((0:Nat):Int) []) (qi9 (.ret jw) (fun P=>.exit 0 (YZ c s K (c.2.1.length:Int) P)) (qX (jo c.2.1 s.2.2.2.2 fun _ _ x=>qdm x (js (x.d,x.p))) c.2.1.length)):=by
 refine Jk (mk:=fun i P=>YZ c s K (i:Int) P) ?_ ?_ ?_
 · intro i P x hi hP ho
   have i1:i<s.2.2.2.2.length:=by omega
   unfold jo at ho
   rw [List.getElem?_eq_getElem hi,List.getElem?_eq_getElem i1] at ho
   simp only [] at ho
   unfold YZ
   have hb:Nat.ble (P.length+1) 549755813888=true:=Nat.ble_eq_true_of_le (by omega)
   simp only [ZB,ltN,decide_eq_true i1,cond_true,ixl i1,ixl hi,Option.bind_some]
   generalize c.2.1[i]=d at *
   generalize s.2.2.2.2[i]=x0 at *
   cases hn:jj (qw (qdm x0 (js (x0.d,x0.p))) d.type) d.type with
   | true=>rw [hn] at ho;cases ho
   | false =>
    rw [hn] at ho
    have:=soi ho;subst this
    unfold qdm at hn ⊢
    rw [hn]
    simp only [cond_false,List.length_map,List.length_cons,List.length_nil,Nat.zero_add,qlp,hb,Bool.and_self,cond_true,YO,w1 i1 (by rw [qK];omega)]
 · intro i P hi hP ho
   have i1:i<s.2.2.2.2.length:=by omega
   unfold jo at ho
   rw [List.getElem?_eq_getElem hi,List.getElem?_eq_getElem i1] at ho
   simp only [] at ho
   unfold YZ
   simp only [ZB,ltN,decide_eq_true i1,cond_true,ixl i1,ixl hi,Option.bind_some]
   generalize c.2.1[i]=d at *
   generalize s.2.2.2.2[i]=x0 at *
   cases hn:jj (qw (qdm x0 (js (x0.d,x0.p))) d.type) d.type with
   | false=>rw [hn] at ho;cases ho
   | true =>
    unfold qdm at hn
    rw [hn];rfl
 · intro P hP
   unfold YZ
   simp only [ZB,ltN,hl,decide_eq_false (Nat.lt_irrefl _),cond_false]
theorem qz {α:Type} {b:Bool} {x y:α} (h:b=false):(bif b then x else y)=y:=by rw [h];rfl
theorem qE {α:Type} {b:Bool} {x y:α} (h:b=true):(bif b then x else y)=x:=by rw [h];rfl
theorem j8 {c:CoD} {s:StD} (f:Nat→Su.Cc→Su.Ce→Su.Ce) (hd:s.1=false) (hl:s.2.2.2.2.length=c.2.1.length) (hK:(qJ [stK s]).1=false):qO c s f=qi9 jw (mkS (qJ [stK s])) (qX (jo c.2.1 s.2.2.2.2 f) c.2.1.length):=by
 unfold qO;rw [qz hd,qz (by rw [decide_eq_true hl];rfl),qz hK]
theorem lnE (a b:Nat):(!decide ((a:Int)=(b:Int))) = !decide (a=b):=by rw [JL]
theorem qu6 (P:List Su.Ce) (K:Iv) (e:Bool):((((unR rCe (P.map vCe)).bind fun x=>some (K.2.2,x)).bind fun x=>some (K.2.1,x)).bind fun x=>some (K.1,x)).bind (fun x=>some (e,x))=some (e,(K.1,(K.2.1,(K.2.2,P)))):=by rw [qzO];rfl
theorem qu7 (p:CoD×StD) (y:StD) (hg:(dc cCo (d1 cSt)).good p) (h:qeM p=some y):∃ n,qpd n p.1 p.2=some y:=by
 obtain ⟨c,s⟩:=p
 obtain ⟨hm,h⟩:=qj h
 have:=soi h;subst this
 have hm:smS s=true:=hm
 refine ⟨c.2.1.length+1,?_⟩
 show qpd (c.2.1.length+1) c s=some (ZC c s)
 unfold qpd ZC
 rcases Bool.eq_false_or_eq_true s.1 with hd | hd
 · rw [show qO c s _=jw from qE hd];exact qE hd
 · refine (qz hd).trans ?_
   by_cases hl:s.2.2.2.2.length=c.2.1.length
   · refine (qz (by rw [lnE,decide_eq_true hl];rfl)).trans ?_
     rcases Bool.eq_false_or_eq_true (qJ [stK s]).1 with hK | hK
     · rw [show qO c s _=jw from (qz hd).trans ((qz (by rw [decide_eq_true hl];rfl)).trans (qE hK))]
       exact qE hK
     · refine (qz hK).trans ?_
       rw [j8 _ hd hl hK]
       have hr:=qFk c s (qJ [stK s]) hl (JC hm) _ (Nat.le_refl _)
       refine obB hr ?_
       cases hb:qX (jo c.2.1 s.2.2.2.2 fun _ _ x=>qdm x (js (x.d,x.p))) c.2.1.length with
       | none=>rfl
       | some P=>exact obB (qcn P) (qu6 P (ye (qJ [stK s]) (yf 1 1)) false)
   · rw [show qO c s _=jw from (qz hd).trans (qE (by rw [decide_eq_false hl];rfl))]
     exact qE (by rw [lnE,decide_eq_false hl];rfl)
end
end Su
end
section
namespace Su
open Go Fly
set_option linter.unusedVariables false
noncomputable section
abbrev qdn:=(Int×((List Su.Cc)×((List Su.T)×((List Su.T)×((List Su.T)×((List Su.T)×(Int×(Bool×(Bool×(Int×(Int×((List Su.Ce)×(Int×((List Su.Cc)×((List Su.T)×((List Su.T)×((List Su.T)×((List Su.T)×(Int×((List Su.Ce)×(Int×(Int×((List Su.T)×(Bool×(Bool×(Int×(Int×(Nat×((List Su.T)×(Bool×(Bool×(Int×(Int×(Nat×Unit))))))))))))))))))))))))))))))))))
def qco:qdn→Option (qdn ⊕ (Lp qdn (Bool×(Bool×(Int×(Int×(List Su.Ce))))))):=fun p0=>(bif (decide ((p0.2.2.2.2.2.2.2.2.2.2.2.2.2.2.2.2.2.2.2.2.2.1<p0.2.2.2.2.2.2.2.2.2.2.2.2.2.2.2.2.2.2.2.2.1))) then
 ((Su.idx p0.2.2.2.2.2.2.2.2.2.2.2.2.2.2.2.2.2.2.2.1 p0.2.2.2.2.2.2.2.2.2.2.2.2.2.2.2.2.2.2.2.2.2.1)).bind fun x1 =>
 ((Su.idx p0.2.2.2.2.2.2.2.2.2.2.2.2.2.1 p0.2.2.2.2.2.2.2.2.2.2.2.2.2.2.2.2.2.2.2.2.2.1)).bind fun x2 =>
 ((Su.idx p0.2.1 p0.2.2.2.2.2.2.2.2.2.2.2.2.2.2.2.2.2.2.2.2.2.1)).bind fun x3 =>
 (bif (!(Su.Cc.input x3)) then
 (bif (Su.jj (Su.qw x1 (Su.Cc.type x2)) (Su.Cc.type x2)) then
 some (.inr (.ret (true,(false,((0:Int),((0:Int),[]))))))
 else
  (bif ((true&&(Nat.beq p0.2.2.2.2.2.2.2.2.2.2.2.2.2.2.2.2.2.2.2.2.2.2.2.2.2.2.2.2.2.2.2.2.2.1 (List.length p0.2.2.2.2.2.2.2.2.2.2.2.2.2.2.2.2.2.2.2.2.2.2.2.2.2.2.2.2.1)))&&(Nat.ble ((List.length p0.2.2.2.2.2.2.2.2.2.2.2.2.2.2.2.2.2.2.2.2.2.2.2.2.2.2.2.2.1)+(List.length [(Su.view 14 (Su.qw x1 (Su.Cc.type x2)))])) 549755813888)) then
  some (.inl (p0.1,(p0.2.1,(p0.2.2.1,(p0.2.2.2.1,(p0.2.2.2.2.1,(p0.2.2.2.2.2.1,(p0.2.2.2.2.2.2.1,(p0.2.2.2.2.2.2.2.1,(p0.2.2.2.2.2.2.2.2.1,(p0.2.2.2.2.2.2.2.2.2.1,(p0.2.2.2.2.2.2.2.2.2.2.1,(p0.2.2.2.2.2.2.2.2.2.2.2.1,(p0.2.2.2.2.2.2.2.2.2.2.2.2.1,(p0.2.2.2.2.2.2.2.2.2.2.2.2.2.1,(p0.2.2.2.2.2.2.2.2.2.2.2.2.2.2.1,(p0.2.2.2.2.2.2.2.2.2.2.2.2.2.2.2.1,(p0.2.2.2.2.2.2.2.2.2.2.2.2.2.2.2.2.1,(p0.2.2.2.2.2.2.2.2.2.2.2.2.2.2.2.2.2.1,(p0.2.2.2.2.2.2.2.2.2.2.2.2.2.2.2.2.2.2.1,(p0.2.2.2.2.2.2.2.2.2.2.2.2.2.2.2.2.2.2.2.1,(p0.2.2.2.2.2.2.2.2.2.2.2.2.2.2.2.2.2.2.2.2.1,((Go.IntKind.wrap .i64 (p0.2.2.2.2.2.2.2.2.2.2.2.2.2.2.2.2.2.2.2.2.2.1+1)),(p0.2.2.2.2.2.2.2.2.2.2.2.2.2.2.2.2.2.2.2.2.2.2.1,(p0.2.2.2.2.2.2.2.2.2.2.2.2.2.2.2.2.2.2.2.2.2.2.2.1,(p0.2.2.2.2.2.2.2.2.2.2.2.2.2.2.2.2.2.2.2.2.2.2.2.2.1,(p0.2.2.2.2.2.2.2.2.2.2.2.2.2.2.2.2.2.2.2.2.2.2.2.2.2.1,(p0.2.2.2.2.2.2.2.2.2.2.2.2.2.2.2.2.2.2.2.2.2.2.2.2.2.2.1,(p0.2.2.2.2.2.2.2.2.2.2.2.2.2.2.2.2.2.2.2.2.2.2.2.2.2.2.2.1,((p0.2.2.2.2.2.2.2.2.2.2.2.2.2.2.2.2.2.2.2.2.2.2.2.2.2.2.2.2.1++[(Su.view 14 (Su.qw x1 (Su.Cc.type x2)))]),(p0.2.2.2.2.2.2.2.2.2.2.2.2.2.2.2.2.2.2.2.2.2.2.2.2.2.2.2.2.2.1,(p0.2.2.2.2.2.2.2.2.2.2.2.2.2.2.2.2.2.2.2.2.2.2.2.2.2.2.2.2.2.2.1,(p0.2.2.2.2.2.2.2.2.2.2.2.2.2.2.2.2.2.2.2.2.2.2.2.2.2.2.2.2.2.2.2.1,(p0.2.2.2.2.2.2.2.2.2.2.2.2.2.2.2.2.2.2.2.2.2.2.2.2.2.2.2.2.2.2.2.2.1,((List.length (p0.2.2.2.2.2.2.2.2.2.2.2.2.2.2.2.2.2.2.2.2.2.2.2.2.2.2.2.2.1++[(Su.view 14 (Su.qw x1 (Su.Cc.type x2)))])),())))))))))))))))))))))))))))))))))))
 else
  none))
 else
  (bif (Su.jj (Su.qw (Su.Ce.mk true true (Su.yf (Go.IntKind.wrap .i64 (Su.Cc.fr x3)) (Go.IntKind.wrap .i64 (Su.Cc.to x3))) (Su.yy (Su.yf (Go.IntKind.wrap .i64 (Su.Cc.fr x3)) (Go.IntKind.wrap .i64 (Su.Cc.to x3))) (p0.2.2.2.2.2.2.2.2.1,(p0.2.2.2.2.2.2.2.2.2.1,p0.2.2.2.2.2.2.2.2.2.2.1))).1 (Su.yy (Su.yf (Go.IntKind.wrap .i64 (Su.Cc.fr x3)) (Go.IntKind.wrap .i64 (Su.Cc.to x3))) (p0.2.2.2.2.2.2.2.2.1,(p0.2.2.2.2.2.2.2.2.2.1,p0.2.2.2.2.2.2.2.2.2.2.1))).2 (Su.Qw (Su.Cc.lo x3) (Su.Cc.hi x3)) (0:Int) (true,((0:Int),([],(0:Int))))) (Su.Cc.type x2)) (Su.Cc.type x2)) then
  some (.inr (.ret (true,(false,((0:Int),((0:Int),[]))))))
 else
  (bif ((true&&(Nat.beq p0.2.2.2.2.2.2.2.2.2.2.2.2.2.2.2.2.2.2.2.2.2.2.2.2.2.2.2.2.2.2.2.2.2.1 (List.length p0.2.2.2.2.2.2.2.2.2.2.2.2.2.2.2.2.2.2.2.2.2.2.2.2.2.2.2.2.1)))&&(Nat.ble ((List.length p0.2.2.2.2.2.2.2.2.2.2.2.2.2.2.2.2.2.2.2.2.2.2.2.2.2.2.2.2.1)+(List.length [(Su.view 14 (Su.qw (Su.Ce.mk true true (Su.yf (Go.IntKind.wrap .i64 (Su.Cc.fr x3)) (Go.IntKind.wrap .i64 (Su.Cc.to x3))) (Su.yy (Su.yf (Go.IntKind.wrap .i64 (Su.Cc.fr x3)) (Go.IntKind.wrap .i64 (Su.Cc.to x3))) (p0.2.2.2.2.2.2.2.2.1,(p0.2.2.2.2.2.2.2.2.2.1,p0.2.2.2.2.2.2.2.2.2.2.1))).1 (Su.yy (Su.yf (Go.IntKind.wrap .i64 (Su.Cc.fr x3)) (Go.IntKind.wrap .i64 (Su.Cc.to x3))) (p0.2.2.2.2.2.2.2.2.1,(p0.2.2.2.2.2.2.2.2.2.1,p0.2.2.2.2.2.2.2.2.2.2.1))).2 (Su.Qw (Su.Cc.lo x3) (Su.Cc.hi x3)) (0:Int) (true,((0:Int),([],(0:Int))))) (Su.Cc.type x2)))])) 549755813888)) then
  some (.inl (p0.1,(p0.2.1,(p0.2.2.1,(p0.2.2.2.1,(p0.2.2.2.2.1,(p0.2.2.2.2.2.1,(p0.2.2.2.2.2.2.1,(p0.2.2.2.2.2.2.2.1,(p0.2.2.2.2.2.2.2.2.1,(p0.2.2.2.2.2.2.2.2.2.1,(p0.2.2.2.2.2.2.2.2.2.2.1,(p0.2.2.2.2.2.2.2.2.2.2.2.1,(p0.2.2.2.2.2.2.2.2.2.2.2.2.1,(p0.2.2.2.2.2.2.2.2.2.2.2.2.2.1,(p0.2.2.2.2.2.2.2.2.2.2.2.2.2.2.1,(p0.2.2.2.2.2.2.2.2.2.2.2.2.2.2.2.1,(p0.2.2.2.2.2.2.2.2.2.2.2.2.2.2.2.2.1,(p0.2.2.2.2.2.2.2.2.2.2.2.2.2.2.2.2.2.1,(p0.2.2.2.2.2.2.2.2.2.2.2.2.2.2.2.2.2.2.1,(p0.2.2.2.2.2.2.2.2.2.2.2.2.2.2.2.2.2.2.2.1,(p0.2.2.2.2.2.2.2.2.2.2.2.2.2.2.2.2.2.2.2.2.1,((Go.IntKind.wrap .i64 (p0.2.2.2.2.2.2.2.2.2.2.2.2.2.2.2.2.2.2.2.2.2.1+1)),(p0.2.2.2.2.2.2.2.2.2.2.2.2.2.2.2.2.2.2.2.2.2.2.1,(p0.2.2.2.2.2.2.2.2.2.2.2.2.2.2.2.2.2.2.2.2.2.2.2.1,(p0.2.2.2.2.2.2.2.2.2.2.2.2.2.2.2.2.2.2.2.2.2.2.2.2.1,(p0.2.2.2.2.2.2.2.2.2.2.2.2.2.2.2.2.2.2.2.2.2.2.2.2.2.1,(p0.2.2.2.2.2.2.2.2.2.2.2.2.2.2.2.2.2.2.2.2.2.2.2.2.2.2.1,(p0.2.2.2.2.2.2.2.2.2.2.2.2.2.2.2.2.2.2.2.2.2.2.2.2.2.2.2.1,((p0.2.2.2.2.2.2.2.2.2.2.2.2.2.2.2.2.2.2.2.2.2.2.2.2.2.2.2.2.1++[(Su.view 14 (Su.qw (Su.Ce.mk true true (Su.yf (Go.IntKind.wrap .i64 (Su.Cc.fr x3)) (Go.IntKind.wrap .i64 (Su.Cc.to x3))) (Su.yy (Su.yf (Go.IntKind.wrap .i64 (Su.Cc.fr x3)) (Go.IntKind.wrap .i64 (Su.Cc.to x3))) (p0.2.2.2.2.2.2.2.2.1,(p0.2.2.2.2.2.2.2.2.2.1,p0.2.2.2.2.2.2.2.2.2.2.1))).1 (Su.yy (Su.yf (Go.IntKind.wrap .i64 (Su.Cc.fr x3)) (Go.IntKind.wrap .i64 (Su.Cc.to x3))) (p0.2.2.2.2.2.2.2.2.1,(p0.2.2.2.2.2.2.2.2.2.1,p0.2.2.2.2.2.2.2.2.2.2.1))).2 (Su.Qw (Su.Cc.lo x3) (Su.Cc.hi x3)) (0:Int) (true,((0:Int),([],(0:Int))))) (Su.Cc.type x2)))]),(p0.2.2.2.2.2.2.2.2.2.2.2.2.2.2.2.2.2.2.2.2.2.2.2.2.2.2.2.2.2.1,(p0.2.2.2.2.2.2.2.2.2.2.2.2.2.2.2.2.2.2.2.2.2.2.2.2.2.2.2.2.2.2.1,(p0.2.2.2.2.2.2.2.2.2.2.2.2.2.2.2.2.2.2.2.2.2.2.2.2.2.2.2.2.2.2.2.1,(p0.2.2.2.2.2.2.2.2.2.2.2.2.2.2.2.2.2.2.2.2.2.2.2.2.2.2.2.2.2.2.2.2.1,((List.length (p0.2.2.2.2.2.2.2.2.2.2.2.2.2.2.2.2.2.2.2.2.2.2.2.2.2.2.2.2.1++[(Su.view 14 (Su.qw (Su.Ce.mk true true (Su.yf (Go.IntKind.wrap .i64 (Su.Cc.fr x3)) (Go.IntKind.wrap .i64 (Su.Cc.to x3))) (Su.yy (Su.yf (Go.IntKind.wrap .i64 (Su.Cc.fr x3)) (Go.IntKind.wrap .i64 (Su.Cc.to x3))) (p0.2.2.2.2.2.2.2.2.1,(p0.2.2.2.2.2.2.2.2.2.1,p0.2.2.2.2.2.2.2.2.2.2.1))).1 (Su.yy (Su.yf (Go.IntKind.wrap .i64 (Su.Cc.fr x3)) (Go.IntKind.wrap .i64 (Su.Cc.to x3))) (p0.2.2.2.2.2.2.2.2.1,(p0.2.2.2.2.2.2.2.2.2.1,p0.2.2.2.2.2.2.2.2.2.2.1))).2 (Su.Qw (Su.Cc.lo x3) (Su.Cc.hi x3)) (0:Int) (true,((0:Int),([],(0:Int))))) (Su.Cc.type x2)))])),())))))))))))))))))))))))))))))))))))
 else
  none)))
 else
  some (.inr (.exit 0 (p0.1,(p0.2.1,(p0.2.2.1,(p0.2.2.2.1,(p0.2.2.2.2.1,(p0.2.2.2.2.2.1,(p0.2.2.2.2.2.2.1,(p0.2.2.2.2.2.2.2.1,(p0.2.2.2.2.2.2.2.2.1,(p0.2.2.2.2.2.2.2.2.2.1,(p0.2.2.2.2.2.2.2.2.2.2.1,(p0.2.2.2.2.2.2.2.2.2.2.2.1,(p0.2.2.2.2.2.2.2.2.2.2.2.2.1,(p0.2.2.2.2.2.2.2.2.2.2.2.2.2.1,(p0.2.2.2.2.2.2.2.2.2.2.2.2.2.2.1,(p0.2.2.2.2.2.2.2.2.2.2.2.2.2.2.2.1,(p0.2.2.2.2.2.2.2.2.2.2.2.2.2.2.2.2.1,(p0.2.2.2.2.2.2.2.2.2.2.2.2.2.2.2.2.2.1,(p0.2.2.2.2.2.2.2.2.2.2.2.2.2.2.2.2.2.2.1,(p0.2.2.2.2.2.2.2.2.2.2.2.2.2.2.2.2.2.2.2.1,(p0.2.2.2.2.2.2.2.2.2.2.2.2.2.2.2.2.2.2.2.2.1,(p0.2.2.2.2.2.2.2.2.2.2.2.2.2.2.2.2.2.2.2.2.2.1,(p0.2.2.2.2.2.2.2.2.2.2.2.2.2.2.2.2.2.2.2.2.2.2.1,(p0.2.2.2.2.2.2.2.2.2.2.2.2.2.2.2.2.2.2.2.2.2.2.2.1,(p0.2.2.2.2.2.2.2.2.2.2.2.2.2.2.2.2.2.2.2.2.2.2.2.2.1,(p0.2.2.2.2.2.2.2.2.2.2.2.2.2.2.2.2.2.2.2.2.2.2.2.2.2.1,(p0.2.2.2.2.2.2.2.2.2.2.2.2.2.2.2.2.2.2.2.2.2.2.2.2.2.2.1,(p0.2.2.2.2.2.2.2.2.2.2.2.2.2.2.2.2.2.2.2.2.2.2.2.2.2.2.2.1,(p0.2.2.2.2.2.2.2.2.2.2.2.2.2.2.2.2.2.2.2.2.2.2.2.2.2.2.2.2.1,(p0.2.2.2.2.2.2.2.2.2.2.2.2.2.2.2.2.2.2.2.2.2.2.2.2.2.2.2.2.2.1,(p0.2.2.2.2.2.2.2.2.2.2.2.2.2.2.2.2.2.2.2.2.2.2.2.2.2.2.2.2.2.2.1,(p0.2.2.2.2.2.2.2.2.2.2.2.2.2.2.2.2.2.2.2.2.2.2.2.2.2.2.2.2.2.2.2.1,(p0.2.2.2.2.2.2.2.2.2.2.2.2.2.2.2.2.2.2.2.2.2.2.2.2.2.2.2.2.2.2.2.2.1,(p0.2.2.2.2.2.2.2.2.2.2.2.2.2.2.2.2.2.2.2.2.2.2.2.2.2.2.2.2.2.2.2.2.2.1,())))))))))))))))))))))))))))))))))))))
def qzP  (fu:Nat) (c:(Int×((List Su.Cc)×((List Su.T)×((List Su.T)×((List Su.T)×((List Su.T)×Int))))))) (s:(Bool×(Bool×(Int×(Int×(List Su.Ce)))))):Option (Bool×(Bool×(Int×(Int×(List Su.Ce))))) :=
 (bif s.1 then
 some (true,(false,((0:Int),((0:Int),[]))))
 else
  (bif (!(decide (((((List.length s.2.2.2.2):Nat):Int)=(((List.length c.2.1):Nat):Int))))) then
  some (true,(false,((0:Int),((0:Int),[]))))
 else
  (bif (Su.qJ [(s.2.1,(s.2.2.1,s.2.2.2.1))]).1 then
  some (true,(false,((0:Int),((0:Int),[]))))
 else
  (itP fu (qco) (c.1,(c.2.1,(c.2.2.1,(c.2.2.2.1,(c.2.2.2.2.1,(c.2.2.2.2.2.1,(c.2.2.2.2.2.2,(s.1,(s.2.1,(s.2.2.1,(s.2.2.2.1,(s.2.2.2.2,(c.1,(c.2.1,(c.2.2.1,(c.2.2.2.1,(c.2.2.2.2.1,(c.2.2.2.2.2.1,(c.2.2.2.2.2.2,(s.2.2.2.2,((((List.length s.2.2.2.2):Nat):Int),((0:Int),([],(false,(false,((0:Int),((0:Int),(0,([],(false,((Su.qJ [(s.2.1,(s.2.2.1,s.2.2.2.1))]).1,((Su.qJ [(s.2.1,(s.2.2.1,s.2.2.2.1))]).2.1,((Su.qJ [(s.2.1,(s.2.2.1,s.2.2.2.1))]).2.2,(0,()))))))))))))))))))))))))))))))))))).bind fun x4 =>
  (match x4 with
 | .exit i5 p6=>(bif (Nat.beq i5 0) then
  ((Su.sub p6.2.2.2.2.2.2.2.2.2.2.2.2.2.2.2.2.2.2.2.2.2.2.2.2.2.2.2.2.1 0 p6.2.2.2.2.2.2.2.2.2.2.2.2.2.2.2.2.2.2.2.2.2.2.2.2.2.2.2.2.2.2.2.2.2.1)).bind fun x7 =>
  (((((Su.unR (Su.rCe) x7)).bind fun x8 =>
  some (p6.2.2.2.2.2.2.2.2.2.2.2.2.2.2.2.2.2.2.2.2.2.2.2.2.2.2.2.2.2.2.2.2.1,x8)).bind fun x9 =>
  some (p6.2.2.2.2.2.2.2.2.2.2.2.2.2.2.2.2.2.2.2.2.2.2.2.2.2.2.2.2.2.2.2.1,x9)).bind fun x10 =>
  some (p6.2.2.2.2.2.2.2.2.2.2.2.2.2.2.2.2.2.2.2.2.2.2.2.2.2.2.2.2.2.2.1,x10)).bind fun x11 =>
  some (p6.2.2.2.2.2.2.2.2.2.2.2.2.2.2.2.2.2.2.2.2.2.2.2.2.2.2.2.2.2.1,x11)
 else
  none)
 | .ret o12=>some o12))))
abbrev CapS:=Int×(List Su.Cc×(List Su.T×(List Su.T×(List Su.T×(List Su.T×(Int×(Bool×(Bool×(Int×(Int×(List Su.Ce×(Int×(List Su.Cc×(List Su.T×(List Su.T×(List Su.T×(List Su.T×(Int×(List Su.Ce×(Int×(Int×(List Su.T×(Bool×(Bool×(Int×(Int×(Nat×(List Su.T×(Bool×(Bool×(Int×(Int×(Nat×Unit)))))))))))))))))))))))))))))))))
def qej (c:CoD) (s:StD) (K:Iv) (i:Int) (P:List Su.Ce):CapS :=
 (c.1,(c.2.1,(c.2.2.1,(c.2.2.2.1,(c.2.2.2.2.1,(c.2.2.2.2.2.1,(c.2.2.2.2.2.2,(s.1,(s.2.1,(s.2.2.1,(s.2.2.2.1,(s.2.2.2.2,(c.1,(c.2.1,(c.2.2.1,(c.2.2.2.1,(c.2.2.2.2.1,(c.2.2.2.2.2.1,(c.2.2.2.2.2.2,(s.2.2.2.2,(((s.2.2.2.2.length:Nat):Int),(i,([],(false,(false,(0,(0,(0,(P.map vCe,(false,(K.1,(K.2.1,(K.2.2,(P.length,()))))))))))))))))))))))))))))))))))
def Jl (d:Su.Cc):Iv:=yf (IntKind.i64.wrap d.fr) (IntKind.i64.wrap d.to)
def qf6 (s:StD) (_:Nat) (d:Su.Cc) (x:Su.Ce):Su.Ce :=
 bif !d.input then x else ⟨true,true,Jl d,(yy (Jl d) (stK s)).1,(yy (Jl d) (stK s)).2,Qw d.lo d.hi,0,(true,(0,([],0)))⟩
theorem qzQ (c:CoD) (s:StD) (K:Iv) (hl:s.2.2.2.2.length=c.2.1.length) (hs:s.2.2.2.2.length≤1000000) :
 jU (c.2.1.length+1) qco (qej c s K ((0:Nat):Int) []) (qi9 (.ret jw) (fun P=>.exit 0 (qej c s K (c.2.1.length:Int) P)) (qX (jo c.2.1 s.2.2.2.2 (qf6 s)) c.2.1.length)):=by
 have hmx:s.2.2.2.2.length≤maxLen:=by rw [qK];omega
 refine Jk (mk:=fun i P=>qej c s K (i:Int) P) ?_ ?_ ?_
 · intro i P x hi hP ho
   have i1:i<s.2.2.2.2.length:=by omega
   unfold jo at ho
   rw [List.getElem?_eq_getElem hi,List.getElem?_eq_getElem i1] at ho
   simp only [] at ho
   have hb:Nat.ble (P.length+1) 549755813888=true:=Nat.ble_eq_true_of_le (by omega)
   unfold qej
   simp only [qco,ltN,decide_eq_true i1,cond_true,ixl i1,ixl hi,Option.bind_some]
   generalize c.2.1[i]=d at *
   generalize s.2.2.2.2[i]=x0 at *
   cases e1:d.input with
   | false =>
    have hf:(qf6 s) i d x0=x0:=by unfold qf6;rw [e1];rfl
    rw [hf] at ho
    refine (qE rfl).trans ?_
    rcases Bool.eq_false_or_eq_true (jj (qw (x0) d.type) d.type) with hn | hn
    · exact absurd ((qE hn).symm.trans ho) (by simp)
    · have:=soi ((qz hn).symm.trans ho);subst this
      refine (qz hn).trans ?_
      simp only [List.length_map,List.length_cons,List.length_nil,Nat.zero_add,qlp,hb,Bool.and_self,cond_true,YO,w1 i1 hmx]
      all_goals rfl
   | true =>
    have hf:(qf6 s) i d x0=⟨true,true,Jl d,(yy (Jl d) (stK s)).1,(yy (Jl d) (stK s)).2,Qw d.lo d.hi,0,(true,(0,([],0)))⟩:=by unfold qf6;rw [e1];rfl
    rw [hf] at ho
    refine (qz rfl).trans ?_
    rcases Bool.eq_false_or_eq_true (jj (qw (⟨true,true,Jl d,(yy (Jl d) (stK s)).1,(yy (Jl d) (stK s)).2,Qw d.lo d.hi,0,(true,(0,([],0)))⟩) d.type) d.type) with hn | hn
    · exact absurd ((qE hn).symm.trans ho) (by simp)
    · have:=soi ((qz hn).symm.trans ho);subst this
      refine (qz hn).trans ?_
      simp only [List.length_map,List.length_cons,List.length_nil,Nat.zero_add,qlp,hb,Bool.and_self,cond_true,YO,w1 i1 hmx]
      all_goals rfl
 · intro i P hi hP ho
   have i1:i<s.2.2.2.2.length:=by omega
   unfold jo at ho
   rw [List.getElem?_eq_getElem hi,List.getElem?_eq_getElem i1] at ho
   simp only [] at ho
   have hb:Nat.ble (P.length+1) 549755813888=true:=Nat.ble_eq_true_of_le (by omega)
   unfold qej
   simp only [qco,ltN,decide_eq_true i1,cond_true,ixl i1,ixl hi,Option.bind_some]
   generalize c.2.1[i]=d at *
   generalize s.2.2.2.2[i]=x0 at *
   cases e1:d.input with
   | false =>
    have hf:(qf6 s) i d x0=x0:=by unfold qf6;rw [e1];rfl
    rw [hf] at ho
    refine (qE rfl).trans ?_
    rcases Bool.eq_false_or_eq_true (jj (qw (x0) d.type) d.type) with hn | hn
    · exact (qE hn).trans rfl
    · exact absurd ((qz hn).symm.trans ho) (by simp)
   | true =>
    have hf:(qf6 s) i d x0=⟨true,true,Jl d,(yy (Jl d) (stK s)).1,(yy (Jl d) (stK s)).2,Qw d.lo d.hi,0,(true,(0,([],0)))⟩:=by unfold qf6;rw [e1];rfl
    rw [hf] at ho
    refine (qz rfl).trans ?_
    rcases Bool.eq_false_or_eq_true (jj (qw (⟨true,true,Jl d,(yy (Jl d) (stK s)).1,(yy (Jl d) (stK s)).2,Qw d.lo d.hi,0,(true,(0,([],0)))⟩) d.type) d.type) with hn | hn
    · exact (qE hn).trans rfl
    · exact absurd ((qz hn).symm.trans ho) (by simp)
 · intro P hP
   unfold qej
   simp only [qco,ltN,hl,decide_eq_false (Nat.lt_irrefl _),cond_false]
def qFl (c:CoD) (s:StD):StD:=qO c s (qf6 s)
def qu8 (p:CoD×StD):Option StD:=bif smS p.2 then some (qFl p.1 p.2) else none
theorem qzR (p:CoD×StD) (y:StD) (hg:(dc cCo (d1 cSt)).good p) (h:qu8 p=some y):∃ n,qzP n p.1 p.2=some y:=by
 obtain ⟨c,s⟩:=p
 obtain ⟨hm,h⟩:=qj h
 have:=soi h;subst this
 have hm:smS s=true:=hm
 refine ⟨c.2.1.length+1,?_⟩
 show qzP (c.2.1.length+1) c s=some (qFl c s)
 unfold qzP qFl
 rcases Bool.eq_false_or_eq_true s.1 with hd | hd
 · rw [show qO c s _=jw from qE hd];exact qE hd
 · refine (qz hd).trans ?_
   by_cases hl:s.2.2.2.2.length=c.2.1.length
   · refine (qz (by rw [lnE,decide_eq_true hl];rfl)).trans ?_
     rcases Bool.eq_false_or_eq_true (qJ [stK s]).1 with hK | hK
     · rw [show qO c s _=jw from (qz hd).trans ((qz (by rw [decide_eq_true hl];rfl)).trans (qE hK))]
       exact qE hK
     · refine (qz hK).trans ?_
       rw [j8 _ hd hl hK]
       have hr:=qzQ c s (qJ [stK s]) hl (JC hm) _ (Nat.le_refl _)
       refine obB hr ?_
       cases hb:qX (jo c.2.1 s.2.2.2.2 (qf6 s)) c.2.1.length with
       | none=>rfl
       | some P=>exact obB (qcn P) (qu6 P (qJ [stK s]) false)
   · rw [show qO c s _=jw from (qz hd).trans (qE (by rw [decide_eq_false hl];rfl))]
     exact qE (by rw [lnE,decide_eq_false hl];rfl)
end
end Su
end
