/-
  What functions of the program compute, in plain Lean, and that the evaluator finds it.
-/
import Derived.Test.YtfckjjffdfkelaaGreatSuSd
import Derived.Test.YtfckjjffdfkelaaGreatNC24
import Derived.Test.YtfckjjffdfkelaaGreatNB10
set_option maxRecDepth 10000
section
namespace Su
open Go Fly
set_option linter.unusedVariables false
noncomputable section
def qBt  (lo:Int) (hi:Int):Option (Bool×(Int×Int)) :=
 some (Su.qr (false,(lo,hi)))
def zIn  (a:(Bool×(Int×Int))) (b:(Bool×(Int×Int))):Option Bool :=
 (bif (Su.qr a).1 then
 some true
 else
  (bif (!(Su.qr b).1) then
  (bif (Su.leF (Su.qr b).2.1 (Su.qr a).2.1) then
  some (Su.leF (Su.qr a).2.2 (Su.qr b).2.2)
 else
  some false)
 else
  some false))
def qDU  (s:(Bool×(Int×Int))) (f:Int):Option Bool :=
 (bif (!(decide (((((Su.qF (Su.bK (Int.toNat f))):Nat):Int)=3)))) then
 (bif (!(Su.qr (false,(f,f))).1) then
 (bif (Su.qr (Su.qr (false,(f,f)))).1 then
 some true
 else
  (bif (!(Su.qr s).1) then
  (bif (Su.leF (Su.qr s).2.1 (Su.qr (Su.qr (false,(f,f)))).2.1) then
  some (Su.leF (Su.qr (Su.qr (false,(f,f)))).2.2 (Su.qr s).2.2)
 else
  some false)
 else
  some false))
 else
  some false)
 else
  some false)
def qtZ  (a:(Bool×(Int×Int))) (b:(Bool×(Int×Int))):Option (Bool×(Int×Int)) :=
 (bif (Su.qr a).1 then
 some (true,((0:Int),(0:Int)))
 else
  (bif (Su.qr b).1 then
  some (true,((0:Int),(0:Int)))
 else
  some (Su.qr (false,((((Su.qj4 (Int.toNat (Su.qr a).2.1) (Int.toNat (Su.qr b).2.1)):Nat):Int),(((Su.ql1 (Int.toNat (Su.qr a).2.2) (Int.toNat (Su.qr b).2.2)):Nat):Int))))))
abbrev qaK:=((List (Bool×(Int×Int)))×(Int×(Int×(Bool×(Int×(Int×(Bool×(Int×(Int×Unit)))))))))
def qbN:qaK→Option (qaK ⊕ qaK):=fun p0=>(bif (decide ((p0.2.2.1<p0.2.1))) then
 ((Su.idx p0.1 p0.2.2.1)).bind fun x1 =>
 (bif (Su.qr x1).1 then
 some (.inl (p0.1,(p0.2.1,((Go.IntKind.wrap .i64 (p0.2.2.1+1)),(p0.2.2.2.1,(p0.2.2.2.2.1,(p0.2.2.2.2.2.1,(p0.2.2.2.2.2.2.1,(p0.2.2.2.2.2.2.2.1,(p0.2.2.2.2.2.2.2.2.1,()))))))))))
 else
  (bif p0.2.2.2.2.2.2.1 then
  some (.inl (p0.1,(p0.2.1,((Go.IntKind.wrap .i64 (p0.2.2.1+1)),(p0.2.2.2.1,(p0.2.2.2.2.1,(p0.2.2.2.2.2.1,((Su.qr x1).1,((Su.qr x1).2.1,((Su.qr x1).2.2,()))))))))))
 else
  some (.inl (p0.1,(p0.2.1,((Go.IntKind.wrap .i64 (p0.2.2.1+1)),(p0.2.2.2.1,(p0.2.2.2.2.1,(p0.2.2.2.2.2.1,((Su.qr (false,((((Su.ql1 (Int.toNat p0.2.2.2.2.2.2.2.1) (Int.toNat (Su.qr x1).2.1)):Nat):Int),(((Su.qj4 (Int.toNat p0.2.2.2.2.2.2.2.2.1) (Int.toNat (Su.qr x1).2.2)):Nat):Int)))).1,((Su.qr (false,((((Su.ql1 (Int.toNat p0.2.2.2.2.2.2.2.1) (Int.toNat (Su.qr x1).2.1)):Nat):Int),(((Su.qj4 (Int.toNat p0.2.2.2.2.2.2.2.2.1) (Int.toNat (Su.qr x1).2.2)):Nat):Int)))).2.1,((Su.qr (false,((((Su.ql1 (Int.toNat p0.2.2.2.2.2.2.2.1) (Int.toNat (Su.qr x1).2.1)):Nat):Int),(((Su.qj4 (Int.toNat p0.2.2.2.2.2.2.2.2.1) (Int.toNat (Su.qr x1).2.2)):Nat):Int)))).2.2,()))))))))))))
 else
  some (.inr (p0.1,(p0.2.1,(p0.2.2.1,(p0.2.2.2.1,(p0.2.2.2.2.1,(p0.2.2.2.2.2.1,(p0.2.2.2.2.2.2.1,(p0.2.2.2.2.2.2.2.1,(p0.2.2.2.2.2.2.2.2.1,())))))))))))
def qt0  (fu:Nat) (l:(List (Bool×(Int×Int)))):Option (Bool×(Int×Int)) :=
 (itP fu (qbN) (l,((((List.length l):Nat):Int),((0:Int),(false,((0:Int),((0:Int),(true,((0:Int),((0:Int),())))))))))).bind fun x2 =>
 some (x2.2.2.2.2.2.2.1,(x2.2.2.2.2.2.2.2.1,x2.2.2.2.2.2.2.2.2.1))
def ZP:(Int×((List Int)×(Int×(Int×Unit))))→Option ((Int×((List Int)×(Int×(Int×Unit)))) ⊕ (Int×((List Int)×(Int×(Int×Unit))))):=fun p0=>(bif (decide ((p0.2.2.2.1<p0.2.2.1))) then
 ((Su.idx p0.2.1 p0.2.2.2.1)).bind fun x1 =>
 some (.inl ((((Su.qj4 (Int.toNat p0.1) (Int.toNat (Su.gdF x1))):Nat):Int),(p0.2.1,(p0.2.2.1,((Go.IntKind.wrap .i64 (p0.2.2.2.1+1)),())))))
 else
  some (.inr (p0.1,(p0.2.1,(p0.2.2.1,(p0.2.2.2.1,()))))))
def qmq  (fu:Nat) (l:(List Int)):Option Int :=
 (itP fu (ZP) ((0:Int),(l,((((List.length l):Nat):Int),((0:Int),()))))).bind fun x2 =>
 some x2.1
def qn8 (p:Int×Int):Option Spn:=some (jF p.1 p.2)
theorem qt1 (p:Int×Int) (y:Spn) (hg:(dc (cI .u64) (d1 (cI .u64))).good p) (h:qn8 p=some y):qBt p.1 p.2=some y:=by
 have:=soi h;subst this;rfl
def qBu (p:Spn×Spn):Option Bool:=some (qtX p.1 p.2)
theorem qDV (p:Spn×Spn) (y:Bool) (hg:(dc yC (d1 yC)).good p) (h:qBu p=some y):zIn p.1 p.2=some y:=by
 have:=soi h;subst this
 unfold zIn qtX
 generalize qr p.1=t
 generalize qr p.2=t'
 cases t.1 with
 | true=>rfl
 | false =>
  cases t'.1 with
  | true=>rfl
  | false=>cases leF t'.2.1 t.2.1 <;> rfl
def qt2 (p:Spn×Int):Option Bool:=some (Y7 p.1 p.2)
theorem qyG (p:Spn×Int) (y:Bool) (hg:(dc yC (d1 (cI .u64))).good p) (h:qt2 p=some y):qDU p.1 p.2=some y:=by
 have:=soi h;subst this
 unfold qDU Y7 qtX jF
 have e:decide (((qF (bK p.2.toNat):Nat):Int)=3)=decide (qF (bK p.2.toNat)=3):=ql0 _ 3
 rw [e]
 generalize qr (false,(p.2,p.2))=t
 generalize qr t=u
 generalize qr p.1=t'
 cases decide (qF (bK p.2.toNat)=3) with
 | true=>rfl
 | false =>
  cases t.1 with
  | true=>rfl
  | false =>
   cases u.1 with
   | true=>rfl
   | false =>
    cases t'.1 with
    | true=>rfl
    | false=>cases leF t'.2.1 u.2.1 <;> rfl
def qn9 (p:Spn×Spn):Option Spn:=some (JW p.1 p.2)
theorem qt3 (p:Spn×Spn) (y:Spn) (hg:(dc yC (d1 yC)).good p) (h:qn9 p=some y):qtZ p.1 p.2=some y:=by
 have:=soi h;subst this
 unfold qtZ JW
 generalize qr p.1=t
 generalize qr p.2=t'
 cases t.1 with
 | true=>rfl
 | false=>cases t'.1 <;> rfl
abbrev ZjS:=List Spn×(Int×(Int×(Bool×(Int×(Int×(Bool×(Int×(Int×Unit))))))))
def qyH (l:List Spn) (i:Int) (j:Spn):ZjS:=(l,(((l.length:Nat):Int),(i,(false,(0,(0,(j.1,(j.2.1,(j.2.2,())))))))))
theorem qoa (l:List Spn) (hl:l.length≤maxLen):∀ (r A:List Spn) (j:Spn),A++r=l→jD (r.length+1) qbN (qyH l A.length j) (qyH l l.length (r.foldl qp1 j))
 | [],A,j,h=>by
  rw [List.append_nil] at h;subst h
  refine jD.stop ?_
  unfold qyH
  simp only [qbN,ltN,decide_eq_false (Nat.lt_irrefl _),cond_false];rfl
 | x::r,A,j,h=>by
  have hi:A.length<l.length:=by rw [← h];simp
  have hg:idx l (A.length:Int)=some x:=by
   rw [qZ,← h,List.getElem?_append_right (by omega),Nat.sub_self];rfl
  have ih:=qoa l hl r (A++[x]) (qp1 j x) (by rw [← h];simp)
  refine jD.next ?_ ih
  unfold qyH
  simp only [qbN,ltN,decide_eq_true hi,cond_true,hg,Option.bind_some,w1 hi hl]
  rw [show (A++[x]).length=A.length+1 by simp]
  unfold qp1 jF mnI mxI
  obtain ⟨j1,j2,j3⟩:=j
  simp only []
  generalize qr x=t
  obtain ⟨t1,t2,t3⟩:=t
  cases t1 with
  | true=>rfl
  | false=>cases j1 <;> rfl
def qob (l:List Spn):Option Spn:=some (qp2 l)
theorem qt4 (l:List Spn) (y:Spn) (hg:(d1 (cL rSp)).good l) (h:qob l=some y):∃ n,qt0 n l=some y:=by
 have:=soi h;subst this
 refine ⟨l.length+1,?_⟩
 unfold qt0
 have:=qoa l hg.2 l [] qdv rfl
 exact obB (this _ (Nat.le_refl _)) rfl
def qDW (j e:Int):Int:=mxI j (gdF e)
def slJn (l:List Int):Int:=l.foldl qDW 0
theorem qkG (l:List Int) (hl:l.length≤maxLen):∀ (r A:List Int) (j:Int),A++r=l→jD (r.length+1) ZP (j,(l,((l.length:Int),((A.length:Int),())))) (r.foldl qDW j,(l,((l.length:Int),((l.length:Int),()))))
 | [],A,j,h=>by
  rw [List.append_nil] at h;subst h
  refine jD.stop ?_
  simp only [ZP,ltN,decide_eq_false (Nat.lt_irrefl _),cond_false];rfl
 | x::r,A,j,h=>by
  have hi:A.length<l.length:=by rw [← h];simp
  have hg:idx l (A.length:Int)=some x:=by
   rw [qZ,← h,List.getElem?_append_right (by omega),Nat.sub_self];rfl
  have ih:=qkG l hl r (A++[x]) (qDW j x) (by rw [← h];simp)
  refine jD.next ?_ ih
  simp only [ZP,ltN,decide_eq_true hi,cond_true,hg,Option.bind_some,w1 hi hl]
  rw [show (A++[x]).length=A.length+1 by simp]
  rfl
def qkH (l:List Int):Option Int:=some (slJn l)
theorem qp3 (l:List Int) (y:Int) (hg:(d1 (cQ 2 1)).good l) (h:qkH l=some y):∃ n,qmq n l=some y:=by
 have:=soi h;subst this
 refine ⟨l.length+1,?_⟩
 unfold qmq
 have:=qkG l hg.2 l [] 0 rfl
 exact obB (this _ (Nat.le_refl _)) rfl
end
end Su
end
section
namespace Su
open Go Fly
set_option linter.unusedVariables false
noncomputable section
def qt5  (x:Su.Ce) (t:Int):Option Su.Ce :=
 (bif (decide ((t=1))) then
 some (Su.Ce.mk (Su.Ce.f x) (Su.Ce.t x) (false,((0:Int),(0:Int))) (false,((0:Int),(0:Int))) (false,((0:Int),(0:Int))) (false,((0:Int),(0:Int))) (0:Int) (false,((0:Int),([],(0:Int)))))
 else
  (bif (decide ((t=2))) then
  some (Su.Ce.mk false false x.3 x.4 x.5 (false,((0:Int),(0:Int))) (0:Int) (false,((0:Int),([],(0:Int)))))
 else
  (bif (decide ((t=3))) then
  some (Su.Ce.mk false false (false,((0:Int),(0:Int))) (false,((0:Int),(0:Int))) (false,((0:Int),(0:Int))) x.6 (Su.Ce.sl x) x.8)
 else
  some (Su.Ce.mk false false (false,((0:Int),(0:Int))) (false,((0:Int),(0:Int))) (false,((0:Int),(0:Int))) (false,((0:Int),(0:Int))) (0:Int) (false,((0:Int),([],(0:Int))))))))
def qt6  (x:Su.Ce) (t:Int):Option Bool :=
 (bif (decide ((t=1))) then
 some (((Su.Ce.f x) == false)&&(((Su.Ce.t x) == false)&&true))
 else
  (bif (decide ((t=2))) then
  (bif (Su.qK [x.3]).1 then
  some true
 else
  some (Su.Y5 (x.4,x.5) (x.4,x.5)).1.1)
 else
  (bif (decide ((t=3))) then
  some (Su.qp2 [x.6]).1
 else
  some true)))
def iv0:Iv:=(false,(0,0))
def fm0:Bool×Int×List Su.Tm×Int:=(false,(0,([],0)))
def qz (x:Su.Ce) (t:Int):Su.Ce :=
 bif decide (t=1) then ⟨x.f,x.t,iv0,iv0,iv0,iv0,0,fm0⟩
 else bif decide (t=2) then ⟨false,false,x.i,x.d,x.p,iv0,0,fm0⟩
 else bif decide (t=3) then ⟨false,false,iv0,iv0,iv0,x.s,x.sl,x.fm⟩
 else ⟨false,false,iv0,iv0,iv0,iv0,0,fm0⟩
def qV (x:Su.Ce) (t:Int):Bool :=
 bif decide (t=1) then (x.f == false)&&((x.t == false)&&true)
 else bif decide (t=2) then (bif (qK [x.i]).1 then true else (Y5 (x.d,x.p) (x.d,x.p)).1.1)
 else bif decide (t=3) then (qp2 [x.s]).1 else true
def qoc (p:Su.Ce×Int):Option Su.Ce:=some (qz p.1 p.2)
theorem qt7 (p:Su.Ce×Int) (y:Su.Ce) (hg:(dc cCe (d1 (cI .u8))).good p) (h:qoc p=some y):qt5 p.1 p.2=some y:=by
 have:=soi h;subst this
 unfold qt5 qz
 cases decide (p.2=1) with
 | true=>rfl
 | false =>
  cases decide (p.2=2) with
  | true=>rfl
  | false=>cases decide (p.2=3) <;> rfl
def qod (p:Su.Ce×Int):Option Bool:=some (qV p.1 p.2)
theorem qt8 (p:Su.Ce×Int) (y:Bool) (hg:(dc cCe (d1 (cI .u8))).good p) (h:qod p=some y):qt6 p.1 p.2=some y:=by
 have:=soi h;subst this
 unfold qt6 qV
 cases decide (p.2=1) with
 | true=>rfl
 | false =>
  cases decide (p.2=2) with
  | true=>cases (qK [p.1.i]).1 <;> rfl
  | false=>cases decide (p.2=3) <;> rfl
end
end Su
end
section
namespace Su
open Go Fly
set_option linter.unusedVariables false
noncomputable section
def JX:((List (Bool×(Bool×(Int×(Int×(List Su.Ce))))))×(Int×(Int×Unit)))→Option (((List (Bool×(Bool×(Int×(Int×(List Su.Ce))))))×(Int×(Int×Unit))) ⊕ (Lp ((List (Bool×(Bool×(Int×(Int×(List Su.Ce))))))×(Int×(Int×Unit))) (((List (Bool×(Bool×(Int×(Int×(List Su.Ce))))))×(Int×Unit)) ⊕ (Lp ((List (Bool×(Bool×(Int×(Int×(List Su.Ce))))))×(Int×Unit)) Bool)))):=fun p2=>((Su.idx p2.1 p2.2.1)).bind fun x3 =>
 (bif (decide ((p2.2.2.1<(((List.length x3.2.2.2.2):Nat):Int)))) then
 ((Su.idx p2.1 p2.2.1)).bind fun x4 =>
 ((Su.idx x4.2.2.2.2 p2.2.2.1)).bind fun x5 =>
 (bif (decide ((8<(((List.length x5.8.2.2.1):Nat):Int)))) then
 some (.inr (.ret (.inr (.ret true))))
 else
  some (.inl (p2.1,(p2.2.1,((Go.IntKind.wrap .i64 (p2.2.2.1+1)),())))))
 else
  some (.inr (.exit 2 (p2.1,(p2.2.1,(p2.2.2.1,()))))))
def Y9 (fu:Nat):((List (Bool×(Bool×(Int×(Int×(List Su.Ce))))))×(Int×Unit))→Option (((List (Bool×(Bool×(Int×(Int×(List Su.Ce))))))×(Int×Unit)) ⊕ (Lp ((List (Bool×(Bool×(Int×(Int×(List Su.Ce))))))×(Int×Unit)) Bool)):=fun p0=>(bif (decide ((p0.2.1<(((List.length p0.1):Nat):Int)))) then
 ((Su.idx p0.1 p0.2.1)).bind fun x1 =>
 (bif (decide ((40<(((List.length x1.2.2.2.2):Nat):Int)))) then
 some (.inr (.ret true))
 else
  (itP fu (JX) (p0.1,(p0.2.1,((0:Int),())))).bind fun x6 =>
  (match x6 with
 | .exit i7 p8=>(bif (Nat.beq i7 2) then
  some (.inl (p8.1,((Go.IntKind.wrap .i64 (p8.2.1+1)),())))
 else
  (bif (Nat.beq i7 1) then
  some (.inl (p8.1,((Go.IntKind.wrap .i64 (p8.2.1+1)),())))
 else
  some (.inr (.exit i7 (p8.1,(p8.2.1,()))))))
 | .ret o9=>some o9))
 else
  some (.inr (.exit 0 (p0.1,(p0.2.1,())))))
def qoe  (fu:Nat) (c:(Int×((List Su.Cc)×((List Su.T)×((List Su.T)×((List Su.T)×((List Su.T)×Int))))))) (l:(List (Bool×(Bool×(Int×(Int×(List Su.Ce))))))):Option Bool :=
 (bif (decide ((40<(((List.length c.2.1):Nat):Int)))) then
 some true
 else
  (itP fu (Y9 fu) (l,((0:Int),()))).bind fun x10 =>
  (match x10 with
 | .exit i11 p12=>(bif (Nat.beq i11 0) then
  some false
 else
  none)
 | .ret o13=>some o13))
abbrev CoD:=Int×(List Su.Cc×(List Su.T×(List Su.T×(List Su.T×(List Su.T×Int)))))
abbrev StD:=Bool×(Bool×(Int×(Int×List Su.Ce)))
abbrev StD.cells (s:StD):List Su.Ce:=s.2.2.2.2
abbrev CoD.cells (c:CoD):List Su.Cc:=c.2.1
def qcI (X:List Su.Ce) (j:Nat):Bool:=match X[j]? with
 | some x=>!decide (8<((x.fm.2.2.1.length:Nat):Int))
 | none=>true
def qcJ (l:List StD) (i:Nat):Bool:=match l[i]? with
 | some s=>!decide (40<(s.cells.length:Int))&&qaG s.cells.length (qcI s.cells)
 | none=>true
def qmr (c:CoD) (l:List StD):Bool:=bif decide (40<(c.cells.length:Int)) then true else !qaG l.length (qcJ l)
def qof (a:CoD×List StD):Option Bool:=some (qmr a.1 a.2)
theorem qt9 (l:List StD) (hl:l.length≤maxLen) {i:Nat} (hi:i<l.length) (hx:l[i].cells.length≤maxLen) :
 jD (l[i].cells.length+1) JX (l,((i:Int),((0:Int),()))) (bif qaG l[i].cells.length (qcI l[i].cells) then .exit 2 (l,((i:Int),((l[i].cells.length:Int),()))) else .ret (.inr (.ret true))):=by
 have step:∀ j,j<l[i].cells.length→JX (l,((i:Int),((j:Int),())))=some (bif qcI l[i].cells j then .inl (l,((i:Int),(((j+1:Nat):Int),()))) else .inr (.ret (.inr (.ret true)))):=by
  intro j hj
  unfold qcI
  rw [List.getElem?_eq_getElem hj]
  simp only [JX,ixl hi,Option.bind_some,ltN,decide_eq_true hj,cond_true]
  rw [ixl hj]
  simp only [Option.bind_some,w1 hj hx]
  generalize l[i].cells[j]=x
  have e:x.8.2.2.1=x.fm.2.2.1:=rfl
  rw [e]
  cases decide (8<((x.fm.2.2.1.length:Nat):Int)) <;> rfl
 exact qbJ (F:=JX) (mk:=fun j=>(l,((i:Int),((j:Int),())))) (n:=l[i].cells.length) (ok:=qcI l[i].cells) (fun j hj hk=>by rw [step j hj,hk];rfl) (fun j hj hk=>by rw [step j hj,hk];rfl)
  (by simp only [JX,ixl hi,Option.bind_some,ltN,decide_eq_false (Nat.lt_irrefl _),cond_false])
theorem qua (a:CoD×List StD) (y:Bool) (hg:(dc cCo (d1 (cL rSt))).good a) (h:qof a=some y):∃ n,qoe n a.1 a.2=some y:=by
 obtain ⟨c,l⟩:=a
 have:=soi h;subst this
 have hl:l.length≤maxLen:=hg.2.2
 have hx:∀ s∈l,s.cells.length≤maxLen:=fun s hs=>(hg.2.1 s hs).2.2.2.2.2
 show ∃ n,qoe n c l=some (qmr c l)
 unfold qoe qmr
 cases decide (40<((c.2.1.length:Nat):Int)) with
 | true=>exact ⟨0,rfl⟩
 | false =>
  simp only [cond_false]
  have step:∀ i,i<l.length→Y9 (maxLen+1) (l,((i:Int),()))=some (bif qcJ l i then .inl (l,(((i+1:Nat):Int),())) else .inr (.ret true)):=by
   intro i hi
   have h1:=hx _ (List.getElem_mem hi)
   have h2:=qt9 l hl hi h1 (maxLen+1) (by omega)
   unfold qcJ
   rw [List.getElem?_eq_getElem hi]
   simp only [Y9,ltN,decide_eq_true hi,cond_true,ixl hi,Option.bind_some,h2,w1 hi hl]
   generalize l[i]=s
   show (bif decide (40<(s.cells.length:Int)) then _ else _)=_
   cases decide (40<(s.cells.length:Int)) with
   | true=>rfl
   | false =>
    cases qaG s.cells.length (qcI s.cells) with
    | false=>rfl
    | true =>
     simp only [cond_true,cond_false,Bool.not_false,Bool.true_and,Z4,w1 hi hl]
  have run:=qbJ (F:=Y9 (maxLen+1)) (mk:=fun i=>(l,((i:Int),()))) (n:=l.length) (ok:=qcJ l) (r1:=.ret true) (r0:=.exit 0 (l,(((l.length:Nat):Int),()))) (fun i hi hk=>by rw [step i hi,hk];rfl) (fun i hi hk=>by rw [step i hi,hk];rfl)
   (by simp only [Y9,ltN,decide_eq_false (Nat.lt_irrefl _),cond_false])
  refine ⟨maxLen+1,?_⟩
  rw [show ((0:Int))=((0:Nat):Int) from rfl,run _ (by omega)]
  show _=some (!qaG l.length (qcJ l))
  cases qaG l.length (qcJ l) <;> rfl
end
end Su
end
section
namespace Su
open Go Fly
set_option linter.unusedVariables false
noncomputable section
def mkQ (p:Int) (q:Nat):Rt:=qT (decide (p<0)) p.natAbs q
def sv (a:Rt):Int:=bif a.1 then -(nu a:Int) else (nu a:Int)
theorem qbO (neg:Bool) (d:Nat):qT neg 0 d=(false,([],ofN 1)):=by rw [Jc];unfold qdu;rw [if_pos (.inl rfl)]
theorem qcK (neg:Bool) (n d:Nat) {k:Nat} (hk:0<k):qT neg (n*k) (d*k)=qT neg n d:=by
 rw [Jc,Jc]
 unfold qdu
 by_cases h:n=0∨d=0
 · rw [if_pos h,if_pos (by rcases h with h | h <;> simp [h])]
 · have h1:n≠0:=fun e=>h (.inl e)
   have h2:d≠0:=fun e=>h (.inr e)
   have h3 : ¬ (n*k=0∨d*k=0):=by
    intro e
    rcases e with e | e
    · rcases Nat.mul_eq_zero.1 e with e | e <;> omega
    · rcases Nat.mul_eq_zero.1 e with e | e <;> omega
   rw [if_neg h,if_neg h3,Nat.gcd_mul_right,Nat.mul_div_mul_right _ _ hk,Nat.mul_div_mul_right _ _ hk]
theorem qgO (neg:Bool) (n:Nat) {d:Nat} (hd:0<d):∃ g,0<g∧n=g*nu (qT neg n d)∧d=g*de (qT neg n d)∧(qT neg n d).1=(neg&&decide (n≠0)):=by
 by_cases h:n=0
 · subst h
   rw [qbO]
   refine ⟨d,hd,?_,?_,by simp⟩
   · show 0=d*qa [];simp [qa]
   · show d=d*qa (ofN 1);rw [valN_ofN];omega
 · rw [Jc]
   unfold qdu
   rw [if_neg (by omega)]
   refine ⟨Nat.gcd n d,Nat.gcd_pos_of_pos_right _ hd,?_,?_,by simp [h]⟩
   · show n=_*qa (ofN _);rw [valN_ofN];exact (Nat.mul_div_cancel' (Nat.gcd_dvd_left _ _)).symm
   · show d=_*qa (ofN _);rw [valN_ofN];exact (Nat.mul_div_cancel' (Nat.gcd_dvd_right _ _)).symm
theorem JY (p:Int) (q:Nat) {k:Nat} (hk:0<k):mkQ (p*k) (q*k)=mkQ p q:=by
 unfold mkQ
 have e1:(p*(k:Int)).natAbs=p.natAbs*k:=by rw [Int.natAbs_mul];rfl
 have e2:decide (p*(k:Int)<0)=decide (p<0):=by
  have hk':(0:Int)<k:=by omega
  by_cases h:p<0
  · rw [decide_eq_true h,decide_eq_true (Int.mul_neg_of_neg_of_pos h hk')]
  · rw [decide_eq_false h,decide_eq_false]
    have:=Int.mul_nonneg (a:=p) (b:=k) (by omega) (by omega)
    omega
 rw [e1,e2,qcK _ _ _ hk]
theorem Q3 (p:Int) {q:Nat} (hq:0<q):∃ g:Nat,0<g∧p=g*sv (mkQ p q)∧q=g*de (mkQ p q)∧0<de (mkQ p q):=by
 obtain ⟨g,h0,h1,h2,h3⟩:=qgO (decide (p<0)) p.natAbs hq
 refine ⟨g,h0,?_,h2,Nat.pos_of_ne_zero fun e=>?_⟩
 · unfold sv
   have h4:(mkQ p q).1=decide (p<0):=by
    show (qT _ _ _).1=_
    rw [h3]
    by_cases h:p<0
    · rw [decide_eq_true h,decide_eq_true (by omega)];rfl
    · rw [decide_eq_false h];rfl
   rw [h4]
   have h5:p.natAbs=g*nu (mkQ p q):=h1
   have h6:((g*nu (mkQ p q):Nat):Int)=(g:Int)*(nu (mkQ p q):Int):=by simp
   by_cases h:p<0
   · rw [decide_eq_true h,cond_true,Int.mul_neg,← h6,← h5];omega
   · rw [decide_eq_false h,cond_false,← h6,← h5];omega
 · have h2':q=g*de (mkQ p q):=h2
   rw [e] at h2';omega
theorem Jv (neg:Bool) (n d:Nat):qT neg n d=mkQ (bif neg then -(n:Int) else (n:Int)) d:=by
 unfold mkQ
 by_cases h:n=0
 · subst h
   cases neg <;> simp [qbO]
 · cases neg with
   | true=>rw [cond_true,decide_eq_true (by omega),Int.natAbs_neg,Int.natAbs_natCast]
   | false=>rw [cond_false,decide_eq_false (by omega),Int.natAbs_natCast]
theorem qyI (a:Rt):Qp a=mkQ (sv a) (de a):=Jv _ _ _
theorem qDX (p:Int) {q:Nat} (hq:0<q):mkQ (sv (mkQ p q)) (de (mkQ p q))=mkQ p q:=by
 obtain ⟨g,h0,h1,h2,h3⟩:=Q3 p hq
 have:=JY (sv (mkQ p q)) (de (mkQ p q)) h0
 rw [Int.mul_comm,← h1,Nat.mul_comm,← h2] at this
 exact this.symm
theorem qd5 (p:Int) {q:Nat} (hq:0<q):Qp (mkQ p q)=mkQ p q:=by rw [qyI,qDX p hq]
theorem qyJ (b c:Bool) (n m d:Nat):(bif decide (b=c) then qT b (n+m) d else bif decide (m≤n) then qT b (n-m) d else qT c (m-n) d)=mkQ ((bif b then -(n:Int) else (n:Int))+(bif c then -(m:Int) else (m:Int))) d:=by
 cases b <;> cases c
 · rw [decide_eq_true rfl,cond_true,Jv];congr 1
 · rw [decide_eq_false (by simp),cond_false]
   by_cases h:m≤n
   · rw [decide_eq_true h,cond_true,Jv];congr 1;simp only [cond_false,cond_true];omega
   · rw [decide_eq_false h,cond_false,Jv];congr 1;simp only [cond_false,cond_true];omega
 · rw [decide_eq_false (by simp),cond_false]
   by_cases h:m≤n
   · rw [decide_eq_true h,cond_true,Jv];congr 1;simp only [cond_false,cond_true];omega
   · rw [decide_eq_false h,cond_false,Jv];congr 1;simp only [cond_false,cond_true];omega
 · rw [decide_eq_true rfl,cond_true,Jv];congr 1;simp only [cond_true];omega
theorem qog (b:Bool) (n k:Nat):(bif b then -((n*k:Nat):Int) else ((n*k:Nat):Int))=(bif b then -(n:Int) else (n:Int))*k:=by
 cases b
 · simp
 · simp only [cond_true,Int.neg_mul];simp
theorem qyK (x y:Rt):qma x y=mkQ (sv x*de y+sv y*de x) (de x*de y):=by
 unfold qma
 rw [qyJ,qog,qog];rfl
theorem qoh (p r:Int) {q s:Nat} (hq:0<q) (hs:0<s):qpM (mkQ p q) (mkQ r s)=mkQ (p*s+r*q) (q*s):=by
 unfold qpM
 rw [qd5 p hq,qd5 r hs,qyK]
 obtain ⟨g,h0,h1,h2,h3⟩:=Q3 p hq
 obtain ⟨h,k0,k1,k2,k3⟩:=Q3 r hs
 generalize mkQ p q=x at *
 generalize mkQ r s=y at *
 rw [← JY _ _ (Nat.mul_pos h0 k0)]
 have e1:de x*de y*(g*h)=q*s:=by rw [h2,k2];grind
 have e2:(sv x*de y+sv y*de x)*((g*h:Nat):Int)=p*s+r*q:=by
  have a2:(q:Int)=g*de x:=by rw [h2];simp
  have b2:(s:Int)=h*de y:=by rw [k2];simp
  rw [a2,b2,h1,k1]
  simp only [Int.natCast_mul]
  grind
 rw [e1,e2]
theorem qyL (p:Int) {q:Nat} (hq:0<q):qkr (mkQ p q)=mkQ (-p) q:=by
 unfold qkr
 rw [Jv]
 obtain ⟨g,h0,h1,h2,h3⟩:=Q3 p hq
 have e:(bif !(mkQ p q).1 then -(qa (mkQ p q).2.1:Int) else (qa (mkQ p q).2.1:Int)) = -(sv (mkQ p q)):=by
  unfold sv nu
  cases (mkQ p q).1 <;> simp
 rw [e]
 generalize mkQ p q=x at *
 rw [← JY _ _ h0,h1]
 have e1:qa x.2.2*g=q:=by rw [h2,Nat.mul_comm];rfl
 rw [e1]
 congr 1
 rw [Int.neg_mul,Int.mul_comm]
theorem qoi (p r:Int) {q s:Nat} (hq:0<q) (hs:0<s):qcA (mkQ p q) (mkQ r s)=mkQ (p*s-r*q) (q*s):=by
 unfold qcA
 rw [qyL r hs,qoh p (-r) hq hs,Int.neg_mul];rfl
theorem qoj (p:Int) {q:Nat} (hq:0<q):qfJ (mkQ p q)=mkQ (p.natAbs:Int) q:=by
 unfold qfJ
 rw [Jv]
 obtain ⟨g,h0,h1,h2,h3⟩:=Q3 p hq
 have e:p.natAbs=g*nu (mkQ p q):=by
  have h5:p.natAbs=(g*sv (mkQ p q)).natAbs:=congrArg Int.natAbs h1
  rw [h5,Int.natAbs_mul,Int.natAbs_natCast]
  congr 1
  unfold sv
  generalize mkQ p q=x
  cases x.1 <;> simp
 generalize mkQ p q=x at *
 rw [e,← JY _ _ h0]
 have e1:qa x.2.2*g=q:=by rw [h2,Nat.mul_comm];rfl
 rw [e1,cond_false]
 congr 1
 simp only [Int.natCast_mul]
 rw [Int.mul_comm];rfl
def Z5 (p r:Int):Int:=if p<r then -1 else if p=r then 0 else 1
theorem qfl (p r:Int) {k:Nat} (hk:0<k):Z5 (p*k) (r*k)=Z5 p r:=by
 unfold Z5
 have hk':(0:Int)<k:=by omega
 have e1:p*(k:Int)<r*k↔p<r:=Int.mul_lt_mul_right hk'
 have e2:p*(k:Int)=r*k↔p=r:=Int.mul_eq_mul_right_iff (by omega)
 simp only [e1,e2]
theorem qub (a b:Nat):Qf a b=Z5 a b:=by
 unfold Qf Z5
 simp only [Int.ofNat_lt,Int.ofNat_inj]
theorem qDY (x y:Rt) (hx:0<de x) (hy:0<de y) (zx:x.1=true→nu x≠0) (zy:y.1=true→nu y≠0):rcm x y=Z5 (sv x*de y) (sv y*de x):=by
 unfold rcm sv
 have hx':(0:Int)<de x:=by omega
 have hy':(0:Int)<de y:=by omega
 have p1:(0:Int)≤nu x*de y:=Int.mul_nonneg (by omega) (by omega)
 have p2:(0:Int)≤nu y*de x:=Int.mul_nonneg (by omega) (by omega)
 cases hxs:x.1 <;> cases hys:y.1
 · simp only [decide_true,Bool.not_true,cond_false,qub,Int.natCast_mul]
 · have h2:0<nu y:=Nat.pos_of_ne_zero (zy hys)
   have p3:(0:Int)<nu y*de x:=Int.mul_pos (by omega) hx'
   simp only [cond_true,cond_false,Int.neg_mul]
   unfold Z5
   rw [if_neg (by omega),if_neg (by omega)];rfl
 · have h2:0<nu x:=Nat.pos_of_ne_zero (zx hxs)
   have p3:(0:Int)<nu x*de y:=Int.mul_pos (by omega) hy'
   simp only [cond_true,cond_false,Int.neg_mul]
   unfold Z5
   rw [if_pos (by omega)];rfl
 · simp only [decide_true,Bool.not_true,cond_false,cond_true,qub,Int.natCast_mul,Int.neg_mul]
   generalize (nu x:Int)*de y=a
   generalize (nu y:Int)*de x=b
   unfold Z5
   split
   · rw [if_neg (by omega),if_neg (by omega)];rfl
   · split
     · rw [if_neg (by omega),if_pos (by omega)];rfl
     · rw [if_pos (by omega)]
theorem qok (p:Int) {q:Nat} (hq:0<q):(mkQ p q).1=true→nu (mkQ p q)≠0:=by
 intro h e
 obtain ⟨g,h0,h1,h2,h3⟩:=qgO (decide (p<0)) p.natAbs hq
 have h4:(mkQ p q).1=(decide (p<0)&&decide (p.natAbs≠0)):=h3
 have h5:p.natAbs=g*nu (mkQ p q):=h1
 rw [e,Nat.mul_zero] at h5
 rw [h5] at h4
 rw [h4] at h
 simp at h
theorem qol (p r:Int) {q s:Nat} (hq:0<q) (hs:0<s):qii (mkQ p q) (mkQ r s)=Z5 (p*s) (r*q):=by
 unfold qii
 rw [qd5 p hq,qd5 r hs]
 have z1:=qok p hq
 have z2:=qok r hs
 obtain ⟨g,h0,h1,h2,h3⟩:=Q3 p hq
 obtain ⟨h,k0,k1,k2,k3⟩:=Q3 r hs
 generalize mkQ p q=x at *
 generalize mkQ r s=y at *
 rw [qDY x y h3 k3 z1 z2,← qfl _ _ (Nat.mul_pos h0 k0)]
 have a2:(q:Int)=g*de x:=by rw [h2];simp
 have b2:(s:Int)=h*de y:=by rw [k2];simp
 have e1:sv x*de y*((g*h:Nat):Int)=p*s:=by
  rw [b2,h1];simp only [Int.natCast_mul];grind
 have e2:sv y*de x*((g*h:Nat):Int)=r*q:=by
  rw [a2,k1];simp only [Int.natCast_mul];grind
 rw [e1,e2]
structure Sz (a:Rt) (k:Nat):Prop where
 wn:Wd a.2.1
 wd:Wd a.2.2
 ln:a.2.1.length≤k
 ld:a.2.2.length≤k
theorem qaL {neg:Bool} {n d k:Nat} (h1:n<4294967296^k) (h2:d<4294967296^k) (hk:1≤k):Sz (qT neg n d) k:=by
 rw [Jc]
 unfold qdu
 by_cases h:n=0∨d=0
 · rw [if_pos h]
   exact ⟨.nil,Yj 1,Nat.zero_le _,Nat.le_trans (yY (v:=1) (k:=1) (by decide)) hk⟩
 · rw [if_neg h]
   exact ⟨Yj _,Yj _,yY (Nat.lt_of_le_of_lt (Nat.div_le_self _ _) h1),yY (Nat.lt_of_le_of_lt (Nat.div_le_self _ _) h2)⟩
theorem Sz.nu {a:Rt} {k:Nat} (h:Sz a k):Su.nu a<4294967296^k:=Nat.lt_of_lt_of_le (jc _ h.wn) (Nat.pow_le_pow_right (by omega) h.ln)
theorem Sz.de {a:Rt} {k:Nat} (h:Sz a k):Su.de a<4294967296^k:=Nat.lt_of_lt_of_le (jc _ h.wd) (Nat.pow_le_pow_right (by omega) h.ld)
theorem Sz.mono {a:Rt} {k m:Nat} (h:Sz a k) (hm:k≤m):Sz a m:=⟨h.wn,h.wd,Nat.le_trans h.ln hm,Nat.le_trans h.ld hm⟩
theorem Sz.ok4 {a:Rt} {k:Nat} (h:Sz a k) (hk:k≤400000):Su.ok4 a=true:=by
 unfold Su.ok4
 rw [Nat.ble_eq_true_of_le (Nat.le_trans h.ln hk),Nat.ble_eq_true_of_le (Nat.le_trans h.ld hk)];rfl
theorem Sz.okRt {a:Rt} {k:Nat} (h:Sz a k) (hk:k≤1000000):Su.okRt a=true:=by
 unfold Su.okRt okL
 rw [Nat.ble_eq_true_of_le (Nat.le_trans h.ln hk),Nat.ble_eq_true_of_le (Nat.le_trans h.ld hk)];rfl
theorem qom {a:Rt} {k:Nat} (h:Sz a k) (hk:1≤k):Sz (Qp a) k:=qaL h.nu h.de hk
theorem qyM {a:Rt} {k:Nat} (h:Sz a k) (hk:1≤k):Sz (qkr a) k:=qaL h.nu h.de hk
theorem qyN {a:Rt} {k:Nat} (h:Sz a k) (hk:1≤k):Sz (qfJ a) k:=qaL h.nu h.de hk
theorem qir {a b k m:Nat} (h1:a<4294967296^k) (h2:b<4294967296^m):a*b<4294967296^(k+m):=by
 rw [Nat.pow_add];exact Nat.mul_lt_mul'' h1 h2
theorem qyO {x y:Rt} {k m:Nat} (h:Sz x k) (h':Sz y m):Sz (qma x y) (k+m+1):=by
 have p1:=qir h.nu h'.de
 have p2:=qir h.de h'.nu
 have p3:=qir h.de h'.de
 rw [Nat.mul_comm] at p2
 have p4:4294967296^(k+m+1)=4294967296^(k+m)*4294967296:=Nat.pow_succ ..
 unfold qma
 generalize nu x*de y=A at *
 generalize nu y*de x=B at *
 generalize de x*de y=C at *
 generalize 4294967296^(k+m)=P at *
 cases decide (x.1=y.1) with
 | true=>exact qaL (by omega) (by omega) (by omega)
 | false =>
  cases decide (B≤A) with
  | true=>exact qaL (by omega) (by omega) (by omega)
  | false=>exact qaL (by omega) (by omega) (by omega)
theorem qyP {a b:Rt} {k m:Nat} (h:Sz a k) (h':Sz b m) (hk:1≤k) (hm:1≤m):Sz (qpM a b) (k+m+1):=qyO (qom h hk) (qom h' hm)
theorem qyQ {a b:Rt} {k m:Nat} (h:Sz a k) (h':Sz b m) (hk:1≤k) (hm:1≤m):Sz (qcA a b) (k+m+1):=qyP h (qyM h' hm) hk hm
theorem qBv {p:Int} {q k:Nat} (h1:p.natAbs<4294967296^k) (h2:q<4294967296^k) (hk:1≤k):Sz (mkQ p q) k:=qaL h1 h2 hk
@[irreducible] def EX:Nat:=1074
theorem quc:EX=1074:=by unfold EX;rfl
@[irreducible] def BX:Nat:=2098
theorem qud:BX=2098:=by unfold BX;rfl
@[irreducible] def QD:Nat:=2^EX
theorem qon:QD=2^EX:=by unfold QD;rfl
theorem yA:0<QD:=by rw [qon];exact Nat.two_pow_pos _
def fvK (b:Bool) (k:Nat):Int:=bif jt k then (bif b then -(kV k:Int) else (kV k:Int)) else 0
def fv (f:Nat):Int:=fvK (bS f) (bK f)
theorem qGa (k:Nat):kM k<9007199254740992:=by unfold kM;split <;> omega
theorem qbP (f:Nat):QZ f=mkQ (fv f) QD:=by
 unfold QZ fv fvK
 rw [qsF]
 unfold qDc spM spE
 generalize bS f=b
 generalize bK f=k
 cases hf:jt k with
 | false =>
  simp only [cond_false,Bool.false_and]
  rw [if_neg (by omega)]
  show qT b _ _=_
  unfold mkQ
  simp [qbO]
 | true =>
  have hk:=jk.1 hf
  simp only [cond_true,Bool.true_and]
  by_cases h0:k=0
  · subst h0
    rw [show Nat.beq 0 0=true from rfl]
    simp only [Bool.not_true,cond_false]
    rw [if_neg (by omega)]
    have e1:kV 0=0:=rfl
    have e2:kM 0=0:=rfl
    rw [e1,e2]
    unfold mkQ
    cases b <;> simp [qbO]
  · have hb:Nat.beq k 0=false:=by
     cases h:Nat.beq k 0 with
     | false=>rfl
     | true=>exact absurd (Nat.eq_of_beq_eq_true h) h0
    rw [hb]
    simp only [Bool.not_false,cond_true]
    have hE:kE k≤2045:=by unfold kE;omega
    rw [if_neg (by omega)]
    show qT b (Int.toNat (kM k:Int)*2^(max ((kE k:Int)-1074) 0).toNat) (2^(max (-((kE k:Int)-1074)) 0).toNat)=_
    rw [Int.toNat_natCast,← Jv]
    unfold kV
    rw [qon]
    have hX:=quc
    by_cases h:EX≤kE k
    · have e1:(max ((kE k:Int)-1074) 0).toNat=kE k-EX:=by omega
      have e2:(max (-((kE k:Int)-1074)) 0).toNat=0:=by omega
      rw [e1,e2,← qcK b _ _ (Nat.two_pow_pos EX),Nat.mul_assoc,← Nat.pow_add,← Nat.pow_add,Nat.sub_add_cancel h,Nat.zero_add]
    · have e1:(max ((kE k:Int)-1074) 0).toNat=0:=by omega
      have e2:(max (-((kE k:Int)-1074)) 0).toNat=EX-kE k:=by omega
      rw [e1,e2,← qcK b _ _ (Nat.two_pow_pos (kE k)),Nat.mul_assoc,← Nat.pow_add,← Nat.pow_add,Nat.sub_add_cancel (by omega),Nat.zero_add]
theorem qp4 {k:Nat} (h:k≤9218868437227405311):kV k<2^BX:=by
 have h1:kM k<2^53:=qGa k
 have h2:kE k+53≤BX:=by rw [qud];unfold kE;omega
 unfold kV
 have h3:=Nat.mul_lt_mul_of_pos_right h1 (Nat.two_pow_pos (kE k))
 rw [← Nat.pow_add] at h3
 exact Nat.lt_of_lt_of_le h3 (Nat.pow_le_pow_right (by omega) (by omega))
theorem qis (f:Nat):(fv f).natAbs<2^BX:=by
 unfold fv fvK
 cases hf:jt (bK f) with
 | false=>exact Nat.two_pow_pos _
 | true =>
  have:=qp4 (jk.1 hf)
  simp only [cond_true]
  cases bS f
  · simpa using this
  · simpa using this
theorem qd6 (f:Nat):Sz (QZ f) 66:=by
 have h1:=qud
 have h2:=quc
 rw [qbP]
 refine qBv ?_ ?_ (by omega)
 · rw [JO,show 32*66=BX+14 by omega];exact Nat.lt_of_lt_of_le (qis f) (Nat.pow_le_pow_right (by omega) (by omega))
 · rw [qon,JO,show 32*66=EX+1038 by omega];exact Nat.pow_lt_pow_right (by omega) (by omega)
theorem qd7 (f:Int):Q0 f=some (bif jR f.toNat then ((false,([],[])),false) else (QZ f.toNat,true)):=by
 unfold Q0
 rw [qdV,cond_true]
theorem que {a b:Rt} (h1:Sz a 100000) (h2:Sz b 100000):qaE (a,b)=some (qcA a b)∧Sz (qcA a b) 200001 :=
 ⟨by unfold qaE;simp only [];rw [h1.ok4 (by omega),h2.ok4 (by omega)];rfl,qyQ h1 h2 (by omega) (by omega)⟩
theorem quf {a:Rt} (h1:Sz a 200001):qaB a=some (qfJ a)∧Sz (qfJ a) 200001 :=
 ⟨by unfold qaB;rw [h1.okRt (by omega)];rfl,qyN h1 (by omega)⟩
theorem qug {a b:Rt} (h1:Sz a 400000) (h2:Sz b 400000):qaD (a,b)=some (qii a b):=by
 unfold qaD;simp only [];rw [h1.ok4 (by omega),h2.ok4 (by omega)];rfl
end
end Su
end
section
namespace Su
open Go Fly
set_option linter.unusedVariables false
noncomputable section
abbrev qaM:=((List Su.Pr)×(Int×((List Su.Cc)×((List Su.T)×((List Su.T)×((List Su.T)×((List Su.T)×(Int×((List Su.Ce)×(Int×(Int×Unit)))))))))))
def Za:qaM→Option (qaM ⊕ (Lp qaM Bool)):=fun p0=>(bif (decide ((p0.2.2.2.2.2.2.2.2.2.2.1<p0.2.2.2.2.2.2.2.2.2.1))) then
 ((Su.idx p0.2.2.2.2.2.2.2.2.1 p0.2.2.2.2.2.2.2.2.2.2.1)).bind fun x1 =>
 ((Su.Q0 (Su.gdF (Su.Ce.sl x1)))).bind fun x2 =>
 ((Su.idx p0.2.2.1 p0.2.2.2.2.2.2.2.2.2.2.1)).bind fun x3 =>
 (bif (!(decide (((Su.Cc.type x3)=3)))) then
 some (.inl (p0.1,(p0.2.1,(p0.2.2.1,(p0.2.2.2.1,(p0.2.2.2.2.1,(p0.2.2.2.2.2.1,(p0.2.2.2.2.2.2.1,(p0.2.2.2.2.2.2.2.1,(p0.2.2.2.2.2.2.2.2.1,(p0.2.2.2.2.2.2.2.2.2.1,((Go.IntKind.wrap .i64 (p0.2.2.2.2.2.2.2.2.2.2.1+1)),()))))))))))))
 else
  (bif (!x2.2) then
  some (.inl (p0.1,(p0.2.1,(p0.2.2.1,(p0.2.2.2.1,(p0.2.2.2.2.1,(p0.2.2.2.2.2.1,(p0.2.2.2.2.2.2.1,(p0.2.2.2.2.2.2.2.1,(p0.2.2.2.2.2.2.2.2.1,(p0.2.2.2.2.2.2.2.2.2.1,((Go.IntKind.wrap .i64 (p0.2.2.2.2.2.2.2.2.2.2.1+1)),()))))))))))))
 else
  ((Su.idx p0.1 p0.2.2.2.2.2.2.2.2.2.2.1)).bind fun x4 =>
  ((Su.Q0 (Su.Vl.f (Su.Pr.v x4)))).bind fun x5 =>
  (bif (!(Su.Pr.known x4)) then
  some (.inr (.ret false))
 else
  (bif (!x5.2) then
  some (.inr (.ret false))
 else
  ((Su.qaE ((x5.1.1,(x5.1.2.1,x5.1.2.2)),((Su.Pr.neg x4),((Su.Pr.num x4),(Su.Pr.den x4)))))).bind fun x6 =>
  ((Su.qaB (x6.1,(x6.2.1,x6.2.2)))).bind fun x7 =>
  ((Su.qaD ((x7.1,(x7.2.1,x7.2.2)),(x2.1.1,(x2.1.2.1,x2.1.2.2))))).bind fun x8 =>
  (bif (decide ((0<x8))) then
  some (.inr (.ret false))
 else
  some (.inl (p0.1,(p0.2.1,(p0.2.2.1,(p0.2.2.2.1,(p0.2.2.2.2.1,(p0.2.2.2.2.2.1,(p0.2.2.2.2.2.2.1,(p0.2.2.2.2.2.2.2.1,(p0.2.2.2.2.2.2.2.2.1,(p0.2.2.2.2.2.2.2.2.2.1,((Go.IntKind.wrap .i64 (p0.2.2.2.2.2.2.2.2.2.2.1+1)),())))))))))))))))))
 else
  some (.inr (.exit 0 (p0.1,(p0.2.1,(p0.2.2.1,(p0.2.2.2.1,(p0.2.2.2.2.1,(p0.2.2.2.2.2.1,(p0.2.2.2.2.2.2.1,(p0.2.2.2.2.2.2.2.1,(p0.2.2.2.2.2.2.2.2.1,(p0.2.2.2.2.2.2.2.2.2.1,(p0.2.2.2.2.2.2.2.2.2.2.1,()))))))))))))))
def qoo  (fu:Nat) (c:(Int×((List Su.Cc)×((List Su.T)×((List Su.T)×((List Su.T)×((List Su.T)×Int))))))) (s:(Bool×(Bool×(Int×(Int×(List Su.Ce)))))) (row:(List Su.Pr)):Option Bool :=
 (bif s.1 then
 some false
 else
  (bif (!(decide (((((List.length s.2.2.2.2):Nat):Int)=(((List.length c.2.1):Nat):Int))))) then
  some false
 else
  (bif (!(decide (((((List.length row):Nat):Int)=(((List.length c.2.1):Nat):Int))))) then
  some false
 else
  (itP fu (Za) (row,(c.1,(c.2.1,(c.2.2.1,(c.2.2.2.1,(c.2.2.2.2.1,(c.2.2.2.2.2.1,(c.2.2.2.2.2.2,(s.2.2.2.2,((((List.length s.2.2.2.2):Nat):Int),((0:Int),())))))))))))).bind fun x9 =>
  (match x9 with
 | .exit i10 p11=>(bif (Nat.beq i10 0) then
  some true
 else
  none)
 | .ret o12=>some o12))))
def Pr.real (p:Su.Pr):Rt:=(p.neg,(p.num,p.den))
def qgP (t sl:Int) (p:Su.Pr):Bool :=
 bif decide (t=3)&&!jR (gdF sl).toNat then p.known&&(!jR p.v.f.toNat&&!decide (0<qii (qfJ (qcA (QZ p.v.f.toNat) p.real)) (QZ (gdF sl).toNat))) else true
def qdw (c:List Su.Cc) (s:List Su.Ce) (row:List Su.Pr) (i:Nat):Bool :=
 match c[i]?,s[i]?,row[i]? with
 | some d,some x,some p=>qgP d.type x.sl p
 | _,_,_=>true
def qfm (c:CoD) (s:StD) (row:List Su.Pr):Bool :=
 bif s.1 then false else bif !decide (s.cells.length=c.cells.length) then false else bif !decide (row.length=c.cells.length) then false else qaG c.cells.length (qdw c.cells s.cells row)
def okP (p:Su.Pr):Bool:=Nat.ble p.num.length 100000&&Nat.ble p.den.length 100000
def qop (a:CoD×(StD×List Su.Pr)):Option Bool:=bif a.2.2.all okP then some (qfm a.1 a.2.1 a.2.2) else none
theorem qDZ {p:Su.Pr} (h:okP p=true) (hg:qC8.good (qC9 p)):Sz p.real 100000:=by
 unfold okP at h
 rw [Bool.and_eq_true] at h
 obtain ⟨-,-,-,-,-,⟨g1,-⟩,⟨g2,-⟩,-⟩:=hg
 exact ⟨Wd.of g1,Wd.of g2,Nat.le_of_ble_eq_true h.1,Nat.le_of_ble_eq_true h.2⟩
abbrev qit (c:CoD) (s:StD) (row:List Su.Pr) (i:Int):List Su.Pr×(Int×(List Su.Cc×(List Su.T×(List Su.T×(List Su.T×(List Su.T×(Int×(List Su.Ce×(Int×(Int×Unit)))))))))) :=
 (row,(c.1,(c.2.1,(c.2.2.1,(c.2.2.2.1,(c.2.2.2.2.1,(c.2.2.2.2.2.1,(c.2.2.2.2.2.2,(s.2.2.2.2,(((s.2.2.2.2.length:Nat):Int),(i,())))))))))))
theorem quh (a:CoD×(StD×List Su.Pr)) (y:Bool) (hg:(dc cCo (dc cSt (d1 (cL rPr)))).good a) (h:qop a=some y):∃ n,qoo n a.1 a.2.1 a.2.2=some y:=by
 obtain ⟨c,s,row⟩:=a
 obtain ⟨hm,h⟩:=qj h
 have:=soi h;subst this
 have hm:row.all okP=true:=hm
 have hl:c.cells.length≤maxLen:=hg.1.2.1.2
 have hgr:∀ p∈row,qC8.good (qC9 p):=hg.2.2.1
 show ∃ n,qoo n c s row=some (qfm c s row)
 unfold qoo qfm
 cases hd:s.1 with
 | true=>exact ⟨0,rfl⟩
 | false =>
 have hI:∀ a b:Nat,decide ((a:Int)=(b:Int))=decide (a=b):=QW
 simp only [hI,Z4,cond_true,cond_false,Option.bind_some]
 by_cases h1:s.2.2.2.2.length=c.2.1.length
 · by_cases h2:row.length=c.2.1.length
   · rw [decide_eq_true h1,decide_eq_true h2]
     simp only [Bool.not_true,cond_false]
     have step:∀ i,i<c.2.1.length→Za (qit c s row (i:Int))=some (bif qdw c.2.1 s.2.2.2.2 row i then .inl (qit c s row ((i+1:Nat):Int)) else .inr (.ret false)):=by
      intro i hi
      have i1:i<s.2.2.2.2.length:=by omega
      have i2:i<row.length:=by omega
      unfold qdw qgP
      rw [List.getElem?_eq_getElem hi,List.getElem?_eq_getElem i1,List.getElem?_eq_getElem i2]
      simp only [Za,ltN,ixl i1,ixl hi,ixl i2,Option.bind_some,Z4,cond_true,w1 hi hl,qd7,decide_eq_true i1]
      have ho:=List.all_eq_true.1 hm _ (List.getElem_mem i2)
      have hz:=qDZ ho (hgr _ (List.getElem_mem i2))
      generalize row[i]=p at *
      generalize c.2.1[i]=d at *
      generalize s.2.2.2.2[i]=x at *
      cases decide (d.type=3) with
      | false=>simp
      | true =>
       cases hn:jR (gdF x.sl).toNat with
       | true=>simp
       | false =>
        cases hk:p.known with
        | false=>simp
        | true =>
         cases hv:jR p.v.f.toNat with
         | true=>simp
         | false =>
          obtain ⟨a1,a2⟩:=que ((qd6 p.v.f.toNat).mono (by omega)) hz
          obtain ⟨b1,b2⟩:=quf a2
          have c1:=qug (b2.mono (by omega)) ((qd6 (gdF x.sl).toNat).mono (by omega:66≤400000))
          unfold Pr.real at a1 b1 c1
          simp only [Bool.not_true,Bool.not_false,cond_false,cond_true,Bool.and_true,Bool.true_and]
          refine obB a1 (obB b1 (obB c1 ?_))
          unfold Pr.real
          cases decide (0<qii (qfJ (qcA (QZ p.v.f.toNat) (p.neg,(p.num,p.den)))) (QZ (gdF x.sl).toNat)) <;> rfl
     have hK:=qbJ (F:=Za) (mk:=fun i=>qit c s row (i:Int)) (n:=c.2.1.length) (ok:=qdw c.2.1 s.2.2.2.2 row) (r1:=.ret false) (r0:=.exit 0 (qit c s row (c.2.1.length:Int)))
      (fun i hi hk=>by rw [step i hi,hk];rfl) (fun i hi hk=>by rw [step i hi,hk];rfl)
      (by simp only [Za,ltN,decide_eq_false (show ¬ c.2.1.length<s.2.2.2.2.length by omega),Z4,cond_true,cond_false,Option.bind_some])
     refine ⟨c.2.1.length+1,?_⟩
     refine obB (hK _ (Nat.le_refl _)) ?_
     show _=some (qaG c.2.1.length (qdw c.2.1 s.2.2.2.2 row))
     cases qaG c.2.1.length (qdw c.2.1 s.2.2.2.2 row) <;> rfl
   · rw [decide_eq_true h1,decide_eq_false h2];exact ⟨0,rfl⟩
 · rw [decide_eq_false h1];exact ⟨0,rfl⟩
end
end Su
end
section
namespace Su
open Go Fly
set_option linter.unusedVariables false
noncomputable section
def je {α:Type} (out:Nat→Option α):Nat→Option (List α)
 | 0=>some []
 | n+1=>(je out n).bind fun P=>(out n).bind fun x=>some (P++[x])
theorem yj {α:Type} {out:Nat→Option α}:∀ {n:Nat} {P:List α},je out n=some P→P.length=n
 | 0,P,h=>by have:=soi h;subst this;rfl
 | n+1,P,h=>by
  obtain ⟨Q,h1,h⟩:=osm h
  obtain ⟨x,h2,h⟩:=osm h
  have:=soi h;subst this
  rw [List.length_append,yj h1];rfl
theorem qfn {α:Type} {out:Nat→Option α}:∀ {n:Nat} {P:List α},je out n=some P→∀ i,i<n→out i=P[i]?
 | 0,_,_,i,hi=>by omega
 | n+1,P,h,i,hi=>by
  obtain ⟨Q,h1,h⟩:=osm h
  obtain ⟨x,h2,h⟩:=osm h
  have:=soi h;subst this
  have hl:=yj h1
  by_cases e:i=n
  · subst e
    rw [List.getElem?_append_right (by omega),hl,Nat.sub_self,h2];rfl
  · rw [List.getElem?_append_left (by omega)]
    exact qfn h1 i (by omega)
theorem qgQ {α:Type} {out:Nat→Option α} {i:Nat} (h:out i=none):∀ {n:Nat},i<n→je out n=none
 | 0,hi=>by omega
 | n+1,hi=>by
  unfold je
  by_cases e:i=n
  · subst e
    cases je out i with
    | none=>rfl
    | some P=>rw [Option.bind_some,h];rfl
  · rw [qgQ h (by omega:i<n)];rfl
theorem qfo {α:Type} {out:Nat→Option α}:∀ {n:Nat},(∀ i,i<n→out i≠none)→∃ P,je out n=some P
 | 0,_=>⟨[],rfl⟩
 | n+1,h=>by
  obtain ⟨P,hP⟩:=qfo (n:=n) fun i hi=>h i (by omega)
  cases ho:out n with
  | none=>exact absurd ho (h n (by omega))
  | some x=>exact ⟨P++[x],by unfold je;rw [hP,Option.bind_some,ho];rfl⟩
def qiu {α R:Type} (r1:R) (r0:List α→R):Option (List α)→R
 | some P=>r0 P
 | none=>r1
theorem qfp {S R α:Type} {F:S→Option (S ⊕ R)} {mk:Nat→List α→S} {n:Nat} {out:Nat→Option α} {r1:R} {r0:List α→R}
 (h1:∀ i P x,i<n→P.length=i→out i=some x→F (mk i P)=some (.inl (mk (i+1) (P++[x]))))
 (h2:∀ i P,i<n→P.length=i→out i=none→F (mk i P)=some (.inr r1))
 (h0:∀ P,P.length=n→F (mk n P)=some (.inr (r0 P))) :
 ∀ (j i:Nat) (P:List α),i+j=n→je out i=some P→jD (j+1) F (mk i P) (qiu r1 r0 (je out n))
 | 0,i,P,h,hb=>by
  have:i=n:=by omega
  subst this
  rw [hb]
  exact jD.stop (h0 P (yj hb))
 | j+1,i,P,h,hb=>by
  cases ho:out i with
  | none =>
   rw [qgQ ho (by omega:i<n)]
   exact jD.stop (h2 i P (by omega) (yj hb) ho)
  | some x =>
   exact jD.next (h1 i P x (by omega) (yj hb) ho) (qfp h1 h2 h0 j (i+1) (P++[x]) (by omega) (by show (je out i).bind _=_;rw [hb,Option.bind_some,ho];rfl))
theorem Q4 {S R α:Type} {F:S→Option (S ⊕ R)} {mk:Nat→List α→S} {n:Nat} {out:Nat→Option α} {r1:R} {r0:List α→R}
 (h1:∀ i P x,i<n→P.length=i→out i=some x→F (mk i P)=some (.inl (mk (i+1) (P++[x]))))
 (h2:∀ i P,i<n→P.length=i→out i=none→F (mk i P)=some (.inr r1))
 (h0:∀ P,P.length=n→F (mk n P)=some (.inr (r0 P))):jD (n+1) F (mk 0 []) (qiu r1 r0 (je out n)) :=
 qfp h1 h2 h0 n 0 [] (by omega) rfl
end
end Su
end
