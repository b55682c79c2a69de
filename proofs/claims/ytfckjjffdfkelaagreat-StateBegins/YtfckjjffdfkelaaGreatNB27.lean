/-
  What functions of the program compute, in plain Lean, and that the evaluator finds it.
-/
import Derived.Test.YtfckjjffdfkelaaGreatSuSd
import Derived.Test.YtfckjjffdfkelaaGreatNB25
set_option maxRecDepth 10000
section
namespace Su
open Go Fly
set_option linter.unusedVariables false
noncomputable section
abbrev qaN:=(Int×((List Su.Cc)×((List Su.T)×((List Su.T)×((List Su.T)×((List Su.T)×(Int×((List Su.Ce)×(Int×(Int×((List Su.T)×(Bool×(Bool×(Int×(Int×(Nat×((List Su.T)×(Bool×(Bool×(Int×(Int×(Nat×Unit))))))))))))))))))))))
def Zb:qaN→Option (qaN ⊕ (Lp qaN (Bool×(Bool×(Int×(Int×(List Su.Ce))))))):=fun p0=>(bif (decide ((p0.2.2.2.2.2.2.2.2.2.1<p0.2.2.2.2.2.2.2.2.1))) then
 ((Su.idx p0.2.2.2.2.2.2.2.1 p0.2.2.2.2.2.2.2.2.2.1)).bind fun x1 =>
 ((Su.idx p0.2.1 p0.2.2.2.2.2.2.2.2.2.1)).bind fun x2 =>
 (bif (Su.qV (Su.qz (Su.Ce.mk (Su.Ce.f x1) (Su.Ce.t x1) x1.3 (Su.yz (x1.4,x1.5)).1 (Su.yz (x1.4,x1.5)).2 x1.6 (Su.Ce.sl x1) x1.8) (Su.Cc.type x2)) (Su.Cc.type x2)) then
 some (.inr (.ret (true,(false,((0:Int),((0:Int),[]))))))
 else
  (bif ((true&&(Nat.beq p0.2.2.2.2.2.2.2.2.2.2.2.2.2.2.2.2.2.2.2.2.2.1 (List.length p0.2.2.2.2.2.2.2.2.2.2.2.2.2.2.2.2.1)))&&(Nat.ble ((List.length p0.2.2.2.2.2.2.2.2.2.2.2.2.2.2.2.2.1)+(List.length [(Su.view 14 (Su.qz (Su.Ce.mk (Su.Ce.f x1) (Su.Ce.t x1) x1.3 (Su.yz (x1.4,x1.5)).1 (Su.yz (x1.4,x1.5)).2 x1.6 (Su.Ce.sl x1) x1.8) (Su.Cc.type x2)))])) 549755813888)) then
  some (.inl (p0.1,(p0.2.1,(p0.2.2.1,(p0.2.2.2.1,(p0.2.2.2.2.1,(p0.2.2.2.2.2.1,(p0.2.2.2.2.2.2.1,(p0.2.2.2.2.2.2.2.1,(p0.2.2.2.2.2.2.2.2.1,((Go.IntKind.wrap .i64 (p0.2.2.2.2.2.2.2.2.2.1+1)),(p0.2.2.2.2.2.2.2.2.2.2.1,(p0.2.2.2.2.2.2.2.2.2.2.2.1,(p0.2.2.2.2.2.2.2.2.2.2.2.2.1,(p0.2.2.2.2.2.2.2.2.2.2.2.2.2.1,(p0.2.2.2.2.2.2.2.2.2.2.2.2.2.2.1,(p0.2.2.2.2.2.2.2.2.2.2.2.2.2.2.2.1,((p0.2.2.2.2.2.2.2.2.2.2.2.2.2.2.2.2.1++[(Su.view 14 (Su.qz (Su.Ce.mk (Su.Ce.f x1) (Su.Ce.t x1) x1.3 (Su.yz (x1.4,x1.5)).1 (Su.yz (x1.4,x1.5)).2 x1.6 (Su.Ce.sl x1) x1.8) (Su.Cc.type x2)))]),(p0.2.2.2.2.2.2.2.2.2.2.2.2.2.2.2.2.2.1,(p0.2.2.2.2.2.2.2.2.2.2.2.2.2.2.2.2.2.2.1,(p0.2.2.2.2.2.2.2.2.2.2.2.2.2.2.2.2.2.2.2.1,(p0.2.2.2.2.2.2.2.2.2.2.2.2.2.2.2.2.2.2.2.2.1,((List.length (p0.2.2.2.2.2.2.2.2.2.2.2.2.2.2.2.2.1++[(Su.view 14 (Su.qz (Su.Ce.mk (Su.Ce.f x1) (Su.Ce.t x1) x1.3 (Su.yz (x1.4,x1.5)).1 (Su.yz (x1.4,x1.5)).2 x1.6 (Su.Ce.sl x1) x1.8) (Su.Cc.type x2)))])),())))))))))))))))))))))))
 else
  none))
 else
  some (.inr (.exit 0 (p0.1,(p0.2.1,(p0.2.2.1,(p0.2.2.2.1,(p0.2.2.2.2.1,(p0.2.2.2.2.2.1,(p0.2.2.2.2.2.2.1,(p0.2.2.2.2.2.2.2.1,(p0.2.2.2.2.2.2.2.2.1,(p0.2.2.2.2.2.2.2.2.2.1,(p0.2.2.2.2.2.2.2.2.2.2.1,(p0.2.2.2.2.2.2.2.2.2.2.2.1,(p0.2.2.2.2.2.2.2.2.2.2.2.2.1,(p0.2.2.2.2.2.2.2.2.2.2.2.2.2.1,(p0.2.2.2.2.2.2.2.2.2.2.2.2.2.2.1,(p0.2.2.2.2.2.2.2.2.2.2.2.2.2.2.2.1,(p0.2.2.2.2.2.2.2.2.2.2.2.2.2.2.2.2.1,(p0.2.2.2.2.2.2.2.2.2.2.2.2.2.2.2.2.2.1,(p0.2.2.2.2.2.2.2.2.2.2.2.2.2.2.2.2.2.2.1,(p0.2.2.2.2.2.2.2.2.2.2.2.2.2.2.2.2.2.2.2.1,(p0.2.2.2.2.2.2.2.2.2.2.2.2.2.2.2.2.2.2.2.2.1,(p0.2.2.2.2.2.2.2.2.2.2.2.2.2.2.2.2.2.2.2.2.2.1,())))))))))))))))))))))))))
def qoq  (fu:Nat) (c:(Int×((List Su.Cc)×((List Su.T)×((List Su.T)×((List Su.T)×((List Su.T)×Int))))))) (s:(Bool×(Bool×(Int×(Int×(List Su.Ce)))))):Option (Bool×(Bool×(Int×(Int×(List Su.Ce))))) :=
 (bif s.1 then
 some (true,(false,((0:Int),((0:Int),[]))))
 else
  (bif (!(decide (((((List.length s.2.2.2.2):Nat):Int)=(((List.length c.2.1):Nat):Int))))) then
  some (true,(false,((0:Int),((0:Int),[]))))
 else
  (bif (Su.qK [(s.2.1,(s.2.2.1,s.2.2.2.1))]).1 then
  some (true,(false,((0:Int),((0:Int),[]))))
 else
  (itP fu (Zb) (c.1,(c.2.1,(c.2.2.1,(c.2.2.2.1,(c.2.2.2.2.1,(c.2.2.2.2.2.1,(c.2.2.2.2.2.2,(s.2.2.2.2,((((List.length s.2.2.2.2):Nat):Int),((0:Int),([],(false,(false,((0:Int),((0:Int),(0,([],(false,((Su.qK [(s.2.1,(s.2.2.1,s.2.2.2.1))]).1,((Su.qK [(s.2.1,(s.2.2.1,s.2.2.2.1))]).2.1,((Su.qK [(s.2.1,(s.2.2.1,s.2.2.2.1))]).2.2,(0,()))))))))))))))))))))))).bind fun x3 =>
  (match x3 with
 | .exit i4 p5=>(bif (Nat.beq i4 0) then
  ((Su.sub p5.2.2.2.2.2.2.2.2.2.2.2.2.2.2.2.2.1 0 p5.2.2.2.2.2.2.2.2.2.2.2.2.2.2.2.2.2.2.2.2.2.1)).bind fun x6 =>
  (bif (!p5.2.2.2.2.2.2.2.2.2.2.2.2.2.2.2.2.2.1) then
  (((((Su.unR (Su.rCe) x6)).bind fun x7 =>
  some ((Su.yd (p5.2.2.2.2.2.2.2.2.2.2.2.2.2.2.2.2.2.2.1,(p5.2.2.2.2.2.2.2.2.2.2.2.2.2.2.2.2.2.2.2.1,p5.2.2.2.2.2.2.2.2.2.2.2.2.2.2.2.2.2.2.2.2.1)) (Su.qo 1 1)).2.2,x7)).bind fun x8 =>
  some ((Su.yd (p5.2.2.2.2.2.2.2.2.2.2.2.2.2.2.2.2.2.2.1,(p5.2.2.2.2.2.2.2.2.2.2.2.2.2.2.2.2.2.2.2.1,p5.2.2.2.2.2.2.2.2.2.2.2.2.2.2.2.2.2.2.2.2.1)) (Su.qo 1 1)).2.1,x8)).bind fun x9 =>
  some ((Su.yd (p5.2.2.2.2.2.2.2.2.2.2.2.2.2.2.2.2.2.2.1,(p5.2.2.2.2.2.2.2.2.2.2.2.2.2.2.2.2.2.2.2.1,p5.2.2.2.2.2.2.2.2.2.2.2.2.2.2.2.2.2.2.2.2.1)) (Su.qo 1 1)).1,x9)).bind fun x10 =>
  some (p5.2.2.2.2.2.2.2.2.2.2.2.2.2.2.2.2.2.1,x10)
 else
  (((((Su.unR (Su.rCe) x6)).bind fun x11 =>
  some (p5.2.2.2.2.2.2.2.2.2.2.2.2.2.2.2.2.2.2.2.2.1,x11)).bind fun x12 =>
  some (p5.2.2.2.2.2.2.2.2.2.2.2.2.2.2.2.2.2.2.2.1,x12)).bind fun x13 =>
  some (p5.2.2.2.2.2.2.2.2.2.2.2.2.2.2.2.2.2.2.1,x13)).bind fun x14 =>
  some (p5.2.2.2.2.2.2.2.2.2.2.2.2.2.2.2.2.2.1,x14))
 else
  none)
 | .ret o15=>some o15))))
def vCe (x:Su.Ce):T:=view 14 x
theorem qyR (P:List Su.Ce):unR rCe (P.map vCe)=some P:=qbz rCe P
def jZ:StD:=(true,(false,(0,(0,[]))))
def stK (s:StD):Iv:=(s.2.1,(s.2.2.1,s.2.2.2.1))
def jG (C:List Su.Cc) (X:List Su.Ce) (f:Nat→Su.Cc→Su.Ce→Su.Ce) (i:Nat):Option Su.Ce :=
 match C[i]?,X[i]? with
 | some d,some x=>bif qV (qz (f i d x) d.type) d.type then none else some (qz (f i d x) d.type)
 | _,_=>none
def mkS (K:Iv) (X:List Su.Ce):StD:=(false,(K.1,(K.2.1,(K.2.2,X))))
def j0 (c:CoD) (s:StD) (f:Nat→Su.Cc→Su.Ce→Su.Ce):StD :=
 bif s.1 then jZ else bif !decide (s.2.2.2.2.length=c.2.1.length) then jZ else bif (qK [stK s]).1 then jZ else
 qiu jZ (mkS (qK [stK s])) (je (jG c.2.1 s.2.2.2.2 f) c.2.1.length)
def smS (s:StD):Bool:=Nat.ble s.2.2.2.2.length 1000000&&s.2.2.2.2.all fun x=>Nat.ble x.fm.2.2.1.length 1000000
def qms (x:Su.Ce) (k:Ckp):Su.Ce:=⟨x.f,x.t,x.i,k.1,k.2,x.s,x.sl,x.fm⟩
def qui (c:CoD) (s:StD):StD:=let t:=j0 c s fun _ _ x=>qms x (yz (x.d,x.p));bif t.1 then t else mkS (yd (stK t) (qo 1 1)) t.2.2.2.2
abbrev TkS:=Int×(List Su.Cc×(List Su.T×(List Su.T×(List Su.T×(List Su.T×(Int×(List Su.Ce×(Int×(Int×(List Su.T×(Bool×(Bool×(Int×(Int×(Nat×(List Su.T×(Bool×(Bool×(Int×(Int×(Nat×Unit)))))))))))))))))))))
def qdB (c:CoD) (s:StD) (K:Iv) (i:Int) (P:List Su.Ce):TkS :=
 (c.1,(c.2.1,(c.2.2.1,(c.2.2.2.1,(c.2.2.2.2.1,(c.2.2.2.2.2.1,(c.2.2.2.2.2.2,(s.2.2.2.2,(((s.2.2.2.2.length:Nat):Int),(i,([],(false,(false,(0,(0,(0,(P.map vCe,(false,(K.1,(K.2.1,(K.2.2,(P.length,()))))))))))))))))))))))
def qor (p:CoD×StD):Option StD:=bif smS p.2 then some (qui p.1 p.2) else none
theorem qbQ {s:StD} (h:smS s=true):s.2.2.2.2.length≤1000000:=by
 unfold smS at h
 rw [Bool.and_eq_true] at h
 exact Nat.le_of_ble_eq_true h.1
theorem yZ (P:List Su.Ce) (x:Su.Ce):P.map vCe++[view 14 x]=(P++[x]).map vCe:=by rw [List.map_append];rfl
theorem qbR (P:List Su.Ce):sub (P.map vCe) 0 P.length=some (P.map vCe):=by
 unfold sub
 rw [show Nat.ble (0+P.length) (P.map vCe).length=true from Nat.ble_eq_true_of_le (by simp),cond_true,List.drop_zero]
 congr 1
 exact List.take_of_length_le (by simp)
theorem qD0 (c:CoD) (s:StD) (K:Iv) (hl:s.2.2.2.2.length=c.2.1.length) (hs:s.2.2.2.2.length≤1000000) :
 jD (c.2.1.length+1) Zb (qdB c s K ((0:Nat):Int) []) (qiu (.ret jZ) (fun P=>.exit 0 (qdB c s K (c.2.1.length:Int) P)) (je (jG c.2.1 s.2.2.2.2 fun _ _ x=>qms x (yz (x.d,x.p))) c.2.1.length)):=by
 refine Q4 (mk:=fun i P=>qdB c s K (i:Int) P) ?_ ?_ ?_
 · intro i P x hi hP ho
   have i1:i<s.2.2.2.2.length:=by omega
   unfold jG at ho
   rw [List.getElem?_eq_getElem hi,List.getElem?_eq_getElem i1] at ho
   simp only [] at ho
   unfold qdB
   have hb:Nat.ble (P.length+1) 549755813888=true:=Nat.ble_eq_true_of_le (by omega)
   simp only [Zb,ltN,decide_eq_true i1,cond_true,ixl i1,ixl hi,Option.bind_some]
   generalize c.2.1[i]=d at *
   generalize s.2.2.2.2[i]=x0 at *
   cases hn:qV (qz (qms x0 (yz (x0.d,x0.p))) d.type) d.type with
   | true=>rw [hn] at ho;cases ho
   | false =>
    rw [hn] at ho
    have:=soi ho;subst this
    unfold qms at hn ⊢
    rw [hn]
    simp only [cond_false,List.length_map,List.length_cons,List.length_nil,Nat.zero_add,Z4,hb,Bool.and_self,cond_true,yZ,w1 i1 (by rw [qI];omega)]
 · intro i P hi hP ho
   have i1:i<s.2.2.2.2.length:=by omega
   unfold jG at ho
   rw [List.getElem?_eq_getElem hi,List.getElem?_eq_getElem i1] at ho
   simp only [] at ho
   unfold qdB
   simp only [Zb,ltN,decide_eq_true i1,cond_true,ixl i1,ixl hi,Option.bind_some]
   generalize c.2.1[i]=d at *
   generalize s.2.2.2.2[i]=x0 at *
   cases hn:qV (qz (qms x0 (yz (x0.d,x0.p))) d.type) d.type with
   | false=>rw [hn] at ho;cases ho
   | true =>
    unfold qms at hn
    rw [hn];rfl
 · intro P hP
   unfold qdB
   simp only [Zb,ltN,hl,decide_eq_false (Nat.lt_irrefl _),cond_false]
theorem qt {α:Type} {b:Bool} {x y:α} (h:b=false):(bif b then x else y)=y:=by rw [h];rfl
theorem qp {α:Type} {b:Bool} {x y:α} (h:b=true):(bif b then x else y)=x:=by rw [h];rfl
theorem QA {c:CoD} {s:StD} (f:Nat→Su.Cc→Su.Ce→Su.Ce) (hd:s.1=false) (hl:s.2.2.2.2.length=c.2.1.length) (hK:(qK [stK s]).1=false):j0 c s f=qiu jZ (mkS (qK [stK s])) (je (jG c.2.1 s.2.2.2.2 f) c.2.1.length):=by
 unfold j0;rw [qt hd,qt (by rw [decide_eq_true hl];rfl),qt hK]
theorem lnE (a b:Nat):(!decide ((a:Int)=(b:Int))) = !decide (a=b):=by rw [QW]
theorem quj (P:List Su.Ce) (K:Iv) (e:Bool):((((unR rCe (P.map vCe)).bind fun x=>some (K.2.2,x)).bind fun x=>some (K.2.1,x)).bind fun x=>some (K.1,x)).bind (fun x=>some (e,x))=some (e,(K.1,(K.2.1,(K.2.2,P)))):=by rw [qyR];rfl
theorem quk (p:CoD×StD) (y:StD) (hg:(dc cCo (d1 cSt)).good p) (h:qor p=some y):∃ n,qoq n p.1 p.2=some y:=by
 obtain ⟨c,s⟩:=p
 obtain ⟨hm,h⟩:=qj h
 have:=soi h;subst this
 have hm:smS s=true:=hm
 refine ⟨c.2.1.length+1,?_⟩
 show qoq (c.2.1.length+1) c s=some (qui c s)
 unfold qoq qui
 rcases Bool.eq_false_or_eq_true s.1 with hd | hd
 · rw [show j0 c s _=jZ from qp hd];exact qp hd
 · refine (qt hd).trans ?_
   by_cases hl:s.2.2.2.2.length=c.2.1.length
   · refine (qt (by rw [lnE,decide_eq_true hl];rfl)).trans ?_
     rcases Bool.eq_false_or_eq_true (qK [stK s]).1 with hK | hK
     · rw [show j0 c s _=jZ from (qt hd).trans ((qt (by rw [decide_eq_true hl];rfl)).trans (qp hK))]
       exact qp hK
     · refine (qt hK).trans ?_
       rw [QA _ hd hl hK]
       have hr:=qD0 c s (qK [stK s]) hl (qbQ hm) _ (Nat.le_refl _)
       refine obB hr ?_
       cases hb:je (jG c.2.1 s.2.2.2.2 fun _ _ x=>qms x (yz (x.d,x.p))) c.2.1.length with
       | none=>rfl
       | some P=>exact obB (qbR P) (quj P (yd (qK [stK s]) (qo 1 1)) false)
   · rw [show j0 c s _=jZ from (qt hd).trans (qp (by rw [decide_eq_false hl];rfl))]
     exact qp (by rw [lnE,decide_eq_false hl];rfl)
end
end Su
end
section
namespace Su
open Go Fly
set_option linter.unusedVariables false
noncomputable section
abbrev qcL:=(Int×((List Su.Cc)×((List Su.T)×((List Su.T)×((List Su.T)×((List Su.T)×(Int×(Bool×(Bool×(Int×(Int×((List Su.Ce)×(Int×((List Su.Cc)×((List Su.T)×((List Su.T)×((List Su.T)×((List Su.T)×(Int×((List Su.Ce)×(Int×(Int×((List Su.T)×(Bool×(Bool×(Int×(Int×(Nat×((List Su.T)×(Bool×(Bool×(Int×(Int×(Nat×Unit))))))))))))))))))))))))))))))))))
def qbS:qcL→Option (qcL ⊕ (Lp qcL (Bool×(Bool×(Int×(Int×(List Su.Ce))))))):=fun p0=>(bif (decide ((p0.2.2.2.2.2.2.2.2.2.2.2.2.2.2.2.2.2.2.2.2.2.1<p0.2.2.2.2.2.2.2.2.2.2.2.2.2.2.2.2.2.2.2.2.1))) then
 ((Su.idx p0.2.2.2.2.2.2.2.2.2.2.2.2.2.2.2.2.2.2.2.1 p0.2.2.2.2.2.2.2.2.2.2.2.2.2.2.2.2.2.2.2.2.2.1)).bind fun x1 =>
 ((Su.idx p0.2.2.2.2.2.2.2.2.2.2.2.2.2.1 p0.2.2.2.2.2.2.2.2.2.2.2.2.2.2.2.2.2.2.2.2.2.1)).bind fun x2 =>
 ((Su.idx p0.2.1 p0.2.2.2.2.2.2.2.2.2.2.2.2.2.2.2.2.2.2.2.2.2.1)).bind fun x3 =>
 (bif (!(Su.Cc.input x3)) then
 (bif (Su.qV (Su.qz x1 (Su.Cc.type x2)) (Su.Cc.type x2)) then
 some (.inr (.ret (true,(false,((0:Int),((0:Int),[]))))))
 else
  (bif ((true&&(Nat.beq p0.2.2.2.2.2.2.2.2.2.2.2.2.2.2.2.2.2.2.2.2.2.2.2.2.2.2.2.2.2.2.2.2.2.1 (List.length p0.2.2.2.2.2.2.2.2.2.2.2.2.2.2.2.2.2.2.2.2.2.2.2.2.2.2.2.2.1)))&&(Nat.ble ((List.length p0.2.2.2.2.2.2.2.2.2.2.2.2.2.2.2.2.2.2.2.2.2.2.2.2.2.2.2.2.1)+(List.length [(Su.view 14 (Su.qz x1 (Su.Cc.type x2)))])) 549755813888)) then
  some (.inl (p0.1,(p0.2.1,(p0.2.2.1,(p0.2.2.2.1,(p0.2.2.2.2.1,(p0.2.2.2.2.2.1,(p0.2.2.2.2.2.2.1,(p0.2.2.2.2.2.2.2.1,(p0.2.2.2.2.2.2.2.2.1,(p0.2.2.2.2.2.2.2.2.2.1,(p0.2.2.2.2.2.2.2.2.2.2.1,(p0.2.2.2.2.2.2.2.2.2.2.2.1,(p0.2.2.2.2.2.2.2.2.2.2.2.2.1,(p0.2.2.2.2.2.2.2.2.2.2.2.2.2.1,(p0.2.2.2.2.2.2.2.2.2.2.2.2.2.2.1,(p0.2.2.2.2.2.2.2.2.2.2.2.2.2.2.2.1,(p0.2.2.2.2.2.2.2.2.2.2.2.2.2.2.2.2.1,(p0.2.2.2.2.2.2.2.2.2.2.2.2.2.2.2.2.2.1,(p0.2.2.2.2.2.2.2.2.2.2.2.2.2.2.2.2.2.2.1,(p0.2.2.2.2.2.2.2.2.2.2.2.2.2.2.2.2.2.2.2.1,(p0.2.2.2.2.2.2.2.2.2.2.2.2.2.2.2.2.2.2.2.2.1,((Go.IntKind.wrap .i64 (p0.2.2.2.2.2.2.2.2.2.2.2.2.2.2.2.2.2.2.2.2.2.1+1)),(p0.2.2.2.2.2.2.2.2.2.2.2.2.2.2.2.2.2.2.2.2.2.2.1,(p0.2.2.2.2.2.2.2.2.2.2.2.2.2.2.2.2.2.2.2.2.2.2.2.1,(p0.2.2.2.2.2.2.2.2.2.2.2.2.2.2.2.2.2.2.2.2.2.2.2.2.1,(p0.2.2.2.2.2.2.2.2.2.2.2.2.2.2.2.2.2.2.2.2.2.2.2.2.2.1,(p0.2.2.2.2.2.2.2.2.2.2.2.2.2.2.2.2.2.2.2.2.2.2.2.2.2.2.1,(p0.2.2.2.2.2.2.2.2.2.2.2.2.2.2.2.2.2.2.2.2.2.2.2.2.2.2.2.1,((p0.2.2.2.2.2.2.2.2.2.2.2.2.2.2.2.2.2.2.2.2.2.2.2.2.2.2.2.2.1++[(Su.view 14 (Su.qz x1 (Su.Cc.type x2)))]),(p0.2.2.2.2.2.2.2.2.2.2.2.2.2.2.2.2.2.2.2.2.2.2.2.2.2.2.2.2.2.1,(p0.2.2.2.2.2.2.2.2.2.2.2.2.2.2.2.2.2.2.2.2.2.2.2.2.2.2.2.2.2.2.1,(p0.2.2.2.2.2.2.2.2.2.2.2.2.2.2.2.2.2.2.2.2.2.2.2.2.2.2.2.2.2.2.2.1,(p0.2.2.2.2.2.2.2.2.2.2.2.2.2.2.2.2.2.2.2.2.2.2.2.2.2.2.2.2.2.2.2.2.1,((List.length (p0.2.2.2.2.2.2.2.2.2.2.2.2.2.2.2.2.2.2.2.2.2.2.2.2.2.2.2.2.1++[(Su.view 14 (Su.qz x1 (Su.Cc.type x2)))])),())))))))))))))))))))))))))))))))))))
 else
  none))
 else
  (bif (Su.qV (Su.qz (Su.Ce.mk true true (Su.qo (Go.IntKind.wrap .i64 (Su.Cc.fr x3)) (Go.IntKind.wrap .i64 (Su.Cc.to x3))) (Su.ja (Su.qo (Go.IntKind.wrap .i64 (Su.Cc.fr x3)) (Go.IntKind.wrap .i64 (Su.Cc.to x3))) (p0.2.2.2.2.2.2.2.2.1,(p0.2.2.2.2.2.2.2.2.2.1,p0.2.2.2.2.2.2.2.2.2.2.1))).1 (Su.ja (Su.qo (Go.IntKind.wrap .i64 (Su.Cc.fr x3)) (Go.IntKind.wrap .i64 (Su.Cc.to x3))) (p0.2.2.2.2.2.2.2.2.1,(p0.2.2.2.2.2.2.2.2.2.1,p0.2.2.2.2.2.2.2.2.2.2.1))).2 (Su.jF (Su.Cc.lo x3) (Su.Cc.hi x3)) (0:Int) (true,((0:Int),([],(0:Int))))) (Su.Cc.type x2)) (Su.Cc.type x2)) then
  some (.inr (.ret (true,(false,((0:Int),((0:Int),[]))))))
 else
  (bif ((true&&(Nat.beq p0.2.2.2.2.2.2.2.2.2.2.2.2.2.2.2.2.2.2.2.2.2.2.2.2.2.2.2.2.2.2.2.2.2.1 (List.length p0.2.2.2.2.2.2.2.2.2.2.2.2.2.2.2.2.2.2.2.2.2.2.2.2.2.2.2.2.1)))&&(Nat.ble ((List.length p0.2.2.2.2.2.2.2.2.2.2.2.2.2.2.2.2.2.2.2.2.2.2.2.2.2.2.2.2.1)+(List.length [(Su.view 14 (Su.qz (Su.Ce.mk true true (Su.qo (Go.IntKind.wrap .i64 (Su.Cc.fr x3)) (Go.IntKind.wrap .i64 (Su.Cc.to x3))) (Su.ja (Su.qo (Go.IntKind.wrap .i64 (Su.Cc.fr x3)) (Go.IntKind.wrap .i64 (Su.Cc.to x3))) (p0.2.2.2.2.2.2.2.2.1,(p0.2.2.2.2.2.2.2.2.2.1,p0.2.2.2.2.2.2.2.2.2.2.1))).1 (Su.ja (Su.qo (Go.IntKind.wrap .i64 (Su.Cc.fr x3)) (Go.IntKind.wrap .i64 (Su.Cc.to x3))) (p0.2.2.2.2.2.2.2.2.1,(p0.2.2.2.2.2.2.2.2.2.1,p0.2.2.2.2.2.2.2.2.2.2.1))).2 (Su.jF (Su.Cc.lo x3) (Su.Cc.hi x3)) (0:Int) (true,((0:Int),([],(0:Int))))) (Su.Cc.type x2)))])) 549755813888)) then
  some (.inl (p0.1,(p0.2.1,(p0.2.2.1,(p0.2.2.2.1,(p0.2.2.2.2.1,(p0.2.2.2.2.2.1,(p0.2.2.2.2.2.2.1,(p0.2.2.2.2.2.2.2.1,(p0.2.2.2.2.2.2.2.2.1,(p0.2.2.2.2.2.2.2.2.2.1,(p0.2.2.2.2.2.2.2.2.2.2.1,(p0.2.2.2.2.2.2.2.2.2.2.2.1,(p0.2.2.2.2.2.2.2.2.2.2.2.2.1,(p0.2.2.2.2.2.2.2.2.2.2.2.2.2.1,(p0.2.2.2.2.2.2.2.2.2.2.2.2.2.2.1,(p0.2.2.2.2.2.2.2.2.2.2.2.2.2.2.2.1,(p0.2.2.2.2.2.2.2.2.2.2.2.2.2.2.2.2.1,(p0.2.2.2.2.2.2.2.2.2.2.2.2.2.2.2.2.2.1,(p0.2.2.2.2.2.2.2.2.2.2.2.2.2.2.2.2.2.2.1,(p0.2.2.2.2.2.2.2.2.2.2.2.2.2.2.2.2.2.2.2.1,(p0.2.2.2.2.2.2.2.2.2.2.2.2.2.2.2.2.2.2.2.2.1,((Go.IntKind.wrap .i64 (p0.2.2.2.2.2.2.2.2.2.2.2.2.2.2.2.2.2.2.2.2.2.1+1)),(p0.2.2.2.2.2.2.2.2.2.2.2.2.2.2.2.2.2.2.2.2.2.2.1,(p0.2.2.2.2.2.2.2.2.2.2.2.2.2.2.2.2.2.2.2.2.2.2.2.1,(p0.2.2.2.2.2.2.2.2.2.2.2.2.2.2.2.2.2.2.2.2.2.2.2.2.1,(p0.2.2.2.2.2.2.2.2.2.2.2.2.2.2.2.2.2.2.2.2.2.2.2.2.2.1,(p0.2.2.2.2.2.2.2.2.2.2.2.2.2.2.2.2.2.2.2.2.2.2.2.2.2.2.1,(p0.2.2.2.2.2.2.2.2.2.2.2.2.2.2.2.2.2.2.2.2.2.2.2.2.2.2.2.1,((p0.2.2.2.2.2.2.2.2.2.2.2.2.2.2.2.2.2.2.2.2.2.2.2.2.2.2.2.2.1++[(Su.view 14 (Su.qz (Su.Ce.mk true true (Su.qo (Go.IntKind.wrap .i64 (Su.Cc.fr x3)) (Go.IntKind.wrap .i64 (Su.Cc.to x3))) (Su.ja (Su.qo (Go.IntKind.wrap .i64 (Su.Cc.fr x3)) (Go.IntKind.wrap .i64 (Su.Cc.to x3))) (p0.2.2.2.2.2.2.2.2.1,(p0.2.2.2.2.2.2.2.2.2.1,p0.2.2.2.2.2.2.2.2.2.2.1))).1 (Su.ja (Su.qo (Go.IntKind.wrap .i64 (Su.Cc.fr x3)) (Go.IntKind.wrap .i64 (Su.Cc.to x3))) (p0.2.2.2.2.2.2.2.2.1,(p0.2.2.2.2.2.2.2.2.2.1,p0.2.2.2.2.2.2.2.2.2.2.1))).2 (Su.jF (Su.Cc.lo x3) (Su.Cc.hi x3)) (0:Int) (true,((0:Int),([],(0:Int))))) (Su.Cc.type x2)))]),(p0.2.2.2.2.2.2.2.2.2.2.2.2.2.2.2.2.2.2.2.2.2.2.2.2.2.2.2.2.2.1,(p0.2.2.2.2.2.2.2.2.2.2.2.2.2.2.2.2.2.2.2.2.2.2.2.2.2.2.2.2.2.2.1,(p0.2.2.2.2.2.2.2.2.2.2.2.2.2.2.2.2.2.2.2.2.2.2.2.2.2.2.2.2.2.2.2.1,(p0.2.2.2.2.2.2.2.2.2.2.2.2.2.2.2.2.2.2.2.2.2.2.2.2.2.2.2.2.2.2.2.2.1,((List.length (p0.2.2.2.2.2.2.2.2.2.2.2.2.2.2.2.2.2.2.2.2.2.2.2.2.2.2.2.2.1++[(Su.view 14 (Su.qz (Su.Ce.mk true true (Su.qo (Go.IntKind.wrap .i64 (Su.Cc.fr x3)) (Go.IntKind.wrap .i64 (Su.Cc.to x3))) (Su.ja (Su.qo (Go.IntKind.wrap .i64 (Su.Cc.fr x3)) (Go.IntKind.wrap .i64 (Su.Cc.to x3))) (p0.2.2.2.2.2.2.2.2.1,(p0.2.2.2.2.2.2.2.2.2.1,p0.2.2.2.2.2.2.2.2.2.2.1))).1 (Su.ja (Su.qo (Go.IntKind.wrap .i64 (Su.Cc.fr x3)) (Go.IntKind.wrap .i64 (Su.Cc.to x3))) (p0.2.2.2.2.2.2.2.2.1,(p0.2.2.2.2.2.2.2.2.2.1,p0.2.2.2.2.2.2.2.2.2.2.1))).2 (Su.jF (Su.Cc.lo x3) (Su.Cc.hi x3)) (0:Int) (true,((0:Int),([],(0:Int))))) (Su.Cc.type x2)))])),())))))))))))))))))))))))))))))))))))
 else
  none)))
 else
  some (.inr (.exit 0 (p0.1,(p0.2.1,(p0.2.2.1,(p0.2.2.2.1,(p0.2.2.2.2.1,(p0.2.2.2.2.2.1,(p0.2.2.2.2.2.2.1,(p0.2.2.2.2.2.2.2.1,(p0.2.2.2.2.2.2.2.2.1,(p0.2.2.2.2.2.2.2.2.2.1,(p0.2.2.2.2.2.2.2.2.2.2.1,(p0.2.2.2.2.2.2.2.2.2.2.2.1,(p0.2.2.2.2.2.2.2.2.2.2.2.2.1,(p0.2.2.2.2.2.2.2.2.2.2.2.2.2.1,(p0.2.2.2.2.2.2.2.2.2.2.2.2.2.2.1,(p0.2.2.2.2.2.2.2.2.2.2.2.2.2.2.2.1,(p0.2.2.2.2.2.2.2.2.2.2.2.2.2.2.2.2.1,(p0.2.2.2.2.2.2.2.2.2.2.2.2.2.2.2.2.2.1,(p0.2.2.2.2.2.2.2.2.2.2.2.2.2.2.2.2.2.2.1,(p0.2.2.2.2.2.2.2.2.2.2.2.2.2.2.2.2.2.2.2.1,(p0.2.2.2.2.2.2.2.2.2.2.2.2.2.2.2.2.2.2.2.2.1,(p0.2.2.2.2.2.2.2.2.2.2.2.2.2.2.2.2.2.2.2.2.2.1,(p0.2.2.2.2.2.2.2.2.2.2.2.2.2.2.2.2.2.2.2.2.2.2.1,(p0.2.2.2.2.2.2.2.2.2.2.2.2.2.2.2.2.2.2.2.2.2.2.2.1,(p0.2.2.2.2.2.2.2.2.2.2.2.2.2.2.2.2.2.2.2.2.2.2.2.2.1,(p0.2.2.2.2.2.2.2.2.2.2.2.2.2.2.2.2.2.2.2.2.2.2.2.2.2.1,(p0.2.2.2.2.2.2.2.2.2.2.2.2.2.2.2.2.2.2.2.2.2.2.2.2.2.2.1,(p0.2.2.2.2.2.2.2.2.2.2.2.2.2.2.2.2.2.2.2.2.2.2.2.2.2.2.2.1,(p0.2.2.2.2.2.2.2.2.2.2.2.2.2.2.2.2.2.2.2.2.2.2.2.2.2.2.2.2.1,(p0.2.2.2.2.2.2.2.2.2.2.2.2.2.2.2.2.2.2.2.2.2.2.2.2.2.2.2.2.2.1,(p0.2.2.2.2.2.2.2.2.2.2.2.2.2.2.2.2.2.2.2.2.2.2.2.2.2.2.2.2.2.2.1,(p0.2.2.2.2.2.2.2.2.2.2.2.2.2.2.2.2.2.2.2.2.2.2.2.2.2.2.2.2.2.2.2.1,(p0.2.2.2.2.2.2.2.2.2.2.2.2.2.2.2.2.2.2.2.2.2.2.2.2.2.2.2.2.2.2.2.2.1,(p0.2.2.2.2.2.2.2.2.2.2.2.2.2.2.2.2.2.2.2.2.2.2.2.2.2.2.2.2.2.2.2.2.2.1,())))))))))))))))))))))))))))))))))))))
def qyS  (fu:Nat) (c:(Int×((List Su.Cc)×((List Su.T)×((List Su.T)×((List Su.T)×((List Su.T)×Int))))))) (s:(Bool×(Bool×(Int×(Int×(List Su.Ce)))))):Option (Bool×(Bool×(Int×(Int×(List Su.Ce))))) :=
 (bif s.1 then
 some (true,(false,((0:Int),((0:Int),[]))))
 else
  (bif (!(decide (((((List.length s.2.2.2.2):Nat):Int)=(((List.length c.2.1):Nat):Int))))) then
  some (true,(false,((0:Int),((0:Int),[]))))
 else
  (bif (Su.qK [(s.2.1,(s.2.2.1,s.2.2.2.1))]).1 then
  some (true,(false,((0:Int),((0:Int),[]))))
 else
  (itP fu (qbS) (c.1,(c.2.1,(c.2.2.1,(c.2.2.2.1,(c.2.2.2.2.1,(c.2.2.2.2.2.1,(c.2.2.2.2.2.2,(s.1,(s.2.1,(s.2.2.1,(s.2.2.2.1,(s.2.2.2.2,(c.1,(c.2.1,(c.2.2.1,(c.2.2.2.1,(c.2.2.2.2.1,(c.2.2.2.2.2.1,(c.2.2.2.2.2.2,(s.2.2.2.2,((((List.length s.2.2.2.2):Nat):Int),((0:Int),([],(false,(false,((0:Int),((0:Int),(0,([],(false,((Su.qK [(s.2.1,(s.2.2.1,s.2.2.2.1))]).1,((Su.qK [(s.2.1,(s.2.2.1,s.2.2.2.1))]).2.1,((Su.qK [(s.2.1,(s.2.2.1,s.2.2.2.1))]).2.2,(0,()))))))))))))))))))))))))))))))))))).bind fun x4 =>
  (match x4 with
 | .exit i5 p6=>(bif (Nat.beq i5 0) then
  ((Su.sub p6.2.2.2.2.2.2.2.2.2.2.2.2.2.2.2.2.2.2.2.2.2.2.2.2.2.2.2.2.1 0 p6.2.2.2.2.2.2.2.2.2.2.2.2.2.2.2.2.2.2.2.2.2.2.2.2.2.2.2.2.2.2.2.2.2.1)).bind fun x7 =>
  (((((Su.unR (Su.rCe) x7)).bind fun x8 =>
  some (p6.2.2.2.2.2.2.2.2.2.2.2.2.2.2.2.2.2.2.2.2.2.2.2.2.2.2.2.2.2.2.2.2.1,x8)).bind fun x9 =>
  some (p6.2.2.2.2.2.2.2.2.2.2.2.2.2.2.2.2.2.2.2.2.2.2.2.2.2.2.2.2.2.2.2.1,x9)).bind fun x10 =>
  some (p6.2.2.2.2.2.2.2.2.2.2.2.2.2.2.2.2.2.2.2.2.2.2.2.2.2.2.2.2.2.2.1,x10)).bind fun x11 =>
  some (p6.2.2.2.2.2.2.2.2.2.2.2.2.2.2.2.2.2.2.2.2.2.2.2.2.2.2.2.2.2.1,x11)
 else
  none)
 | .ret o12=>some o12))))
abbrev CapS:=Int×(List Su.Cc×(List Su.T×(List Su.T×(List Su.T×(List Su.T×(Int×(Bool×(Bool×(Int×(Int×(List Su.Ce×(Int×(List Su.Cc×(List Su.T×(List Su.T×(List Su.T×(List Su.T×(Int×(List Su.Ce×(Int×(Int×(List Su.T×(Bool×(Bool×(Int×(Int×(Nat×(List Su.T×(Bool×(Bool×(Int×(Int×(Nat×Unit)))))))))))))))))))))))))))))))))
def Yy (c:CoD) (s:StD) (K:Iv) (i:Int) (P:List Su.Ce):CapS :=
 (c.1,(c.2.1,(c.2.2.1,(c.2.2.2.1,(c.2.2.2.2.1,(c.2.2.2.2.2.1,(c.2.2.2.2.2.2,(s.1,(s.2.1,(s.2.2.1,(s.2.2.2.1,(s.2.2.2.2,(c.1,(c.2.1,(c.2.2.1,(c.2.2.2.1,(c.2.2.2.2.1,(c.2.2.2.2.2.1,(c.2.2.2.2.2.2,(s.2.2.2.2,(((s.2.2.2.2.length:Nat):Int),(i,([],(false,(false,(0,(0,(0,(P.map vCe,(false,(K.1,(K.2.1,(K.2.2,(P.length,()))))))))))))))))))))))))))))))))))
def Q5 (d:Su.Cc):Iv:=qo (IntKind.i64.wrap d.fr) (IntKind.i64.wrap d.to)
def qfq (s:StD) (_:Nat) (d:Su.Cc) (x:Su.Ce):Su.Ce :=
 bif !d.input then x else ⟨true,true,Q5 d,(ja (Q5 d) (stK s)).1,(ja (Q5 d) (stK s)).2,jF d.lo d.hi,0,(true,(0,([],0)))⟩
theorem qyT (c:CoD) (s:StD) (K:Iv) (hl:s.2.2.2.2.length=c.2.1.length) (hs:s.2.2.2.2.length≤1000000) :
 jD (c.2.1.length+1) qbS (Yy c s K ((0:Nat):Int) []) (qiu (.ret jZ) (fun P=>.exit 0 (Yy c s K (c.2.1.length:Int) P)) (je (jG c.2.1 s.2.2.2.2 (qfq s)) c.2.1.length)):=by
 have hmx:s.2.2.2.2.length≤maxLen:=by rw [qI];omega
 refine Q4 (mk:=fun i P=>Yy c s K (i:Int) P) ?_ ?_ ?_
 · intro i P x hi hP ho
   have i1:i<s.2.2.2.2.length:=by omega
   unfold jG at ho
   rw [List.getElem?_eq_getElem hi,List.getElem?_eq_getElem i1] at ho
   simp only [] at ho
   have hb:Nat.ble (P.length+1) 549755813888=true:=Nat.ble_eq_true_of_le (by omega)
   unfold Yy
   simp only [qbS,ltN,decide_eq_true i1,cond_true,ixl i1,ixl hi,Option.bind_some]
   generalize c.2.1[i]=d at *
   generalize s.2.2.2.2[i]=x0 at *
   cases e1:d.input with
   | false =>
    have hf:(qfq s) i d x0=x0:=by unfold qfq;rw [e1];rfl
    rw [hf] at ho
    refine (qp rfl).trans ?_
    rcases Bool.eq_false_or_eq_true (qV (qz (x0) d.type) d.type) with hn | hn
    · exact absurd ((qp hn).symm.trans ho) (by simp)
    · have:=soi ((qt hn).symm.trans ho);subst this
      refine (qt hn).trans ?_
      simp only [List.length_map,List.length_cons,List.length_nil,Nat.zero_add,Z4,hb,Bool.and_self,cond_true,yZ,w1 i1 hmx]
      all_goals rfl
   | true =>
    have hf:(qfq s) i d x0=⟨true,true,Q5 d,(ja (Q5 d) (stK s)).1,(ja (Q5 d) (stK s)).2,jF d.lo d.hi,0,(true,(0,([],0)))⟩:=by unfold qfq;rw [e1];rfl
    rw [hf] at ho
    refine (qt rfl).trans ?_
    rcases Bool.eq_false_or_eq_true (qV (qz (⟨true,true,Q5 d,(ja (Q5 d) (stK s)).1,(ja (Q5 d) (stK s)).2,jF d.lo d.hi,0,(true,(0,([],0)))⟩) d.type) d.type) with hn | hn
    · exact absurd ((qp hn).symm.trans ho) (by simp)
    · have:=soi ((qt hn).symm.trans ho);subst this
      refine (qt hn).trans ?_
      simp only [List.length_map,List.length_cons,List.length_nil,Nat.zero_add,Z4,hb,Bool.and_self,cond_true,yZ,w1 i1 hmx]
      all_goals rfl
 · intro i P hi hP ho
   have i1:i<s.2.2.2.2.length:=by omega
   unfold jG at ho
   rw [List.getElem?_eq_getElem hi,List.getElem?_eq_getElem i1] at ho
   simp only [] at ho
   have hb:Nat.ble (P.length+1) 549755813888=true:=Nat.ble_eq_true_of_le (by omega)
   unfold Yy
   simp only [qbS,ltN,decide_eq_true i1,cond_true,ixl i1,ixl hi,Option.bind_some]
   generalize c.2.1[i]=d at *
   generalize s.2.2.2.2[i]=x0 at *
   cases e1:d.input with
   | false =>
    have hf:(qfq s) i d x0=x0:=by unfold qfq;rw [e1];rfl
    rw [hf] at ho
    refine (qp rfl).trans ?_
    rcases Bool.eq_false_or_eq_true (qV (qz (x0) d.type) d.type) with hn | hn
    · exact (qp hn).trans rfl
    · exact absurd ((qt hn).symm.trans ho) (by simp)
   | true =>
    have hf:(qfq s) i d x0=⟨true,true,Q5 d,(ja (Q5 d) (stK s)).1,(ja (Q5 d) (stK s)).2,jF d.lo d.hi,0,(true,(0,([],0)))⟩:=by unfold qfq;rw [e1];rfl
    rw [hf] at ho
    refine (qt rfl).trans ?_
    rcases Bool.eq_false_or_eq_true (qV (qz (⟨true,true,Q5 d,(ja (Q5 d) (stK s)).1,(ja (Q5 d) (stK s)).2,jF d.lo d.hi,0,(true,(0,([],0)))⟩) d.type) d.type) with hn | hn
    · exact (qp hn).trans rfl
    · exact absurd ((qt hn).symm.trans ho) (by simp)
 · intro P hP
   unfold Yy
   simp only [qbS,ltN,hl,decide_eq_false (Nat.lt_irrefl _),cond_false]
def qD1 (c:CoD) (s:StD):StD:=j0 c s (qfq s)
def qul (p:CoD×StD):Option StD:=bif smS p.2 then some (qD1 p.1 p.2) else none
theorem qyU (p:CoD×StD) (y:StD) (hg:(dc cCo (d1 cSt)).good p) (h:qul p=some y):∃ n,qyS n p.1 p.2=some y:=by
 obtain ⟨c,s⟩:=p
 obtain ⟨hm,h⟩:=qj h
 have:=soi h;subst this
 have hm:smS s=true:=hm
 refine ⟨c.2.1.length+1,?_⟩
 show qyS (c.2.1.length+1) c s=some (qD1 c s)
 unfold qyS qD1
 rcases Bool.eq_false_or_eq_true s.1 with hd | hd
 · rw [show j0 c s _=jZ from qp hd];exact qp hd
 · refine (qt hd).trans ?_
   by_cases hl:s.2.2.2.2.length=c.2.1.length
   · refine (qt (by rw [lnE,decide_eq_true hl];rfl)).trans ?_
     rcases Bool.eq_false_or_eq_true (qK [stK s]).1 with hK | hK
     · rw [show j0 c s _=jZ from (qt hd).trans ((qt (by rw [decide_eq_true hl];rfl)).trans (qp hK))]
       exact qp hK
     · refine (qt hK).trans ?_
       rw [QA _ hd hl hK]
       have hr:=qyT c s (qK [stK s]) hl (qbQ hm) _ (Nat.le_refl _)
       refine obB hr ?_
       cases hb:je (jG c.2.1 s.2.2.2.2 (qfq s)) c.2.1.length with
       | none=>rfl
       | some P=>exact obB (qbR P) (quj P (qK [stK s]) false)
   · rw [show j0 c s _=jZ from (qt hd).trans (qp (by rw [decide_eq_false hl];rfl))]
     exact qp (by rw [lnE,decide_eq_false hl];rfl)
end
end Su
end
section
namespace Su
open Go Fly
set_option linter.unusedVariables false
noncomputable section
abbrev Zc:=(Int×((List Su.Cc)×((List Su.T)×((List Su.T)×((List Su.T)×((List Su.T)×(Int×(Bool×(Bool×(Int×(Int×((List Su.Ce)×(Int×((List Su.Cc)×((List Su.T)×((List Su.T)×((List Su.T)×((List Su.T)×(Int×((List Su.Ce)×(Int×(Int×((List Su.T)×(Bool×(Bool×(Int×(Int×(Nat×((List Su.T)×(Bool×(Bool×(Int×(Int×(Nat×Unit))))))))))))))))))))))))))))))))))
def JZ:Zc→Option (Zc ⊕ (Lp Zc (Bool×(Bool×(Int×(Int×(List Su.Ce))))))):=fun p0=>(bif (decide ((p0.2.2.2.2.2.2.2.2.2.2.2.2.2.2.2.2.2.2.2.2.2.1<p0.2.2.2.2.2.2.2.2.2.2.2.2.2.2.2.2.2.2.2.2.1))) then
 ((Su.idx p0.2.2.2.2.2.2.2.2.2.2.2.2.2.2.2.2.2.2.2.1 p0.2.2.2.2.2.2.2.2.2.2.2.2.2.2.2.2.2.2.2.2.2.1)).bind fun x1 =>
 ((Su.idx p0.2.2.2.2.2.2.2.2.2.2.2.2.2.1 p0.2.2.2.2.2.2.2.2.2.2.2.2.2.2.2.2.2.2.2.2.2.1)).bind fun x2 =>
 ((Su.idx p0.2.1 p0.2.2.2.2.2.2.2.2.2.2.2.2.2.2.2.2.2.2.2.2.2.1)).bind fun x3 =>
 (bif (decide (((Su.Cc.type x3)=1))) then
 (bif (Su.qV (Su.qz (Su.Ce.mk true false (false,((0:Int),(0:Int))) (false,((0:Int),(0:Int))) (false,((0:Int),(0:Int))) (false,((0:Int),(0:Int))) (0:Int) (false,((0:Int),([],(0:Int))))) (Su.Cc.type x2)) (Su.Cc.type x2)) then
 some (.inr (.ret (true,(false,((0:Int),((0:Int),[]))))))
 else
  (bif ((true&&(Nat.beq p0.2.2.2.2.2.2.2.2.2.2.2.2.2.2.2.2.2.2.2.2.2.2.2.2.2.2.2.2.2.2.2.2.2.1 (List.length p0.2.2.2.2.2.2.2.2.2.2.2.2.2.2.2.2.2.2.2.2.2.2.2.2.2.2.2.2.1)))&&(Nat.ble ((List.length p0.2.2.2.2.2.2.2.2.2.2.2.2.2.2.2.2.2.2.2.2.2.2.2.2.2.2.2.2.1)+(List.length [(Su.view 14 (Su.qz (Su.Ce.mk true false (false,((0:Int),(0:Int))) (false,((0:Int),(0:Int))) (false,((0:Int),(0:Int))) (false,((0:Int),(0:Int))) (0:Int) (false,((0:Int),([],(0:Int))))) (Su.Cc.type x2)))])) 549755813888)) then
  some (.inl (p0.1,(p0.2.1,(p0.2.2.1,(p0.2.2.2.1,(p0.2.2.2.2.1,(p0.2.2.2.2.2.1,(p0.2.2.2.2.2.2.1,(p0.2.2.2.2.2.2.2.1,(p0.2.2.2.2.2.2.2.2.1,(p0.2.2.2.2.2.2.2.2.2.1,(p0.2.2.2.2.2.2.2.2.2.2.1,(p0.2.2.2.2.2.2.2.2.2.2.2.1,(p0.2.2.2.2.2.2.2.2.2.2.2.2.1,(p0.2.2.2.2.2.2.2.2.2.2.2.2.2.1,(p0.2.2.2.2.2.2.2.2.2.2.2.2.2.2.1,(p0.2.2.2.2.2.2.2.2.2.2.2.2.2.2.2.1,(p0.2.2.2.2.2.2.2.2.2.2.2.2.2.2.2.2.1,(p0.2.2.2.2.2.2.2.2.2.2.2.2.2.2.2.2.2.1,(p0.2.2.2.2.2.2.2.2.2.2.2.2.2.2.2.2.2.2.1,(p0.2.2.2.2.2.2.2.2.2.2.2.2.2.2.2.2.2.2.2.1,(p0.2.2.2.2.2.2.2.2.2.2.2.2.2.2.2.2.2.2.2.2.1,((Go.IntKind.wrap .i64 (p0.2.2.2.2.2.2.2.2.2.2.2.2.2.2.2.2.2.2.2.2.2.1+1)),(p0.2.2.2.2.2.2.2.2.2.2.2.2.2.2.2.2.2.2.2.2.2.2.1,(p0.2.2.2.2.2.2.2.2.2.2.2.2.2.2.2.2.2.2.2.2.2.2.2.1,(p0.2.2.2.2.2.2.2.2.2.2.2.2.2.2.2.2.2.2.2.2.2.2.2.2.1,(p0.2.2.2.2.2.2.2.2.2.2.2.2.2.2.2.2.2.2.2.2.2.2.2.2.2.1,(p0.2.2.2.2.2.2.2.2.2.2.2.2.2.2.2.2.2.2.2.2.2.2.2.2.2.2.1,(p0.2.2.2.2.2.2.2.2.2.2.2.2.2.2.2.2.2.2.2.2.2.2.2.2.2.2.2.1,((p0.2.2.2.2.2.2.2.2.2.2.2.2.2.2.2.2.2.2.2.2.2.2.2.2.2.2.2.2.1++[(Su.view 14 (Su.qz (Su.Ce.mk true false (false,((0:Int),(0:Int))) (false,((0:Int),(0:Int))) (false,((0:Int),(0:Int))) (false,((0:Int),(0:Int))) (0:Int) (false,((0:Int),([],(0:Int))))) (Su.Cc.type x2)))]),(p0.2.2.2.2.2.2.2.2.2.2.2.2.2.2.2.2.2.2.2.2.2.2.2.2.2.2.2.2.2.1,(p0.2.2.2.2.2.2.2.2.2.2.2.2.2.2.2.2.2.2.2.2.2.2.2.2.2.2.2.2.2.2.1,(p0.2.2.2.2.2.2.2.2.2.2.2.2.2.2.2.2.2.2.2.2.2.2.2.2.2.2.2.2.2.2.2.1,(p0.2.2.2.2.2.2.2.2.2.2.2.2.2.2.2.2.2.2.2.2.2.2.2.2.2.2.2.2.2.2.2.2.1,((List.length (p0.2.2.2.2.2.2.2.2.2.2.2.2.2.2.2.2.2.2.2.2.2.2.2.2.2.2.2.2.1++[(Su.view 14 (Su.qz (Su.Ce.mk true false (false,((0:Int),(0:Int))) (false,((0:Int),(0:Int))) (false,((0:Int),(0:Int))) (false,((0:Int),(0:Int))) (0:Int) (false,((0:Int),([],(0:Int))))) (Su.Cc.type x2)))])),())))))))))))))))))))))))))))))))))))
 else
  none))
 else
  (bif (decide (((Su.Cc.type x3)=2))) then
  (bif (Su.qV (Su.qz (Su.Ce.mk false false (Su.qo (Go.IntKind.wrap .i64 0) (Go.IntKind.wrap .i64 0)) (Su.ja (Su.qo (Go.IntKind.wrap .i64 0) (Go.IntKind.wrap .i64 0)) (p0.2.2.2.2.2.2.2.2.1,(p0.2.2.2.2.2.2.2.2.2.1,p0.2.2.2.2.2.2.2.2.2.2.1))).1 (Su.ja (Su.qo (Go.IntKind.wrap .i64 0) (Go.IntKind.wrap .i64 0)) (p0.2.2.2.2.2.2.2.2.1,(p0.2.2.2.2.2.2.2.2.2.1,p0.2.2.2.2.2.2.2.2.2.2.1))).2 (false,((0:Int),(0:Int))) (0:Int) (false,((0:Int),([],(0:Int))))) (Su.Cc.type x2)) (Su.Cc.type x2)) then
  some (.inr (.ret (true,(false,((0:Int),((0:Int),[]))))))
 else
  (bif ((true&&(Nat.beq p0.2.2.2.2.2.2.2.2.2.2.2.2.2.2.2.2.2.2.2.2.2.2.2.2.2.2.2.2.2.2.2.2.2.1 (List.length p0.2.2.2.2.2.2.2.2.2.2.2.2.2.2.2.2.2.2.2.2.2.2.2.2.2.2.2.2.1)))&&(Nat.ble ((List.length p0.2.2.2.2.2.2.2.2.2.2.2.2.2.2.2.2.2.2.2.2.2.2.2.2.2.2.2.2.1)+(List.length [(Su.view 14 (Su.qz (Su.Ce.mk false false (Su.qo (Go.IntKind.wrap .i64 0) (Go.IntKind.wrap .i64 0)) (Su.ja (Su.qo (Go.IntKind.wrap .i64 0) (Go.IntKind.wrap .i64 0)) (p0.2.2.2.2.2.2.2.2.1,(p0.2.2.2.2.2.2.2.2.2.1,p0.2.2.2.2.2.2.2.2.2.2.1))).1 (Su.ja (Su.qo (Go.IntKind.wrap .i64 0) (Go.IntKind.wrap .i64 0)) (p0.2.2.2.2.2.2.2.2.1,(p0.2.2.2.2.2.2.2.2.2.1,p0.2.2.2.2.2.2.2.2.2.2.1))).2 (false,((0:Int),(0:Int))) (0:Int) (false,((0:Int),([],(0:Int))))) (Su.Cc.type x2)))])) 549755813888)) then
  some (.inl (p0.1,(p0.2.1,(p0.2.2.1,(p0.2.2.2.1,(p0.2.2.2.2.1,(p0.2.2.2.2.2.1,(p0.2.2.2.2.2.2.1,(p0.2.2.2.2.2.2.2.1,(p0.2.2.2.2.2.2.2.2.1,(p0.2.2.2.2.2.2.2.2.2.1,(p0.2.2.2.2.2.2.2.2.2.2.1,(p0.2.2.2.2.2.2.2.2.2.2.2.1,(p0.2.2.2.2.2.2.2.2.2.2.2.2.1,(p0.2.2.2.2.2.2.2.2.2.2.2.2.2.1,(p0.2.2.2.2.2.2.2.2.2.2.2.2.2.2.1,(p0.2.2.2.2.2.2.2.2.2.2.2.2.2.2.2.1,(p0.2.2.2.2.2.2.2.2.2.2.2.2.2.2.2.2.1,(p0.2.2.2.2.2.2.2.2.2.2.2.2.2.2.2.2.2.1,(p0.2.2.2.2.2.2.2.2.2.2.2.2.2.2.2.2.2.2.1,(p0.2.2.2.2.2.2.2.2.2.2.2.2.2.2.2.2.2.2.2.1,(p0.2.2.2.2.2.2.2.2.2.2.2.2.2.2.2.2.2.2.2.2.1,((Go.IntKind.wrap .i64 (p0.2.2.2.2.2.2.2.2.2.2.2.2.2.2.2.2.2.2.2.2.2.1+1)),(p0.2.2.2.2.2.2.2.2.2.2.2.2.2.2.2.2.2.2.2.2.2.2.1,(p0.2.2.2.2.2.2.2.2.2.2.2.2.2.2.2.2.2.2.2.2.2.2.2.1,(p0.2.2.2.2.2.2.2.2.2.2.2.2.2.2.2.2.2.2.2.2.2.2.2.2.1,(p0.2.2.2.2.2.2.2.2.2.2.2.2.2.2.2.2.2.2.2.2.2.2.2.2.2.1,(p0.2.2.2.2.2.2.2.2.2.2.2.2.2.2.2.2.2.2.2.2.2.2.2.2.2.2.1,(p0.2.2.2.2.2.2.2.2.2.2.2.2.2.2.2.2.2.2.2.2.2.2.2.2.2.2.2.1,((p0.2.2.2.2.2.2.2.2.2.2.2.2.2.2.2.2.2.2.2.2.2.2.2.2.2.2.2.2.1++[(Su.view 14 (Su.qz (Su.Ce.mk false false (Su.qo (Go.IntKind.wrap .i64 0) (Go.IntKind.wrap .i64 0)) (Su.ja (Su.qo (Go.IntKind.wrap .i64 0) (Go.IntKind.wrap .i64 0)) (p0.2.2.2.2.2.2.2.2.1,(p0.2.2.2.2.2.2.2.2.2.1,p0.2.2.2.2.2.2.2.2.2.2.1))).1 (Su.ja (Su.qo (Go.IntKind.wrap .i64 0) (Go.IntKind.wrap .i64 0)) (p0.2.2.2.2.2.2.2.2.1,(p0.2.2.2.2.2.2.2.2.2.1,p0.2.2.2.2.2.2.2.2.2.2.1))).2 (false,((0:Int),(0:Int))) (0:Int) (false,((0:Int),([],(0:Int))))) (Su.Cc.type x2)))]),(p0.2.2.2.2.2.2.2.2.2.2.2.2.2.2.2.2.2.2.2.2.2.2.2.2.2.2.2.2.2.1,(p0.2.2.2.2.2.2.2.2.2.2.2.2.2.2.2.2.2.2.2.2.2.2.2.2.2.2.2.2.2.2.1,(p0.2.2.2.2.2.2.2.2.2.2.2.2.2.2.2.2.2.2.2.2.2.2.2.2.2.2.2.2.2.2.2.1,(p0.2.2.2.2.2.2.2.2.2.2.2.2.2.2.2.2.2.2.2.2.2.2.2.2.2.2.2.2.2.2.2.2.1,((List.length (p0.2.2.2.2.2.2.2.2.2.2.2.2.2.2.2.2.2.2.2.2.2.2.2.2.2.2.2.2.1++[(Su.view 14 (Su.qz (Su.Ce.mk false false (Su.qo (Go.IntKind.wrap .i64 0) (Go.IntKind.wrap .i64 0)) (Su.ja (Su.qo (Go.IntKind.wrap .i64 0) (Go.IntKind.wrap .i64 0)) (p0.2.2.2.2.2.2.2.2.1,(p0.2.2.2.2.2.2.2.2.2.1,p0.2.2.2.2.2.2.2.2.2.2.1))).1 (Su.ja (Su.qo (Go.IntKind.wrap .i64 0) (Go.IntKind.wrap .i64 0)) (p0.2.2.2.2.2.2.2.2.1,(p0.2.2.2.2.2.2.2.2.2.1,p0.2.2.2.2.2.2.2.2.2.2.1))).2 (false,((0:Int),(0:Int))) (0:Int) (false,((0:Int),([],(0:Int))))) (Su.Cc.type x2)))])),())))))))))))))))))))))))))))))))))))
 else
  none))
 else
  (bif (decide (((Su.Cc.type x3)=3))) then
  (bif (Su.qV (Su.qz (Su.Ce.mk false false (false,((0:Int),(0:Int))) (false,((0:Int),(0:Int))) (false,((0:Int),(0:Int))) (Su.jF 0 0) (0:Int) (Su.jN (false,((0:Int),([],(0:Int)))))) (Su.Cc.type x2)) (Su.Cc.type x2)) then
  some (.inr (.ret (true,(false,((0:Int),((0:Int),[]))))))
 else
  (bif ((true&&(Nat.beq p0.2.2.2.2.2.2.2.2.2.2.2.2.2.2.2.2.2.2.2.2.2.2.2.2.2.2.2.2.2.2.2.2.2.1 (List.length p0.2.2.2.2.2.2.2.2.2.2.2.2.2.2.2.2.2.2.2.2.2.2.2.2.2.2.2.2.1)))&&(Nat.ble ((List.length p0.2.2.2.2.2.2.2.2.2.2.2.2.2.2.2.2.2.2.2.2.2.2.2.2.2.2.2.2.1)+(List.length [(Su.view 14 (Su.qz (Su.Ce.mk false false (false,((0:Int),(0:Int))) (false,((0:Int),(0:Int))) (false,((0:Int),(0:Int))) (Su.jF 0 0) (0:Int) (Su.jN (false,((0:Int),([],(0:Int)))))) (Su.Cc.type x2)))])) 549755813888)) then
  some (.inl (p0.1,(p0.2.1,(p0.2.2.1,(p0.2.2.2.1,(p0.2.2.2.2.1,(p0.2.2.2.2.2.1,(p0.2.2.2.2.2.2.1,(p0.2.2.2.2.2.2.2.1,(p0.2.2.2.2.2.2.2.2.1,(p0.2.2.2.2.2.2.2.2.2.1,(p0.2.2.2.2.2.2.2.2.2.2.1,(p0.2.2.2.2.2.2.2.2.2.2.2.1,(p0.2.2.2.2.2.2.2.2.2.2.2.2.1,(p0.2.2.2.2.2.2.2.2.2.2.2.2.2.1,(p0.2.2.2.2.2.2.2.2.2.2.2.2.2.2.1,(p0.2.2.2.2.2.2.2.2.2.2.2.2.2.2.2.1,(p0.2.2.2.2.2.2.2.2.2.2.2.2.2.2.2.2.1,(p0.2.2.2.2.2.2.2.2.2.2.2.2.2.2.2.2.2.1,(p0.2.2.2.2.2.2.2.2.2.2.2.2.2.2.2.2.2.2.1,(p0.2.2.2.2.2.2.2.2.2.2.2.2.2.2.2.2.2.2.2.1,(p0.2.2.2.2.2.2.2.2.2.2.2.2.2.2.2.2.2.2.2.2.1,((Go.IntKind.wrap .i64 (p0.2.2.2.2.2.2.2.2.2.2.2.2.2.2.2.2.2.2.2.2.2.1+1)),(p0.2.2.2.2.2.2.2.2.2.2.2.2.2.2.2.2.2.2.2.2.2.2.1,(p0.2.2.2.2.2.2.2.2.2.2.2.2.2.2.2.2.2.2.2.2.2.2.2.1,(p0.2.2.2.2.2.2.2.2.2.2.2.2.2.2.2.2.2.2.2.2.2.2.2.2.1,(p0.2.2.2.2.2.2.2.2.2.2.2.2.2.2.2.2.2.2.2.2.2.2.2.2.2.1,(p0.2.2.2.2.2.2.2.2.2.2.2.2.2.2.2.2.2.2.2.2.2.2.2.2.2.2.1,(p0.2.2.2.2.2.2.2.2.2.2.2.2.2.2.2.2.2.2.2.2.2.2.2.2.2.2.2.1,((p0.2.2.2.2.2.2.2.2.2.2.2.2.2.2.2.2.2.2.2.2.2.2.2.2.2.2.2.2.1++[(Su.view 14 (Su.qz (Su.Ce.mk false false (false,((0:Int),(0:Int))) (false,((0:Int),(0:Int))) (false,((0:Int),(0:Int))) (Su.jF 0 0) (0:Int) (Su.jN (false,((0:Int),([],(0:Int)))))) (Su.Cc.type x2)))]),(p0.2.2.2.2.2.2.2.2.2.2.2.2.2.2.2.2.2.2.2.2.2.2.2.2.2.2.2.2.2.1,(p0.2.2.2.2.2.2.2.2.2.2.2.2.2.2.2.2.2.2.2.2.2.2.2.2.2.2.2.2.2.2.1,(p0.2.2.2.2.2.2.2.2.2.2.2.2.2.2.2.2.2.2.2.2.2.2.2.2.2.2.2.2.2.2.2.1,(p0.2.2.2.2.2.2.2.2.2.2.2.2.2.2.2.2.2.2.2.2.2.2.2.2.2.2.2.2.2.2.2.2.1,((List.length (p0.2.2.2.2.2.2.2.2.2.2.2.2.2.2.2.2.2.2.2.2.2.2.2.2.2.2.2.2.1++[(Su.view 14 (Su.qz (Su.Ce.mk false false (false,((0:Int),(0:Int))) (false,((0:Int),(0:Int))) (false,((0:Int),(0:Int))) (Su.jF 0 0) (0:Int) (Su.jN (false,((0:Int),([],(0:Int)))))) (Su.Cc.type x2)))])),())))))))))))))))))))))))))))))))))))
 else
  none))
 else
  (bif (Su.qV (Su.qz (Su.Ce.mk false false (false,((0:Int),(0:Int))) (false,((0:Int),(0:Int))) (false,((0:Int),(0:Int))) (false,((0:Int),(0:Int))) (0:Int) (false,((0:Int),([],(0:Int))))) (Su.Cc.type x2)) (Su.Cc.type x2)) then
  some (.inr (.ret (true,(false,((0:Int),((0:Int),[]))))))
 else
  (bif ((true&&(Nat.beq p0.2.2.2.2.2.2.2.2.2.2.2.2.2.2.2.2.2.2.2.2.2.2.2.2.2.2.2.2.2.2.2.2.2.1 (List.length p0.2.2.2.2.2.2.2.2.2.2.2.2.2.2.2.2.2.2.2.2.2.2.2.2.2.2.2.2.1)))&&(Nat.ble ((List.length p0.2.2.2.2.2.2.2.2.2.2.2.2.2.2.2.2.2.2.2.2.2.2.2.2.2.2.2.2.1)+(List.length [(Su.view 14 (Su.qz (Su.Ce.mk false false (false,((0:Int),(0:Int))) (false,((0:Int),(0:Int))) (false,((0:Int),(0:Int))) (false,((0:Int),(0:Int))) (0:Int) (false,((0:Int),([],(0:Int))))) (Su.Cc.type x2)))])) 549755813888)) then
  some (.inl (p0.1,(p0.2.1,(p0.2.2.1,(p0.2.2.2.1,(p0.2.2.2.2.1,(p0.2.2.2.2.2.1,(p0.2.2.2.2.2.2.1,(p0.2.2.2.2.2.2.2.1,(p0.2.2.2.2.2.2.2.2.1,(p0.2.2.2.2.2.2.2.2.2.1,(p0.2.2.2.2.2.2.2.2.2.2.1,(p0.2.2.2.2.2.2.2.2.2.2.2.1,(p0.2.2.2.2.2.2.2.2.2.2.2.2.1,(p0.2.2.2.2.2.2.2.2.2.2.2.2.2.1,(p0.2.2.2.2.2.2.2.2.2.2.2.2.2.2.1,(p0.2.2.2.2.2.2.2.2.2.2.2.2.2.2.2.1,(p0.2.2.2.2.2.2.2.2.2.2.2.2.2.2.2.2.1,(p0.2.2.2.2.2.2.2.2.2.2.2.2.2.2.2.2.2.1,(p0.2.2.2.2.2.2.2.2.2.2.2.2.2.2.2.2.2.2.1,(p0.2.2.2.2.2.2.2.2.2.2.2.2.2.2.2.2.2.2.2.1,(p0.2.2.2.2.2.2.2.2.2.2.2.2.2.2.2.2.2.2.2.2.1,((Go.IntKind.wrap .i64 (p0.2.2.2.2.2.2.2.2.2.2.2.2.2.2.2.2.2.2.2.2.2.1+1)),(p0.2.2.2.2.2.2.2.2.2.2.2.2.2.2.2.2.2.2.2.2.2.2.1,(p0.2.2.2.2.2.2.2.2.2.2.2.2.2.2.2.2.2.2.2.2.2.2.2.1,(p0.2.2.2.2.2.2.2.2.2.2.2.2.2.2.2.2.2.2.2.2.2.2.2.2.1,(p0.2.2.2.2.2.2.2.2.2.2.2.2.2.2.2.2.2.2.2.2.2.2.2.2.2.1,(p0.2.2.2.2.2.2.2.2.2.2.2.2.2.2.2.2.2.2.2.2.2.2.2.2.2.2.1,(p0.2.2.2.2.2.2.2.2.2.2.2.2.2.2.2.2.2.2.2.2.2.2.2.2.2.2.2.1,((p0.2.2.2.2.2.2.2.2.2.2.2.2.2.2.2.2.2.2.2.2.2.2.2.2.2.2.2.2.1++[(Su.view 14 (Su.qz (Su.Ce.mk false false (false,((0:Int),(0:Int))) (false,((0:Int),(0:Int))) (false,((0:Int),(0:Int))) (false,((0:Int),(0:Int))) (0:Int) (false,((0:Int),([],(0:Int))))) (Su.Cc.type x2)))]),(p0.2.2.2.2.2.2.2.2.2.2.2.2.2.2.2.2.2.2.2.2.2.2.2.2.2.2.2.2.2.1,(p0.2.2.2.2.2.2.2.2.2.2.2.2.2.2.2.2.2.2.2.2.2.2.2.2.2.2.2.2.2.2.1,(p0.2.2.2.2.2.2.2.2.2.2.2.2.2.2.2.2.2.2.2.2.2.2.2.2.2.2.2.2.2.2.2.1,(p0.2.2.2.2.2.2.2.2.2.2.2.2.2.2.2.2.2.2.2.2.2.2.2.2.2.2.2.2.2.2.2.2.1,((List.length (p0.2.2.2.2.2.2.2.2.2.2.2.2.2.2.2.2.2.2.2.2.2.2.2.2.2.2.2.2.1++[(Su.view 14 (Su.qz (Su.Ce.mk false false (false,((0:Int),(0:Int))) (false,((0:Int),(0:Int))) (false,((0:Int),(0:Int))) (false,((0:Int),(0:Int))) (0:Int) (false,((0:Int),([],(0:Int))))) (Su.Cc.type x2)))])),())))))))))))))))))))))))))))))))))))
 else
  none)))))
 else
  some (.inr (.exit 0 (p0.1,(p0.2.1,(p0.2.2.1,(p0.2.2.2.1,(p0.2.2.2.2.1,(p0.2.2.2.2.2.1,(p0.2.2.2.2.2.2.1,(p0.2.2.2.2.2.2.2.1,(p0.2.2.2.2.2.2.2.2.1,(p0.2.2.2.2.2.2.2.2.2.1,(p0.2.2.2.2.2.2.2.2.2.2.1,(p0.2.2.2.2.2.2.2.2.2.2.2.1,(p0.2.2.2.2.2.2.2.2.2.2.2.2.1,(p0.2.2.2.2.2.2.2.2.2.2.2.2.2.1,(p0.2.2.2.2.2.2.2.2.2.2.2.2.2.2.1,(p0.2.2.2.2.2.2.2.2.2.2.2.2.2.2.2.1,(p0.2.2.2.2.2.2.2.2.2.2.2.2.2.2.2.2.1,(p0.2.2.2.2.2.2.2.2.2.2.2.2.2.2.2.2.2.1,(p0.2.2.2.2.2.2.2.2.2.2.2.2.2.2.2.2.2.2.1,(p0.2.2.2.2.2.2.2.2.2.2.2.2.2.2.2.2.2.2.2.1,(p0.2.2.2.2.2.2.2.2.2.2.2.2.2.2.2.2.2.2.2.2.1,(p0.2.2.2.2.2.2.2.2.2.2.2.2.2.2.2.2.2.2.2.2.2.1,(p0.2.2.2.2.2.2.2.2.2.2.2.2.2.2.2.2.2.2.2.2.2.2.1,(p0.2.2.2.2.2.2.2.2.2.2.2.2.2.2.2.2.2.2.2.2.2.2.2.1,(p0.2.2.2.2.2.2.2.2.2.2.2.2.2.2.2.2.2.2.2.2.2.2.2.2.1,(p0.2.2.2.2.2.2.2.2.2.2.2.2.2.2.2.2.2.2.2.2.2.2.2.2.2.1,(p0.2.2.2.2.2.2.2.2.2.2.2.2.2.2.2.2.2.2.2.2.2.2.2.2.2.2.1,(p0.2.2.2.2.2.2.2.2.2.2.2.2.2.2.2.2.2.2.2.2.2.2.2.2.2.2.2.1,(p0.2.2.2.2.2.2.2.2.2.2.2.2.2.2.2.2.2.2.2.2.2.2.2.2.2.2.2.2.1,(p0.2.2.2.2.2.2.2.2.2.2.2.2.2.2.2.2.2.2.2.2.2.2.2.2.2.2.2.2.2.1,(p0.2.2.2.2.2.2.2.2.2.2.2.2.2.2.2.2.2.2.2.2.2.2.2.2.2.2.2.2.2.2.1,(p0.2.2.2.2.2.2.2.2.2.2.2.2.2.2.2.2.2.2.2.2.2.2.2.2.2.2.2.2.2.2.2.1,(p0.2.2.2.2.2.2.2.2.2.2.2.2.2.2.2.2.2.2.2.2.2.2.2.2.2.2.2.2.2.2.2.2.1,(p0.2.2.2.2.2.2.2.2.2.2.2.2.2.2.2.2.2.2.2.2.2.2.2.2.2.2.2.2.2.2.2.2.2.1,())))))))))))))))))))))))))))))))))))))
def qmt  (fu:Nat) (c:(Int×((List Su.Cc)×((List Su.T)×((List Su.T)×((List Su.T)×((List Su.T)×Int))))))):Option (Bool×(Bool×(Int×(Int×(List Su.Ce))))) :=
 (bif (((true&&(decide ((0≤(((List.length c.2.1):Nat):Int)))))&&(decide (((((List.length c.2.1):Nat):Int)≤(((List.length c.2.1):Nat):Int)))))&&(decide (((((List.length c.2.1):Nat):Int)≤549755813888)))) then
 (bif (!(decide (((((List.length (List.replicate (Int.toNat (((List.length c.2.1):Nat):Int)) (Su.Ce.mk false false (false,((0:Int),(0:Int))) (false,((0:Int),(0:Int))) (false,((0:Int),(0:Int))) (false,((0:Int),(0:Int))) 0 (false,((0:Int),([],(0:Int))))))):Nat):Int)=(((List.length c.2.1):Nat):Int))))) then
 some (true,(false,((0:Int),((0:Int),[]))))
 else
  (itP fu (JZ) (c.1,(c.2.1,(c.2.2.1,(c.2.2.2.1,(c.2.2.2.2.1,(c.2.2.2.2.2.1,(c.2.2.2.2.2.2,(false,((Su.qo 0 0).1,((Su.qo 0 0).2.1,((Su.qo 0 0).2.2,((List.replicate (Int.toNat (((List.length c.2.1):Nat):Int)) (Su.Ce.mk false false (false,((0:Int),(0:Int))) (false,((0:Int),(0:Int))) (false,((0:Int),(0:Int))) (false,((0:Int),(0:Int))) 0 (false,((0:Int),([],(0:Int)))))),(c.1,(c.2.1,(c.2.2.1,(c.2.2.2.1,(c.2.2.2.2.1,(c.2.2.2.2.2.1,(c.2.2.2.2.2.2,((List.replicate (Int.toNat (((List.length c.2.1):Nat):Int)) (Su.Ce.mk false false (false,((0:Int),(0:Int))) (false,((0:Int),(0:Int))) (false,((0:Int),(0:Int))) (false,((0:Int),(0:Int))) 0 (false,((0:Int),([],(0:Int)))))),((((List.length (List.replicate (Int.toNat (((List.length c.2.1):Nat):Int)) (Su.Ce.mk false false (false,((0:Int),(0:Int))) (false,((0:Int),(0:Int))) (false,((0:Int),(0:Int))) (false,((0:Int),(0:Int))) 0 (false,((0:Int),([],(0:Int))))))):Nat):Int),((0:Int),([],(false,(false,((0:Int),((0:Int),(0,([],(false,((Su.qK [(Su.qo 0 0)]).1,((Su.qK [(Su.qo 0 0)]).2.1,((Su.qK [(Su.qo 0 0)]).2.2,(0,()))))))))))))))))))))))))))))))))))).bind fun x4 =>
  (match x4 with
 | .exit i5 p6=>(bif (Nat.beq i5 0) then
  ((Su.sub p6.2.2.2.2.2.2.2.2.2.2.2.2.2.2.2.2.2.2.2.2.2.2.2.2.2.2.2.2.1 0 p6.2.2.2.2.2.2.2.2.2.2.2.2.2.2.2.2.2.2.2.2.2.2.2.2.2.2.2.2.2.2.2.2.2.1)).bind fun x7 =>
  (((((Su.unR (Su.rCe) x7)).bind fun x8 =>
  some (p6.2.2.2.2.2.2.2.2.2.2.2.2.2.2.2.2.2.2.2.2.2.2.2.2.2.2.2.2.2.2.2.2.1,x8)).bind fun x9 =>
  some (p6.2.2.2.2.2.2.2.2.2.2.2.2.2.2.2.2.2.2.2.2.2.2.2.2.2.2.2.2.2.2.2.1,x9)).bind fun x10 =>
  some (p6.2.2.2.2.2.2.2.2.2.2.2.2.2.2.2.2.2.2.2.2.2.2.2.2.2.2.2.2.2.2.1,x10)).bind fun x11 =>
  some (p6.2.2.2.2.2.2.2.2.2.2.2.2.2.2.2.2.2.2.2.2.2.2.2.2.2.2.2.2.2.1,x11)
 else
  none)
 | .ret o12=>some o12))
 else
  none)
def ce0:Su.Ce:=⟨false,false,iv0,iv0,iv0,iv0,0,fm0⟩
def jB (c:CoD):StD:=(false,((qo 0 0).1,((qo 0 0).2.1,((qo 0 0).2.2,List.replicate c.2.1.length ce0))))
def j4 (_:Nat) (d:Su.Cc) (_:Su.Ce):Su.Ce :=
 bif decide (d.type=1) then ⟨true,false,iv0,iv0,iv0,iv0,0,fm0⟩
 else bif decide (d.type=2) then ⟨false,false,qo 0 0,(ja (qo 0 0) (qo 0 0)).1,(ja (qo 0 0) (qo 0 0)).2,iv0,0,fm0⟩
 else bif decide (d.type=3) then ⟨false,false,iv0,iv0,iv0,jF 0 0,0,jN fm0⟩
 else ce0
theorem wz:IntKind.i64.wrap 0=0:=by decide
theorem qum (c:CoD) (K:Iv) (hl:(jB c).2.2.2.2.length=c.2.1.length) (hs:(jB c).2.2.2.2.length≤1000000) :
 jD (c.2.1.length+1) JZ (Yy c (jB c) K ((0:Nat):Int) []) (qiu (.ret jZ) (fun P=>.exit 0 (Yy c (jB c) K (c.2.1.length:Int) P)) (je (jG c.2.1 (jB c).2.2.2.2 (j4)) c.2.1.length)):=by
 have hmx:(jB c).2.2.2.2.length≤maxLen:=by rw [qI];omega
 refine Q4 (mk:=fun i P=>Yy c (jB c) K (i:Int) P) ?_ ?_ ?_
 · intro i P x hi hP ho
   have i1:i<(jB c).2.2.2.2.length:=by omega
   unfold jG at ho
   rw [List.getElem?_eq_getElem hi,List.getElem?_eq_getElem i1] at ho
   simp only [] at ho
   have hb:Nat.ble (P.length+1) 549755813888=true:=Nat.ble_eq_true_of_le (by omega)
   unfold Yy
   simp only [JZ,ltN,decide_eq_true i1,cond_true,ixl i1,ixl hi,Option.bind_some]
   simp only [wz]
   generalize c.2.1[i]=d at *
   generalize (jB c).2.2.2.2[i]=x0 at *
   by_cases t1:d.type=1
   · have e1:=decide_eq_true t1
     have hf:j4 i d x0=⟨true,false,iv0,iv0,iv0,iv0,0,fm0⟩:=by unfold j4;rw [e1];rfl
     rw [hf] at ho
     refine (qp e1).trans ?_
     rcases Bool.eq_false_or_eq_true (qV (qz (⟨true,false,iv0,iv0,iv0,iv0,0,fm0⟩) d.type) d.type) with hn | hn
     · exact absurd ((qp hn).symm.trans ho) (by simp)
     · have:=soi ((qt hn).symm.trans ho);subst this
       refine (qt hn).trans ?_
       simp only [List.length_map,List.length_cons,List.length_nil,Nat.zero_add,Z4,hb,Bool.and_self,cond_true,yZ,w1 i1 hmx]
       all_goals rfl
   · have e1:=decide_eq_false t1
     by_cases t2:d.type=2
     · have e2:=decide_eq_true t2
       have hf:j4 i d x0=⟨false,false,qo 0 0,(ja (qo 0 0) (qo 0 0)).1,(ja (qo 0 0) (qo 0 0)).2,iv0,0,fm0⟩:=by unfold j4;rw [e1,e2];rfl
       rw [hf] at ho
       refine (qt e1).trans ((qp e2).trans ?_)
       rcases Bool.eq_false_or_eq_true (qV (qz (⟨false,false,qo 0 0,(ja (qo 0 0) (qo 0 0)).1,(ja (qo 0 0) (qo 0 0)).2,iv0,0,fm0⟩) d.type) d.type) with hn | hn
       · exact absurd ((qp hn).symm.trans ho) (by simp)
       · have:=soi ((qt hn).symm.trans ho);subst this
         refine (qt hn).trans ?_
         simp only [List.length_map,List.length_cons,List.length_nil,Nat.zero_add,Z4,hb,Bool.and_self,cond_true,yZ,w1 i1 hmx]
         all_goals rfl
     · have e2:=decide_eq_false t2
       by_cases t3:d.type=3
       · have e3:=decide_eq_true t3
         have hf:j4 i d x0=⟨false,false,iv0,iv0,iv0,jF 0 0,0,jN fm0⟩:=by unfold j4;rw [e1,e2,e3];rfl
         rw [hf] at ho
         refine (qt e1).trans ((qt e2).trans ((qp e3).trans ?_))
         rcases Bool.eq_false_or_eq_true (qV (qz (⟨false,false,iv0,iv0,iv0,jF 0 0,0,jN fm0⟩) d.type) d.type) with hn | hn
         · exact absurd ((qp hn).symm.trans ho) (by simp)
         · have:=soi ((qt hn).symm.trans ho);subst this
           refine (qt hn).trans ?_
           simp only [List.length_map,List.length_cons,List.length_nil,Nat.zero_add,Z4,hb,Bool.and_self,cond_true,yZ,w1 i1 hmx]
           all_goals rfl
       · have e3:=decide_eq_false t3
         have hf:j4 i d x0=ce0:=by unfold j4;rw [e1,e2,e3];rfl
         rw [hf] at ho
         refine (qt e1).trans ((qt e2).trans ((qt e3).trans ?_))
         rcases Bool.eq_false_or_eq_true (qV (qz (ce0) d.type) d.type) with hn | hn
         · exact absurd ((qp hn).symm.trans ho) (by simp)
         · have:=soi ((qt hn).symm.trans ho);subst this
           refine (qt hn).trans ?_
           simp only [List.length_map,List.length_cons,List.length_nil,Nat.zero_add,Z4,hb,Bool.and_self,cond_true,yZ,w1 i1 hmx]
           all_goals rfl
 · intro i P hi hP ho
   have i1:i<(jB c).2.2.2.2.length:=by omega
   unfold jG at ho
   rw [List.getElem?_eq_getElem hi,List.getElem?_eq_getElem i1] at ho
   simp only [] at ho
   have hb:Nat.ble (P.length+1) 549755813888=true:=Nat.ble_eq_true_of_le (by omega)
   unfold Yy
   simp only [JZ,ltN,decide_eq_true i1,cond_true,ixl i1,ixl hi,Option.bind_some]
   simp only [wz]
   generalize c.2.1[i]=d at *
   generalize (jB c).2.2.2.2[i]=x0 at *
   by_cases t1:d.type=1
   · have e1:=decide_eq_true t1
     have hf:j4 i d x0=⟨true,false,iv0,iv0,iv0,iv0,0,fm0⟩:=by unfold j4;rw [e1];rfl
     rw [hf] at ho
     refine (qp e1).trans ?_
     rcases Bool.eq_false_or_eq_true (qV (qz (⟨true,false,iv0,iv0,iv0,iv0,0,fm0⟩) d.type) d.type) with hn | hn
     · exact (qp hn).trans rfl
     · exact absurd ((qt hn).symm.trans ho) (by simp)
   · have e1:=decide_eq_false t1
     by_cases t2:d.type=2
     · have e2:=decide_eq_true t2
       have hf:j4 i d x0=⟨false,false,qo 0 0,(ja (qo 0 0) (qo 0 0)).1,(ja (qo 0 0) (qo 0 0)).2,iv0,0,fm0⟩:=by unfold j4;rw [e1,e2];rfl
       rw [hf] at ho
       refine (qt e1).trans ((qp e2).trans ?_)
       rcases Bool.eq_false_or_eq_true (qV (qz (⟨false,false,qo 0 0,(ja (qo 0 0) (qo 0 0)).1,(ja (qo 0 0) (qo 0 0)).2,iv0,0,fm0⟩) d.type) d.type) with hn | hn
       · exact (qp hn).trans rfl
       · exact absurd ((qt hn).symm.trans ho) (by simp)
     · have e2:=decide_eq_false t2
       by_cases t3:d.type=3
       · have e3:=decide_eq_true t3
         have hf:j4 i d x0=⟨false,false,iv0,iv0,iv0,jF 0 0,0,jN fm0⟩:=by unfold j4;rw [e1,e2,e3];rfl
         rw [hf] at ho
         refine (qt e1).trans ((qt e2).trans ((qp e3).trans ?_))
         rcases Bool.eq_false_or_eq_true (qV (qz (⟨false,false,iv0,iv0,iv0,jF 0 0,0,jN fm0⟩) d.type) d.type) with hn | hn
         · exact (qp hn).trans rfl
         · exact absurd ((qt hn).symm.trans ho) (by simp)
       · have e3:=decide_eq_false t3
         have hf:j4 i d x0=ce0:=by unfold j4;rw [e1,e2,e3];rfl
         rw [hf] at ho
         refine (qt e1).trans ((qt e2).trans ((qt e3).trans ?_))
         rcases Bool.eq_false_or_eq_true (qV (qz (ce0) d.type) d.type) with hn | hn
         · exact (qp hn).trans rfl
         · exact absurd ((qt hn).symm.trans ho) (by simp)
 · intro P hP
   unfold Yy
   simp only [JZ,ltN,hl,decide_eq_false (Nat.lt_irrefl _),cond_false]
def qac (c:CoD):StD:=j0 c (jB c) j4
def qbT (c:CoD):Option StD:=bif Nat.ble c.2.1.length 1000000 then some (qac c) else none
theorem qkI (c:CoD):(jB c).2.2.2.2.length=c.2.1.length:=List.length_replicate ..
theorem qp5 (c:CoD) (y:StD) (hg:(d1 cCo).good c) (h:qbT c=some y):∃ n,qmt n c=some y:=by
 obtain ⟨hm,h⟩:=qj h
 have:=soi h;subst this
 have hm:=Nat.le_of_ble_eq_true hm
 refine ⟨c.2.1.length+1,?_⟩
 unfold qmt qac
 have hl:=qkI c
 have hK:(qK [stK (jB c)]).1=false:=rfl
 refine (qp (by simp;omega)).trans ((qt (by rw [Int.toNat_natCast,lnE,decide_eq_true (List.length_replicate ..)];rfl)).trans ?_)
 rw [QA _ rfl hl hK]
 have hr:=qum c (qK [stK (jB c)]) hl (by rw [hl];exact hm) _ (Nat.le_refl _)
 refine obB hr ?_
 cases hb:je (jG c.2.1 (jB c).2.2.2.2 j4) c.2.1.length with
 | none=>rfl
 | some P=>exact obB (qbR P) (quj P (qK [stK (jB c)]) false)
end
end Su
end
