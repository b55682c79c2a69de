/-
  What functions of the program compute, in plain Lean, and that the evaluator finds it.
-/
import Derived.Test.YtfckjjffdfkelaaGreatSuSd
import Derived.Test.YtfckjjffdfkelaaGreatNB25
set_option maxRecDepth 10000
section
namespace Su
open Go Fly
set_option linter.unusedVariables false
noncomputable section
abbrev qa6:=(Int×((List Su.Cc)×((List Su.T)×((List Su.T)×((List Su.T)×((List Su.T)×(Int×((List Su.Ce)×(Int×(Int×((List Su.T)×(Bool×(Bool×(Int×(Int×(Nat×((List Su.T)×(Bool×(Bool×(Int×(Int×(Nat×Unit))))))))))))))))))))))
def Zp:qa6→Option (qa6 ⊕ (Lp qa6 (Bool×(Bool×(Int×(Int×(List Su.Ce))))))):=fun p0=>(bif (decide ((p0.2.2.2.2.2.2.2.2.2.1<p0.2.2.2.2.2.2.2.2.1))) then
 ((Su.idx p0.2.2.2.2.2.2.2.1 p0.2.2.2.2.2.2.2.2.2.1)).bind fun x1 =>
 ((Su.idx p0.2.1 p0.2.2.2.2.2.2.2.2.2.1)).bind fun x2 =>
 (bif (Su.qJ (Su.qo (Su.Ce.mk (Su.Ce.f x1) (Su.Ce.t x1) x1.3 (Su.yF (x1.4,x1.5)).1 (Su.yF (x1.4,x1.5)).2 x1.6 (Su.Ce.sl x1) x1.8) (Su.Cc.type x2)) (Su.Cc.type x2)) then
 some (.inr (.ret (true,(false,((0:Int),((0:Int),[]))))))
 else
  (bif ((true&&(Nat.beq p0.2.2.2.2.2.2.2.2.2.2.2.2.2.2.2.2.2.2.2.2.2.1 (List.length p0.2.2.2.2.2.2.2.2.2.2.2.2.2.2.2.2.1)))&&(Nat.ble ((List.length p0.2.2.2.2.2.2.2.2.2.2.2.2.2.2.2.2.1)+(List.length [(Su.view 14 (Su.qo (Su.Ce.mk (Su.Ce.f x1) (Su.Ce.t x1) x1.3 (Su.yF (x1.4,x1.5)).1 (Su.yF (x1.4,x1.5)).2 x1.6 (Su.Ce.sl x1) x1.8) (Su.Cc.type x2)))])) 549755813888)) then
  some (.inl (p0.1,(p0.2.1,(p0.2.2.1,(p0.2.2.2.1,(p0.2.2.2.2.1,(p0.2.2.2.2.2.1,(p0.2.2.2.2.2.2.1,(p0.2.2.2.2.2.2.2.1,(p0.2.2.2.2.2.2.2.2.1,((Go.IntKind.wrap .i64 (p0.2.2.2.2.2.2.2.2.2.1+1)),(p0.2.2.2.2.2.2.2.2.2.2.1,(p0.2.2.2.2.2.2.2.2.2.2.2.1,(p0.2.2.2.2.2.2.2.2.2.2.2.2.1,(p0.2.2.2.2.2.2.2.2.2.2.2.2.2.1,(p0.2.2.2.2.2.2.2.2.2.2.2.2.2.2.1,(p0.2.2.2.2.2.2.2.2.2.2.2.2.2.2.2.1,((p0.2.2.2.2.2.2.2.2.2.2.2.2.2.2.2.2.1++[(Su.view 14 (Su.qo (Su.Ce.mk (Su.Ce.f x1) (Su.Ce.t x1) x1.3 (Su.yF (x1.4,x1.5)).1 (Su.yF (x1.4,x1.5)).2 x1.6 (Su.Ce.sl x1) x1.8) (Su.Cc.type x2)))]),(p0.2.2.2.2.2.2.2.2.2.2.2.2.2.2.2.2.2.1,(p0.2.2.2.2.2.2.2.2.2.2.2.2.2.2.2.2.2.2.1,(p0.2.2.2.2.2.2.2.2.2.2.2.2.2.2.2.2.2.2.2.1,(p0.2.2.2.2.2.2.2.2.2.2.2.2.2.2.2.2.2.2.2.2.1,((List.length (p0.2.2.2.2.2.2.2.2.2.2.2.2.2.2.2.2.1++[(Su.view 14 (Su.qo (Su.Ce.mk (Su.Ce.f x1) (Su.Ce.t x1) x1.3 (Su.yF (x1.4,x1.5)).1 (Su.yF (x1.4,x1.5)).2 x1.6 (Su.Ce.sl x1) x1.8) (Su.Cc.type x2)))])),())))))))))))))))))))))))
 else
  none))
 else
  some (.inr (.exit 0 (p0.1,(p0.2.1,(p0.2.2.1,(p0.2.2.2.1,(p0.2.2.2.2.1,(p0.2.2.2.2.2.1,(p0.2.2.2.2.2.2.1,(p0.2.2.2.2.2.2.2.1,(p0.2.2.2.2.2.2.2.2.1,(p0.2.2.2.2.2.2.2.2.2.1,(p0.2.2.2.2.2.2.2.2.2.2.1,(p0.2.2.2.2.2.2.2.2.2.2.2.1,(p0.2.2.2.2.2.2.2.2.2.2.2.2.1,(p0.2.2.2.2.2.2.2.2.2.2.2.2.2.1,(p0.2.2.2.2.2.2.2.2.2.2.2.2.2.2.1,(p0.2.2.2.2.2.2.2.2.2.2.2.2.2.2.2.1,(p0.2.2.2.2.2.2.2.2.2.2.2.2.2.2.2.2.1,(p0.2.2.2.2.2.2.2.2.2.2.2.2.2.2.2.2.2.1,(p0.2.2.2.2.2.2.2.2.2.2.2.2.2.2.2.2.2.2.1,(p0.2.2.2.2.2.2.2.2.2.2.2.2.2.2.2.2.2.2.2.1,(p0.2.2.2.2.2.2.2.2.2.2.2.2.2.2.2.2.2.2.2.2.1,(p0.2.2.2.2.2.2.2.2.2.2.2.2.2.2.2.2.2.2.2.2.2.1,())))))))))))))))))))))))))
def qo1  (fu:Nat) (c:(Int×((List Su.Cc)×((List Su.T)×((List Su.T)×((List Su.T)×((List Su.T)×Int))))))) (s:(Bool×(Bool×(Int×(Int×(List Su.Ce)))))):Option (Bool×(Bool×(Int×(Int×(List Su.Ce))))) :=
 (bif s.1 then
 some (true,(false,((0:Int),((0:Int),[]))))
 else
  (bif (!(decide (((((List.length s.2.2.2.2):Nat):Int)=(((List.length c.2.1):Nat):Int))))) then
  some (true,(false,((0:Int),((0:Int),[]))))
 else
  (bif (Su.qH [(s.2.1,(s.2.2.1,s.2.2.2.1))]).1 then
  some (true,(false,((0:Int),((0:Int),[]))))
 else
  (itP fu (Zp) (c.1,(c.2.1,(c.2.2.1,(c.2.2.2.1,(c.2.2.2.2.1,(c.2.2.2.2.2.1,(c.2.2.2.2.2.2,(s.2.2.2.2,((((List.length s.2.2.2.2):Nat):Int),((0:Int),([],(false,(false,((0:Int),((0:Int),(0,([],(false,((Su.qH [(s.2.1,(s.2.2.1,s.2.2.2.1))]).1,((Su.qH [(s.2.1,(s.2.2.1,s.2.2.2.1))]).2.1,((Su.qH [(s.2.1,(s.2.2.1,s.2.2.2.1))]).2.2,(0,()))))))))))))))))))))))).bind fun x3 =>
  (match x3 with
 | .exit i4 p5=>(bif (Nat.beq i4 0) then
  ((Su.sub p5.2.2.2.2.2.2.2.2.2.2.2.2.2.2.2.2.1 0 p5.2.2.2.2.2.2.2.2.2.2.2.2.2.2.2.2.2.2.2.2.2.1)).bind fun x6 =>
  (bif (!p5.2.2.2.2.2.2.2.2.2.2.2.2.2.2.2.2.2.1) then
  (((((Su.unR (Su.rCe) x6)).bind fun x7 =>
  some ((Su.yE (p5.2.2.2.2.2.2.2.2.2.2.2.2.2.2.2.2.2.2.1,(p5.2.2.2.2.2.2.2.2.2.2.2.2.2.2.2.2.2.2.2.1,p5.2.2.2.2.2.2.2.2.2.2.2.2.2.2.2.2.2.2.2.2.1)) (Su.qG 1 1)).2.2,x7)).bind fun x8 =>
  some ((Su.yE (p5.2.2.2.2.2.2.2.2.2.2.2.2.2.2.2.2.2.2.1,(p5.2.2.2.2.2.2.2.2.2.2.2.2.2.2.2.2.2.2.2.1,p5.2.2.2.2.2.2.2.2.2.2.2.2.2.2.2.2.2.2.2.2.1)) (Su.qG 1 1)).2.1,x8)).bind fun x9 =>
  some ((Su.yE (p5.2.2.2.2.2.2.2.2.2.2.2.2.2.2.2.2.2.2.1,(p5.2.2.2.2.2.2.2.2.2.2.2.2.2.2.2.2.2.2.2.1,p5.2.2.2.2.2.2.2.2.2.2.2.2.2.2.2.2.2.2.2.2.1)) (Su.qG 1 1)).1,x9)).bind fun x10 =>
  some (p5.2.2.2.2.2.2.2.2.2.2.2.2.2.2.2.2.2.1,x10)
 else
  (((((Su.unR (Su.rCe) x6)).bind fun x11 =>
  some (p5.2.2.2.2.2.2.2.2.2.2.2.2.2.2.2.2.2.2.2.2.1,x11)).bind fun x12 =>
  some (p5.2.2.2.2.2.2.2.2.2.2.2.2.2.2.2.2.2.2.2.1,x12)).bind fun x13 =>
  some (p5.2.2.2.2.2.2.2.2.2.2.2.2.2.2.2.2.2.2.1,x13)).bind fun x14 =>
  some (p5.2.2.2.2.2.2.2.2.2.2.2.2.2.2.2.2.2.1,x14))
 else
  none)
 | .ret o15=>some o15))))
def vCe (x:Su.Ce):T:=view 14 x
theorem qzT (P:List Su.Ce):unR rCe (P.map vCe)=some P:=qiI rCe P
def ji:StD:=(true,(false,(0,(0,[]))))
def stK (s:StD):Iv:=(s.2.1,(s.2.2.1,s.2.2.2.1))
def q9 (C:List Su.Cc) (X:List Su.Ce) (f:Nat→Su.Cc→Su.Ce→Su.Ce) (i:Nat):Option Su.Ce :=
 match C[i]?,X[i]? with
 | some d,some x=>bif qJ (qo (f i d x) d.type) d.type then none else some (qo (f i d x) d.type)
 | _,_=>none
def mkS (K:Iv) (X:List Su.Ce):StD:=(false,(K.1,(K.2.1,(K.2.2,X))))
def qC (c:CoD) (s:StD) (f:Nat→Su.Cc→Su.Ce→Su.Ce):StD :=
 bif s.1 then ji else bif !decide (s.2.2.2.2.length=c.2.1.length) then ji else bif (qH [stK s]).1 then ji else
 qfQ ji (mkS (qH [stK s])) (qP (q9 c.2.1 s.2.2.2.2 f) c.2.1.length)
def smS (s:StD):Bool:=Nat.ble s.2.2.2.2.length 1000000&&s.2.2.2.2.all fun x=>Nat.ble x.fm.2.2.1.length 1000000
def qm3 (x:Su.Ce) (k:Ckp):Su.Ce:=⟨x.f,x.t,x.i,k.1,k.2,x.s,x.sl,x.fm⟩
def qu4 (c:CoD) (s:StD):StD:=let t:=qC c s fun _ _ x=>qm3 x (yF (x.d,x.p));bif t.1 then t else mkS (yE (stK t) (qG 1 1)) t.2.2.2.2
abbrev TkS:=Int×(List Su.Cc×(List Su.T×(List Su.T×(List Su.T×(List Su.T×(Int×(List Su.Ce×(Int×(Int×(List Su.T×(Bool×(Bool×(Int×(Int×(Nat×(List Su.T×(Bool×(Bool×(Int×(Int×(Nat×Unit)))))))))))))))))))))
def YI (c:CoD) (s:StD) (K:Iv) (i:Int) (P:List Su.Ce):TkS :=
 (c.1,(c.2.1,(c.2.2.1,(c.2.2.2.1,(c.2.2.2.2.1,(c.2.2.2.2.2.1,(c.2.2.2.2.2.2,(s.2.2.2.2,(((s.2.2.2.2.length:Nat):Int),(i,([],(false,(false,(0,(0,(0,(P.map vCe,(false,(K.1,(K.2.1,(K.2.2,(P.length,()))))))))))))))))))))))
def qo2 (p:CoD×StD):Option StD:=bif smS p.2 then some (qu4 p.1 p.2) else none
theorem Jv {s:StD} (h:smS s=true):s.2.2.2.2.length≤1000000:=by
 unfold smS at h
 rw [Bool.and_eq_true] at h
 exact Nat.le_of_ble_eq_true h.1
theorem yG (P:List Su.Ce) (x:Su.Ce):P.map vCe++[view 14 x]=(P++[x]).map vCe:=by rw [List.map_append];rfl
theorem Z5 (P:List Su.Ce):sub (P.map vCe) 0 P.length=some (P.map vCe):=by
 unfold sub
 rw [show Nat.ble (0+P.length) (P.map vCe).length=true from Nat.ble_eq_true_of_le (by simp),cond_true,List.drop_zero]
 congr 1
 exact List.take_of_length_le (by simp)
theorem qFj (c:CoD) (s:StD) (K:Iv) (hl:s.2.2.2.2.length=c.2.1.length) (hs:s.2.2.2.2.length≤1000000) :
 jN (c.2.1.length+1) Zp (YI c s K ((0:Nat):Int) []) (qfQ (.ret ji) (fun P=>.exit 0 (YI c s K (c.2.1.length:Int) P)) (qP (q9 c.2.1 s.2.2.2.2 fun _ _ x=>qm3 x (yF (x.d,x.p))) c.2.1.length)):=by
 refine yi (mk:=fun i P=>YI c s K (i:Int) P) ?_ ?_ ?_
 · intro i P x hi hP ho
   have i1:i<s.2.2.2.2.length:=by omega
   unfold q9 at ho
   rw [List.getElem?_eq_getElem hi,List.getElem?_eq_getElem i1] at ho
   simp only [] at ho
   unfold YI
   have hb:Nat.ble (P.length+1) 549755813888=true:=Nat.ble_eq_true_of_le (by omega)
   simp only [Zp,ltN,decide_eq_true i1,cond_true,ixl i1,ixl hi,Option.bind_some]
   generalize c.2.1[i]=d at *
   generalize s.2.2.2.2[i]=x0 at *
   cases hn:qJ (qo (qm3 x0 (yF (x0.d,x0.p))) d.type) d.type with
   | true=>rw [hn] at ho;cases ho
   | false =>
    rw [hn] at ho
    have:=soi ho;subst this
    unfold qm3 at hn ⊢
    rw [hn]
    simp only [cond_false,List.length_map,List.length_cons,List.length_nil,Nat.zero_add,Zj,hb,Bool.and_self,cond_true,yG,w1 i1 (by rw [qF];omega)]
 · intro i P hi hP ho
   have i1:i<s.2.2.2.2.length:=by omega
   unfold q9 at ho
   rw [List.getElem?_eq_getElem hi,List.getElem?_eq_getElem i1] at ho
   simp only [] at ho
   unfold YI
   simp only [Zp,ltN,decide_eq_true i1,cond_true,ixl i1,ixl hi,Option.bind_some]
   generalize c.2.1[i]=d at *
   generalize s.2.2.2.2[i]=x0 at *
   cases hn:qJ (qo (qm3 x0 (yF (x0.d,x0.p))) d.type) d.type with
   | false=>rw [hn] at ho;cases ho
   | true =>
    unfold qm3 at hn
    rw [hn];rfl
 · intro P hP
   unfold YI
   simp only [Zp,ltN,hl,decide_eq_false (Nat.lt_irrefl _),cond_false]
theorem qt {α:Type} {b:Bool} {x y:α} (h:b=false):(bif b then x else y)=y:=by rw [h];rfl
theorem qz {α:Type} {b:Bool} {x y:α} (h:b=true):(bif b then x else y)=x:=by rw [h];rfl
theorem jP {c:CoD} {s:StD} (f:Nat→Su.Cc→Su.Ce→Su.Ce) (hd:s.1=false) (hl:s.2.2.2.2.length=c.2.1.length) (hK:(qH [stK s]).1=false):qC c s f=qfQ ji (mkS (qH [stK s])) (qP (q9 c.2.1 s.2.2.2.2 f) c.2.1.length):=by
 unfold qC;rw [qt hd,qt (by rw [decide_eq_true hl];rfl),qt hK]
theorem lnE (a b:Nat):(!decide ((a:Int)=(b:Int))) = !decide (a=b):=by rw [Q8]
theorem qqN (P:List Su.Ce) (K:Iv) (e:Bool):((((unR rCe (P.map vCe)).bind fun x=>some (K.2.2,x)).bind fun x=>some (K.2.1,x)).bind fun x=>some (K.1,x)).bind (fun x=>some (e,x))=some (e,(K.1,(K.2.1,(K.2.2,P)))):=by rw [qzT];rfl
theorem qu5 (p:CoD×StD) (y:StD) (hg:(dc cCo (d1 cSt)).good p) (h:qo2 p=some y):∃ n,qo1 n p.1 p.2=some y:=by
 obtain ⟨c,s⟩:=p
 obtain ⟨hm,h⟩:=qj h
 have:=soi h;subst this
 have hm:smS s=true:=hm
 refine ⟨c.2.1.length+1,?_⟩
 show qo1 (c.2.1.length+1) c s=some (qu4 c s)
 unfold qo1 qu4
 rcases Bool.eq_false_or_eq_true s.1 with hd | hd
 · rw [show qC c s _=ji from qz hd];exact qz hd
 · refine (qt hd).trans ?_
   by_cases hl:s.2.2.2.2.length=c.2.1.length
   · refine (qt (by rw [lnE,decide_eq_true hl];rfl)).trans ?_
     rcases Bool.eq_false_or_eq_true (qH [stK s]).1 with hK | hK
     · rw [show qC c s _=ji from (qt hd).trans ((qt (by rw [decide_eq_true hl];rfl)).trans (qz hK))]
       exact qz hK
     · refine (qt hK).trans ?_
       rw [jP _ hd hl hK]
       have hr:=qFj c s (qH [stK s]) hl (Jv hm) _ (Nat.le_refl _)
       refine obB hr ?_
       cases hb:qP (q9 c.2.1 s.2.2.2.2 fun _ _ x=>qm3 x (yF (x.d,x.p))) c.2.1.length with
       | none=>rfl
       | some P=>exact obB (Z5 P) (qqN P (yE (qH [stK s]) (qG 1 1)) false)
   · rw [show qC c s _=ji from (qt hd).trans (qz (by rw [decide_eq_false hl];rfl))]
     exact qz (by rw [lnE,decide_eq_false hl];rfl)
end
end Su
end
section
namespace Su
open Go Fly
set_option linter.unusedVariables false
noncomputable section
abbrev qc7:=(Int×((List Su.Cc)×((List Su.T)×((List Su.T)×((List Su.T)×((List Su.T)×(Int×(Bool×(Bool×(Int×(Int×((List Su.Ce)×(Int×((List Su.Cc)×((List Su.T)×((List Su.T)×((List Su.T)×((List Su.T)×(Int×((List Su.Ce)×(Int×(Int×((List Su.T)×(Bool×(Bool×(Int×(Int×(Nat×((List Su.T)×(Bool×(Bool×(Int×(Int×(Nat×Unit))))))))))))))))))))))))))))))))))
def qce:qc7→Option (qc7 ⊕ (Lp qc7 (Bool×(Bool×(Int×(Int×(List Su.Ce))))))):=fun p0=>(bif (decide ((p0.2.2.2.2.2.2.2.2.2.2.2.2.2.2.2.2.2.2.2.2.2.1<p0.2.2.2.2.2.2.2.2.2.2.2.2.2.2.2.2.2.2.2.2.1))) then
 ((Su.idx p0.2.2.2.2.2.2.2.2.2.2.2.2.2.2.2.2.2.2.2.1 p0.2.2.2.2.2.2.2.2.2.2.2.2.2.2.2.2.2.2.2.2.2.1)).bind fun x1 =>
 ((Su.idx p0.2.2.2.2.2.2.2.2.2.2.2.2.2.1 p0.2.2.2.2.2.2.2.2.2.2.2.2.2.2.2.2.2.2.2.2.2.1)).bind fun x2 =>
 ((Su.idx p0.2.1 p0.2.2.2.2.2.2.2.2.2.2.2.2.2.2.2.2.2.2.2.2.2.1)).bind fun x3 =>
 (bif (!(Su.Cc.input x3)) then
 (bif (Su.qJ (Su.qo x1 (Su.Cc.type x2)) (Su.Cc.type x2)) then
 some (.inr (.ret (true,(false,((0:Int),((0:Int),[]))))))
 else
  (bif ((true&&(Nat.beq p0.2.2.2.2.2.2.2.2.2.2.2.2.2.2.2.2.2.2.2.2.2.2.2.2.2.2.2.2.2.2.2.2.2.1 (List.length p0.2.2.2.2.2.2.2.2.2.2.2.2.2.2.2.2.2.2.2.2.2.2.2.2.2.2.2.2.1)))&&(Nat.ble ((List.length p0.2.2.2.2.2.2.2.2.2.2.2.2.2.2.2.2.2.2.2.2.2.2.2.2.2.2.2.2.1)+(List.length [(Su.view 14 (Su.qo x1 (Su.Cc.type x2)))])) 549755813888)) then
  some (.inl (p0.1,(p0.2.1,(p0.2.2.1,(p0.2.2.2.1,(p0.2.2.2.2.1,(p0.2.2.2.2.2.1,(p0.2.2.2.2.2.2.1,(p0.2.2.2.2.2.2.2.1,(p0.2.2.2.2.2.2.2.2.1,(p0.2.2.2.2.2.2.2.2.2.1,(p0.2.2.2.2.2.2.2.2.2.2.1,(p0.2.2.2.2.2.2.2.2.2.2.2.1,(p0.2.2.2.2.2.2.2.2.2.2.2.2.1,(p0.2.2.2.2.2.2.2.2.2.2.2.2.2.1,(p0.2.2.2.2.2.2.2.2.2.2.2.2.2.2.1,(p0.2.2.2.2.2.2.2.2.2.2.2.2.2.2.2.1,(p0.2.2.2.2.2.2.2.2.2.2.2.2.2.2.2.2.1,(p0.2.2.2.2.2.2.2.2.2.2.2.2.2.2.2.2.2.1,(p0.2.2.2.2.2.2.2.2.2.2.2.2.2.2.2.2.2.2.1,(p0.2.2.2.2.2.2.2.2.2.2.2.2.2.2.2.2.2.2.2.1,(p0.2.2.2.2.2.2.2.2.2.2.2.2.2.2.2.2.2.2.2.2.1,((Go.IntKind.wrap .i64 (p0.2.2.2.2.2.2.2.2.2.2.2.2.2.2.2.2.2.2.2.2.2.1+1)),(p0.2.2.2.2.2.2.2.2.2.2.2.2.2.2.2.2.2.2.2.2.2.2.1,(p0.2.2.2.2.2.2.2.2.2.2.2.2.2.2.2.2.2.2.2.2.2.2.2.1,(p0.2.2.2.2.2.2.2.2.2.2.2.2.2.2.2.2.2.2.2.2.2.2.2.2.1,(p0.2.2.2.2.2.2.2.2.2.2.2.2.2.2.2.2.2.2.2.2.2.2.2.2.2.1,(p0.2.2.2.2.2.2.2.2.2.2.2.2.2.2.2.2.2.2.2.2.2.2.2.2.2.2.1,(p0.2.2.2.2.2.2.2.2.2.2.2.2.2.2.2.2.2.2.2.2.2.2.2.2.2.2.2.1,((p0.2.2.2.2.2.2.2.2.2.2.2.2.2.2.2.2.2.2.2.2.2.2.2.2.2.2.2.2.1++[(Su.view 14 (Su.qo x1 (Su.Cc.type x2)))]),(p0.2.2.2.2.2.2.2.2.2.2.2.2.2.2.2.2.2.2.2.2.2.2.2.2.2.2.2.2.2.1,(p0.2.2.2.2.2.2.2.2.2.2.2.2.2.2.2.2.2.2.2.2.2.2.2.2.2.2.2.2.2.2.1,(p0.2.2.2.2.2.2.2.2.2.2.2.2.2.2.2.2.2.2.2.2.2.2.2.2.2.2.2.2.2.2.2.1,(p0.2.2.2.2.2.2.2.2.2.2.2.2.2.2.2.2.2.2.2.2.2.2.2.2.2.2.2.2.2.2.2.2.1,((List.length (p0.2.2.2.2.2.2.2.2.2.2.2.2.2.2.2.2.2.2.2.2.2.2.2.2.2.2.2.2.1++[(Su.view 14 (Su.qo x1 (Su.Cc.type x2)))])),())))))))))))))))))))))))))))))))))))
 else
  none))
 else
  (bif (Su.qJ (Su.qo (Su.Ce.mk true true (Su.qG (Go.IntKind.wrap .i64 (Su.Cc.fr x3)) (Go.IntKind.wrap .i64 (Su.Cc.to x3))) (Su.jm (Su.qG (Go.IntKind.wrap .i64 (Su.Cc.fr x3)) (Go.IntKind.wrap .i64 (Su.Cc.to x3))) (p0.2.2.2.2.2.2.2.2.1,(p0.2.2.2.2.2.2.2.2.2.1,p0.2.2.2.2.2.2.2.2.2.2.1))).1 (Su.jm (Su.qG (Go.IntKind.wrap .i64 (Su.Cc.fr x3)) (Go.IntKind.wrap .i64 (Su.Cc.to x3))) (p0.2.2.2.2.2.2.2.2.1,(p0.2.2.2.2.2.2.2.2.2.1,p0.2.2.2.2.2.2.2.2.2.2.1))).2 (Su.yp (Su.Cc.lo x3) (Su.Cc.hi x3)) (0:Int) (true,((0:Int),([],(0:Int))))) (Su.Cc.type x2)) (Su.Cc.type x2)) then
  some (.inr (.ret (true,(false,((0:Int),((0:Int),[]))))))
 else
  (bif ((true&&(Nat.beq p0.2.2.2.2.2.2.2.2.2.2.2.2.2.2.2.2.2.2.2.2.2.2.2.2.2.2.2.2.2.2.2.2.2.1 (List.length p0.2.2.2.2.2.2.2.2.2.2.2.2.2.2.2.2.2.2.2.2.2.2.2.2.2.2.2.2.1)))&&(Nat.ble ((List.length p0.2.2.2.2.2.2.2.2.2.2.2.2.2.2.2.2.2.2.2.2.2.2.2.2.2.2.2.2.1)+(List.length [(Su.view 14 (Su.qo (Su.Ce.mk true true (Su.qG (Go.IntKind.wrap .i64 (Su.Cc.fr x3)) (Go.IntKind.wrap .i64 (Su.Cc.to x3))) (Su.jm (Su.qG (Go.IntKind.wrap .i64 (Su.Cc.fr x3)) (Go.IntKind.wrap .i64 (Su.Cc.to x3))) (p0.2.2.2.2.2.2.2.2.1,(p0.2.2.2.2.2.2.2.2.2.1,p0.2.2.2.2.2.2.2.2.2.2.1))).1 (Su.jm (Su.qG (Go.IntKind.wrap .i64 (Su.Cc.fr x3)) (Go.IntKind.wrap .i64 (Su.Cc.to x3))) (p0.2.2.2.2.2.2.2.2.1,(p0.2.2.2.2.2.2.2.2.2.1,p0.2.2.2.2.2.2.2.2.2.2.1))).2 (Su.yp (Su.Cc.lo x3) (Su.Cc.hi x3)) (0:Int) (true,((0:Int),([],(0:Int))))) (Su.Cc.type x2)))])) 549755813888)) then
  some (.inl (p0.1,(p0.2.1,(p0.2.2.1,(p0.2.2.2.1,(p0.2.2.2.2.1,(p0.2.2.2.2.2.1,(p0.2.2.2.2.2.2.1,(p0.2.2.2.2.2.2.2.1,(p0.2.2.2.2.2.2.2.2.1,(p0.2.2.2.2.2.2.2.2.2.1,(p0.2.2.2.2.2.2.2.2.2.2.1,(p0.2.2.2.2.2.2.2.2.2.2.2.1,(p0.2.2.2.2.2.2.2.2.2.2.2.2.1,(p0.2.2.2.2.2.2.2.2.2.2.2.2.2.1,(p0.2.2.2.2.2.2.2.2.2.2.2.2.2.2.1,(p0.2.2.2.2.2.2.2.2.2.2.2.2.2.2.2.1,(p0.2.2.2.2.2.2.2.2.2.2.2.2.2.2.2.2.1,(p0.2.2.2.2.2.2.2.2.2.2.2.2.2.2.2.2.2.1,(p0.2.2.2.2.2.2.2.2.2.2.2.2.2.2.2.2.2.2.1,(p0.2.2.2.2.2.2.2.2.2.2.2.2.2.2.2.2.2.2.2.1,(p0.2.2.2.2.2.2.2.2.2.2.2.2.2.2.2.2.2.2.2.2.1,((Go.IntKind.wrap .i64 (p0.2.2.2.2.2.2.2.2.2.2.2.2.2.2.2.2.2.2.2.2.2.1+1)),(p0.2.2.2.2.2.2.2.2.2.2.2.2.2.2.2.2.2.2.2.2.2.2.1,(p0.2.2.2.2.2.2.2.2.2.2.2.2.2.2.2.2.2.2.2.2.2.2.2.1,(p0.2.2.2.2.2.2.2.2.2.2.2.2.2.2.2.2.2.2.2.2.2.2.2.2.1,(p0.2.2.2.2.2.2.2.2.2.2.2.2.2.2.2.2.2.2.2.2.2.2.2.2.2.1,(p0.2.2.2.2.2.2.2.2.2.2.2.2.2.2.2.2.2.2.2.2.2.2.2.2.2.2.1,(p0.2.2.2.2.2.2.2.2.2.2.2.2.2.2.2.2.2.2.2.2.2.2.2.2.2.2.2.1,((p0.2.2.2.2.2.2.2.2.2.2.2.2.2.2.2.2.2.2.2.2.2.2.2.2.2.2.2.2.1++[(Su.view 14 (Su.qo (Su.Ce.mk true true (Su.qG (Go.IntKind.wrap .i64 (Su.Cc.fr x3)) (Go.IntKind.wrap .i64 (Su.Cc.to x3))) (Su.jm (Su.qG (Go.IntKind.wrap .i64 (Su.Cc.fr x3)) (Go.IntKind.wrap .i64 (Su.Cc.to x3))) (p0.2.2.2.2.2.2.2.2.1,(p0.2.2.2.2.2.2.2.2.2.1,p0.2.2.2.2.2.2.2.2.2.2.1))).1 (Su.jm (Su.qG (Go.IntKind.wrap .i64 (Su.Cc.fr x3)) (Go.IntKind.wrap .i64 (Su.Cc.to x3))) (p0.2.2.2.2.2.2.2.2.1,(p0.2.2.2.2.2.2.2.2.2.1,p0.2.2.2.2.2.2.2.2.2.2.1))).2 (Su.yp (Su.Cc.lo x3) (Su.Cc.hi x3)) (0:Int) (true,((0:Int),([],(0:Int))))) (Su.Cc.type x2)))]),(p0.2.2.2.2.2.2.2.2.2.2.2.2.2.2.2.2.2.2.2.2.2.2.2.2.2.2.2.2.2.1,(p0.2.2.2.2.2.2.2.2.2.2.2.2.2.2.2.2.2.2.2.2.2.2.2.2.2.2.2.2.2.2.1,(p0.2.2.2.2.2.2.2.2.2.2.2.2.2.2.2.2.2.2.2.2.2.2.2.2.2.2.2.2.2.2.2.1,(p0.2.2.2.2.2.2.2.2.2.2.2.2.2.2.2.2.2.2.2.2.2.2.2.2.2.2.2.2.2.2.2.2.1,((List.length (p0.2.2.2.2.2.2.2.2.2.2.2.2.2.2.2.2.2.2.2.2.2.2.2.2.2.2.2.2.1++[(Su.view 14 (Su.qo (Su.Ce.mk true true (Su.qG (Go.IntKind.wrap .i64 (Su.Cc.fr x3)) (Go.IntKind.wrap .i64 (Su.Cc.to x3))) (Su.jm (Su.qG (Go.IntKind.wrap .i64 (Su.Cc.fr x3)) (Go.IntKind.wrap .i64 (Su.Cc.to x3))) (p0.2.2.2.2.2.2.2.2.1,(p0.2.2.2.2.2.2.2.2.2.1,p0.2.2.2.2.2.2.2.2.2.2.1))).1 (Su.jm (Su.qG (Go.IntKind.wrap .i64 (Su.Cc.fr x3)) (Go.IntKind.wrap .i64 (Su.Cc.to x3))) (p0.2.2.2.2.2.2.2.2.1,(p0.2.2.2.2.2.2.2.2.2.1,p0.2.2.2.2.2.2.2.2.2.2.1))).2 (Su.yp (Su.Cc.lo x3) (Su.Cc.hi x3)) (0:Int) (true,((0:Int),([],(0:Int))))) (Su.Cc.type x2)))])),())))))))))))))))))))))))))))))))))))
 else
  none)))
 else
  some (.inr (.exit 0 (p0.1,(p0.2.1,(p0.2.2.1,(p0.2.2.2.1,(p0.2.2.2.2.1,(p0.2.2.2.2.2.1,(p0.2.2.2.2.2.2.1,(p0.2.2.2.2.2.2.2.1,(p0.2.2.2.2.2.2.2.2.1,(p0.2.2.2.2.2.2.2.2.2.1,(p0.2.2.2.2.2.2.2.2.2.2.1,(p0.2.2.2.2.2.2.2.2.2.2.2.1,(p0.2.2.2.2.2.2.2.2.2.2.2.2.1,(p0.2.2.2.2.2.2.2.2.2.2.2.2.2.1,(p0.2.2.2.2.2.2.2.2.2.2.2.2.2.2.1,(p0.2.2.2.2.2.2.2.2.2.2.2.2.2.2.2.1,(p0.2.2.2.2.2.2.2.2.2.2.2.2.2.2.2.2.1,(p0.2.2.2.2.2.2.2.2.2.2.2.2.2.2.2.2.2.1,(p0.2.2.2.2.2.2.2.2.2.2.2.2.2.2.2.2.2.2.1,(p0.2.2.2.2.2.2.2.2.2.2.2.2.2.2.2.2.2.2.2.1,(p0.2.2.2.2.2.2.2.2.2.2.2.2.2.2.2.2.2.2.2.2.1,(p0.2.2.2.2.2.2.2.2.2.2.2.2.2.2.2.2.2.2.2.2.2.1,(p0.2.2.2.2.2.2.2.2.2.2.2.2.2.2.2.2.2.2.2.2.2.2.1,(p0.2.2.2.2.2.2.2.2.2.2.2.2.2.2.2.2.2.2.2.2.2.2.2.1,(p0.2.2.2.2.2.2.2.2.2.2.2.2.2.2.2.2.2.2.2.2.2.2.2.2.1,(p0.2.2.2.2.2.2.2.2.2.2.2.2.2.2.2.2.2.2.2.2.2.2.2.2.2.1,(p0.2.2.2.2.2.2.2.2.2.2.2.2.2.2.2.2.2.2.2.2.2.2.2.2.2.2.1,(p0.2.2.2.2.2.2.2.2.2.2.2.2.2.2.2.2.2.2.2.2.2.2.2.2.2.2.2.1,(p0.2.2.2.2.2.2.2.2.2.2.2.2.2.2.2.2.2.2.2.2.2.2.2.2.2.2.2.2.1,(p0.2.2.2.2.2.2.2.2.2.2.2.2.2.2.2.2.2.2.2.2.2.2.2.2.2.2.2.2.2.1,(p0.2.2.2.2.2.2.2.2.2.2.2.2.2.2.2.2.2.2.2.2.2.2.2.2.2.2.2.2.2.2.1,(p0.2.2.2.2.2.2.2.2.2.2.2.2.2.2.2.2.2.2.2.2.2.2.2.2.2.2.2.2.2.2.2.1,(p0.2.2.2.2.2.2.2.2.2.2.2.2.2.2.2.2.2.2.2.2.2.2.2.2.2.2.2.2.2.2.2.2.1,(p0.2.2.2.2.2.2.2.2.2.2.2.2.2.2.2.2.2.2.2.2.2.2.2.2.2.2.2.2.2.2.2.2.2.1,())))))))))))))))))))))))))))))))))))))
def qzU  (fu:Nat) (c:(Int×((List Su.Cc)×((List Su.T)×((List Su.T)×((List Su.T)×((List Su.T)×Int))))))) (s:(Bool×(Bool×(Int×(Int×(List Su.Ce)))))):Option (Bool×(Bool×(Int×(Int×(List Su.Ce))))) :=
 (bif s.1 then
 some (true,(false,((0:Int),((0:Int),[]))))
 else
  (bif (!(decide (((((List.length s.2.2.2.2):Nat):Int)=(((List.length c.2.1):Nat):Int))))) then
  some (true,(false,((0:Int),((0:Int),[]))))
 else
  (bif (Su.qH [(s.2.1,(s.2.2.1,s.2.2.2.1))]).1 then
  some (true,(false,((0:Int),((0:Int),[]))))
 else
  (itP fu (qce) (c.1,(c.2.1,(c.2.2.1,(c.2.2.2.1,(c.2.2.2.2.1,(c.2.2.2.2.2.1,(c.2.2.2.2.2.2,(s.1,(s.2.1,(s.2.2.1,(s.2.2.2.1,(s.2.2.2.2,(c.1,(c.2.1,(c.2.2.1,(c.2.2.2.1,(c.2.2.2.2.1,(c.2.2.2.2.2.1,(c.2.2.2.2.2.2,(s.2.2.2.2,((((List.length s.2.2.2.2):Nat):Int),((0:Int),([],(false,(false,((0:Int),((0:Int),(0,([],(false,((Su.qH [(s.2.1,(s.2.2.1,s.2.2.2.1))]).1,((Su.qH [(s.2.1,(s.2.2.1,s.2.2.2.1))]).2.1,((Su.qH [(s.2.1,(s.2.2.1,s.2.2.2.1))]).2.2,(0,()))))))))))))))))))))))))))))))))))).bind fun x4 =>
  (match x4 with
 | .exit i5 p6=>(bif (Nat.beq i5 0) then
  ((Su.sub p6.2.2.2.2.2.2.2.2.2.2.2.2.2.2.2.2.2.2.2.2.2.2.2.2.2.2.2.2.1 0 p6.2.2.2.2.2.2.2.2.2.2.2.2.2.2.2.2.2.2.2.2.2.2.2.2.2.2.2.2.2.2.2.2.2.1)).bind fun x7 =>
  (((((Su.unR (Su.rCe) x7)).bind fun x8 =>
  some (p6.2.2.2.2.2.2.2.2.2.2.2.2.2.2.2.2.2.2.2.2.2.2.2.2.2.2.2.2.2.2.2.2.1,x8)).bind fun x9 =>
  some (p6.2.2.2.2.2.2.2.2.2.2.2.2.2.2.2.2.2.2.2.2.2.2.2.2.2.2.2.2.2.2.2.1,x9)).bind fun x10 =>
  some (p6.2.2.2.2.2.2.2.2.2.2.2.2.2.2.2.2.2.2.2.2.2.2.2.2.2.2.2.2.2.2.1,x10)).bind fun x11 =>
  some (p6.2.2.2.2.2.2.2.2.2.2.2.2.2.2.2.2.2.2.2.2.2.2.2.2.2.2.2.2.2.1,x11)
 else
  none)
 | .ret o12=>some o12))))
abbrev CapS:=Int×(List Su.Cc×(List Su.T×(List Su.T×(List Su.T×(List Su.T×(Int×(Bool×(Bool×(Int×(Int×(List Su.Ce×(Int×(List Su.Cc×(List Su.T×(List Su.T×(List Su.T×(List Su.T×(Int×(List Su.Ce×(Int×(Int×(List Su.T×(Bool×(Bool×(Int×(Int×(Nat×(List Su.T×(Bool×(Bool×(Int×(Int×(Nat×Unit)))))))))))))))))))))))))))))))))
def YJ (c:CoD) (s:StD) (K:Iv) (i:Int) (P:List Su.Ce):CapS :=
 (c.1,(c.2.1,(c.2.2.1,(c.2.2.2.1,(c.2.2.2.2.1,(c.2.2.2.2.2.1,(c.2.2.2.2.2.2,(s.1,(s.2.1,(s.2.2.1,(s.2.2.2.1,(s.2.2.2.2,(c.1,(c.2.1,(c.2.2.1,(c.2.2.2.1,(c.2.2.2.2.1,(c.2.2.2.2.2.1,(c.2.2.2.2.2.2,(s.2.2.2.2,(((s.2.2.2.2.length:Nat):Int),(i,([],(false,(false,(0,(0,(0,(P.map vCe,(false,(K.1,(K.2.1,(K.2.2,(P.length,()))))))))))))))))))))))))))))))))))
def Jh (d:Su.Cc):Iv:=qG (IntKind.i64.wrap d.fr) (IntKind.i64.wrap d.to)
def qfS (s:StD) (_:Nat) (d:Su.Cc) (x:Su.Ce):Su.Ce :=
 bif !d.input then x else ⟨true,true,Jh d,(jm (Jh d) (stK s)).1,(jm (Jh d) (stK s)).2,yp d.lo d.hi,0,(true,(0,([],0)))⟩
theorem qzV (c:CoD) (s:StD) (K:Iv) (hl:s.2.2.2.2.length=c.2.1.length) (hs:s.2.2.2.2.length≤1000000) :
 jN (c.2.1.length+1) qce (YJ c s K ((0:Nat):Int) []) (qfQ (.ret ji) (fun P=>.exit 0 (YJ c s K (c.2.1.length:Int) P)) (qP (q9 c.2.1 s.2.2.2.2 (qfS s)) c.2.1.length)):=by
 have hmx:s.2.2.2.2.length≤maxLen:=by rw [qF];omega
 refine yi (mk:=fun i P=>YJ c s K (i:Int) P) ?_ ?_ ?_
 · intro i P x hi hP ho
   have i1:i<s.2.2.2.2.length:=by omega
   unfold q9 at ho
   rw [List.getElem?_eq_getElem hi,List.getElem?_eq_getElem i1] at ho
   simp only [] at ho
   have hb:Nat.ble (P.length+1) 549755813888=true:=Nat.ble_eq_true_of_le (by omega)
   unfold YJ
   simp only [qce,ltN,decide_eq_true i1,cond_true,ixl i1,ixl hi,Option.bind_some]
   generalize c.2.1[i]=d at *
   generalize s.2.2.2.2[i]=x0 at *
   cases e1:d.input with
   | false =>
    have hf:(qfS s) i d x0=x0:=by unfold qfS;rw [e1];rfl
    rw [hf] at ho
    refine (qz rfl).trans ?_
    rcases Bool.eq_false_or_eq_true (qJ (qo (x0) d.type) d.type) with hn | hn
    · exact absurd ((qz hn).symm.trans ho) (by simp)
    · have:=soi ((qt hn).symm.trans ho);subst this
      refine (qt hn).trans ?_
      simp only [List.length_map,List.length_cons,List.length_nil,Nat.zero_add,Zj,hb,Bool.and_self,cond_true,yG,w1 i1 hmx]
      all_goals rfl
   | true =>
    have hf:(qfS s) i d x0=⟨true,true,Jh d,(jm (Jh d) (stK s)).1,(jm (Jh d) (stK s)).2,yp d.lo d.hi,0,(true,(0,([],0)))⟩:=by unfold qfS;rw [e1];rfl
    rw [hf] at ho
    refine (qt rfl).trans ?_
    rcases Bool.eq_false_or_eq_true (qJ (qo (⟨true,true,Jh d,(jm (Jh d) (stK s)).1,(jm (Jh d) (stK s)).2,yp d.lo d.hi,0,(true,(0,([],0)))⟩) d.type) d.type) with hn | hn
    · exact absurd ((qz hn).symm.trans ho) (by simp)
    · have:=soi ((qt hn).symm.trans ho);subst this
      refine (qt hn).trans ?_
      simp only [List.length_map,List.length_cons,List.length_nil,Nat.zero_add,Zj,hb,Bool.and_self,cond_true,yG,w1 i1 hmx]
      all_goals rfl
 · intro i P hi hP ho
   have i1:i<s.2.2.2.2.length:=by omega
   unfold q9 at ho
   rw [List.getElem?_eq_getElem hi,List.getElem?_eq_getElem i1] at ho
   simp only [] at ho
   have hb:Nat.ble (P.length+1) 549755813888=true:=Nat.ble_eq_true_of_le (by omega)
   unfold YJ
   simp only [qce,ltN,decide_eq_true i1,cond_true,ixl i1,ixl hi,Option.bind_some]
   generalize c.2.1[i]=d at *
   generalize s.2.2.2.2[i]=x0 at *
   cases e1:d.input with
   | false =>
    have hf:(qfS s) i d x0=x0:=by unfold qfS;rw [e1];rfl
    rw [hf] at ho
    refine (qz rfl).trans ?_
    rcases Bool.eq_false_or_eq_true (qJ (qo (x0) d.type) d.type) with hn | hn
    · exact (qz hn).trans rfl
    · exact absurd ((qt hn).symm.trans ho) (by simp)
   | true =>
    have hf:(qfS s) i d x0=⟨true,true,Jh d,(jm (Jh d) (stK s)).1,(jm (Jh d) (stK s)).2,yp d.lo d.hi,0,(true,(0,([],0)))⟩:=by unfold qfS;rw [e1];rfl
    rw [hf] at ho
    refine (qt rfl).trans ?_
    rcases Bool.eq_false_or_eq_true (qJ (qo (⟨true,true,Jh d,(jm (Jh d) (stK s)).1,(jm (Jh d) (stK s)).2,yp d.lo d.hi,0,(true,(0,([],0)))⟩) d.type) d.type) with hn | hn
    · exact (qz hn).trans rfl
    · exact absurd ((qt hn).symm.trans ho) (by simp)
 · intro P hP
   unfold YJ
   simp only [qce,ltN,hl,decide_eq_false (Nat.lt_irrefl _),cond_false]
def qFk (c:CoD) (s:StD):StD:=qC c s (qfS s)
def qu6 (p:CoD×StD):Option StD:=bif smS p.2 then some (qFk p.1 p.2) else none
theorem qzW (p:CoD×StD) (y:StD) (hg:(dc cCo (d1 cSt)).good p) (h:qu6 p=some y):∃ n,qzU n p.1 p.2=some y:=by
 obtain ⟨c,s⟩:=p
 obtain ⟨hm,h⟩:=qj h
 have:=soi h;subst this
 have hm:smS s=true:=hm
 refine ⟨c.2.1.length+1,?_⟩
 show qzU (c.2.1.length+1) c s=some (qFk c s)
 unfold qzU qFk
 rcases Bool.eq_false_or_eq_true s.1 with hd | hd
 · rw [show qC c s _=ji from qz hd];exact qz hd
 · refine (qt hd).trans ?_
   by_cases hl:s.2.2.2.2.length=c.2.1.length
   · refine (qt (by rw [lnE,decide_eq_true hl];rfl)).trans ?_
     rcases Bool.eq_false_or_eq_true (qH [stK s]).1 with hK | hK
     · rw [show qC c s _=ji from (qt hd).trans ((qt (by rw [decide_eq_true hl];rfl)).trans (qz hK))]
       exact qz hK
     · refine (qt hK).trans ?_
       rw [jP _ hd hl hK]
       have hr:=qzV c s (qH [stK s]) hl (Jv hm) _ (Nat.le_refl _)
       refine obB hr ?_
       cases hb:qP (q9 c.2.1 s.2.2.2.2 (qfS s)) c.2.1.length with
       | none=>rfl
       | some P=>exact obB (Z5 P) (qqN P (qH [stK s]) false)
   · rw [show qC c s _=ji from (qt hd).trans (qz (by rw [decide_eq_false hl];rfl))]
     exact qz (by rw [lnE,decide_eq_false hl];rfl)
end
end Su
end
section
namespace Su
open Go Fly
set_option linter.unusedVariables false
noncomputable section
abbrev Zq:=(Int×((List Su.Cc)×((List Su.T)×((List Su.T)×((List Su.T)×((List Su.T)×(Int×(Bool×(Bool×(Int×(Int×((List Su.Ce)×(Int×((List Su.Cc)×((List Su.T)×((List Su.T)×((List Su.T)×((List Su.T)×(Int×((List Su.Ce)×(Int×(Int×((List Su.T)×(Bool×(Bool×(Int×(Int×(Nat×((List Su.T)×(Bool×(Bool×(Int×(Int×(Nat×Unit))))))))))))))))))))))))))))))))))
def J7:Zq→Option (Zq ⊕ (Lp Zq (Bool×(Bool×(Int×(Int×(List Su.Ce))))))):=fun p0=>(bif (decide ((p0.2.2.2.2.2.2.2.2.2.2.2.2.2.2.2.2.2.2.2.2.2.1<p0.2.2.2.2.2.2.2.2.2.2.2.2.2.2.2.2.2.2.2.2.1))) then
 ((Su.idx p0.2.2.2.2.2.2.2.2.2.2.2.2.2.2.2.2.2.2.2.1 p0.2.2.2.2.2.2.2.2.2.2.2.2.2.2.2.2.2.2.2.2.2.1)).bind fun x1 =>
 ((Su.idx p0.2.2.2.2.2.2.2.2.2.2.2.2.2.1 p0.2.2.2.2.2.2.2.2.2.2.2.2.2.2.2.2.2.2.2.2.2.1)).bind fun x2 =>
 ((Su.idx p0.2.1 p0.2.2.2.2.2.2.2.2.2.2.2.2.2.2.2.2.2.2.2.2.2.1)).bind fun x3 =>
 (bif (decide (((Su.Cc.type x3)=1))) then
 (bif (Su.qJ (Su.qo (Su.Ce.mk true false (false,((0:Int),(0:Int))) (false,((0:Int),(0:Int))) (false,((0:Int),(0:Int))) (false,((0:Int),(0:Int))) (0:Int) (false,((0:Int),([],(0:Int))))) (Su.Cc.type x2)) (Su.Cc.type x2)) then
 some (.inr (.ret (true,(false,((0:Int),((0:Int),[]))))))
 else
  (bif ((true&&(Nat.beq p0.2.2.2.2.2.2.2.2.2.2.2.2.2.2.2.2.2.2.2.2.2.2.2.2.2.2.2.2.2.2.2.2.2.1 (List.length p0.2.2.2.2.2.2.2.2.2.2.2.2.2.2.2.2.2.2.2.2.2.2.2.2.2.2.2.2.1)))&&(Nat.ble ((List.length p0.2.2.2.2.2.2.2.2.2.2.2.2.2.2.2.2.2.2.2.2.2.2.2.2.2.2.2.2.1)+(List.length [(Su.view 14 (Su.qo (Su.Ce.mk true false (false,((0:Int),(0:Int))) (false,((0:Int),(0:Int))) (false,((0:Int),(0:Int))) (false,((0:Int),(0:Int))) (0:Int) (false,((0:Int),([],(0:Int))))) (Su.Cc.type x2)))])) 549755813888)) then
  some (.inl (p0.1,(p0.2.1,(p0.2.2.1,(p0.2.2.2.1,(p0.2.2.2.2.1,(p0.2.2.2.2.2.1,(p0.2.2.2.2.2.2.1,(p0.2.2.2.2.2.2.2.1,(p0.2.2.2.2.2.2.2.2.1,(p0.2.2.2.2.2.2.2.2.2.1,(p0.2.2.2.2.2.2.2.2.2.2.1,(p0.2.2.2.2.2.2.2.2.2.2.2.1,(p0.2.2.2.2.2.2.2.2.2.2.2.2.1,(p0.2.2.2.2.2.2.2.2.2.2.2.2.2.1,(p0.2.2.2.2.2.2.2.2.2.2.2.2.2.2.1,(p0.2.2.2.2.2.2.2.2.2.2.2.2.2.2.2.1,(p0.2.2.2.2.2.2.2.2.2.2.2.2.2.2.2.2.1,(p0.2.2.2.2.2.2.2.2.2.2.2.2.2.2.2.2.2.1,(p0.2.2.2.2.2.2.2.2.2.2.2.2.2.2.2.2.2.2.1,(p0.2.2.2.2.2.2.2.2.2.2.2.2.2.2.2.2.2.2.2.1,(p0.2.2.2.2.2.2.2.2.2.2.2.2.2.2.2.2.2.2.2.2.1,((Go.IntKind.wrap .i64 (p0.2.2.2.2.2.2.2.2.2.2.2.2.2.2.2.2.2.2.2.2.2.1+1)),(p0.2.2.2.2.2.2.2.2.2.2.2.2.2.2.2.2.2.2.2.2.2.2.1,(p0.2.2.2.2.2.2.2.2.2.2.2.2.2.2.2.2.2.2.2.2.2.2.2.1,(p0.2.2.2.2.2.2.2.2.2.2.2.2.2.2.2.2.2.2.2.2.2.2.2.2.1,(p0.2.2.2.2.2.2.2.2.2.2.2.2.2.2.2.2.2.2.2.2.2.2.2.2.2.1,(p0.2.2.2.2.2.2.2.2.2.2.2.2.2.2.2.2.2.2.2.2.2.2.2.2.2.2.1,(p0.2.2.2.2.2.2.2.2.2.2.2.2.2.2.2.2.2.2.2.2.2.2.2.2.2.2.2.1,((p0.2.2.2.2.2.2.2.2.2.2.2.2.2.2.2.2.2.2.2.2.2.2.2.2.2.2.2.2.1++[(Su.view 14 (Su.qo (Su.Ce.mk true false (false,((0:Int),(0:Int))) (false,((0:Int),(0:Int))) (false,((0:Int),(0:Int))) (false,((0:Int),(0:Int))) (0:Int) (false,((0:Int),([],(0:Int))))) (Su.Cc.type x2)))]),(p0.2.2.2.2.2.2.2.2.2.2.2.2.2.2.2.2.2.2.2.2.2.2.2.2.2.2.2.2.2.1,(p0.2.2.2.2.2.2.2.2.2.2.2.2.2.2.2.2.2.2.2.2.2.2.2.2.2.2.2.2.2.2.1,(p0.2.2.2.2.2.2.2.2.2.2.2.2.2.2.2.2.2.2.2.2.2.2.2.2.2.2.2.2.2.2.2.1,(p0.2.2.2.2.2.2.2.2.2.2.2.2.2.2.2.2.2.2.2.2.2.2.2.2.2.2.2.2.2.2.2.2.1,((List.length (p0.2.2.2.2.2.2.2.2.2.2.2.2.2.2.2.2.2.2.2.2.2.2.2.2.2.2.2.2.1++[(Su.view 14 (Su.qo (Su.Ce.mk true false (false,((0:Int),(0:Int))) (false,((0:Int),(0:Int))) (false,((0:Int),(0:Int))) (false,((0:Int),(0:Int))) (0:Int) (false,((0:Int),([],(0:Int))))) (Su.Cc.type x2)))])),())))))))))))))))))))))))))))))))))))
 else
  none))
 else
  (bif (decide (((Su.Cc.type x3)=2))) then
  (bif (Su.qJ (Su.qo (Su.Ce.mk false false (Su.qG (Go.IntKind.wrap .i64 0) (Go.IntKind.wrap .i64 0)) (Su.jm (Su.qG (Go.IntKind.wrap .i64 0) (Go.IntKind.wrap .i64 0)) (p0.2.2.2.2.2.2.2.2.1,(p0.2.2.2.2.2.2.2.2.2.1,p0.2.2.2.2.2.2.2.2.2.2.1))).1 (Su.jm (Su.qG (Go.IntKind.wrap .i64 0) (Go.IntKind.wrap .i64 0)) (p0.2.2.2.2.2.2.2.2.1,(p0.2.2.2.2.2.2.2.2.2.1,p0.2.2.2.2.2.2.2.2.2.2.1))).2 (false,((0:Int),(0:Int))) (0:Int) (false,((0:Int),([],(0:Int))))) (Su.Cc.type x2)) (Su.Cc.type x2)) then
  some (.inr (.ret (true,(false,((0:Int),((0:Int),[]))))))
 else
  (bif ((true&&(Nat.beq p0.2.2.2.2.2.2.2.2.2.2.2.2.2.2.2.2.2.2.2.2.2.2.2.2.2.2.2.2.2.2.2.2.2.1 (List.length p0.2.2.2.2.2.2.2.2.2.2.2.2.2.2.2.2.2.2.2.2.2.2.2.2.2.2.2.2.1)))&&(Nat.ble ((List.length p0.2.2.2.2.2.2.2.2.2.2.2.2.2.2.2.2.2.2.2.2.2.2.2.2.2.2.2.2.1)+(List.length [(Su.view 14 (Su.qo (Su.Ce.mk false false (Su.qG (Go.IntKind.wrap .i64 0) (Go.IntKind.wrap .i64 0)) (Su.jm (Su.qG (Go.IntKind.wrap .i64 0) (Go.IntKind.wrap .i64 0)) (p0.2.2.2.2.2.2.2.2.1,(p0.2.2.2.2.2.2.2.2.2.1,p0.2.2.2.2.2.2.2.2.2.2.1))).1 (Su.jm (Su.qG (Go.IntKind.wrap .i64 0) (Go.IntKind.wrap .i64 0)) (p0.2.2.2.2.2.2.2.2.1,(p0.2.2.2.2.2.2.2.2.2.1,p0.2.2.2.2.2.2.2.2.2.2.1))).2 (false,((0:Int),(0:Int))) (0:Int) (false,((0:Int),([],(0:Int))))) (Su.Cc.type x2)))])) 549755813888)) then
  some (.inl (p0.1,(p0.2.1,(p0.2.2.1,(p0.2.2.2.1,(p0.2.2.2.2.1,(p0.2.2.2.2.2.1,(p0.2.2.2.2.2.2.1,(p0.2.2.2.2.2.2.2.1,(p0.2.2.2.2.2.2.2.2.1,(p0.2.2.2.2.2.2.2.2.2.1,(p0.2.2.2.2.2.2.2.2.2.2.1,(p0.2.2.2.2.2.2.2.2.2.2.2.1,(p0.2.2.2.2.2.2.2.2.2.2.2.2.1,(p0.2.2.2.2.2.2.2.2.2.2.2.2.2.1,(p0.2.2.2.2.2.2.2.2.2.2.2.2.2.2.1,(p0.2.2.2.2.2.2.2.2.2.2.2.2.2.2.2.1,(p0.2.2.2.2.2.2.2.2.2.2.2.2.2.2.2.2.1,(p0.2.2.2.2.2.2.2.2.2.2.2.2.2.2.2.2.2.1,(p0.2.2.2.2.2.2.2.2.2.2.2.2.2.2.2.2.2.2.1,(p0.2.2.2.2.2.2.2.2.2.2.2.2.2.2.2.2.2.2.2.1,(p0.2.2.2.2.2.2.2.2.2.2.2.2.2.2.2.2.2.2.2.2.1,((Go.IntKind.wrap .i64 (p0.2.2.2.2.2.2.2.2.2.2.2.2.2.2.2.2.2.2.2.2.2.1+1)),(p0.2.2.2.2.2.2.2.2.2.2.2.2.2.2.2.2.2.2.2.2.2.2.1,(p0.2.2.2.2.2.2.2.2.2.2.2.2.2.2.2.2.2.2.2.2.2.2.2.1,(p0.2.2.2.2.2.2.2.2.2.2.2.2.2.2.2.2.2.2.2.2.2.2.2.2.1,(p0.2.2.2.2.2.2.2.2.2.2.2.2.2.2.2.2.2.2.2.2.2.2.2.2.2.1,(p0.2.2.2.2.2.2.2.2.2.2.2.2.2.2.2.2.2.2.2.2.2.2.2.2.2.2.1,(p0.2.2.2.2.2.2.2.2.2.2.2.2.2.2.2.2.2.2.2.2.2.2.2.2.2.2.2.1,((p0.2.2.2.2.2.2.2.2.2.2.2.2.2.2.2.2.2.2.2.2.2.2.2.2.2.2.2.2.1++[(Su.view 14 (Su.qo (Su.Ce.mk false false (Su.qG (Go.IntKind.wrap .i64 0) (Go.IntKind.wrap .i64 0)) (Su.jm (Su.qG (Go.IntKind.wrap .i64 0) (Go.IntKind.wrap .i64 0)) (p0.2.2.2.2.2.2.2.2.1,(p0.2.2.2.2.2.2.2.2.2.1,p0.2.2.2.2.2.2.2.2.2.2.1))).1 (Su.jm (Su.qG (Go.IntKind.wrap .i64 0) (Go.IntKind.wrap .i64 0)) (p0.2.2.2.2.2.2.2.2.1,(p0.2.2.2.2.2.2.2.2.2.1,p0.2.2.2.2.2.2.2.2.2.2.1))).2 (false,((0:Int),(0:Int))) (0:Int) (false,((0:Int),([],(0:Int))))) (Su.Cc.type x2)))]),(p0.2.2.2.2.2.2.2.2.2.2.2.2.2.2.2.2.2.2.2.2.2.2.2.2.2.2.2.2.2.1,(p0.2.2.2.2.2.2.2.2.2.2.2.2.2.2.2.2.2.2.2.2.2.2.2.2.2.2.2.2.2.2.1,(p0.2.2.2.2.2.2.2.2.2.2.2.2.2.2.2.2.2.2.2.2.2.2.2.2.2.2.2.2.2.2.2.1,(p0.2.2.2.2.2.2.2.2.2.2.2.2.2.2.2.2.2.2.2.2.2.2.2.2.2.2.2.2.2.2.2.2.1,((List.length (p0.2.2.2.2.2.2.2.2.2.2.2.2.2.2.2.2.2.2.2.2.2.2.2.2.2.2.2.2.1++[(Su.view 14 (Su.qo (Su.Ce.mk false false (Su.qG (Go.IntKind.wrap .i64 0) (Go.IntKind.wrap .i64 0)) (Su.jm (Su.qG (Go.IntKind.wrap .i64 0) (Go.IntKind.wrap .i64 0)) (p0.2.2.2.2.2.2.2.2.1,(p0.2.2.2.2.2.2.2.2.2.1,p0.2.2.2.2.2.2.2.2.2.2.1))).1 (Su.jm (Su.qG (Go.IntKind.wrap .i64 0) (Go.IntKind.wrap .i64 0)) (p0.2.2.2.2.2.2.2.2.1,(p0.2.2.2.2.2.2.2.2.2.1,p0.2.2.2.2.2.2.2.2.2.2.1))).2 (false,((0:Int),(0:Int))) (0:Int) (false,((0:Int),([],(0:Int))))) (Su.Cc.type x2)))])),())))))))))))))))))))))))))))))))))))
 else
  none))
 else
  (bif (decide (((Su.Cc.type x3)=3))) then
  (bif (Su.qJ (Su.qo (Su.Ce.mk false false (false,((0:Int),(0:Int))) (false,((0:Int),(0:Int))) (false,((0:Int),(0:Int))) (Su.yp 0 0) (0:Int) (Su.yD (false,((0:Int),([],(0:Int)))))) (Su.Cc.type x2)) (Su.Cc.type x2)) then
  some (.inr (.ret (true,(false,((0:Int),((0:Int),[]))))))
 else
  (bif ((true&&(Nat.beq p0.2.2.2.2.2.2.2.2.2.2.2.2.2.2.2.2.2.2.2.2.2.2.2.2.2.2.2.2.2.2.2.2.2.1 (List.length p0.2.2.2.2.2.2.2.2.2.2.2.2.2.2.2.2.2.2.2.2.2.2.2.2.2.2.2.2.1)))&&(Nat.ble ((List.length p0.2.2.2.2.2.2.2.2.2.2.2.2.2.2.2.2.2.2.2.2.2.2.2.2.2.2.2.2.1)+(List.length [(Su.view 14 (Su.qo (Su.Ce.mk false false (false,((0:Int),(0:Int))) (false,((0:Int),(0:Int))) (false,((0:Int),(0:Int))) (Su.yp 0 0) (0:Int) (Su.yD (false,((0:Int),([],(0:Int)))))) (Su.Cc.type x2)))])) 549755813888)) then
  some (.inl (p0.1,(p0.2.1,(p0.2.2.1,(p0.2.2.2.1,(p0.2.2.2.2.1,(p0.2.2.2.2.2.1,(p0.2.2.2.2.2.2.1,(p0.2.2.2.2.2.2.2.1,(p0.2.2.2.2.2.2.2.2.1,(p0.2.2.2.2.2.2.2.2.2.1,(p0.2.2.2.2.2.2.2.2.2.2.1,(p0.2.2.2.2.2.2.2.2.2.2.2.1,(p0.2.2.2.2.2.2.2.2.2.2.2.2.1,(p0.2.2.2.2.2.2.2.2.2.2.2.2.2.1,(p0.2.2.2.2.2.2.2.2.2.2.2.2.2.2.1,(p0.2.2.2.2.2.2.2.2.2.2.2.2.2.2.2.1,(p0.2.2.2.2.2.2.2.2.2.2.2.2.2.2.2.2.1,(p0.2.2.2.2.2.2.2.2.2.2.2.2.2.2.2.2.2.1,(p0.2.2.2.2.2.2.2.2.2.2.2.2.2.2.2.2.2.2.1,(p0.2.2.2.2.2.2.2.2.2.2.2.2.2.2.2.2.2.2.2.1,(p0.2.2.2.2.2.2.2.2.2.2.2.2.2.2.2.2.2.2.2.2.1,((Go.IntKind.wrap .i64 (p0.2.2.2.2.2.2.2.2.2.2.2.2.2.2.2.2.2.2.2.2.2.1+1)),(p0.2.2.2.2.2.2.2.2.2.2.2.2.2.2.2.2.2.2.2.2.2.2.1,(p0.2.2.2.2.2.2.2.2.2.2.2.2.2.2.2.2.2.2.2.2.2.2.2.1,(p0.2.2.2.2.2.2.2.2.2.2.2.2.2.2.2.2.2.2.2.2.2.2.2.2.1,(p0.2.2.2.2.2.2.2.2.2.2.2.2.2.2.2.2.2.2.2.2.2.2.2.2.2.1,(p0.2.2.2.2.2.2.2.2.2.2.2.2.2.2.2.2.2.2.2.2.2.2.2.2.2.2.1,(p0.2.2.2.2.2.2.2.2.2.2.2.2.2.2.2.2.2.2.2.2.2.2.2.2.2.2.2.1,((p0.2.2.2.2.2.2.2.2.2.2.2.2.2.2.2.2.2.2.2.2.2.2.2.2.2.2.2.2.1++[(Su.view 14 (Su.qo (Su.Ce.mk false false (false,((0:Int),(0:Int))) (false,((0:Int),(0:Int))) (false,((0:Int),(0:Int))) (Su.yp 0 0) (0:Int) (Su.yD (false,((0:Int),([],(0:Int)))))) (Su.Cc.type x2)))]),(p0.2.2.2.2.2.2.2.2.2.2.2.2.2.2.2.2.2.2.2.2.2.2.2.2.2.2.2.2.2.1,(p0.2.2.2.2.2.2.2.2.2.2.2.2.2.2.2.2.2.2.2.2.2.2.2.2.2.2.2.2.2.2.1,(p0.2.2.2.2.2.2.2.2.2.2.2.2.2.2.2.2.2.2.2.2.2.2.2.2.2.2.2.2.2.2.2.1,(p0.2.2.2.2.2.2.2.2.2.2.2.2.2.2.2.2.2.2.2.2.2.2.2.2.2.2.2.2.2.2.2.2.1,((List.length (p0.2.2.2.2.2.2.2.2.2.2.2.2.2.2.2.2.2.2.2.2.2.2.2.2.2.2.2.2.1++[(Su.view 14 (Su.qo (Su.Ce.mk false false (false,((0:Int),(0:Int))) (false,((0:Int),(0:Int))) (false,((0:Int),(0:Int))) (Su.yp 0 0) (0:Int) (Su.yD (false,((0:Int),([],(0:Int)))))) (Su.Cc.type x2)))])),())))))))))))))))))))))))))))))))))))
 else
  none))
 else
  (bif (Su.qJ (Su.qo (Su.Ce.mk false false (false,((0:Int),(0:Int))) (false,((0:Int),(0:Int))) (false,((0:Int),(0:Int))) (false,((0:Int),(0:Int))) (0:Int) (false,((0:Int),([],(0:Int))))) (Su.Cc.type x2)) (Su.Cc.type x2)) then
  some (.inr (.ret (true,(false,((0:Int),((0:Int),[]))))))
 else
  (bif ((true&&(Nat.beq p0.2.2.2.2.2.2.2.2.2.2.2.2.2.2.2.2.2.2.2.2.2.2.2.2.2.2.2.2.2.2.2.2.2.1 (List.length p0.2.2.2.2.2.2.2.2.2.2.2.2.2.2.2.2.2.2.2.2.2.2.2.2.2.2.2.2.1)))&&(Nat.ble ((List.length p0.2.2.2.2.2.2.2.2.2.2.2.2.2.2.2.2.2.2.2.2.2.2.2.2.2.2.2.2.1)+(List.length [(Su.view 14 (Su.qo (Su.Ce.mk false false (false,((0:Int),(0:Int))) (false,((0:Int),(0:Int))) (false,((0:Int),(0:Int))) (false,((0:Int),(0:Int))) (0:Int) (false,((0:Int),([],(0:Int))))) (Su.Cc.type x2)))])) 549755813888)) then
  some (.inl (p0.1,(p0.2.1,(p0.2.2.1,(p0.2.2.2.1,(p0.2.2.2.2.1,(p0.2.2.2.2.2.1,(p0.2.2.2.2.2.2.1,(p0.2.2.2.2.2.2.2.1,(p0.2.2.2.2.2.2.2.2.1,(p0.2.2.2.2.2.2.2.2.2.1,(p0.2.2.2.2.2.2.2.2.2.2.1,(p0.2.2.2.2.2.2.2.2.2.2.2.1,(p0.2.2.2.2.2.2.2.2.2.2.2.2.1,(p0.2.2.2.2.2.2.2.2.2.2.2.2.2.1,(p0.2.2.2.2.2.2.2.2.2.2.2.2.2.2.1,(p0.2.2.2.2.2.2.2.2.2.2.2.2.2.2.2.1,(p0.2.2.2.2.2.2.2.2.2.2.2.2.2.2.2.2.1,(p0.2.2.2.2.2.2.2.2.2.2.2.2.2.2.2.2.2.1,(p0.2.2.2.2.2.2.2.2.2.2.2.2.2.2.2.2.2.2.1,(p0.2.2.2.2.2.2.2.2.2.2.2.2.2.2.2.2.2.2.2.1,(p0.2.2.2.2.2.2.2.2.2.2.2.2.2.2.2.2.2.2.2.2.1,((Go.IntKind.wrap .i64 (p0.2.2.2.2.2.2.2.2.2.2.2.2.2.2.2.2.2.2.2.2.2.1+1)),(p0.2.2.2.2.2.2.2.2.2.2.2.2.2.2.2.2.2.2.2.2.2.2.1,(p0.2.2.2.2.2.2.2.2.2.2.2.2.2.2.2.2.2.2.2.2.2.2.2.1,(p0.2.2.2.2.2.2.2.2.2.2.2.2.2.2.2.2.2.2.2.2.2.2.2.2.1,(p0.2.2.2.2.2.2.2.2.2.2.2.2.2.2.2.2.2.2.2.2.2.2.2.2.2.1,(p0.2.2.2.2.2.2.2.2.2.2.2.2.2.2.2.2.2.2.2.2.2.2.2.2.2.2.1,(p0.2.2.2.2.2.2.2.2.2.2.2.2.2.2.2.2.2.2.2.2.2.2.2.2.2.2.2.1,((p0.2.2.2.2.2.2.2.2.2.2.2.2.2.2.2.2.2.2.2.2.2.2.2.2.2.2.2.2.1++[(Su.view 14 (Su.qo (Su.Ce.mk false false (false,((0:Int),(0:Int))) (false,((0:Int),(0:Int))) (false,((0:Int),(0:Int))) (false,((0:Int),(0:Int))) (0:Int) (false,((0:Int),([],(0:Int))))) (Su.Cc.type x2)))]),(p0.2.2.2.2.2.2.2.2.2.2.2.2.2.2.2.2.2.2.2.2.2.2.2.2.2.2.2.2.2.1,(p0.2.2.2.2.2.2.2.2.2.2.2.2.2.2.2.2.2.2.2.2.2.2.2.2.2.2.2.2.2.2.1,(p0.2.2.2.2.2.2.2.2.2.2.2.2.2.2.2.2.2.2.2.2.2.2.2.2.2.2.2.2.2.2.2.1,(p0.2.2.2.2.2.2.2.2.2.2.2.2.2.2.2.2.2.2.2.2.2.2.2.2.2.2.2.2.2.2.2.2.1,((List.length (p0.2.2.2.2.2.2.2.2.2.2.2.2.2.2.2.2.2.2.2.2.2.2.2.2.2.2.2.2.1++[(Su.view 14 (Su.qo (Su.Ce.mk false false (false,((0:Int),(0:Int))) (false,((0:Int),(0:Int))) (false,((0:Int),(0:Int))) (false,((0:Int),(0:Int))) (0:Int) (false,((0:Int),([],(0:Int))))) (Su.Cc.type x2)))])),())))))))))))))))))))))))))))))))))))
 else
  none)))))
 else
  some (.inr (.exit 0 (p0.1,(p0.2.1,(p0.2.2.1,(p0.2.2.2.1,(p0.2.2.2.2.1,(p0.2.2.2.2.2.1,(p0.2.2.2.2.2.2.1,(p0.2.2.2.2.2.2.2.1,(p0.2.2.2.2.2.2.2.2.1,(p0.2.2.2.2.2.2.2.2.2.1,(p0.2.2.2.2.2.2.2.2.2.2.1,(p0.2.2.2.2.2.2.2.2.2.2.2.1,(p0.2.2.2.2.2.2.2.2.2.2.2.2.1,(p0.2.2.2.2.2.2.2.2.2.2.2.2.2.1,(p0.2.2.2.2.2.2.2.2.2.2.2.2.2.2.1,(p0.2.2.2.2.2.2.2.2.2.2.2.2.2.2.2.1,(p0.2.2.2.2.2.2.2.2.2.2.2.2.2.2.2.2.1,(p0.2.2.2.2.2.2.2.2.2.2.2.2.2.2.2.2.2.1,(p0.2.2.2.2.2.2.2.2.2.2.2.2.2.2.2.2.2.2.1,(p0.2.2.2.2.2.2.2.2.2.2.2.2.2.2.2.2.2.2.2.1,(p0.2.2.2.2.2.2.2.2.2.2.2.2.2.2.2.2.2.2.2.2.1,(p0.2.2.2.2.2.2.2.2.2.2.2.2.2.2.2.2.2.2.2.2.2.1,(p0.2.2.2.2.2.2.2.2.2.2.2.2.2.2.2.2.2.2.2.2.2.2.1,(p0.2.2.2.2.2.2.2.2.2.2.2.2.2.2.2.2.2.2.2.2.2.2.2.1,(p0.2.2.2.2.2.2.2.2.2.2.2.2.2.2.2.2.2.2.2.2.2.2.2.2.1,(p0.2.2.2.2.2.2.2.2.2.2.2.2.2.2.2.2.2.2.2.2.2.2.2.2.2.1,(p0.2.2.2.2.2.2.2.2.2.2.2.2.2.2.2.2.2.2.2.2.2.2.2.2.2.2.1,(p0.2.2.2.2.2.2.2.2.2.2.2.2.2.2.2.2.2.2.2.2.2.2.2.2.2.2.2.1,(p0.2.2.2.2.2.2.2.2.2.2.2.2.2.2.2.2.2.2.2.2.2.2.2.2.2.2.2.2.1,(p0.2.2.2.2.2.2.2.2.2.2.2.2.2.2.2.2.2.2.2.2.2.2.2.2.2.2.2.2.2.1,(p0.2.2.2.2.2.2.2.2.2.2.2.2.2.2.2.2.2.2.2.2.2.2.2.2.2.2.2.2.2.2.1,(p0.2.2.2.2.2.2.2.2.2.2.2.2.2.2.2.2.2.2.2.2.2.2.2.2.2.2.2.2.2.2.2.1,(p0.2.2.2.2.2.2.2.2.2.2.2.2.2.2.2.2.2.2.2.2.2.2.2.2.2.2.2.2.2.2.2.2.1,(p0.2.2.2.2.2.2.2.2.2.2.2.2.2.2.2.2.2.2.2.2.2.2.2.2.2.2.2.2.2.2.2.2.2.1,())))))))))))))))))))))))))))))))))))))
def qm4  (fu:Nat) (c:(Int×((List Su.Cc)×((List Su.T)×((List Su.T)×((List Su.T)×((List Su.T)×Int))))))):Option (Bool×(Bool×(Int×(Int×(List Su.Ce))))) :=
 (bif (((true&&(decide ((0≤(((List.length c.2.1):Nat):Int)))))&&(decide (((((List.length c.2.1):Nat):Int)≤(((List.length c.2.1):Nat):Int)))))&&(decide (((((List.length c.2.1):Nat):Int)≤549755813888)))) then
 (bif (!(decide (((((List.length (List.replicate (Int.toNat (((List.length c.2.1):Nat):Int)) (Su.Ce.mk false false (false,((0:Int),(0:Int))) (false,((0:Int),(0:Int))) (false,((0:Int),(0:Int))) (false,((0:Int),(0:Int))) 0 (false,((0:Int),([],(0:Int))))))):Nat):Int)=(((List.length c.2.1):Nat):Int))))) then
 some (true,(false,((0:Int),((0:Int),[]))))
 else
  (itP fu (J7) (c.1,(c.2.1,(c.2.2.1,(c.2.2.2.1,(c.2.2.2.2.1,(c.2.2.2.2.2.1,(c.2.2.2.2.2.2,(false,((Su.qG 0 0).1,((Su.qG 0 0).2.1,((Su.qG 0 0).2.2,((List.replicate (Int.toNat (((List.length c.2.1):Nat):Int)) (Su.Ce.mk false false (false,((0:Int),(0:Int))) (false,((0:Int),(0:Int))) (false,((0:Int),(0:Int))) (false,((0:Int),(0:Int))) 0 (false,((0:Int),([],(0:Int)))))),(c.1,(c.2.1,(c.2.2.1,(c.2.2.2.1,(c.2.2.2.2.1,(c.2.2.2.2.2.1,(c.2.2.2.2.2.2,((List.replicate (Int.toNat (((List.length c.2.1):Nat):Int)) (Su.Ce.mk false false (false,((0:Int),(0:Int))) (false,((0:Int),(0:Int))) (false,((0:Int),(0:Int))) (false,((0:Int),(0:Int))) 0 (false,((0:Int),([],(0:Int)))))),((((List.length (List.replicate (Int.toNat (((List.length c.2.1):Nat):Int)) (Su.Ce.mk false false (false,((0:Int),(0:Int))) (false,((0:Int),(0:Int))) (false,((0:Int),(0:Int))) (false,((0:Int),(0:Int))) 0 (false,((0:Int),([],(0:Int))))))):Nat):Int),((0:Int),([],(false,(false,((0:Int),((0:Int),(0,([],(false,((Su.qH [(Su.qG 0 0)]).1,((Su.qH [(Su.qG 0 0)]).2.1,((Su.qH [(Su.qG 0 0)]).2.2,(0,()))))))))))))))))))))))))))))))))))).bind fun x4 =>
  (match x4 with
 | .exit i5 p6=>(bif (Nat.beq i5 0) then
  ((Su.sub p6.2.2.2.2.2.2.2.2.2.2.2.2.2.2.2.2.2.2.2.2.2.2.2.2.2.2.2.2.1 0 p6.2.2.2.2.2.2.2.2.2.2.2.2.2.2.2.2.2.2.2.2.2.2.2.2.2.2.2.2.2.2.2.2.2.1)).bind fun x7 =>
  (((((Su.unR (Su.rCe) x7)).bind fun x8 =>
  some (p6.2.2.2.2.2.2.2.2.2.2.2.2.2.2.2.2.2.2.2.2.2.2.2.2.2.2.2.2.2.2.2.2.1,x8)).bind fun x9 =>
  some (p6.2.2.2.2.2.2.2.2.2.2.2.2.2.2.2.2.2.2.2.2.2.2.2.2.2.2.2.2.2.2.2.1,x9)).bind fun x10 =>
  some (p6.2.2.2.2.2.2.2.2.2.2.2.2.2.2.2.2.2.2.2.2.2.2.2.2.2.2.2.2.2.2.1,x10)).bind fun x11 =>
  some (p6.2.2.2.2.2.2.2.2.2.2.2.2.2.2.2.2.2.2.2.2.2.2.2.2.2.2.2.2.2.1,x11)
 else
  none)
 | .ret o12=>some o12))
 else
  none)
def ce0:Su.Ce:=⟨false,false,iv0,iv0,iv0,iv0,0,fm0⟩
def jW (c:CoD):StD:=(false,((qG 0 0).1,((qG 0 0).2.1,((qG 0 0).2.2,List.replicate c.2.1.length ce0))))
def yH (_:Nat) (d:Su.Cc) (_:Su.Ce):Su.Ce :=
 bif decide (d.type=1) then ⟨true,false,iv0,iv0,iv0,iv0,0,fm0⟩
 else bif decide (d.type=2) then ⟨false,false,qG 0 0,(jm (qG 0 0) (qG 0 0)).1,(jm (qG 0 0) (qG 0 0)).2,iv0,0,fm0⟩
 else bif decide (d.type=3) then ⟨false,false,iv0,iv0,iv0,yp 0 0,0,yD fm0⟩
 else ce0
theorem wz:IntKind.i64.wrap 0=0:=by decide
theorem qu7 (c:CoD) (K:Iv) (hl:(jW c).2.2.2.2.length=c.2.1.length) (hs:(jW c).2.2.2.2.length≤1000000) :
 jN (c.2.1.length+1) J7 (YJ c (jW c) K ((0:Nat):Int) []) (qfQ (.ret ji) (fun P=>.exit 0 (YJ c (jW c) K (c.2.1.length:Int) P)) (qP (q9 c.2.1 (jW c).2.2.2.2 (yH)) c.2.1.length)):=by
 have hmx:(jW c).2.2.2.2.length≤maxLen:=by rw [qF];omega
 refine yi (mk:=fun i P=>YJ c (jW c) K (i:Int) P) ?_ ?_ ?_
 · intro i P x hi hP ho
   have i1:i<(jW c).2.2.2.2.length:=by omega
   unfold q9 at ho
   rw [List.getElem?_eq_getElem hi,List.getElem?_eq_getElem i1] at ho
   simp only [] at ho
   have hb:Nat.ble (P.length+1) 549755813888=true:=Nat.ble_eq_true_of_le (by omega)
   unfold YJ
   simp only [J7,ltN,decide_eq_true i1,cond_true,ixl i1,ixl hi,Option.bind_some]
   simp only [wz]
   generalize c.2.1[i]=d at *
   generalize (jW c).2.2.2.2[i]=x0 at *
   by_cases t1:d.type=1
   · have e1:=decide_eq_true t1
     have hf:yH i d x0=⟨true,false,iv0,iv0,iv0,iv0,0,fm0⟩:=by unfold yH;rw [e1];rfl
     rw [hf] at ho
     refine (qz e1).trans ?_
     rcases Bool.eq_false_or_eq_true (qJ (qo (⟨true,false,iv0,iv0,iv0,iv0,0,fm0⟩) d.type) d.type) with hn | hn
     · exact absurd ((qz hn).symm.trans ho) (by simp)
     · have:=soi ((qt hn).symm.trans ho);subst this
       refine (qt hn).trans ?_
       simp only [List.length_map,List.length_cons,List.length_nil,Nat.zero_add,Zj,hb,Bool.and_self,cond_true,yG,w1 i1 hmx]
       all_goals rfl
   · have e1:=decide_eq_false t1
     by_cases t2:d.type=2
     · have e2:=decide_eq_true t2
       have hf:yH i d x0=⟨false,false,qG 0 0,(jm (qG 0 0) (qG 0 0)).1,(jm (qG 0 0) (qG 0 0)).2,iv0,0,fm0⟩:=by unfold yH;rw [e1,e2];rfl
       rw [hf] at ho
       refine (qt e1).trans ((qz e2).trans ?_)
       rcases Bool.eq_false_or_eq_true (qJ (qo (⟨false,false,qG 0 0,(jm (qG 0 0) (qG 0 0)).1,(jm (qG 0 0) (qG 0 0)).2,iv0,0,fm0⟩) d.type) d.type) with hn | hn
       · exact absurd ((qz hn).symm.trans ho) (by simp)
       · have:=soi ((qt hn).symm.trans ho);subst this
         refine (qt hn).trans ?_
         simp only [List.length_map,List.length_cons,List.length_nil,Nat.zero_add,Zj,hb,Bool.and_self,cond_true,yG,w1 i1 hmx]
         all_goals rfl
     · have e2:=decide_eq_false t2
       by_cases t3:d.type=3
       · have e3:=decide_eq_true t3
         have hf:yH i d x0=⟨false,false,iv0,iv0,iv0,yp 0 0,0,yD fm0⟩:=by unfold yH;rw [e1,e2,e3];rfl
         rw [hf] at ho
         refine (qt e1).trans ((qt e2).trans ((qz e3).trans ?_))
         rcases Bool.eq_false_or_eq_true (qJ (qo (⟨false,false,iv0,iv0,iv0,yp 0 0,0,yD fm0⟩) d.type) d.type) with hn | hn
         · exact absurd ((qz hn).symm.trans ho) (by simp)
         · have:=soi ((qt hn).symm.trans ho);subst this
           refine (qt hn).trans ?_
           simp only [List.length_map,List.length_cons,List.length_nil,Nat.zero_add,Zj,hb,Bool.and_self,cond_true,yG,w1 i1 hmx]
           all_goals rfl
       · have e3:=decide_eq_false t3
         have hf:yH i d x0=ce0:=by unfold yH;rw [e1,e2,e3];rfl
         rw [hf] at ho
         refine (qt e1).trans ((qt e2).trans ((qt e3).trans ?_))
         rcases Bool.eq_false_or_eq_true (qJ (qo (ce0) d.type) d.type) with hn | hn
         · exact absurd ((qz hn).symm.trans ho) (by simp)
         · have:=soi ((qt hn).symm.trans ho);subst this
           refine (qt hn).trans ?_
           simp only [List.length_map,List.length_cons,List.length_nil,Nat.zero_add,Zj,hb,Bool.and_self,cond_true,yG,w1 i1 hmx]
           all_goals rfl
 · intro i P hi hP ho
   have i1:i<(jW c).2.2.2.2.length:=by omega
   unfold q9 at ho
   rw [List.getElem?_eq_getElem hi,List.getElem?_eq_getElem i1] at ho
   simp only [] at ho
   have hb:Nat.ble (P.length+1) 549755813888=true:=Nat.ble_eq_true_of_le (by omega)
   unfold YJ
   simp only [J7,ltN,decide_eq_true i1,cond_true,ixl i1,ixl hi,Option.bind_some]
   simp only [wz]
   generalize c.2.1[i]=d at *
   generalize (jW c).2.2.2.2[i]=x0 at *
   by_cases t1:d.type=1
   · have e1:=decide_eq_true t1
     have hf:yH i d x0=⟨true,false,iv0,iv0,iv0,iv0,0,fm0⟩:=by unfold yH;rw [e1];rfl
     rw [hf] at ho
     refine (qz e1).trans ?_
     rcases Bool.eq_false_or_eq_true (qJ (qo (⟨true,false,iv0,iv0,iv0,iv0,0,fm0⟩) d.type) d.type) with hn | hn
     · exact (qz hn).trans rfl
     · exact absurd ((qt hn).symm.trans ho) (by simp)
   · have e1:=decide_eq_false t1
     by_cases t2:d.type=2
     · have e2:=decide_eq_true t2
       have hf:yH i d x0=⟨false,false,qG 0 0,(jm (qG 0 0) (qG 0 0)).1,(jm (qG 0 0) (qG 0 0)).2,iv0,0,fm0⟩:=by unfold yH;rw [e1,e2];rfl
       rw [hf] at ho
       refine (qt e1).trans ((qz e2).trans ?_)
       rcases Bool.eq_false_or_eq_true (qJ (qo (⟨false,false,qG 0 0,(jm (qG 0 0) (qG 0 0)).1,(jm (qG 0 0) (qG 0 0)).2,iv0,0,fm0⟩) d.type) d.type) with hn | hn
       · exact (qz hn).trans rfl
       · exact absurd ((qt hn).symm.trans ho) (by simp)
     · have e2:=decide_eq_false t2
       by_cases t3:d.type=3
       · have e3:=decide_eq_true t3
         have hf:yH i d x0=⟨false,false,iv0,iv0,iv0,yp 0 0,0,yD fm0⟩:=by unfold yH;rw [e1,e2,e3];rfl
         rw [hf] at ho
         refine (qt e1).trans ((qt e2).trans ((qz e3).trans ?_))
         rcases Bool.eq_false_or_eq_true (qJ (qo (⟨false,false,iv0,iv0,iv0,yp 0 0,0,yD fm0⟩) d.type) d.type) with hn | hn
         · exact (qz hn).trans rfl
         · exact absurd ((qt hn).symm.trans ho) (by simp)
       · have e3:=decide_eq_false t3
         have hf:yH i d x0=ce0:=by unfold yH;rw [e1,e2,e3];rfl
         rw [hf] at ho
         refine (qt e1).trans ((qt e2).trans ((qt e3).trans ?_))
         rcases Bool.eq_false_or_eq_true (qJ (qo (ce0) d.type) d.type) with hn | hn
         · exact (qz hn).trans rfl
         · exact absurd ((qt hn).symm.trans ho) (by simp)
 · intro P hP
   unfold YJ
   simp only [J7,ltN,hl,decide_eq_false (Nat.lt_irrefl _),cond_false]
def qCN (c:CoD):StD:=qC c (jW c) yH
def qlh (c:CoD):Option StD:=bif Nat.ble c.2.1.length 1000000 then some (qCN c) else none
theorem qu8 (c:CoD):(jW c).2.2.2.2.length=c.2.1.length:=List.length_replicate ..
theorem qqO (c:CoD) (y:StD) (hg:(d1 cCo).good c) (h:qlh c=some y):∃ n,qm4 n c=some y:=by
 obtain ⟨hm,h⟩:=qj h
 have:=soi h;subst this
 have hm:=Nat.le_of_ble_eq_true hm
 refine ⟨c.2.1.length+1,?_⟩
 unfold qm4 qCN
 have hl:=qu8 c
 have hK:(qH [stK (jW c)]).1=false:=rfl
 refine (qz (by simp;omega)).trans ((qt (by rw [Int.toNat_natCast,lnE,decide_eq_true (List.length_replicate ..)];rfl)).trans ?_)
 rw [jP _ rfl hl hK]
 have hr:=qu7 c (qH [stK (jW c)]) hl (by rw [hl];exact hm) _ (Nat.le_refl _)
 refine obB hr ?_
 cases hb:qP (q9 c.2.1 (jW c).2.2.2.2 yH) c.2.1.length with
 | none=>rfl
 | some P=>exact obB (Z5 P) (qqN P (qH [stK (jW c)]) false)
end
end Su
end
