/-
  What functions of the program compute, in plain Lean, and that the evaluator finds it.
-/
import Derived.Test.YtfckjjffdfkelaaGreatSuSd
import Derived.Test.YtfckjjffdfkelaaGreatNC14
import Derived.Test.YtfckjjffdfkelaaGreatNB10
set_option maxRecDepth 10000
section
namespace Su
open Go Fly
set_option linter.unusedVariables false
noncomputable section
def qd4:(Int×((List Su.Tm)×(Int×(Int×(Bool×(Int×((List Su.Tm)×(Int×Unit))))))))→Option ((Int×((List Su.Tm)×(Int×(Int×(Bool×(Int×((List Su.Tm)×(Int×Unit)))))))) ⊕ (Int×((List Su.Tm)×(Int×(Int×(Bool×(Int×((List Su.Tm)×(Int×Unit))))))))):=fun p1=>(bif (decide ((p1.2.2.2.1<p1.2.2.1))) then
 ((Su.idx p1.2.1 p1.2.2.2.1)).bind fun x2 =>
 some (.inl ((((Su.upS 0 [p1.1,(((Su.qfI (Int.toNat (Su.Tm.c x2))):Nat):Int)]):Nat):Int),(p1.2.1,(p1.2.2.1,((Go.IntKind.wrap .i64 (p1.2.2.2.1+1)),(p1.2.2.2.2.1,(p1.2.2.2.2.2.1,(p1.2.2.2.2.2.2.1,(p1.2.2.2.2.2.2.2.1,())))))))))
 else
  some (.inr (p1.1,(p1.2.1,(p1.2.2.1,(p1.2.2.2.1,(p1.2.2.2.2.1,(p1.2.2.2.2.2.1,(p1.2.2.2.2.2.2.1,(p1.2.2.2.2.2.2.2.1,()))))))))))
def qDH  (fu:Nat) (a:(Bool×(Int×((List Su.Tm)×Int)))):Option Int :=
 (bif (List.any [(a.1,(a.2.1,(a.2.2.1,a.2.2.2)))] (fun z0=>(z0.1||(!(Su.qaF z0))))) then
 some ((9218868437227405312:Nat):Int)
 else
  (itP fu (qd4) ((0:Int),(a.2.2.1,((((List.length a.2.2.1):Nat):Int),((0:Int),(a.1,(a.2.1,(a.2.2.1,(a.2.2.2,()))))))))).bind fun x3 =>
  some (((Su.upS 0 [x3.1,x3.2.2.2.2.2.2.2.1]):Nat):Int))
def absA (c:Int):Int:=((qfI c.toNat:Nat):Int)
def qyr:List Tm→Int→Int
 | [],s=>s
 | t::l,s=>qyr l (upI [s,absA t.c])
def radL:{f:Fm→Int // ∀ a,f a=bif okF a then upI [qyr a.2.2.1 0,a.2.2.2] else 9218868437227405312}:=Classical.choice ⟨⟨_,fun _=>rfl⟩⟩
def qtx (a:Fm):Int:=radL.1 a
theorem qys (a:Fm):qtx a=bif okF a then upI [qyr a.2.2.1 0,a.2.2.2] else 9218868437227405312:=radL.2 a
def qcG (a:Fm):Option Int:=bif qgI a.2.2.1 then some (qtx a) else none
theorem qkD (l:List Tm) (hl:l.length≤549755813888) (q:Bool×(Int×(List Tm×(Int×Unit)))):∀ (rest A:List Tm) (s:Int),A++rest=l →
 ∃ n,itP n qd4 (s,(l,((l.length:Int),((A.length:Int),q))))=some (qyr rest s,(l,((l.length:Int),((l.length:Int),q))))
 | [],A,s,hA=>by
  rw [List.append_nil] at hA;subst hA
  refine ⟨1,?_⟩
  rw [qJ]
  simp only [qd4]
  rw [decide_eq_false (by omega),cond_false];rfl
 | t::rest,A,s,hA=>by
  have hNl:A.length+(rest.length+1)=l.length:=by rw [← hA];simp
  have hg:idx l (A.length:Int)=some t:=by
   rw [qZ,← hA,List.getElem?_append_right (by omega),Nat.sub_self];rfl
  obtain ⟨n,h⟩:=qkD l hl q rest (A++[t]) (upI [s,absA t.c]) (by rw [← hA];simp)
  refine ⟨n+1,?_⟩
  rw [qJ]
  simp only [qd4]
  rw [decide_eq_true (show (A.length:Int)<(l.length:Int) by omega),cond_true,hg,Option.bind_some,w64 (by omega) (by omega),show ((A.length:Int)+1)=(((A++[t]).length:Nat):Int) by simp]
  exact h
theorem qyt (a:Fm) (y:Int) (hg:(d1 yc).good a) (h:qcG a=some y):∃ n,qDH n a=some y:=by
 obtain ⟨b,m,l,e⟩:=a
 obtain ⟨h1,h2⟩:=qj h
 have:=soi h2;subst this
 have hl:l.length≤549755813888:=Nat.le_of_ble_eq_true h1
 have ha:List.any [((b,(m,(l,e))):Fm)] (fun z0=>(z0.1||(!(Su.qaF z0)))) = !okF (b,(m,(l,e))):=by simp [okF]
 obtain ⟨n,q⟩:=qkD l hl (b,(m,(l,(e,())))) l [] 0 rfl
 refine ⟨n,?_⟩
 rw [qys]
 unfold qDH
 simp only []
 rw [ha]
 cases okF (b,(m,(l,e))) with
 | false=>rfl
 | true =>
  rw [Bool.not_true,cond_false,cond_true]
  exact obs q rfl
end
end Su
end
section
namespace Su
open Go Fly
set_option linter.unusedVariables false
noncomputable section
def qty  (a:(Bool×(Int×((List Su.Tm)×Int)))):Option Int :=
 ((Su.qcG (a.1,((0:Int),(a.2.2.1,a.2.2.2))))).bind fun x0 =>
 some x0
def aMid  (a:Int) (b:Int):Option Int :=
 some (((Su.qcB (Int.toNat (((Su.qth (Int.toNat a) (Int.toNat 4602678819172646912) 0):Nat):Int)) (Int.toNat (((Su.qth (Int.toNat b) (Int.toNat 4602678819172646912) 0):Nat):Int)) 0):Nat):Int)
def qF7 (a:Fm):Int:=qtx (a.1,(0,(a.2.2.1,a.2.2.2)))
def qnX (a:Fm):Option Int:=bif qgI a.2.2.1 then some (qF7 a) else none
theorem qtz (a:Fm) (y:Int) (hg:(d1 yc).good a) (h:qnX a=some y):qty a=some y:=by
 obtain ⟨h1,h2⟩:=qj h
 have:=soi h2;subst this
 unfold qty qcG
 rw [h1];rfl
def midI (a b:Int):Int:=qDF (mulI a 4602678819172646912 0) (mulI b 4602678819172646912 0) 0
def qtA (p:Int×Int):Option Int:=some (midI p.1 p.2)
theorem qyu (p:Int×Int) (y:Int) (hg:(dc (cI .u64) (d1 (cI .u64))).good p) (h:qtA p=some y):aMid p.1 p.2=some y:=h
end
end Su
end
section
namespace Su
open Go Fly
set_option linter.unusedVariables false
noncomputable section
def qtB  (a:(Bool×(Int×((List Su.Tm)×Int)))):Option (Bool×(Int×Int)) :=
 (bif (List.any [(a.1,(a.2.1,(a.2.2.1,a.2.2.2)))] (fun z0=>(z0.1||(!(Su.qaF z0))))) then
 some ((Su.qr (false,(((18442240474082181120:Nat):Int),((9218868437227405312:Nat):Int)))).1,((Su.qr (false,(((18442240474082181120:Nat):Int),((9218868437227405312:Nat):Int)))).2.1,(Su.qr (false,(((18442240474082181120:Nat):Int),((9218868437227405312:Nat):Int)))).2.2))
 else
  ((Su.qcG (a.1,(a.2.1,(a.2.2.1,a.2.2.2))))).bind fun x1 =>
  some ((Su.qr (false,((((Su.qcB (Int.toNat a.2.1) (Int.toNat (((Su.qcx (Int.toNat x1)):Nat):Int)) 2):Nat):Int),(((Su.qcB (Int.toNat a.2.1) (Int.toNat x1) 1):Nat):Int)))).1,((Su.qr (false,((((Su.qcB (Int.toNat a.2.1) (Int.toNat (((Su.qcx (Int.toNat x1)):Nat):Int)) 2):Nat):Int),(((Su.qcB (Int.toNat a.2.1) (Int.toNat x1) 1):Nat):Int)))).2.1,(Su.qr (false,((((Su.qcB (Int.toNat a.2.1) (Int.toNat (((Su.qcx (Int.toNat x1)):Nat):Int)) 2):Nat):Int),(((Su.qcB (Int.toNat a.2.1) (Int.toNat x1) 1):Nat):Int)))).2.2)))
set_option linter.unusedSimpArgs false
def JT (a:Fm):Spn:=bif okF a then qr (false,(qDF a.2.1 (qtu (qtx a)) 2,qDF a.2.1 (qtx a) 1)) else (false,(18442240474082181120,9218868437227405312))
def ZN (a:Fm):Option Spn:=bif qgI a.2.2.1 then some (JT a) else none
theorem qtC (a:Fm) (y:Spn) (hg:(d1 yc).good a) (h:ZN a=some y):qtB a=some y:=by
 obtain ⟨b,m,l,r⟩:=a
 obtain ⟨h1,h2⟩:=qj h
 have:=soi h2;subst this
 have h1:qgI l=true:=h1
 have ha:List.any [((b,(m,(l,r))):Fm)] (fun z0=>(z0.1||(!(Su.qaF z0)))) = !okF (b,(m,(l,r))):=by simp [okF]
 unfold qtB JT qcG
 simp only []
 rw [ha]
 cases okF (b,(m,(l,r))) with
 | false=>rfl
 | true =>
  rw [Bool.not_true,cond_false,cond_true,h1,cond_true];rfl
end
end Su
end
section
namespace Su
open Go Fly
set_option linter.unusedVariables false
noncomputable section
def jD {S R:Type} (K:Nat) (F:S→Option (S ⊕ R)) (s:S) (r:R):Prop:=∀ m,K≤m→itP m F s=some r
theorem jD.next {S R:Type} {K:Nat} {F:S→Option (S ⊕ R)} {s s':S} {r:R} (h:F s=some (.inl s')) (hn:jD K F s' r):jD (K+1) F s r:=fun m hm=>by
 obtain ⟨j,rfl⟩:∃ j,m=j+1:=⟨m-1,by omega⟩
 rw [qJ,h]
 exact hn j (by omega)
theorem jD.stop {S R:Type} {K:Nat} {F:S→Option (S ⊕ R)} {s:S} {r:R} (h:F s=some (.inr r)):jD (K+1) F s r:=fun m hm=>by
 obtain ⟨j,rfl⟩:∃ j,m=j+1:=⟨m-1,by omega⟩
 rw [qJ,h];rfl
theorem jD.up {S R:Type} {K K':Nat} {F:S→Option (S ⊕ R)} {s:S} {r:R} (h:jD K F s r) (hk:K≤K'):jD K' F s r:=fun m hm=>h m (by omega)
def qaG (n:Nat) (f:Nat→Bool):Bool:=(List.range n).all f
theorem qkE {n:Nat} {f:Nat→Bool}:qaG n f=true↔∀ i,i<n→f i=true:=by
 unfold qaG
 simp [List.all_eq_true,List.mem_range]
theorem qgK {S R:Type} {F:S→Option (S ⊕ R)} {mk:Nat→S} {n:Nat} {ok:Nat→Bool} {r0 r1:R}
 (h1:∀ i,i<n→ok i=true→F (mk i)=some (.inl (mk (i+1)))) (h2:∀ i,i<n→ok i=false→F (mk i)=some (.inr r1)) (h0:F (mk n)=some (.inr r0)) :
 ∀ (j i:Nat),i+j=n→jD (j+1) F (mk i) (bif (List.range' i j).all ok then r0 else r1)
 | 0,i,h=>by
  have:i=n:=by omega
  subst this
  exact jD.stop h0
 | j+1,i,h=>by
  rw [List.range'_succ,List.all_cons]
  cases hk:ok i with
  | true=>exact jD.next (h1 i (by omega) hk) (by simpa using qgK h1 h2 h0 j (i+1) (by omega))
  | false=>exact jD.stop (h2 i (by omega) hk)
theorem qbJ {S R:Type} {F:S→Option (S ⊕ R)} {mk:Nat→S} {n:Nat} {ok:Nat→Bool} {r0 r1:R}
 (h1:∀ i,i<n→ok i=true→F (mk i)=some (.inl (mk (i+1)))) (h2:∀ i,i<n→ok i=false→F (mk i)=some (.inr r1)) (h0:F (mk n)=some (.inr r0)) :
 jD (n+1) F (mk 0) (bif qaG n ok then r0 else r1):=by
 have:=qgK h1 h2 h0 n 0 (by omega)
 rwa [← List.range_eq_range'] at this
theorem ixl {α:Type} {l:List α} {i:Nat} (h:i<l.length):idx l (i:Int)=some l[i]:=by
 rw [qZ,List.getElem?_eq_getElem h]
theorem w1 {i n:Nat} (h:i<n) (hn:n≤maxLen):IntKind.i64.wrap ((i:Int)+1)=((i+1:Nat):Int):=by
 rw [qI] at hn
 rw [w64 (by omega) (by omega)];rfl
theorem ltN (i n:Nat):decide ((i:Int)<(n:Int))=decide (i<n):=by
 by_cases h:i<n
 · rw [decide_eq_true h,decide_eq_true (by omega)]
 · rw [decide_eq_false h,decide_eq_false (by omega)]
theorem Z4 (n:Nat):Nat.beq n n=true:=by simp
end
end Su
end
section
namespace Su
open Go Fly
set_option linter.unusedVariables false
abbrev Iv:=Bool×(Int×Int)
def noI:Iv:=(true,(0,0))
def ivN (s:Iv):Iv :=
 bif s.1||(decide (s.2.2<s.2.1)||(decide (1099511627776≤s.2.1)||decide (s.2.2≤-1099511627776))) then noI else (false,(max s.2.1 (-1099511627776),min s.2.2 1099511627776))
def qo (lo hi:Int):Iv:=ivN (false,(lo,hi))
def qE (s:Iv) (n:Int):Bool :=
 !(ivN s).1&&((decide ((ivN s).2.1 = -1099511627776)||decide ((ivN s).2.1≤n))&&(decide ((ivN s).2.2=1099511627776)||decide (n≤(ivN s).2.2)))
def qmo (a b:Iv):Bool:=(ivN a).1||(!(ivN b).1&&(decide ((ivN b).2.1≤(ivN a).2.1)&&decide ((ivN a).2.2≤(ivN b).2.2)))
def qpZ (j s:Iv):Iv:=bif (ivN s).1 then j else bif j.1 then ivN s else (false,(min j.2.1 (ivN s).2.1,max j.2.2 (ivN s).2.2))
def qK (l:List Iv):Iv:=l.foldl qpZ noI
def qdA (a b:Iv):Iv:=bif (ivN a).1||(ivN b).1 then noI else qo (max (ivN a).2.1 (ivN b).2.1) (min (ivN a).2.2 (ivN b).2.2)
def Y4 (n:Int):Bool:=decide (1099511627776≤n)||decide (n≤-1099511627776)
def qaH (n:Int):Int:=max (min n 1099511627776) (-1099511627776)
def Jh (x y:Int):Int:=bif Y4 x then x else bif Y4 y then y else qaH (x+y)
def qcH (lo hi:Int):Iv:=(false,(min (qaH lo) 1099511627775,max (qaH hi) (-1099511627775)))
def Ji (a:Iv):Iv:=bif (ivN a).1 then ivN a else qo (-(ivN a).2.2) (-(ivN a).2.1)
def yd (a b:Iv):Iv:=bif (ivN a).1||(ivN b).1 then noI else qcH (Jh (ivN a).2.1 (ivN b).2.1) (Jh (ivN a).2.2 (ivN b).2.2)
def qgL (a b:Iv):Iv:=yd a (Ji b)
abbrev Ckp:=Iv×Iv
def ckN (c:Ckp):Ckp:=bif (qK [c.1]).1||(qK [c.2]).1 then (noI,noI) else (qK [c.1],qK [c.2])
def ja (v k:Iv):Ckp:=ckN (qgL v k,yd v k)
def yz (c:Ckp):Ckp:=ckN (yd (ckN c).1 (false,(-1,-1)),yd (ckN c).2 (false,(1,1)))
def Y5 (a b:Ckp):Ckp:=ckN (qdA (ckN a).1 (ckN b).1,qdA (ckN a).2 (ckN b).2)
def ckJn (a b:Ckp):Ckp:=ckN (qK [(ckN a).1,(ckN b).1],qK [(ckN a).2,(ckN b).2])
def Jj (v:Iv) (c:Ckp) (k:Iv):Iv:=qdA (qdA v (yd (ckN c).1 k)) (qgL (ckN c).2 k)
def ckIn (a b:Ckp):Bool:=qmo (ckN a).1 (ckN b).1&&qmo (ckN a).2 (ckN b).2
def JU (c:Ckp) (v k:Int):Bool:=!(decide (min v k < -2199023255552)||decide (2199023255552<max v k))&&(qE (ckN c).1 (v-k)&&qE (ckN c).2 (v+k))
theorem qgM (s:Iv):ivN s=noI∨(s.1=false∧s.2.1≤s.2.2∧s.2.1<1099511627776∧-1099511627776<s.2.2∧ivN s=(false,(max s.2.1 (-1099511627776),min s.2.2 1099511627776))):=by
 unfold ivN
 cases h:(s.1||(decide (s.2.2<s.2.1)||(decide (1099511627776≤s.2.1)||decide (s.2.2≤-1099511627776)))) with
 | true=>exact .inl rfl
 | false =>
  simp only [Bool.or_eq_false_iff,decide_eq_false_iff_not] at h
  exact .inr ⟨h.1,by omega,by omega,by omega,rfl⟩
def qp0 (s:Iv):Prop:=s=noI∨(s.1=false∧s.2.1≤s.2.2∧-1099511627776≤s.2.1∧s.2.1<1099511627776∧-1099511627776<s.2.2∧s.2.2≤1099511627776)
theorem qaI (s:Iv):qp0 (ivN s):=by
 rcases qgM s with h | ⟨_,h1,h2,h3,h⟩
 · rw [h];exact .inl rfl
 · rw [h];refine .inr ⟨rfl,?_,?_,?_,?_,?_⟩ <;> simp only [] <;> omega
theorem qfj {s:Iv} (h:qp0 s):ivN s=s:=by
 obtain ⟨e,lo,hi⟩:=s
 rcases h with h | ⟨h0,h1,h2,h3,h4,h5⟩
 · rw [h];rfl
 · simp only [] at h0 h1 h2 h3 h4 h5
   subst h0
   unfold ivN
   rw [show (false||(decide (hi<lo)||(decide (1099511627776≤lo)||decide (hi≤-1099511627776))))=false by
    rw [decide_eq_false (by omega),decide_eq_false (by omega),decide_eq_false (by omega)];rfl]
   show (false,(max lo (-1099511627776),min hi 1099511627776))=(false,(lo,hi))
   rw [Int.max_eq_left h2,Int.min_eq_left h5]
theorem JV (s:Iv):ivN (ivN s)=ivN s:=qfj (qaI s)
theorem qtD (a:Iv):qK [a]=ivN a:=by
 show qpZ noI a=_
 unfold qpZ
 rcases qgM a with h | ⟨_,_,_,_,h⟩ <;> rw [h] <;> rfl
theorem Q1 {s:Iv} (h:qp0 s) (h':s.1=false):s.2.1≤s.2.2∧-1099511627776≤s.2.1∧s.2.1<1099511627776∧-1099511627776<s.2.2∧s.2.2≤1099511627776:=by
 rcases h with h | h
 · rw [h] at h';cases h'
 · exact h.2
theorem qbK (c:Ckp):ckN c=bif (ivN c.1).1||(ivN c.2).1 then (noI,noI) else (ivN c.1,ivN c.2):=by
 unfold ckN;rw [qtD,qtD]
theorem qfk (c:Ckp):ckN (ckN c)=ckN c:=by
 rw [qbK c]
 cases h:((ivN c.1).1||(ivN c.2).1) with
 | true=>rfl
 | false =>
  rw [cond_false,qbK]
  show (bif (ivN (ivN c.1)).1||(ivN (ivN c.2)).1 then _ else (ivN (ivN c.1),ivN (ivN c.2)))=_
  rw [JV,JV,h];rfl
theorem qF8 (c:Ckp):ivN (ckN c).1=(ckN c).1:=by
 rw [qbK]
 cases (ivN c.1).1||(ivN c.2).1 with
 | true=>rfl
 | false=>exact JV _
theorem qF9 (c:Ckp):ivN (ckN c).2=(ckN c).2:=by
 rw [qbK]
 cases (ivN c.1).1||(ivN c.2).1 with
 | true=>rfl
 | false=>exact JV _
end Su
end
section
namespace Su
open Go Fly
set_option linter.unusedVariables false
noncomputable section
def qtE  (s:(Bool×(Int×Int))):Option (Bool×(Int×Int)) :=
 (bif s.1 then
 some (true,((0:Int),(0:Int)))
 else
  (bif (decide ((s.2.2<s.2.1))) then
  some (true,((0:Int),(0:Int)))
 else
  (bif (decide ((1099511627776≤s.2.1))) then
  some (true,((0:Int),(0:Int)))
 else
  (bif (decide ((s.2.2≤(-1099511627776)))) then
  some (true,((0:Int),(0:Int)))
 else
  some (false,((max s.2.1 (-1099511627776)),(min s.2.2 1099511627776)))))))
def qnY (s:Iv):Option Iv:=some (ivN s)
theorem qtF (s y:Iv) (hg:(d1 cIn).good s) (h:qnY s=some y):qtE s=some y:=by
 obtain ⟨e,lo,hi⟩:=s
 have:=soi h;subst this
 unfold qtE ivN
 simp only []
 cases e with
 | true=>rfl
 | false =>
  cases decide (hi<lo) with
  | true=>rfl
  | false =>
   cases decide (1099511627776≤lo) with
   | true=>rfl
   | false=>cases decide (hi≤-1099511627776) <;> rfl
end
end Su
end
section
namespace Su
open Go Fly
set_option linter.unusedVariables false
noncomputable section
def qBl  (lo:Int) (hi:Int):Option (Bool×(Int×Int)) :=
 some ((Su.ivN (false,(lo,hi))).1,((Su.ivN (false,(lo,hi))).2.1,(Su.ivN (false,(lo,hi))).2.2))
def qDI  (s:(Bool×(Int×Int))) (n:Int):Option Bool :=
 (bif (!(Su.ivN (s.1,(s.2.1,s.2.2))).1) then
 (bif (decide (((Su.ivN (s.1,(s.2.1,s.2.2))).2.1=(-1099511627776)))) then
 (bif (decide (((Su.ivN (s.1,(s.2.1,s.2.2))).2.2=1099511627776))) then
 some true
 else
  some (decide ((n≤(Su.ivN (s.1,(s.2.1,s.2.2))).2.2))))
 else
  (bif (decide (((Su.ivN (s.1,(s.2.1,s.2.2))).2.1≤n))) then
  (bif (decide (((Su.ivN (s.1,(s.2.1,s.2.2))).2.2=1099511627776))) then
  some true
 else
  some (decide ((n≤(Su.ivN (s.1,(s.2.1,s.2.2))).2.2))))
 else
  some false))
 else
  some false)
def qDJ  (a:(Bool×(Int×Int))) (b:(Bool×(Int×Int))):Option Bool :=
 (bif (Su.ivN (a.1,(a.2.1,a.2.2))).1 then
 some true
 else
  (bif (!(Su.ivN (b.1,(b.2.1,b.2.2))).1) then
  (bif (decide (((Su.ivN (b.1,(b.2.1,b.2.2))).2.1≤(Su.ivN (a.1,(a.2.1,a.2.2))).2.1))) then
  some (decide (((Su.ivN (a.1,(a.2.1,a.2.2))).2.2≤(Su.ivN (b.1,(b.2.1,b.2.2))).2.2)))
 else
  some false)
 else
  some false))
def qbL:((List (Bool×(Int×Int)))×(Int×(Int×(Bool×(Int×(Int×(Bool×(Int×(Int×Unit)))))))))→Option (((List (Bool×(Int×Int)))×(Int×(Int×(Bool×(Int×(Int×(Bool×(Int×(Int×Unit))))))))) ⊕ ((List (Bool×(Int×Int)))×(Int×(Int×(Bool×(Int×(Int×(Bool×(Int×(Int×Unit)))))))))):=fun p0=>(bif (decide ((p0.2.2.1<p0.2.1))) then
 ((Su.idx p0.1 p0.2.2.1)).bind fun x1 =>
 (bif (Su.ivN (x1.1,(x1.2.1,x1.2.2))).1 then
 some (.inl (p0.1,(p0.2.1,((Go.IntKind.wrap .i64 (p0.2.2.1+1)),(p0.2.2.2.1,(p0.2.2.2.2.1,(p0.2.2.2.2.2.1,(p0.2.2.2.2.2.2.1,(p0.2.2.2.2.2.2.2.1,(p0.2.2.2.2.2.2.2.2.1,()))))))))))
 else
  (bif p0.2.2.2.2.2.2.1 then
  some (.inl (p0.1,(p0.2.1,((Go.IntKind.wrap .i64 (p0.2.2.1+1)),(p0.2.2.2.1,(p0.2.2.2.2.1,(p0.2.2.2.2.2.1,((Su.ivN (x1.1,(x1.2.1,x1.2.2))).1,((Su.ivN (x1.1,(x1.2.1,x1.2.2))).2.1,((Su.ivN (x1.1,(x1.2.1,x1.2.2))).2.2,()))))))))))
 else
  some (.inl (p0.1,(p0.2.1,((Go.IntKind.wrap .i64 (p0.2.2.1+1)),(p0.2.2.2.1,(p0.2.2.2.2.1,(p0.2.2.2.2.2.1,(false,((min p0.2.2.2.2.2.2.2.1 (Su.ivN (x1.1,(x1.2.1,x1.2.2))).2.1),((max p0.2.2.2.2.2.2.2.2.1 (Su.ivN (x1.1,(x1.2.1,x1.2.2))).2.2),()))))))))))))
 else
  some (.inr (p0.1,(p0.2.1,(p0.2.2.1,(p0.2.2.2.1,(p0.2.2.2.2.1,(p0.2.2.2.2.2.1,(p0.2.2.2.2.2.2.1,(p0.2.2.2.2.2.2.2.1,(p0.2.2.2.2.2.2.2.2.1,())))))))))))
def qtG  (fu:Nat) (l:(List (Bool×(Int×Int)))):Option (Bool×(Int×Int)) :=
 (itP fu (qbL) (l,((((List.length l):Nat):Int),((0:Int),(false,((0:Int),((0:Int),(true,((0:Int),((0:Int),())))))))))).bind fun x2 =>
 some (x2.2.2.2.2.2.2.1,(x2.2.2.2.2.2.2.2.1,x2.2.2.2.2.2.2.2.2.1))
def qDK  (a:(Bool×(Int×Int))):Option (Bool×(Int×Int)) :=
 (bif (Su.ivN (a.1,(a.2.1,a.2.2))).1 then
 some ((Su.ivN (a.1,(a.2.1,a.2.2))).1,((Su.ivN (a.1,(a.2.1,a.2.2))).2.1,(Su.ivN (a.1,(a.2.1,a.2.2))).2.2))
 else
  some ((Su.ivN (false,((Go.IntKind.wrap .i64 (0-(Su.ivN (a.1,(a.2.1,a.2.2))).2.2)),(Go.IntKind.wrap .i64 (0-(Su.ivN (a.1,(a.2.1,a.2.2))).2.1))))).1,((Su.ivN (false,((Go.IntKind.wrap .i64 (0-(Su.ivN (a.1,(a.2.1,a.2.2))).2.2)),(Go.IntKind.wrap .i64 (0-(Su.ivN (a.1,(a.2.1,a.2.2))).2.1))))).2.1,(Su.ivN (false,((Go.IntKind.wrap .i64 (0-(Su.ivN (a.1,(a.2.1,a.2.2))).2.2)),(Go.IntKind.wrap .i64 (0-(Su.ivN (a.1,(a.2.1,a.2.2))).2.1))))).2.2)))
def qtH  (a:(Bool×(Int×Int))) (b:(Bool×(Int×Int))):Option (Bool×(Int×Int)) :=
 (bif (Su.ivN (a.1,(a.2.1,a.2.2))).1 then
 some (true,((0:Int),(0:Int)))
 else
  (bif (Su.ivN (b.1,(b.2.1,b.2.2))).1 then
  some (true,((0:Int),(0:Int)))
 else
  some ((Su.ivN (false,((max (Su.ivN (a.1,(a.2.1,a.2.2))).2.1 (Su.ivN (b.1,(b.2.1,b.2.2))).2.1),(min (Su.ivN (a.1,(a.2.1,a.2.2))).2.2 (Su.ivN (b.1,(b.2.1,b.2.2))).2.2)))).1,((Su.ivN (false,((max (Su.ivN (a.1,(a.2.1,a.2.2))).2.1 (Su.ivN (b.1,(b.2.1,b.2.2))).2.1),(min (Su.ivN (a.1,(a.2.1,a.2.2))).2.2 (Su.ivN (b.1,(b.2.1,b.2.2))).2.2)))).2.1,(Su.ivN (false,((max (Su.ivN (a.1,(a.2.1,a.2.2))).2.1 (Su.ivN (b.1,(b.2.1,b.2.2))).2.1),(min (Su.ivN (a.1,(a.2.1,a.2.2))).2.2 (Su.ivN (b.1,(b.2.1,b.2.2))).2.2)))).2.2))))
def qDL  (x:Int) (y:Int):Option Int :=
 (bif (decide ((1099511627776≤x))) then
 some x
 else
  (bif (decide ((x≤(-1099511627776)))) then
  some x
 else
  (bif (decide ((1099511627776≤y))) then
  some y
 else
  (bif (decide ((y≤(-1099511627776)))) then
  some y
 else
  some (max (min (Go.IntKind.wrap .i64 (x+y)) 1099511627776) (-1099511627776))))))
def qBm  (lo:Int) (hi:Int):Option (Bool×(Int×Int)) :=
 some (false,((min (max (min lo 1099511627776) (-1099511627776)) 1099511627775),(max (max (min hi 1099511627776) (-1099511627776)) (-1099511627775))))
def qnZ (p:Int×Int):Option Iv:=some (qo p.1 p.2)
theorem qtI (p:Int×Int) (y:Iv) (hg:(dc (cI .i64) (d1 (cI .i64))).good p) (h:qnZ p=some y):qBl p.1 p.2=some y:=by
 have:=soi h;subst this;rfl
def qtJ (p:Iv×Int):Option Bool:=some (qE p.1 p.2)
theorem qyv (p:Iv×Int) (y:Bool) (hg:(dc cIn (d1 (cI .i64))).good p) (h:qtJ p=some y):qDI p.1 p.2=some y:=by
 obtain ⟨⟨e,lo,hi⟩,n⟩:=p
 have:=soi h;subst this
 unfold qDI qE
 simp only []
 generalize ivN (e,(lo,hi))=t
 cases t.1 with
 | true=>rfl
 | false =>
  cases decide (t.2.1 = -1099511627776) <;> cases decide (t.2.1≤n) <;> cases decide (t.2.2=1099511627776) <;> rfl
def qtK (p:Iv×Iv):Option Bool:=some (qmo p.1 p.2)
theorem qyw (p:Iv×Iv) (y:Bool) (hg:(dc cIn (d1 cIn)).good p) (h:qtK p=some y):qDJ p.1 p.2=some y:=by
 obtain ⟨⟨e,lo,hi⟩,⟨e',lo',hi'⟩⟩:=p
 have:=soi h;subst this
 unfold qDJ qmo
 simp only []
 generalize ivN (e,(lo,hi))=t
 generalize ivN (e',(lo',hi'))=t'
 cases t.1 with
 | true=>rfl
 | false =>
  cases t'.1 with
  | true=>rfl
  | false=>cases decide (t'.2.1≤t.2.1) <;> rfl
abbrev IjS:=List Iv×(Int×(Int×(Bool×(Int×(Int×(Bool×(Int×(Int×Unit))))))))
def qyx (l:List Iv) (i:Int) (j:Iv):IjS:=(l,(((l.length:Nat):Int),(i,(false,(0,(0,(j.1,(j.2.1,(j.2.2,())))))))))
theorem qn0 (l:List Iv) (hl:l.length≤maxLen):∀ (r A:List Iv) (j:Iv),A++r=l→jD (r.length+1) qbL (qyx l A.length j) (qyx l l.length (r.foldl qpZ j))
 | [],A,j,h=>by
  rw [List.append_nil] at h;subst h
  refine jD.stop ?_
  unfold qyx
  simp only [qbL,ltN,decide_eq_false (Nat.lt_irrefl _),cond_false];rfl
 | x::r,A,j,h=>by
  have hi:A.length<l.length:=by rw [← h];simp
  have hg:idx l (A.length:Int)=some x:=by
   rw [qZ,← h,List.getElem?_append_right (by omega),Nat.sub_self];rfl
  have ih:=qn0 l hl r (A++[x]) (qpZ j x) (by rw [← h];simp)
  refine jD.next ?_ ih
  unfold qyx
  simp only [qbL,ltN,decide_eq_true hi,cond_true,hg,Option.bind_some,w1 hi hl]
  rw [show (A++[x]).length=A.length+1 by simp]
  unfold qpZ
  obtain ⟨x1,x2,x3⟩:=x
  obtain ⟨j1,j2,j3⟩:=j
  simp only []
  generalize ivN (x1,(x2,x3))=t
  obtain ⟨t1,t2,t3⟩:=t
  cases t1 with
  | true=>rfl
  | false=>cases j1 <;> rfl
def qn1 (l:List Iv):Option Iv:=some (qK l)
theorem qtL (l:List Iv) (y:Iv) (hg:(d1 (cL rIn)).good l) (h:qn1 l=some y):∃ n,qtG n l=some y:=by
 have:=soi h;subst this
 refine ⟨l.length+1,?_⟩
 unfold qtG
 have:=qn0 l hg.2 l [] noI rfl
 exact obB (this _ (Nat.le_refl _)) rfl
theorem qyy (s:Iv) : -1099511627776≤(ivN s).2.1∧(ivN s).2.1≤1099511627776∧-1099511627776≤(ivN s).2.2∧(ivN s).2.2≤1099511627776:=by
 rcases qaI s with h | ⟨_,h1,h2,h3,h4,h5⟩
 · rw [h];exact ⟨by decide,by decide,by decide,by decide⟩
 · omega
def qtM (a:Iv):Option Iv:=some (Ji a)
theorem qyz (a y:Iv) (hg:(d1 cIn).good a) (h:qtM a=some y):qDK a=some y:=by
 obtain ⟨e,lo,hi⟩:=a
 have:=soi h;subst this
 obtain ⟨h1,h2,h3,h4⟩:=qyy (e,(lo,hi))
 unfold qDK Ji qo
 simp only []
 generalize ivN (e,(lo,hi))=t at *
 obtain ⟨t1,t2,t3⟩:=t
 simp only [] at h1 h2 h3 h4 ⊢
 cases t1 with
 | true=>rfl
 | false=>rw [w64 (by omega) (by omega),w64 (by omega) (by omega),Int.zero_sub,Int.zero_sub];rfl
def qn2 (p:Iv×Iv):Option Iv:=some (qdA p.1 p.2)
theorem qtN (p:Iv×Iv) (y:Iv) (hg:(dc cIn (d1 cIn)).good p) (h:qn2 p=some y):qtH p.1 p.2=some y:=by
 obtain ⟨⟨e,lo,hi⟩,⟨e',lo',hi'⟩⟩:=p
 have:=soi h;subst this
 unfold qtH qdA qo
 simp only []
 generalize ivN (e,(lo,hi))=t
 generalize ivN (e',(lo',hi'))=t'
 cases t.1 with
 | true=>rfl
 | false=>cases t'.1 <;> rfl
def qtO (p:Int×Int):Option Int:=some (Jh p.1 p.2)
theorem qyA (p:Int×Int) (y:Int) (hg:(dc (cI .i64) (d1 (cI .i64))).good p) (h:qtO p=some y):qDL p.1 p.2=some y:=by
 obtain ⟨x,z⟩:=p
 have:=soi h;subst this
 unfold qDL Jh Y4 qaH
 simp only []
 by_cases h1:1099511627776≤x
 · rw [decide_eq_true h1];rfl
 · by_cases h2:x≤-1099511627776
   · rw [decide_eq_false h1,decide_eq_true h2];rfl
   · by_cases h3:1099511627776≤z
     · rw [decide_eq_false h1,decide_eq_false h2,decide_eq_true h3];rfl
     · by_cases h4:z≤-1099511627776
       · rw [decide_eq_false h1,decide_eq_false h2,decide_eq_false h3,decide_eq_true h4];rfl
       · rw [decide_eq_false h1,decide_eq_false h2,decide_eq_false h3,decide_eq_false h4,w64 (by omega) (by omega)];rfl
def qn3 (p:Int×Int):Option Iv:=some (qcH p.1 p.2)
theorem qtP (p:Int×Int) (y:Iv) (hg:(dc (cI .i64) (d1 (cI .i64))).good p) (h:qn3 p=some y):qBm p.1 p.2=some y:=by
 have:=soi h;subst this;rfl
end
end Su
end
section
namespace Su
open Go Fly
set_option linter.unusedVariables false
noncomputable section
def qDM  (a:(Bool×(Int×Int))) (b:(Bool×(Int×Int))):Option (Bool×(Int×Int)) :=
 (bif (Su.ivN (a.1,(a.2.1,a.2.2))).1 then
 some (true,((0:Int),(0:Int)))
 else
  (bif (Su.ivN (b.1,(b.2.1,b.2.2))).1 then
  some (true,((0:Int),(0:Int)))
 else
  some ((Su.qcH (Su.Jh (Su.ivN (a.1,(a.2.1,a.2.2))).2.1 (Su.ivN (b.1,(b.2.1,b.2.2))).2.1) (Su.Jh (Su.ivN (a.1,(a.2.1,a.2.2))).2.2 (Su.ivN (b.1,(b.2.1,b.2.2))).2.2)).1,((Su.qcH (Su.Jh (Su.ivN (a.1,(a.2.1,a.2.2))).2.1 (Su.ivN (b.1,(b.2.1,b.2.2))).2.1) (Su.Jh (Su.ivN (a.1,(a.2.1,a.2.2))).2.2 (Su.ivN (b.1,(b.2.1,b.2.2))).2.2)).2.1,(Su.qcH (Su.Jh (Su.ivN (a.1,(a.2.1,a.2.2))).2.1 (Su.ivN (b.1,(b.2.1,b.2.2))).2.1) (Su.Jh (Su.ivN (a.1,(a.2.1,a.2.2))).2.2 (Su.ivN (b.1,(b.2.1,b.2.2))).2.2)).2.2))))
def qtQ (p:Iv×Iv):Option Iv:=some (yd p.1 p.2)
theorem qyB (p:Iv×Iv) (y:Iv) (hg:(dc cIn (d1 cIn)).good p) (h:qtQ p=some y):qDM p.1 p.2=some y:=by
 obtain ⟨⟨e,lo,hi⟩,⟨e',lo',hi'⟩⟩:=p
 have:=soi h;subst this
 unfold qDM yd
 simp only []
 generalize ivN (e,(lo,hi))=t
 generalize ivN (e',(lo',hi'))=t'
 cases t.1 with
 | true=>rfl
 | false=>cases t'.1 <;> rfl
end
end Su
end
section
namespace Su
open Go Fly
def qyC (a:Ck):Ckp:=((a.1,(a.2.1,a.2.2.1)),(a.2.2.2.1,(a.2.2.2.2.1,a.2.2.2.2.2)))
def frCk (c:Ckp):Ck:=(c.1.1,(c.1.2.1,(c.1.2.2,(c.2.1,(c.2.2.1,c.2.2.2)))))
noncomputable def jE:Cod Ckp:=cA (dm dCk qyC frCk (fun _=>rfl) (fun _=>rfl)) (fun _=>rfl)
end Su
namespace Su
open Go Fly
end Su
end
section
namespace Su
open Go Fly
set_option linter.unusedVariables false
noncomputable section
def iSub  (a:(Bool×(Int×Int))) (b:(Bool×(Int×Int))):Option (Bool×(Int×Int)) :=
 some ((Su.yd (a.1,(a.2.1,a.2.2)) ((Su.Ji (b.1,(b.2.1,b.2.2))).1,((Su.Ji (b.1,(b.2.1,b.2.2))).2.1,(Su.Ji (b.1,(b.2.1,b.2.2))).2.2))).1,((Su.yd (a.1,(a.2.1,a.2.2)) ((Su.Ji (b.1,(b.2.1,b.2.2))).1,((Su.Ji (b.1,(b.2.1,b.2.2))).2.1,(Su.Ji (b.1,(b.2.1,b.2.2))).2.2))).2.1,(Su.yd (a.1,(a.2.1,a.2.2)) ((Su.Ji (b.1,(b.2.1,b.2.2))).1,((Su.Ji (b.1,(b.2.1,b.2.2))).2.1,(Su.Ji (b.1,(b.2.1,b.2.2))).2.2))).2.2))
def iPt  (n:Int):Option (Bool×(Int×Int)) :=
 some ((Su.qo n n).1,((Su.qo n n).2.1,(Su.qo n n).2.2))
def qtR  (c:((Bool×(Int×Int))×(Bool×(Int×Int)))):Option ((Bool×(Int×Int))×(Bool×(Int×Int))) :=
 (bif (Su.qK [(c.1.1,(c.1.2.1,c.1.2.2))]).1 then
 some (Su.qyC (true,((0:Int),((0:Int),(true,((0:Int),(0:Int)))))))
 else
  (bif (Su.qK [(c.2.1,(c.2.2.1,c.2.2.2))]).1 then
  some (Su.qyC (true,((0:Int),((0:Int),(true,((0:Int),(0:Int)))))))
 else
  some (Su.qyC ((Su.qK [(c.1.1,(c.1.2.1,c.1.2.2))]).1,((Su.qK [(c.1.1,(c.1.2.1,c.1.2.2))]).2.1,((Su.qK [(c.1.1,(c.1.2.1,c.1.2.2))]).2.2,((Su.qK [(c.2.1,(c.2.2.1,c.2.2.2))]).1,((Su.qK [(c.2.1,(c.2.2.1,c.2.2.2))]).2.1,(Su.qK [(c.2.1,(c.2.2.1,c.2.2.2))]).2.2))))))))
def qtS (p:Iv×Iv):Option Iv:=some (qgL p.1 p.2)
theorem qyD (p:Iv×Iv) (y:Iv) (hg:(dc cIn (d1 cIn)).good p) (h:qtS p=some y):iSub p.1 p.2=some y:=by
 have:=soi h;subst this;rfl
def qBn (n:Int):Option Iv:=some (qo n n)
theorem qDN (n:Int) (y:Iv) (hg:(d1 (cI .i64)).good n) (h:qBn n=some y):iPt n=some y:=by
 have:=soi h;subst this;rfl
def qn4 (c:Ckp):Option Ckp:=some (ckN c)
theorem qtT (c y:Ckp) (hg:(d1 jE).good c) (h:qn4 c=some y):qtR c=some y:=by
 obtain ⟨⟨a,b,d⟩,⟨a',b',d'⟩⟩:=c
 have:=soi h;subst this
 unfold qtR ckN
 simp only []
 generalize qK [(a,(b,d))]=t
 generalize qK [(a',(b',d'))]=t'
 obtain ⟨t1,t2,t3⟩:=t
 obtain ⟨t4,t5,t6⟩:=t'
 cases t1 with
 | true=>rfl
 | false=>cases t4 <;> rfl
end
end Su
end
section
namespace Su
open Go Fly
set_option linter.unusedVariables false
noncomputable section
def kOf  (v:(Bool×(Int×Int))) (k:(Bool×(Int×Int))):Option ((Bool×(Int×Int))×(Bool×(Int×Int))) :=
 some (Su.ckN ((Su.qgL v k),(Su.yd v k)))
def qBo  (c:((Bool×(Int×Int))×(Bool×(Int×Int)))):Option ((Bool×(Int×Int))×(Bool×(Int×Int))) :=
 some (Su.ckN ((Su.yd (Su.ckN c).1 (false,((-1),(-1)))),(Su.yd (Su.ckN c).2 (false,((1:Int),(1:Int))))))
def kRed  (v:(Bool×(Int×Int))) (c:((Bool×(Int×Int))×(Bool×(Int×Int)))) (k:(Bool×(Int×Int))):Option (Bool×(Int×Int)) :=
 some (Su.qdA (Su.qdA v (Su.yd (Su.ckN c).1 k)) (Su.qgL (Su.ckN c).2 k))
def kMt  (a:((Bool×(Int×Int))×(Bool×(Int×Int)))) (b:((Bool×(Int×Int))×(Bool×(Int×Int)))):Option ((Bool×(Int×Int))×(Bool×(Int×Int))) :=
 some (Su.ckN ((Su.qdA (Su.ckN a).1 (Su.ckN b).1),(Su.qdA (Su.ckN a).2 (Su.ckN b).2)))
def kJn  (a:((Bool×(Int×Int))×(Bool×(Int×Int)))) (b:((Bool×(Int×Int))×(Bool×(Int×Int)))):Option ((Bool×(Int×Int))×(Bool×(Int×Int))) :=
 some (Su.ckN ((Su.qK [(Su.ckN a).1,(Su.ckN b).1]),(Su.qK [(Su.ckN a).2,(Su.ckN b).2])))
def kIn  (a:((Bool×(Int×Int))×(Bool×(Int×Int)))) (b:((Bool×(Int×Int))×(Bool×(Int×Int)))):Option Bool :=
 (bif (Su.qmo (Su.ckN a).1 (Su.ckN b).1) then
 some (Su.qmo (Su.ckN a).2 (Su.ckN b).2)
 else
  some false)
def qDO  (c:((Bool×(Int×Int))×(Bool×(Int×Int)))) (v:Int) (k:Int):Option Bool :=
 (bif (decide (((min v k)<(-2199023255552)))) then
 some false
 else
  (bif (decide ((2199023255552<(max v k)))) then
  some false
 else
  (bif (Su.qE (Su.ckN c).1 (Go.IntKind.wrap .i64 (v-k))) then
  some (Su.qE (Su.ckN c).2 (Go.IntKind.wrap .i64 (v+k)))
 else
  some false)))
def qBp (p:Iv×Iv):Option Ckp:=some (ja p.1 p.2)
theorem qDP (p:Iv×Iv) (y:Ckp) (hg:(dc cIn (d1 cIn)).good p) (h:qBp p=some y):kOf p.1 p.2=some y:=by
 have:=soi h;subst this;rfl
def qn5 (c:Ckp):Option Ckp:=some (yz c)
theorem qtU (c y:Ckp) (hg:(d1 jE).good c) (h:qn5 c=some y):qBo c=some y:=by
 have:=soi h;subst this;rfl
def qtV (p:Iv×(Ckp×Iv)):Option Iv:=some (Jj p.1 p.2.1 p.2.2)
theorem qyE (p:Iv×(Ckp×Iv)) (y:Iv) (hg:(dc cIn (dc jE (d1 cIn))).good p) (h:qtV p=some y):kRed p.1 p.2.1 p.2.2=some y:=by
 have:=soi h;subst this;rfl
def qBq (p:Ckp×Ckp):Option Ckp:=some (Y5 p.1 p.2)
theorem qDQ (p:Ckp×Ckp) (y:Ckp) (hg:(dc jE (d1 jE)).good p) (h:qBq p=some y):kMt p.1 p.2=some y:=by
 have:=soi h;subst this;rfl
def qBr (p:Ckp×Ckp):Option Ckp:=some (ckJn p.1 p.2)
theorem qDR (p:Ckp×Ckp) (y:Ckp) (hg:(dc jE (d1 jE)).good p) (h:qBr p=some y):kJn p.1 p.2=some y:=by
 have:=soi h;subst this;rfl
def qBs (p:Ckp×Ckp):Option Bool:=some (ckIn p.1 p.2)
theorem qDS (p:Ckp×Ckp) (y:Bool) (hg:(dc jE (d1 jE)).good p) (h:qBs p=some y):kIn p.1 p.2=some y:=by
 have:=soi h;subst this
 unfold kIn ckIn
 cases qmo (ckN p.1).1 (ckN p.2).1 <;> rfl
def qtW (p:Ckp×(Int×Int)):Option Bool:=some (JU p.1 p.2.1 p.2.2)
theorem qyF (p:Ckp×(Int×Int)) (y:Bool) (hg:(dc jE (dc (cI .i64) (d1 (cI .i64)))).good p) (h:qtW p=some y):qDO p.1 p.2.1 p.2.2=some y:=by
 obtain ⟨c,v,k⟩:=p
 have:=soi h;subst this
 unfold qDO JU
 simp only []
 by_cases h1:min v k < -2199023255552
 · rw [decide_eq_true h1];rfl
 · by_cases h2:2199023255552<max v k
   · rw [decide_eq_false h1,decide_eq_true h2];rfl
   · rw [decide_eq_false h1,decide_eq_false h2,w64 (by omega) (by omega),w64 (by omega) (by omega)]
     cases qE (ckN c).1 (v-k) <;> rfl
end
end Su
end
section
namespace Su
open Go Fly
set_option linter.unusedVariables false
def Y6 (f:Int):Bool:=ji (bK f.toNat)
def ky (f:Int):Int:=Yg f.toNat
def mnI (a b:Int):Int:=((ql1 a.toNat b.toNat:Nat):Int)
def mxI (a b:Int):Int:=((qj4 a.toNat b.toNat:Nat):Int)
def Fw (f:Int):Prop:=0≤f∧f<18446744073709551616
def jF (lo hi:Int):Spn:=qr (false,(lo,hi))
def qp1 (j s:Spn):Spn:=bif (qr s).1 then j else bif j.1 then qr s else jF (mnI j.2.1 (qr s).2.1) (mxI j.2.2 (qr s).2.2)
def qp2 (l:List Spn):Spn:=l.foldl qp1 qdv
def JW (a b:Spn):Spn:=bif (qr a).1||(qr b).1 then qdv else jF (mxI (qr a).2.1 (qr b).2.1) (mnI (qr a).2.2 (qr b).2.2)
def qtX (a b:Spn):Bool:=(qr a).1||(!(qr b).1&&(leF (qr b).2.1 (qr a).2.1&&leF (qr a).2.2 (qr b).2.2))
def Y7 (s:Spn) (f:Int):Bool:=!decide (qF (bK f.toNat)=3)&&(!(jF f f).1&&qtX (jF f f) s)
theorem ZO {a b:Int}:leF a b=true↔Y6 a=false∧Y6 b=false∧ky a≤ky b:=by
 unfold leF Y6 ky Z3 qbr qsb
 cases ji (bK a.toNat) <;> cases ji (bK b.toNat) <;> simp
 by_cases h1:Yg a.toNat<Yg b.toNat
 · rw [decide_eq_true h1];simp;omega
 · rw [decide_eq_false h1]
   by_cases h2:Yg b.toNat<Yg a.toNat
   · rw [decide_eq_true h2];simp;omega
   · rw [decide_eq_false h2];simp;omega
theorem qaJ (f:Int):(ky f).natAbs=bK f.toNat:=by
 unfold ky Yg
 cases bS f.toNat <;> simp
theorem qDT {a b:Int} (ha:Fw a) (hb:Fw b) (za:a≠9223372036854775808) (zb:b≠9223372036854775808) (h:ky a=ky b):a=b:=by
 have h1:=qaJ a
 have h2:=qaJ b
 rw [h,h2] at h1
 obtain ⟨a0,a1⟩:=ha
 obtain ⟨b0,b1⟩:=hb
 unfold ky Yg at h
 have sa:bS a.toNat=decide (9223372036854775808≤a.toNat):=by
  cases hs:bS a.toNat with
  | true=>rw [decide_eq_true (qaw.1 hs)]
  | false=>rw [decide_eq_false (by have:=qh4.1 hs;omega)]
 have sb:bS b.toNat=decide (9223372036854775808≤b.toNat):=by
  cases hs:bS b.toNat with
  | true=>rw [decide_eq_true (qaw.1 hs)]
  | false=>rw [decide_eq_false (by have:=qh4.1 hs;omega)]
 rw [sa,sb] at h
 unfold bK at h h1
 by_cases p:9223372036854775808≤a.toNat <;> by_cases q:9223372036854775808≤b.toNat
 · rw [decide_eq_true p,decide_eq_true q] at h;simp only [cond_true] at h;omega
 · rw [decide_eq_true p,decide_eq_false q] at h;simp only [cond_true,cond_false] at h;omega
 · rw [decide_eq_false p,decide_eq_true q] at h;simp only [cond_true,cond_false] at h;omega
 · rw [decide_eq_false p,decide_eq_false q] at h;simp only [cond_false] at h;omega
structure Nz (f:Int):Prop where
 w:Fw f
 n:Y6 f=false
 z:f≠9223372036854775808
theorem qgN {f:Int} (h:Fw f) (hn:Y6 f=false):Nz (nzI f)∧ky (nzI f)=ky f:=by
 unfold nzI zI
 cases hz:Nat.beq (bK f.toNat) 0 with
 | true =>
  rw [cond_true]
  have h0:=Nat.eq_of_beq_eq_true hz
  refine ⟨⟨⟨by decide,by decide⟩,by decide,by decide⟩,?_⟩
  have:=qaJ f
  have e:ky 0=0:=by decide
  rw [e];omega
 | false =>
  rw [cond_false]
  refine ⟨⟨h,hn,fun e=>?_⟩,rfl⟩
  subst e
  revert hz;decide
def qtY (s:Spn):Prop:=s=qdv∨(s.1=false∧Nz s.2.1∧Nz s.2.2∧ky s.2.1≤ky s.2.2∧s.2.1≠9218868437227405312∧s.2.2≠18442240474082181120)
def SpW (s:Spn):Prop:=Fw s.2.1∧Fw s.2.2
theorem qn6 {f:Int} (h:Nz f):nzI f=f:=by
 obtain ⟨h1,h2⟩:=qgN h.w h.n
 exact qDT h1.w h.w h1.z h.z h2
theorem qn7 {f:Int} (h:Fw f) (hn:Y6 f=false) (c:Int) (hc:c=9218868437227405312∨c=18442240474082181120) (hf:f≠c):nzI f≠c:=by
 unfold nzI
 cases zI f with
 | true=>rw [cond_true];omega
 | false=>rw [cond_false];exact hf
theorem Y8 {s:Spn} (hw:SpW s):qr s=qdv∨(s.1=false∧Y6 s.2.1=false∧Y6 s.2.2=false∧ky s.2.1≤ky s.2.2∧s.2.1≠9218868437227405312∧s.2.2≠18442240474082181120∧qr s=(false,(nzI s.2.1,nzI s.2.2))):=by
 unfold qr
 cases h:(s.1||(!leF s.2.1 s.2.2||(decide (s.2.1=9218868437227405312)||decide (s.2.2=18442240474082181120)))) with
 | true=>exact .inl rfl
 | false =>
  simp only [Bool.or_eq_false_iff,Bool.not_eq_false',decide_eq_false_iff_not] at h
  obtain ⟨h0,h1,h2,h3⟩:=h
  obtain ⟨a,b,c⟩:=ZO.1 h1
  exact .inr ⟨h0,a,b,c,h2,h3,by rw [h0];rfl⟩
theorem qbM {s:Spn} (hw:SpW s):qtY (qr s):=by
 rcases Y8 hw with h | ⟨_,h1,h2,h3,h4,h5,h⟩
 · rw [h];exact .inl rfl
 · rw [h]
   obtain ⟨a1,a2⟩:=qgN hw.1 h1
   obtain ⟨b1,b2⟩:=qgN hw.2 h2
   exact .inr ⟨rfl,a1,b1,by simp only [];rw [a2,b2];exact h3,qn7 hw.1 h1 _ (.inl rfl) h4,qn7 hw.2 h2 _ (.inr rfl) h5⟩
theorem qtY.w {s:Spn} (h:qtY s):SpW s:=by
 rcases h with h | ⟨_,h1,h2,_⟩
 · rw [h];exact ⟨⟨by decide,by decide⟩,⟨by decide,by decide⟩⟩
 · exact ⟨h1.w,h2.w⟩
theorem qkF {s:Spn} (h:qtY s):qr s=s:=by
 obtain ⟨e,lo,hi⟩:=s
 rcases h with h | ⟨h0,h1,h2,h3,h4,h5⟩
 · rw [h];rfl
 · simp only [] at h0 h1 h2 h3 h4 h5
   subst h0
   unfold qr
   simp only []
   rw [ZO.2 ⟨h1.n,h2.n,h3⟩,decide_eq_false h4,decide_eq_false h5,qn6 h1,qn6 h2];rfl
theorem qmp {s:Spn} (h:qtY s) (h':s.1=false):Nz s.2.1∧Nz s.2.2∧ky s.2.1≤ky s.2.2∧s.2.1≠9218868437227405312∧s.2.2≠18442240474082181120:=by
 rcases h with h | h
 · rw [h] at h';cases h'
 · exact h.2
theorem spJ1 {a:Spn} (ha:SpW a):qp2 [a]=qr a:=by
 show qp1 qdv a=_
 unfold qp1
 rcases Y8 ha with h | ⟨_,_,_,_,_,_,h⟩ <;> rw [h] <;> rfl
end Su
end
