/-
  What functions of the program compute, in plain Lean, and that the evaluator finds it.
-/
import Derived.Test.YtfckjjffdfkelaaGreatSuSd
import Derived.Test.YtfckjjffdfkelaaGreatNC14
import Derived.Test.YtfckjjffdfkelaaGreatNB10
set_option maxRecDepth 10000
section
namespace Su
open Go Fly
set_option linter.unusedVariables false
noncomputable section
def qer:(Int×((List Su.Tm)×(Int×(Int×(Bool×(Int×((List Su.Tm)×(Int×Unit))))))))→Option ((Int×((List Su.Tm)×(Int×(Int×(Bool×(Int×((List Su.Tm)×(Int×Unit)))))))) ⊕ (Int×((List Su.Tm)×(Int×(Int×(Bool×(Int×((List Su.Tm)×(Int×Unit))))))))):=fun p1=>(bif (decide ((p1.2.2.2.1<p1.2.2.1))) then
 ((Su.idx p1.2.1 p1.2.2.2.1)).bind fun x2 =>
 some (.inl ((((Su.upS 0 [p1.1,(((Su.qfq (Int.toNat (Su.Tm.c x2))):Nat):Int)]):Nat):Int),(p1.2.1,(p1.2.2.1,((Go.IntKind.wrap .i64 (p1.2.2.2.1+1)),(p1.2.2.2.2.1,(p1.2.2.2.2.2.1,(p1.2.2.2.2.2.2.1,(p1.2.2.2.2.2.2.2.1,())))))))))
 else
  some (.inr (p1.1,(p1.2.1,(p1.2.2.1,(p1.2.2.2.1,(p1.2.2.2.2.1,(p1.2.2.2.2.2.1,(p1.2.2.2.2.2.2.1,(p1.2.2.2.2.2.2.2.1,()))))))))))
def qE0  (fu:Nat) (a:(Bool×(Int×((List Su.Tm)×Int)))):Option Int :=
 (bif (List.any [(a.1,(a.2.1,(a.2.2.1,a.2.2.2)))] (fun z0=>(z0.1||(!(Su.qaY z0))))) then
 some ((9218868437227405312:Nat):Int)
 else
  (itP fu (qer) ((0:Int),(a.2.2.1,((((List.length a.2.2.1):Nat):Int),((0:Int),(a.1,(a.2.1,(a.2.2.1,(a.2.2.2,()))))))))).bind fun x3 =>
  some (((Su.upS 0 [x3.1,x3.2.2.2.2.2.2.2.1]):Nat):Int))
def qE1 (c:Int):Int:=((qfq c.toNat:Nat):Int)
def qqE:List Tm→Int→Int
 | [],s=>s
 | t::l,s=>qqE l (upI [s,qE1 t.c])
def radL:{f:Fm→Int // ∀ a,f a=bif okF a then upI [qqE a.2.2.1 0,a.2.2.2] else 9218868437227405312}:=Classical.choice ⟨⟨_,fun _=>rfl⟩⟩
def qqF (a:Fm):Int:=radL.1 a
theorem qoA (a:Fm):qqF a=bif okF a then upI [qqE a.2.2.1 0,a.2.2.2] else 9218868437227405312:=radL.2 a
def qc5 (a:Fm):Option Int:=bif qhb a.2.2.1 then some (qqF a) else none
theorem qlb (l:List Tm) (hl:l.length≤549755813888) (q:Bool×(Int×(List Tm×(Int×Unit)))):∀ (rest A:List Tm) (s:Int),A++rest=l →
 ∃ n,itP n qer (s,(l,((l.length:Int),((A.length:Int),q))))=some (qqE rest s,(l,((l.length:Int),((l.length:Int),q))))
 | [],A,s,hA=>by
  rw [List.append_nil] at hA;subst hA
  refine ⟨1,?_⟩
  rw [qL]
  simp only [qer]
  rw [decide_eq_false (by omega),cond_false];rfl
 | t::rest,A,s,hA=>by
  have hNl:A.length+(rest.length+1)=l.length:=by rw [← hA];simp
  have hg:idx l (A.length:Int)=some t:=by
   rw [jd,← hA,List.getElem?_append_right (by omega),Nat.sub_self];rfl
  obtain ⟨n,h⟩:=qlb l hl q rest (A++[t]) (upI [s,qE1 t.c]) (by rw [← hA];simp)
  refine ⟨n+1,?_⟩
  rw [qL]
  simp only [qer]
  rw [decide_eq_true (show (A.length:Int)<(l.length:Int) by omega),cond_true,hg,Option.bind_some,w64 (by omega) (by omega),show ((A.length:Int)+1)=(((A++[t]).length:Nat):Int) by simp]
  exact h
theorem qzr (a:Fm) (y:Int) (hg:(d1 yc).good a) (h:qc5 a=some y):∃ n,qE0 n a=some y:=by
 obtain ⟨b,m,l,e⟩:=a
 obtain ⟨h1,h2⟩:=qj h
 have:=soi h2;subst this
 have hl:l.length≤549755813888:=Nat.le_of_ble_eq_true h1
 have ha:List.any [((b,(m,(l,e))):Fm)] (fun z0=>(z0.1||(!(Su.qaY z0)))) = !okF (b,(m,(l,e))):=by simp [okF]
 obtain ⟨n,q⟩:=qlb l hl (b,(m,(l,(e,())))) l [] 0 rfl
 refine ⟨n,?_⟩
 rw [qoA]
 unfold qE0
 simp only []
 rw [ha]
 cases okF (b,(m,(l,e))) with
 | false=>rfl
 | true =>
  rw [Bool.not_true,cond_false,cond_true]
  exact obs q rfl
end
end Su
end
section
namespace Su
open Go Fly
set_option linter.unusedVariables false
noncomputable section
def quh  (a:(Bool×(Int×((List Su.Tm)×Int)))):Option Int :=
 ((Su.qc5 (a.1,((0:Int),(a.2.2.1,a.2.2.2))))).bind fun x0 =>
 some x0
def aMid  (a:Int) (b:Int):Option Int :=
 some (((Su.qc0 (Int.toNat (((Su.qt2 (Int.toNat a) (Int.toNat 4602678819172646912) 0):Nat):Int)) (Int.toNat (((Su.qt2 (Int.toNat b) (Int.toNat 4602678819172646912) 0):Nat):Int)) 0):Nat):Int)
def qHA (a:Fm):Int:=qqF (a.1,(0,(a.2.2.1,a.2.2.2)))
def qoB (a:Fm):Option Int:=bif qhb a.2.2.1 then some (qHA a) else none
theorem qui (a:Fm) (y:Int) (hg:(d1 yc).good a) (h:qoB a=some y):quh a=some y:=by
 obtain ⟨h1,h2⟩:=qj h
 have:=soi h2;subst this
 unfold quh qc5
 rw [h1];rfl
def midI (a b:Int):Int:=qzp (mulI a 4602678819172646912 0) (mulI b 4602678819172646912 0) 0
def quj (p:Int×Int):Option Int:=some (midI p.1 p.2)
theorem qzs (p:Int×Int) (y:Int) (hg:(dc (cI .u64) (d1 (cI .u64))).good p) (h:quj p=some y):aMid p.1 p.2=some y:=h
end
end Su
end
section
namespace Su
open Go Fly
set_option linter.unusedVariables false
noncomputable section
def quk  (a:(Bool×(Int×((List Su.Tm)×Int)))):Option (Bool×(Int×Int)) :=
 (bif (List.any [(a.1,(a.2.1,(a.2.2.1,a.2.2.2)))] (fun z0=>(z0.1||(!(Su.qaY z0))))) then
 some ((Su.qr (false,(((18442240474082181120:Nat):Int),((9218868437227405312:Nat):Int)))).1,((Su.qr (false,(((18442240474082181120:Nat):Int),((9218868437227405312:Nat):Int)))).2.1,(Su.qr (false,(((18442240474082181120:Nat):Int),((9218868437227405312:Nat):Int)))).2.2))
 else
  ((Su.qc5 (a.1,(a.2.1,(a.2.2.1,a.2.2.2))))).bind fun x1 =>
  some ((Su.qr (false,((((Su.qc0 (Int.toNat a.2.1) (Int.toNat (((Su.qaO (Int.toNat x1)):Nat):Int)) 2):Nat):Int),(((Su.qc0 (Int.toNat a.2.1) (Int.toNat x1) 1):Nat):Int)))).1,((Su.qr (false,((((Su.qc0 (Int.toNat a.2.1) (Int.toNat (((Su.qaO (Int.toNat x1)):Nat):Int)) 2):Nat):Int),(((Su.qc0 (Int.toNat a.2.1) (Int.toNat x1) 1):Nat):Int)))).2.1,(Su.qr (false,((((Su.qc0 (Int.toNat a.2.1) (Int.toNat (((Su.qaO (Int.toNat x1)):Nat):Int)) 2):Nat):Int),(((Su.qc0 (Int.toNat a.2.1) (Int.toNat x1) 1):Nat):Int)))).2.2)))
set_option linter.unusedSimpArgs false
def Jb (a:Fm):Spn:=bif okF a then qr (false,(qzp a.2.1 (qqB (qqF a)) 2,qzp a.2.1 (qqF a) 1)) else (false,(18442240474082181120,9218868437227405312))
def Z1 (a:Fm):Option Spn:=bif qhb a.2.2.1 then some (Jb a) else none
theorem qul (a:Fm) (y:Spn) (hg:(d1 yc).good a) (h:Z1 a=some y):quk a=some y:=by
 obtain ⟨b,m,l,r⟩:=a
 obtain ⟨h1,h2⟩:=qj h
 have:=soi h2;subst this
 have h1:qhb l=true:=h1
 have ha:List.any [((b,(m,(l,r))):Fm)] (fun z0=>(z0.1||(!(Su.qaY z0)))) = !okF (b,(m,(l,r))):=by simp [okF]
 unfold quk Jb qc5
 simp only []
 rw [ha]
 cases okF (b,(m,(l,r))) with
 | false=>rfl
 | true =>
  rw [Bool.not_true,cond_false,cond_true,h1,cond_true];rfl
end
end Su
end
section
namespace Su
open Go Fly
set_option linter.unusedVariables false
noncomputable section
def jN {S R:Type} (K:Nat) (F:S→Option (S ⊕ R)) (s:S) (r:R):Prop:=∀ m,K≤m→itP m F s=some r
theorem jN.next {S R:Type} {K:Nat} {F:S→Option (S ⊕ R)} {s s':S} {r:R} (h:F s=some (.inl s')) (hn:jN K F s' r):jN (K+1) F s r:=fun m hm=>by
 obtain ⟨j,rfl⟩:∃ j,m=j+1:=⟨m-1,by omega⟩
 rw [qL,h]
 exact hn j (by omega)
theorem jN.stop {S R:Type} {K:Nat} {F:S→Option (S ⊕ R)} {s:S} {r:R} (h:F s=some (.inr r)):jN (K+1) F s r:=fun m hm=>by
 obtain ⟨j,rfl⟩:∃ j,m=j+1:=⟨m-1,by omega⟩
 rw [qL,h];rfl
theorem jN.up {S R:Type} {K K':Nat} {F:S→Option (S ⊕ R)} {s:S} {r:R} (h:jN K F s r) (hk:K≤K'):jN K' F s r:=fun m hm=>h m (by omega)
def Yv (n:Nat) (f:Nat→Bool):Bool:=(List.range n).all f
theorem Jc {n:Nat} {f:Nat→Bool}:Yv n f=true↔∀ i,i<n→f i=true:=by
 unfold Yv
 simp [List.all_eq_true,List.mem_range]
theorem qhd {S R:Type} {F:S→Option (S ⊕ R)} {mk:Nat→S} {n:Nat} {ok:Nat→Bool} {r0 r1:R}
 (h1:∀ i,i<n→ok i=true→F (mk i)=some (.inl (mk (i+1)))) (h2:∀ i,i<n→ok i=false→F (mk i)=some (.inr r1)) (h0:F (mk n)=some (.inr r0)) :
 ∀ (j i:Nat),i+j=n→jN (j+1) F (mk i) (bif (List.range' i j).all ok then r0 else r1)
 | 0,i,h=>by
  have:i=n:=by omega
  subst this
  exact jN.stop h0
 | j+1,i,h=>by
  rw [List.range'_succ,List.all_cons]
  cases hk:ok i with
  | true=>exact jN.next (h1 i (by omega) hk) (by simpa using qhd h1 h2 h0 j (i+1) (by omega))
  | false=>exact jN.stop (h2 i (by omega) hk)
theorem Zi {S R:Type} {F:S→Option (S ⊕ R)} {mk:Nat→S} {n:Nat} {ok:Nat→Bool} {r0 r1:R}
 (h1:∀ i,i<n→ok i=true→F (mk i)=some (.inl (mk (i+1)))) (h2:∀ i,i<n→ok i=false→F (mk i)=some (.inr r1)) (h0:F (mk n)=some (.inr r0)) :
 jN (n+1) F (mk 0) (bif Yv n ok then r0 else r1):=by
 have:=qhd h1 h2 h0 n 0 (by omega)
 rwa [← List.range_eq_range'] at this
theorem ixl {α:Type} {l:List α} {i:Nat} (h:i<l.length):idx l (i:Int)=some l[i]:=by
 rw [jd,List.getElem?_eq_getElem h]
theorem w1 {i n:Nat} (h:i<n) (hn:n≤maxLen):IntKind.i64.wrap ((i:Int)+1)=((i+1:Nat):Int):=by
 rw [qF] at hn
 rw [w64 (by omega) (by omega)];rfl
theorem ltN (i n:Nat):decide ((i:Int)<(n:Int))=decide (i<n):=by
 by_cases h:i<n
 · rw [decide_eq_true h,decide_eq_true (by omega)]
 · rw [decide_eq_false h,decide_eq_false (by omega)]
theorem Zj (n:Nat):Nat.beq n n=true:=by simp
end
end Su
end
section
namespace Su
open Go Fly
set_option linter.unusedVariables false
abbrev Iv:=Bool×(Int×Int)
def noI:Iv:=(true,(0,0))
def ivN (s:Iv):Iv :=
 bif s.1||(decide (s.2.2<s.2.1)||(decide (1099511627776≤s.2.1)||decide (s.2.2≤-1099511627776))) then noI else (false,(max s.2.1 (-1099511627776),min s.2.2 1099511627776))
def qG (lo hi:Int):Iv:=ivN (false,(lo,hi))
def qT (s:Iv) (n:Int):Bool :=
 !(ivN s).1&&((decide ((ivN s).2.1 = -1099511627776)||decide ((ivN s).2.1≤n))&&(decide ((ivN s).2.2=1099511627776)||decide (n≤(ivN s).2.2)))
def y6 (a b:Iv):Bool:=(ivN a).1||(!(ivN b).1&&(decide ((ivN b).2.1≤(ivN a).2.1)&&decide ((ivN a).2.2≤(ivN b).2.2)))
def qqG (j s:Iv):Iv:=bif (ivN s).1 then j else bif j.1 then ivN s else (false,(min j.2.1 (ivN s).2.1,max j.2.2 (ivN s).2.2))
def qH (l:List Iv):Iv:=l.foldl qqG noI
def qdZ (a b:Iv):Iv:=bif (ivN a).1||(ivN b).1 then noI else qG (max (ivN a).2.1 (ivN b).2.1) (min (ivN a).2.2 (ivN b).2.2)
def qum (n:Int):Bool:=decide (1099511627776≤n)||decide (n≤-1099511627776)
def qiQ (n:Int):Int:=max (min n 1099511627776) (-1099511627776)
def qat (x y:Int):Int:=bif qum x then x else bif qum y then y else qiQ (x+y)
def qfK (lo hi:Int):Iv:=(false,(min (qiQ lo) 1099511627775,max (qiQ hi) (-1099511627775)))
def YE (a:Iv):Iv:=bif (ivN a).1 then ivN a else qG (-(ivN a).2.2) (-(ivN a).2.1)
def yE (a b:Iv):Iv:=bif (ivN a).1||(ivN b).1 then noI else qfK (qat (ivN a).2.1 (ivN b).2.1) (qat (ivN a).2.2 (ivN b).2.2)
def qlc (a b:Iv):Iv:=yE a (YE b)
abbrev Ckp:=Iv×Iv
def ckN (c:Ckp):Ckp:=bif (qH [c.1]).1||(qH [c.2]).1 then (noI,noI) else (qH [c.1],qH [c.2])
def jm (v k:Iv):Ckp:=ckN (qlc v k,yE v k)
def yF (c:Ckp):Ckp:=ckN (yE (ckN c).1 (false,(-1,-1)),yE (ckN c).2 (false,(1,1)))
def Zk (a b:Ckp):Ckp:=ckN (qdZ (ckN a).1 (ckN b).1,qdZ (ckN a).2 (ckN b).2)
def ckJn (a b:Ckp):Ckp:=ckN (qH [(ckN a).1,(ckN b).1],qH [(ckN a).2,(ckN b).2])
def Jt (v:Iv) (c:Ckp) (k:Iv):Iv:=qdZ (qdZ v (yE (ckN c).1 k)) (qlc (ckN c).2 k)
def qfL (a b:Ckp):Bool:=y6 (ckN a).1 (ckN b).1&&y6 (ckN a).2 (ckN b).2
def J4 (c:Ckp) (v k:Int):Bool:=!(decide (min v k < -2199023255552)||decide (2199023255552<max v k))&&(qT (ckN c).1 (v-k)&&qT (ckN c).2 (v+k))
theorem qhe (s:Iv):ivN s=noI∨(s.1=false∧s.2.1≤s.2.2∧s.2.1<1099511627776∧-1099511627776<s.2.2∧ivN s=(false,(max s.2.1 (-1099511627776),min s.2.2 1099511627776))):=by
 unfold ivN
 cases h:(s.1||(decide (s.2.2<s.2.1)||(decide (1099511627776≤s.2.1)||decide (s.2.2≤-1099511627776)))) with
 | true=>exact .inl rfl
 | false =>
  simp only [Bool.or_eq_false_iff,decide_eq_false_iff_not] at h
  exact .inr ⟨h.1,by omega,by omega,by omega,rfl⟩
def qzt (s:Iv):Prop:=s=noI∨(s.1=false∧s.2.1≤s.2.2∧-1099511627776≤s.2.1∧s.2.1<1099511627776∧-1099511627776<s.2.2∧s.2.2≤1099511627776)
theorem qfM (s:Iv):qzt (ivN s):=by
 rcases qhe s with h | ⟨_,h1,h2,h3,h⟩
 · rw [h];exact .inl rfl
 · rw [h];refine .inr ⟨rfl,?_,?_,?_,?_,?_⟩ <;> simp only [] <;> omega
theorem qun {s:Iv} (h:qzt s):ivN s=s:=by
 obtain ⟨e,lo,hi⟩:=s
 rcases h with h | ⟨h0,h1,h2,h3,h4,h5⟩
 · rw [h];rfl
 · simp only [] at h0 h1 h2 h3 h4 h5
   subst h0
   unfold ivN
   rw [show (false||(decide (hi<lo)||(decide (1099511627776≤lo)||decide (hi≤-1099511627776))))=false by
    rw [decide_eq_false (by omega),decide_eq_false (by omega),decide_eq_false (by omega)];rfl]
   show (false,(max lo (-1099511627776),min hi 1099511627776))=(false,(lo,hi))
   rw [Int.max_eq_left h2,Int.min_eq_left h5]
theorem Qj (s:Iv):ivN (ivN s)=ivN s:=qun (qfM s)
theorem qd0 (a:Iv):qH [a]=ivN a:=by
 show qqG noI a=_
 unfold qqG
 rcases qhe a with h | ⟨_,_,_,_,h⟩ <;> rw [h] <;> rfl
theorem qaZ {s:Iv} (h:qzt s) (h':s.1=false):s.2.1≤s.2.2∧-1099511627776≤s.2.1∧s.2.1<1099511627776∧-1099511627776<s.2.2∧s.2.2≤1099511627776:=by
 rcases h with h | h
 · rw [h] at h';cases h'
 · exact h.2
theorem qE2 (a b:Iv):y6 (ivN a) b=y6 a b:=by unfold y6;rw [Qj]
theorem qzu (a b:Iv):y6 a (ivN b)=y6 a b:=by unfold y6;rw [Qj]
theorem Z2 (a:Iv):y6 a a=true:=by
 unfold y6
 cases (ivN a).1 with
 | true=>rfl
 | false=>simp
theorem qb6 (c:Ckp):ckN c=bif (ivN c.1).1||(ivN c.2).1 then (noI,noI) else (ivN c.1,ivN c.2):=by
 unfold ckN;rw [qd0,qd0]
theorem qld (c:Ckp):ckN (ckN c)=ckN c:=by
 rw [qb6 c]
 cases h:((ivN c.1).1||(ivN c.2).1) with
 | true=>rfl
 | false =>
  rw [cond_false,qb6]
  show (bif (ivN (ivN c.1)).1||(ivN (ivN c.2)).1 then _ else (ivN (ivN c.1),ivN (ivN c.2)))=_
  rw [Qj,Qj,h];rfl
theorem qHB (c:Ckp):ivN (ckN c).1=(ckN c).1:=by
 rw [qb6]
 cases (ivN c.1).1||(ivN c.2).1 with
 | true=>rfl
 | false=>exact Qj _
theorem qHC (c:Ckp):ivN (ckN c).2=(ckN c).2:=by
 rw [qb6]
 cases (ivN c.1).1||(ivN c.2).1 with
 | true=>rfl
 | false=>exact Qj _
theorem qqH (a:Ckp):qfL a a=true:=by unfold qfL;rw [Z2,Z2];rfl
end Su
end
section
namespace Su
open Go Fly
set_option linter.unusedVariables false
noncomputable section
def qup  (s:(Bool×(Int×Int))):Option (Bool×(Int×Int)) :=
 (bif s.1 then
 some (true,((0:Int),(0:Int)))
 else
  (bif (decide ((s.2.2<s.2.1))) then
  some (true,((0:Int),(0:Int)))
 else
  (bif (decide ((1099511627776≤s.2.1))) then
  some (true,((0:Int),(0:Int)))
 else
  (bif (decide ((s.2.2≤(-1099511627776)))) then
  some (true,((0:Int),(0:Int)))
 else
  some (false,((max s.2.1 (-1099511627776)),(min s.2.2 1099511627776)))))))
def qoC (s:Iv):Option Iv:=some (ivN s)
theorem quq (s y:Iv) (hg:(d1 cIn).good s) (h:qoC s=some y):qup s=some y:=by
 obtain ⟨e,lo,hi⟩:=s
 have:=soi h;subst this
 unfold qup ivN
 simp only []
 cases e with
 | true=>rfl
 | false =>
  cases decide (hi<lo) with
  | true=>rfl
  | false =>
   cases decide (1099511627776≤lo) with
   | true=>rfl
   | false=>cases decide (hi≤-1099511627776) <;> rfl
end
end Su
end
section
namespace Su
open Go Fly
set_option linter.unusedVariables false
noncomputable section
def qCC  (lo:Int) (hi:Int):Option (Bool×(Int×Int)) :=
 some ((Su.ivN (false,(lo,hi))).1,((Su.ivN (false,(lo,hi))).2.1,(Su.ivN (false,(lo,hi))).2.2))
def qE3  (s:(Bool×(Int×Int))) (n:Int):Option Bool :=
 (bif (!(Su.ivN (s.1,(s.2.1,s.2.2))).1) then
 (bif (decide (((Su.ivN (s.1,(s.2.1,s.2.2))).2.1=(-1099511627776)))) then
 (bif (decide (((Su.ivN (s.1,(s.2.1,s.2.2))).2.2=1099511627776))) then
 some true
 else
  some (decide ((n≤(Su.ivN (s.1,(s.2.1,s.2.2))).2.2))))
 else
  (bif (decide (((Su.ivN (s.1,(s.2.1,s.2.2))).2.1≤n))) then
  (bif (decide (((Su.ivN (s.1,(s.2.1,s.2.2))).2.2=1099511627776))) then
  some true
 else
  some (decide ((n≤(Su.ivN (s.1,(s.2.1,s.2.2))).2.2))))
 else
  some false))
 else
  some false)
def qE4  (a:(Bool×(Int×Int))) (b:(Bool×(Int×Int))):Option Bool :=
 (bif (Su.ivN (a.1,(a.2.1,a.2.2))).1 then
 some true
 else
  (bif (!(Su.ivN (b.1,(b.2.1,b.2.2))).1) then
  (bif (decide (((Su.ivN (b.1,(b.2.1,b.2.2))).2.1≤(Su.ivN (a.1,(a.2.1,a.2.2))).2.1))) then
  some (decide (((Su.ivN (a.1,(a.2.1,a.2.2))).2.2≤(Su.ivN (b.1,(b.2.1,b.2.2))).2.2)))
 else
  some false)
 else
  some false))
def qb7:((List (Bool×(Int×Int)))×(Int×(Int×(Bool×(Int×(Int×(Bool×(Int×(Int×Unit)))))))))→Option (((List (Bool×(Int×Int)))×(Int×(Int×(Bool×(Int×(Int×(Bool×(Int×(Int×Unit))))))))) ⊕ ((List (Bool×(Int×Int)))×(Int×(Int×(Bool×(Int×(Int×(Bool×(Int×(Int×Unit)))))))))):=fun p0=>(bif (decide ((p0.2.2.1<p0.2.1))) then
 ((Su.idx p0.1 p0.2.2.1)).bind fun x1 =>
 (bif (Su.ivN (x1.1,(x1.2.1,x1.2.2))).1 then
 some (.inl (p0.1,(p0.2.1,((Go.IntKind.wrap .i64 (p0.2.2.1+1)),(p0.2.2.2.1,(p0.2.2.2.2.1,(p0.2.2.2.2.2.1,(p0.2.2.2.2.2.2.1,(p0.2.2.2.2.2.2.2.1,(p0.2.2.2.2.2.2.2.2.1,()))))))))))
 else
  (bif p0.2.2.2.2.2.2.1 then
  some (.inl (p0.1,(p0.2.1,((Go.IntKind.wrap .i64 (p0.2.2.1+1)),(p0.2.2.2.1,(p0.2.2.2.2.1,(p0.2.2.2.2.2.1,((Su.ivN (x1.1,(x1.2.1,x1.2.2))).1,((Su.ivN (x1.1,(x1.2.1,x1.2.2))).2.1,((Su.ivN (x1.1,(x1.2.1,x1.2.2))).2.2,()))))))))))
 else
  some (.inl (p0.1,(p0.2.1,((Go.IntKind.wrap .i64 (p0.2.2.1+1)),(p0.2.2.2.1,(p0.2.2.2.2.1,(p0.2.2.2.2.2.1,(false,((min p0.2.2.2.2.2.2.2.1 (Su.ivN (x1.1,(x1.2.1,x1.2.2))).2.1),((max p0.2.2.2.2.2.2.2.2.1 (Su.ivN (x1.1,(x1.2.1,x1.2.2))).2.2),()))))))))))))
 else
  some (.inr (p0.1,(p0.2.1,(p0.2.2.1,(p0.2.2.2.1,(p0.2.2.2.2.1,(p0.2.2.2.2.2.1,(p0.2.2.2.2.2.2.1,(p0.2.2.2.2.2.2.2.1,(p0.2.2.2.2.2.2.2.2.1,())))))))))))
def qur  (fu:Nat) (l:(List (Bool×(Int×Int)))):Option (Bool×(Int×Int)) :=
 (itP fu (qb7) (l,((((List.length l):Nat):Int),((0:Int),(false,((0:Int),((0:Int),(true,((0:Int),((0:Int),())))))))))).bind fun x2 =>
 some (x2.2.2.2.2.2.2.1,(x2.2.2.2.2.2.2.2.1,x2.2.2.2.2.2.2.2.2.1))
def qE5  (a:(Bool×(Int×Int))):Option (Bool×(Int×Int)) :=
 (bif (Su.ivN (a.1,(a.2.1,a.2.2))).1 then
 some ((Su.ivN (a.1,(a.2.1,a.2.2))).1,((Su.ivN (a.1,(a.2.1,a.2.2))).2.1,(Su.ivN (a.1,(a.2.1,a.2.2))).2.2))
 else
  some ((Su.ivN (false,((Go.IntKind.wrap .i64 (0-(Su.ivN (a.1,(a.2.1,a.2.2))).2.2)),(Go.IntKind.wrap .i64 (0-(Su.ivN (a.1,(a.2.1,a.2.2))).2.1))))).1,((Su.ivN (false,((Go.IntKind.wrap .i64 (0-(Su.ivN (a.1,(a.2.1,a.2.2))).2.2)),(Go.IntKind.wrap .i64 (0-(Su.ivN (a.1,(a.2.1,a.2.2))).2.1))))).2.1,(Su.ivN (false,((Go.IntKind.wrap .i64 (0-(Su.ivN (a.1,(a.2.1,a.2.2))).2.2)),(Go.IntKind.wrap .i64 (0-(Su.ivN (a.1,(a.2.1,a.2.2))).2.1))))).2.2)))
def qus  (a:(Bool×(Int×Int))) (b:(Bool×(Int×Int))):Option (Bool×(Int×Int)) :=
 (bif (Su.ivN (a.1,(a.2.1,a.2.2))).1 then
 some (true,((0:Int),(0:Int)))
 else
  (bif (Su.ivN (b.1,(b.2.1,b.2.2))).1 then
  some (true,((0:Int),(0:Int)))
 else
  some ((Su.ivN (false,((max (Su.ivN (a.1,(a.2.1,a.2.2))).2.1 (Su.ivN (b.1,(b.2.1,b.2.2))).2.1),(min (Su.ivN (a.1,(a.2.1,a.2.2))).2.2 (Su.ivN (b.1,(b.2.1,b.2.2))).2.2)))).1,((Su.ivN (false,((max (Su.ivN (a.1,(a.2.1,a.2.2))).2.1 (Su.ivN (b.1,(b.2.1,b.2.2))).2.1),(min (Su.ivN (a.1,(a.2.1,a.2.2))).2.2 (Su.ivN (b.1,(b.2.1,b.2.2))).2.2)))).2.1,(Su.ivN (false,((max (Su.ivN (a.1,(a.2.1,a.2.2))).2.1 (Su.ivN (b.1,(b.2.1,b.2.2))).2.1),(min (Su.ivN (a.1,(a.2.1,a.2.2))).2.2 (Su.ivN (b.1,(b.2.1,b.2.2))).2.2)))).2.2))))
def qE6  (x:Int) (y:Int):Option Int :=
 (bif (decide ((1099511627776≤x))) then
 some x
 else
  (bif (decide ((x≤(-1099511627776)))) then
  some x
 else
  (bif (decide ((1099511627776≤y))) then
  some y
 else
  (bif (decide ((y≤(-1099511627776)))) then
  some y
 else
  some (max (min (Go.IntKind.wrap .i64 (x+y)) 1099511627776) (-1099511627776))))))
def qCD  (lo:Int) (hi:Int):Option (Bool×(Int×Int)) :=
 some (false,((min (max (min lo 1099511627776) (-1099511627776)) 1099511627775),(max (max (min hi 1099511627776) (-1099511627776)) (-1099511627775))))
def qoD (p:Int×Int):Option Iv:=some (qG p.1 p.2)
theorem qut (p:Int×Int) (y:Iv) (hg:(dc (cI .i64) (d1 (cI .i64))).good p) (h:qoD p=some y):qCC p.1 p.2=some y:=by
 have:=soi h;subst this;rfl
def quu (p:Iv×Int):Option Bool:=some (qT p.1 p.2)
theorem qzv (p:Iv×Int) (y:Bool) (hg:(dc cIn (d1 (cI .i64))).good p) (h:quu p=some y):qE3 p.1 p.2=some y:=by
 obtain ⟨⟨e,lo,hi⟩,n⟩:=p
 have:=soi h;subst this
 unfold qE3 qT
 simp only []
 generalize ivN (e,(lo,hi))=t
 cases t.1 with
 | true=>rfl
 | false =>
  cases decide (t.2.1 = -1099511627776) <;> cases decide (t.2.1≤n) <;> cases decide (t.2.2=1099511627776) <;> rfl
def quv (p:Iv×Iv):Option Bool:=some (y6 p.1 p.2)
theorem qzw (p:Iv×Iv) (y:Bool) (hg:(dc cIn (d1 cIn)).good p) (h:quv p=some y):qE4 p.1 p.2=some y:=by
 obtain ⟨⟨e,lo,hi⟩,⟨e',lo',hi'⟩⟩:=p
 have:=soi h;subst this
 unfold qE4 y6
 simp only []
 generalize ivN (e,(lo,hi))=t
 generalize ivN (e',(lo',hi'))=t'
 cases t.1 with
 | true=>rfl
 | false =>
  cases t'.1 with
  | true=>rfl
  | false=>cases decide (t'.2.1≤t.2.1) <;> rfl
abbrev IjS:=List Iv×(Int×(Int×(Bool×(Int×(Int×(Bool×(Int×(Int×Unit))))))))
def qzx (l:List Iv) (i:Int) (j:Iv):IjS:=(l,(((l.length:Nat):Int),(i,(false,(0,(0,(j.1,(j.2.1,(j.2.2,())))))))))
theorem qoE (l:List Iv) (hl:l.length≤maxLen):∀ (r A:List Iv) (j:Iv),A++r=l→jN (r.length+1) qb7 (qzx l A.length j) (qzx l l.length (r.foldl qqG j))
 | [],A,j,h=>by
  rw [List.append_nil] at h;subst h
  refine jN.stop ?_
  unfold qzx
  simp only [qb7,ltN,decide_eq_false (Nat.lt_irrefl _),cond_false];rfl
 | x::r,A,j,h=>by
  have hi:A.length<l.length:=by rw [← h];simp
  have hg:idx l (A.length:Int)=some x:=by
   rw [jd,← h,List.getElem?_append_right (by omega),Nat.sub_self];rfl
  have ih:=qoE l hl r (A++[x]) (qqG j x) (by rw [← h];simp)
  refine jN.next ?_ ih
  unfold qzx
  simp only [qb7,ltN,decide_eq_true hi,cond_true,hg,Option.bind_some,w1 hi hl]
  rw [show (A++[x]).length=A.length+1 by simp]
  unfold qqG
  obtain ⟨x1,x2,x3⟩:=x
  obtain ⟨j1,j2,j3⟩:=j
  simp only []
  generalize ivN (x1,(x2,x3))=t
  obtain ⟨t1,t2,t3⟩:=t
  cases t1 with
  | true=>rfl
  | false=>cases j1 <;> rfl
def qoF (l:List Iv):Option Iv:=some (qH l)
theorem quw (l:List Iv) (y:Iv) (hg:(d1 (cL rIn)).good l) (h:qoF l=some y):∃ n,qur n l=some y:=by
 have:=soi h;subst this
 refine ⟨l.length+1,?_⟩
 unfold qur
 have:=qoE l hg.2 l [] noI rfl
 exact obB (this _ (Nat.le_refl _)) rfl
theorem qzy (s:Iv) : -1099511627776≤(ivN s).2.1∧(ivN s).2.1≤1099511627776∧-1099511627776≤(ivN s).2.2∧(ivN s).2.2≤1099511627776:=by
 rcases qfM s with h | ⟨_,h1,h2,h3,h4,h5⟩
 · rw [h];exact ⟨by decide,by decide,by decide,by decide⟩
 · omega
def qux (a:Iv):Option Iv:=some (YE a)
theorem qzz (a y:Iv) (hg:(d1 cIn).good a) (h:qux a=some y):qE5 a=some y:=by
 obtain ⟨e,lo,hi⟩:=a
 have:=soi h;subst this
 obtain ⟨h1,h2,h3,h4⟩:=qzy (e,(lo,hi))
 unfold qE5 YE qG
 simp only []
 generalize ivN (e,(lo,hi))=t at *
 obtain ⟨t1,t2,t3⟩:=t
 simp only [] at h1 h2 h3 h4 ⊢
 cases t1 with
 | true=>rfl
 | false=>rw [w64 (by omega) (by omega),w64 (by omega) (by omega),Int.zero_sub,Int.zero_sub];rfl
def qoG (p:Iv×Iv):Option Iv:=some (qdZ p.1 p.2)
theorem quy (p:Iv×Iv) (y:Iv) (hg:(dc cIn (d1 cIn)).good p) (h:qoG p=some y):qus p.1 p.2=some y:=by
 obtain ⟨⟨e,lo,hi⟩,⟨e',lo',hi'⟩⟩:=p
 have:=soi h;subst this
 unfold qus qdZ qG
 simp only []
 generalize ivN (e,(lo,hi))=t
 generalize ivN (e',(lo',hi'))=t'
 cases t.1 with
 | true=>rfl
 | false=>cases t'.1 <;> rfl
def quz (p:Int×Int):Option Int:=some (qat p.1 p.2)
theorem qzA (p:Int×Int) (y:Int) (hg:(dc (cI .i64) (d1 (cI .i64))).good p) (h:quz p=some y):qE6 p.1 p.2=some y:=by
 obtain ⟨x,z⟩:=p
 have:=soi h;subst this
 unfold qE6 qat qum qiQ
 simp only []
 by_cases h1:1099511627776≤x
 · rw [decide_eq_true h1];rfl
 · by_cases h2:x≤-1099511627776
   · rw [decide_eq_false h1,decide_eq_true h2];rfl
   · by_cases h3:1099511627776≤z
     · rw [decide_eq_false h1,decide_eq_false h2,decide_eq_true h3];rfl
     · by_cases h4:z≤-1099511627776
       · rw [decide_eq_false h1,decide_eq_false h2,decide_eq_false h3,decide_eq_true h4];rfl
       · rw [decide_eq_false h1,decide_eq_false h2,decide_eq_false h3,decide_eq_false h4,w64 (by omega) (by omega)];rfl
def qoH (p:Int×Int):Option Iv:=some (qfK p.1 p.2)
theorem quA (p:Int×Int) (y:Iv) (hg:(dc (cI .i64) (d1 (cI .i64))).good p) (h:qoH p=some y):qCD p.1 p.2=some y:=by
 have:=soi h;subst this;rfl
end
end Su
end
section
namespace Su
open Go Fly
set_option linter.unusedVariables false
noncomputable section
def qE7  (a:(Bool×(Int×Int))) (b:(Bool×(Int×Int))):Option (Bool×(Int×Int)) :=
 (bif (Su.ivN (a.1,(a.2.1,a.2.2))).1 then
 some (true,((0:Int),(0:Int)))
 else
  (bif (Su.ivN (b.1,(b.2.1,b.2.2))).1 then
  some (true,((0:Int),(0:Int)))
 else
  some ((Su.qfK (Su.qat (Su.ivN (a.1,(a.2.1,a.2.2))).2.1 (Su.ivN (b.1,(b.2.1,b.2.2))).2.1) (Su.qat (Su.ivN (a.1,(a.2.1,a.2.2))).2.2 (Su.ivN (b.1,(b.2.1,b.2.2))).2.2)).1,((Su.qfK (Su.qat (Su.ivN (a.1,(a.2.1,a.2.2))).2.1 (Su.ivN (b.1,(b.2.1,b.2.2))).2.1) (Su.qat (Su.ivN (a.1,(a.2.1,a.2.2))).2.2 (Su.ivN (b.1,(b.2.1,b.2.2))).2.2)).2.1,(Su.qfK (Su.qat (Su.ivN (a.1,(a.2.1,a.2.2))).2.1 (Su.ivN (b.1,(b.2.1,b.2.2))).2.1) (Su.qat (Su.ivN (a.1,(a.2.1,a.2.2))).2.2 (Su.ivN (b.1,(b.2.1,b.2.2))).2.2)).2.2))))
def quB (p:Iv×Iv):Option Iv:=some (yE p.1 p.2)
theorem qzB (p:Iv×Iv) (y:Iv) (hg:(dc cIn (d1 cIn)).good p) (h:quB p=some y):qE7 p.1 p.2=some y:=by
 obtain ⟨⟨e,lo,hi⟩,⟨e',lo',hi'⟩⟩:=p
 have:=soi h;subst this
 unfold qE7 yE
 simp only []
 generalize ivN (e,(lo,hi))=t
 generalize ivN (e',(lo',hi'))=t'
 cases t.1 with
 | true=>rfl
 | false=>cases t'.1 <;> rfl
end
end Su
end
section
namespace Su
open Go Fly
def qzC (a:Ck):Ckp:=((a.1,(a.2.1,a.2.2.1)),(a.2.2.2.1,(a.2.2.2.2.1,a.2.2.2.2.2)))
def frCk (c:Ckp):Ck:=(c.1.1,(c.1.2.1,(c.1.2.2,(c.2.1,(c.2.2.1,c.2.2.2)))))
noncomputable def jG:Cod Ckp:=cA (dm dCk qzC frCk (fun _=>rfl) (fun _=>rfl)) (fun _=>rfl)
end Su
namespace Su
open Go Fly
noncomputable abbrev cB2:Cod (Bool×Bool):=cA (dc cB (d1 cB))
end Su
end
section
namespace Su
open Go Fly
set_option linter.unusedVariables false
noncomputable section
def iSub  (a:(Bool×(Int×Int))) (b:(Bool×(Int×Int))):Option (Bool×(Int×Int)) :=
 some ((Su.yE (a.1,(a.2.1,a.2.2)) ((Su.YE (b.1,(b.2.1,b.2.2))).1,((Su.YE (b.1,(b.2.1,b.2.2))).2.1,(Su.YE (b.1,(b.2.1,b.2.2))).2.2))).1,((Su.yE (a.1,(a.2.1,a.2.2)) ((Su.YE (b.1,(b.2.1,b.2.2))).1,((Su.YE (b.1,(b.2.1,b.2.2))).2.1,(Su.YE (b.1,(b.2.1,b.2.2))).2.2))).2.1,(Su.yE (a.1,(a.2.1,a.2.2)) ((Su.YE (b.1,(b.2.1,b.2.2))).1,((Su.YE (b.1,(b.2.1,b.2.2))).2.1,(Su.YE (b.1,(b.2.1,b.2.2))).2.2))).2.2))
def iPt  (n:Int):Option (Bool×(Int×Int)) :=
 some ((Su.qG n n).1,((Su.qG n n).2.1,(Su.qG n n).2.2))
def quC  (c:((Bool×(Int×Int))×(Bool×(Int×Int)))):Option ((Bool×(Int×Int))×(Bool×(Int×Int))) :=
 (bif (Su.qH [(c.1.1,(c.1.2.1,c.1.2.2))]).1 then
 some (Su.qzC (true,((0:Int),((0:Int),(true,((0:Int),(0:Int)))))))
 else
  (bif (Su.qH [(c.2.1,(c.2.2.1,c.2.2.2))]).1 then
  some (Su.qzC (true,((0:Int),((0:Int),(true,((0:Int),(0:Int)))))))
 else
  some (Su.qzC ((Su.qH [(c.1.1,(c.1.2.1,c.1.2.2))]).1,((Su.qH [(c.1.1,(c.1.2.1,c.1.2.2))]).2.1,((Su.qH [(c.1.1,(c.1.2.1,c.1.2.2))]).2.2,((Su.qH [(c.2.1,(c.2.2.1,c.2.2.2))]).1,((Su.qH [(c.2.1,(c.2.2.1,c.2.2.2))]).2.1,(Su.qH [(c.2.1,(c.2.2.1,c.2.2.2))]).2.2))))))))
def quD (p:Iv×Iv):Option Iv:=some (qlc p.1 p.2)
theorem qzD (p:Iv×Iv) (y:Iv) (hg:(dc cIn (d1 cIn)).good p) (h:quD p=some y):iSub p.1 p.2=some y:=by
 have:=soi h;subst this;rfl
def qCE (n:Int):Option Iv:=some (qG n n)
theorem qE8 (n:Int) (y:Iv) (hg:(d1 (cI .i64)).good n) (h:qCE n=some y):iPt n=some y:=by
 have:=soi h;subst this;rfl
def qoI (c:Ckp):Option Ckp:=some (ckN c)
theorem quE (c y:Ckp) (hg:(d1 jG).good c) (h:qoI c=some y):quC c=some y:=by
 obtain ⟨⟨a,b,d⟩,⟨a',b',d'⟩⟩:=c
 have:=soi h;subst this
 unfold quC ckN
 simp only []
 generalize qH [(a,(b,d))]=t
 generalize qH [(a',(b',d'))]=t'
 obtain ⟨t1,t2,t3⟩:=t
 obtain ⟨t4,t5,t6⟩:=t'
 cases t1 with
 | true=>rfl
 | false=>cases t4 <;> rfl
end
end Su
end
section
namespace Su
open Go Fly
set_option linter.unusedVariables false
noncomputable section
def kOf  (v:(Bool×(Int×Int))) (k:(Bool×(Int×Int))):Option ((Bool×(Int×Int))×(Bool×(Int×Int))) :=
 some (Su.ckN ((Su.qlc v k),(Su.yE v k)))
def qCF  (c:((Bool×(Int×Int))×(Bool×(Int×Int)))):Option ((Bool×(Int×Int))×(Bool×(Int×Int))) :=
 some (Su.ckN ((Su.yE (Su.ckN c).1 (false,((-1),(-1)))),(Su.yE (Su.ckN c).2 (false,((1:Int),(1:Int))))))
def kRed  (v:(Bool×(Int×Int))) (c:((Bool×(Int×Int))×(Bool×(Int×Int)))) (k:(Bool×(Int×Int))):Option (Bool×(Int×Int)) :=
 some (Su.qdZ (Su.qdZ v (Su.yE (Su.ckN c).1 k)) (Su.qlc (Su.ckN c).2 k))
def kMt  (a:((Bool×(Int×Int))×(Bool×(Int×Int)))) (b:((Bool×(Int×Int))×(Bool×(Int×Int)))):Option ((Bool×(Int×Int))×(Bool×(Int×Int))) :=
 some (Su.ckN ((Su.qdZ (Su.ckN a).1 (Su.ckN b).1),(Su.qdZ (Su.ckN a).2 (Su.ckN b).2)))
def kJn  (a:((Bool×(Int×Int))×(Bool×(Int×Int)))) (b:((Bool×(Int×Int))×(Bool×(Int×Int)))):Option ((Bool×(Int×Int))×(Bool×(Int×Int))) :=
 some (Su.ckN ((Su.qH [(Su.ckN a).1,(Su.ckN b).1]),(Su.qH [(Su.ckN a).2,(Su.ckN b).2])))
def kIn  (a:((Bool×(Int×Int))×(Bool×(Int×Int)))) (b:((Bool×(Int×Int))×(Bool×(Int×Int)))):Option Bool :=
 (bif (Su.y6 (Su.ckN a).1 (Su.ckN b).1) then
 some (Su.y6 (Su.ckN a).2 (Su.ckN b).2)
 else
  some false)
def qE9  (c:((Bool×(Int×Int))×(Bool×(Int×Int)))) (v:Int) (k:Int):Option Bool :=
 (bif (decide (((min v k)<(-2199023255552)))) then
 some false
 else
  (bif (decide ((2199023255552<(max v k)))) then
  some false
 else
  (bif (Su.qT (Su.ckN c).1 (Go.IntKind.wrap .i64 (v-k))) then
  some (Su.qT (Su.ckN c).2 (Go.IntKind.wrap .i64 (v+k)))
 else
  some false)))
def qCG (p:Iv×Iv):Option Ckp:=some (jm p.1 p.2)
theorem qFa (p:Iv×Iv) (y:Ckp) (hg:(dc cIn (d1 cIn)).good p) (h:qCG p=some y):kOf p.1 p.2=some y:=by
 have:=soi h;subst this;rfl
def qoJ (c:Ckp):Option Ckp:=some (yF c)
theorem quF (c y:Ckp) (hg:(d1 jG).good c) (h:qoJ c=some y):qCF c=some y:=by
 have:=soi h;subst this;rfl
def quG (p:Iv×(Ckp×Iv)):Option Iv:=some (Jt p.1 p.2.1 p.2.2)
theorem qzE (p:Iv×(Ckp×Iv)) (y:Iv) (hg:(dc cIn (dc jG (d1 cIn))).good p) (h:quG p=some y):kRed p.1 p.2.1 p.2.2=some y:=by
 have:=soi h;subst this;rfl
def qCH (p:Ckp×Ckp):Option Ckp:=some (Zk p.1 p.2)
theorem qFb (p:Ckp×Ckp) (y:Ckp) (hg:(dc jG (d1 jG)).good p) (h:qCH p=some y):kMt p.1 p.2=some y:=by
 have:=soi h;subst this;rfl
def qCI (p:Ckp×Ckp):Option Ckp:=some (ckJn p.1 p.2)
theorem qFc (p:Ckp×Ckp) (y:Ckp) (hg:(dc jG (d1 jG)).good p) (h:qCI p=some y):kJn p.1 p.2=some y:=by
 have:=soi h;subst this;rfl
def qCJ (p:Ckp×Ckp):Option Bool:=some (qfL p.1 p.2)
theorem qFd (p:Ckp×Ckp) (y:Bool) (hg:(dc jG (d1 jG)).good p) (h:qCJ p=some y):kIn p.1 p.2=some y:=by
 have:=soi h;subst this
 unfold kIn qfL
 cases y6 (ckN p.1).1 (ckN p.2).1 <;> rfl
def quH (p:Ckp×(Int×Int)):Option Bool:=some (J4 p.1 p.2.1 p.2.2)
theorem qzF (p:Ckp×(Int×Int)) (y:Bool) (hg:(dc jG (dc (cI .i64) (d1 (cI .i64)))).good p) (h:quH p=some y):qE9 p.1 p.2.1 p.2.2=some y:=by
 obtain ⟨c,v,k⟩:=p
 have:=soi h;subst this
 unfold qE9 J4
 simp only []
 by_cases h1:min v k < -2199023255552
 · rw [decide_eq_true h1];rfl
 · by_cases h2:2199023255552<max v k
   · rw [decide_eq_false h1,decide_eq_true h2];rfl
   · rw [decide_eq_false h1,decide_eq_false h2,w64 (by omega) (by omega),w64 (by omega) (by omega)]
     cases qT (ckN c).1 (v-k) <;> rfl
end
end Su
end
section
namespace Su
open Go Fly
set_option linter.unusedVariables false
def qb8 (f:Int):Bool:=qU (bK f.toNat)
def ky (f:Int):Int:=Qh f.toNat
def mnI (a b:Int):Int:=((qkD a.toNat b.toNat:Nat):Int)
def mxI (a b:Int):Int:=((qft a.toNat b.toNat:Nat):Int)
def Fw (f:Int):Prop:=0≤f∧f<18446744073709551616
def yp (lo hi:Int):Spn:=qr (false,(lo,hi))
def qqI (j s:Spn):Spn:=bif (qr s).1 then j else bif j.1 then qr s else yp (mnI j.2.1 (qr s).2.1) (mxI j.2.2 (qr s).2.2)
def qqJ (l:List Spn):Spn:=l.foldl qqI qb5
def Jl (a b:Spn):Spn:=bif (qr a).1||(qr b).1 then qb5 else yp (mxI (qr a).2.1 (qr b).2.1) (mnI (qr a).2.2 (qr b).2.2)
def Zl (a b:Spn):Bool:=(qr a).1||(!(qr b).1&&(leF (qr b).2.1 (qr a).2.1&&leF (qr a).2.2 (qr b).2.2))
def qau (s:Spn) (f:Int):Bool:=!decide (qE (bK f.toNat)=3)&&(!(yp f f).1&&Zl (yp f f) s)
theorem Qy {a b:Int}:leF a b=true↔qb8 a=false∧qb8 b=false∧ky a≤ky b:=by
 unfold leF qb8 ky qgc qkB qyA
 cases qU (bK a.toNat) <;> cases qU (bK b.toNat) <;> simp
 by_cases h1:Qh a.toNat<Qh b.toNat
 · rw [decide_eq_true h1];simp;omega
 · rw [decide_eq_false h1]
   by_cases h2:Qh b.toNat<Qh a.toNat
   · rw [decide_eq_true h2];simp;omega
   · rw [decide_eq_false h2];simp;omega
theorem qle {a b:Nat}:Qt a b=true↔qU (bK a)=false∧qU (bK b)=false∧Qh a<Qh b:=by
 unfold Qt qgc qkB qyA
 cases qU (bK a) <;> cases qU (bK b) <;> simp
 by_cases h1:Qh a<Qh b
 · rw [decide_eq_true h1];simp;omega
 · rw [decide_eq_false h1]
   by_cases h2:Qh b<Qh a
   · rw [decide_eq_true h2];simp;omega
   · rw [decide_eq_false h2];simp;omega
theorem qa0 (f:Int):(ky f).natAbs=bK f.toNat:=by
 unfold ky Qh
 cases bS f.toNat <;> simp
theorem quI {a b:Int} (ha:Fw a) (hb:Fw b) (za:a≠9223372036854775808) (zb:b≠9223372036854775808) (h:ky a=ky b):a=b:=by
 have h1:=qa0 a
 have h2:=qa0 b
 rw [h,h2] at h1
 obtain ⟨a0,a1⟩:=ha
 obtain ⟨b0,b1⟩:=hb
 unfold ky Qh at h
 have sa:bS a.toNat=decide (9223372036854775808≤a.toNat):=by
  cases hs:bS a.toNat with
  | true=>rw [decide_eq_true (qaP.1 hs)]
  | false=>rw [decide_eq_false (by have:=qfr.1 hs;omega)]
 have sb:bS b.toNat=decide (9223372036854775808≤b.toNat):=by
  cases hs:bS b.toNat with
  | true=>rw [decide_eq_true (qaP.1 hs)]
  | false=>rw [decide_eq_false (by have:=qfr.1 hs;omega)]
 rw [sa,sb] at h
 unfold bK at h h1
 by_cases p:9223372036854775808≤a.toNat <;> by_cases q:9223372036854775808≤b.toNat
 · rw [decide_eq_true p,decide_eq_true q] at h;simp only [cond_true] at h;omega
 · rw [decide_eq_true p,decide_eq_false q] at h;simp only [cond_true,cond_false] at h;omega
 · rw [decide_eq_false p,decide_eq_true q] at h;simp only [cond_true,cond_false] at h;omega
 · rw [decide_eq_false p,decide_eq_false q] at h;simp only [cond_false] at h;omega
theorem qHD {a b:Int} (ha:Fw a) (hb:Fw b) (na:qb8 a=false) (nb:qb8 b=false):mxI a b=if ky a<ky b then b else a:=by
 unfold mxI qft
 unfold qb8 at na nb
 rw [na,nb]
 simp only [Bool.or_self,cond_false]
 by_cases h:ky a<ky b
 · rw [if_pos h,qle.2 ⟨na,nb,h⟩,cond_true];exact Int.toNat_of_nonneg hb.1
 · rw [if_neg h,show Qt a.toNat b.toNat=false by
    cases hl:Qt a.toNat b.toNat with
    | false=>rfl
    | true=>exact absurd (qle.1 hl).2.2 h,cond_false]
   exact Int.toNat_of_nonneg ha.1
structure Nz (f:Int):Prop where
 w:Fw f
 n:qb8 f=false
 z:f≠9223372036854775808
theorem qhf {f:Int} (h:Fw f) (hn:qb8 f=false):Nz (nzI f)∧ky (nzI f)=ky f:=by
 unfold nzI zI
 cases hz:Nat.beq (bK f.toNat) 0 with
 | true =>
  rw [cond_true]
  have h0:=Nat.eq_of_beq_eq_true hz
  refine ⟨⟨⟨by decide,by decide⟩,by decide,by decide⟩,?_⟩
  have:=qa0 f
  have e:ky 0=0:=by decide
  rw [e];omega
 | false =>
  rw [cond_false]
  refine ⟨⟨h,hn,fun e=>?_⟩,rfl⟩
  subst e
  revert hz;decide
def quJ (s:Spn):Prop:=s=qb5∨(s.1=false∧Nz s.2.1∧Nz s.2.2∧ky s.2.1≤ky s.2.2∧s.2.1≠9218868437227405312∧s.2.2≠18442240474082181120)
def SpW (s:Spn):Prop:=Fw s.2.1∧Fw s.2.2
theorem qoK {f:Int} (h:Nz f):nzI f=f:=by
 obtain ⟨h1,h2⟩:=qhf h.w h.n
 exact quI h1.w h.w h1.z h.z h2
theorem qoL {f:Int} (h:Fw f) (hn:qb8 f=false) (c:Int) (hc:c=9218868437227405312∨c=18442240474082181120) (hf:f≠c):nzI f≠c:=by
 unfold nzI
 cases zI f with
 | true=>rw [cond_true];omega
 | false=>rw [cond_false];exact hf
theorem Ju {s:Spn} (hw:SpW s):qr s=qb5∨(s.1=false∧qb8 s.2.1=false∧qb8 s.2.2=false∧ky s.2.1≤ky s.2.2∧s.2.1≠9218868437227405312∧s.2.2≠18442240474082181120∧qr s=(false,(nzI s.2.1,nzI s.2.2))):=by
 unfold qr
 cases h:(s.1||(!leF s.2.1 s.2.2||(decide (s.2.1=9218868437227405312)||decide (s.2.2=18442240474082181120)))) with
 | true=>exact .inl rfl
 | false =>
  simp only [Bool.or_eq_false_iff,Bool.not_eq_false',decide_eq_false_iff_not] at h
  obtain ⟨h0,h1,h2,h3⟩:=h
  obtain ⟨a,b,c⟩:=Qy.1 h1
  exact .inr ⟨h0,a,b,c,h2,h3,by rw [h0];rfl⟩
theorem Jd {s:Spn} (hw:SpW s):quJ (qr s):=by
 rcases Ju hw with h | ⟨_,h1,h2,h3,h4,h5,h⟩
 · rw [h];exact .inl rfl
 · rw [h]
   obtain ⟨a1,a2⟩:=qhf hw.1 h1
   obtain ⟨b1,b2⟩:=qhf hw.2 h2
   exact .inr ⟨rfl,a1,b1,by simp only [];rw [a2,b2];exact h3,qoL hw.1 h1 _ (.inl rfl) h4,qoL hw.2 h2 _ (.inr rfl) h5⟩
theorem quJ.w {s:Spn} (h:quJ s):SpW s:=by
 rcases h with h | ⟨_,h1,h2,_⟩
 · rw [h];exact ⟨⟨by decide,by decide⟩,⟨by decide,by decide⟩⟩
 · exact ⟨h1.w,h2.w⟩
theorem quK {s:Spn} (h:quJ s):qr s=s:=by
 obtain ⟨e,lo,hi⟩:=s
 rcases h with h | ⟨h0,h1,h2,h3,h4,h5⟩
 · rw [h];rfl
 · simp only [] at h0 h1 h2 h3 h4 h5
   subst h0
   unfold qr
   simp only []
   rw [Qy.2 ⟨h1.n,h2.n,h3⟩,decide_eq_false h4,decide_eq_false h5,qoK h1,qoK h2];rfl
theorem qfN {s:Spn} (h:quJ s) (h':s.1=false):Nz s.2.1∧Nz s.2.2∧ky s.2.1≤ky s.2.2∧s.2.1≠9218868437227405312∧s.2.2≠18442240474082181120:=by
 rcases h with h | h
 · rw [h] at h';cases h'
 · exact h.2
theorem spJ1 {a:Spn} (ha:SpW a):qqJ [a]=qr a:=by
 show qqI qb5 a=_
 unfold qqI
 rcases Ju ha with h | ⟨_,_,_,_,_,_,h⟩ <;> rw [h] <;> rfl
theorem qqK {a:Spn} (ha:SpW a):Zl a a=true:=by
 unfold Zl
 cases h:(qr a).1 with
 | true=>rfl
 | false =>
  obtain ⟨a1,a2,-⟩:=qfN (Jd ha) h
  rw [Qy.2 ⟨a1.n,a1.n,Int.le_refl _⟩,Qy.2 ⟨a2.n,a2.n,Int.le_refl _⟩];rfl
end Su
end
