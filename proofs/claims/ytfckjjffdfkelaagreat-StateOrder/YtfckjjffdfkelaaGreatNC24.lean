/-
  What functions of the program compute, in plain Lean, and that the evaluator finds it.
-/
import Derived.Test.YtfckjjffdfkelaaGreatSuSd
import Derived.Test.YtfckjjffdfkelaaGreatNC14
import Derived.Test.YtfckjjffdfkelaaGreatNB10
set_option maxRecDepth 10000
section
namespace Su
open Go Fly
set_option linter.unusedVariables false
noncomputable section
def qez:(Int×((List Su.Tm)×(Int×(Int×(Bool×(Int×((List Su.Tm)×(Int×Unit))))))))→Option ((Int×((List Su.Tm)×(Int×(Int×(Bool×(Int×((List Su.Tm)×(Int×Unit)))))))) ⊕ (Int×((List Su.Tm)×(Int×(Int×(Bool×(Int×((List Su.Tm)×(Int×Unit))))))))):=fun p1=>(bif (decide ((p1.2.2.2.1<p1.2.2.1))) then
 ((Su.idx p1.2.1 p1.2.2.2.1)).bind fun x2 =>
 some (.inl ((((Su.upS 0 [p1.1,(((Su.qfx (Int.toNat (Su.Tm.c x2))):Nat):Int)]):Nat):Int),(p1.2.1,(p1.2.2.1,((Go.IntKind.wrap .i64 (p1.2.2.2.1+1)),(p1.2.2.2.2.1,(p1.2.2.2.2.2.1,(p1.2.2.2.2.2.2.1,(p1.2.2.2.2.2.2.2.1,())))))))))
 else
  some (.inr (p1.1,(p1.2.1,(p1.2.2.1,(p1.2.2.2.1,(p1.2.2.2.2.1,(p1.2.2.2.2.2.1,(p1.2.2.2.2.2.2.1,(p1.2.2.2.2.2.2.2.1,()))))))))))
def qE4  (fu:Nat) (a:(Bool×(Int×((List Su.Tm)×Int)))):Option Int :=
 (bif (List.any [(a.1,(a.2.1,(a.2.2.1,a.2.2.2)))] (fun z0=>(z0.1||(!(Su.qaY z0))))) then
 some ((9218868437227405312:Nat):Int)
 else
  (itP fu (qez) ((0:Int),(a.2.2.1,((((List.length a.2.2.1):Nat):Int),((0:Int),(a.1,(a.2.1,(a.2.2.1,(a.2.2.2,()))))))))).bind fun x3 =>
  some (((Su.upS 0 [x3.1,x3.2.2.2.2.2.2.2.1]):Nat):Int))
def qE5 (c:Int):Int:=((qfx c.toNat:Nat):Int)
def qq5:List Tm→Int→Int
 | [],s=>s
 | t::l,s=>qq5 l (upI [s,qE5 t.c])
def radL:{f:Fm→Int // ∀ a,f a=bif okF a then upI [qq5 a.2.2.1 0,a.2.2.2] else 9218868437227405312}:=Classical.choice ⟨⟨_,fun _=>rfl⟩⟩
def qq6 (a:Fm):Int:=radL.1 a
theorem qoT (a:Fm):qq6 a=bif okF a then upI [qq5 a.2.2.1 0,a.2.2.2] else 9218868437227405312:=radL.2 a
def qc6 (a:Fm):Option Int:=bif qhl a.2.2.1 then some (qq6 a) else none
theorem qlv (l:List Tm) (hl:l.length≤549755813888) (q:Bool×(Int×(List Tm×(Int×Unit)))):∀ (rest A:List Tm) (s:Int),A++rest=l →
 ∃ n,itP n qez (s,(l,((l.length:Int),((A.length:Int),q))))=some (qq5 rest s,(l,((l.length:Int),((l.length:Int),q))))
 | [],A,s,hA=>by
  rw [List.append_nil] at hA;subst hA
  refine ⟨1,?_⟩
  rw [qM]
  simp only [qez]
  rw [decide_eq_false (by omega),cond_false];rfl
 | t::rest,A,s,hA=>by
  have hNl:A.length+(rest.length+1)=l.length:=by rw [← hA];simp
  have hg:idx l (A.length:Int)=some t:=by
   rw [je,← hA,List.getElem?_append_right (by omega),Nat.sub_self];rfl
  obtain ⟨n,h⟩:=qlv l hl q rest (A++[t]) (upI [s,qE5 t.c]) (by rw [← hA];simp)
  refine ⟨n+1,?_⟩
  rw [qM]
  simp only [qez]
  rw [decide_eq_true (show (A.length:Int)<(l.length:Int) by omega),cond_true,hg,Option.bind_some,w64 (by omega) (by omega),show ((A.length:Int)+1)=(((A++[t]).length:Nat):Int) by simp]
  exact h
theorem qzC (a:Fm) (y:Int) (hg:(d1 jw).good a) (h:qc6 a=some y):∃ n,qE4 n a=some y:=by
 obtain ⟨b,m,l,e⟩:=a
 obtain ⟨h1,h2⟩:=qj h
 have:=soi h2;subst this
 have hl:l.length≤549755813888:=Nat.le_of_ble_eq_true h1
 have ha:List.any [((b,(m,(l,e))):Fm)] (fun z0=>(z0.1||(!(Su.qaY z0)))) = !okF (b,(m,(l,e))):=by simp [okF]
 obtain ⟨n,q⟩:=qlv l hl (b,(m,(l,(e,())))) l [] 0 rfl
 refine ⟨n,?_⟩
 rw [qoT]
 unfold qE4
 simp only []
 rw [ha]
 cases okF (b,(m,(l,e))) with
 | false=>rfl
 | true =>
  rw [Bool.not_true,cond_false,cond_true]
  exact obs q rfl
end
end Su
end
section
namespace Su
open Go Fly
set_option linter.unusedVariables false
noncomputable section
def quz  (a:(Bool×(Int×((List Su.Tm)×Int)))):Option Int :=
 ((Su.qc6 (a.1,((0:Int),(a.2.2.1,a.2.2.2))))).bind fun x0 =>
 some x0
def aMid  (a:Int) (b:Int):Option Int :=
 some (((Su.qb0 (Int.toNat (((Su.qul (Int.toNat a) (Int.toNat 4602678819172646912) 0):Nat):Int)) (Int.toNat (((Su.qul (Int.toNat b) (Int.toNat 4602678819172646912) 0):Nat):Int)) 0):Nat):Int)
def qHF (a:Fm):Int:=qq6 (a.1,(0,(a.2.2.1,a.2.2.2)))
def qoU (a:Fm):Option Int:=bif qhl a.2.2.1 then some (qHF a) else none
theorem quA (a:Fm) (y:Int) (hg:(d1 jw).good a) (h:qoU a=some y):quz a=some y:=by
 obtain ⟨h1,h2⟩:=qj h
 have:=soi h2;subst this
 unfold quz qc6
 rw [h1];rfl
def midI (a b:Int):Int:=qzA (mulI a 4602678819172646912 0) (mulI b 4602678819172646912 0) 0
def quB (p:Int×Int):Option Int:=some (midI p.1 p.2)
theorem qzD (p:Int×Int) (y:Int) (hg:(dc (cI .u64) (d1 (cI .u64))).good p) (h:quB p=some y):aMid p.1 p.2=some y:=h
end
end Su
end
section
namespace Su
open Go Fly
set_option linter.unusedVariables false
noncomputable section
def quC  (a:(Bool×(Int×((List Su.Tm)×Int)))):Option (Bool×(Int×Int)) :=
 (bif (List.any [(a.1,(a.2.1,(a.2.2.1,a.2.2.2)))] (fun z0=>(z0.1||(!(Su.qaY z0))))) then
 some ((Su.qm (false,(((18442240474082181120:Nat):Int),((9218868437227405312:Nat):Int)))).1,((Su.qm (false,(((18442240474082181120:Nat):Int),((9218868437227405312:Nat):Int)))).2.1,(Su.qm (false,(((18442240474082181120:Nat):Int),((9218868437227405312:Nat):Int)))).2.2))
 else
  ((Su.qc6 (a.1,(a.2.1,(a.2.2.1,a.2.2.2))))).bind fun x1 =>
  some ((Su.qm (false,((((Su.qb0 (Int.toNat a.2.1) (Int.toNat (((Su.qaR (Int.toNat x1)):Nat):Int)) 2):Nat):Int),(((Su.qb0 (Int.toNat a.2.1) (Int.toNat x1) 1):Nat):Int)))).1,((Su.qm (false,((((Su.qb0 (Int.toNat a.2.1) (Int.toNat (((Su.qaR (Int.toNat x1)):Nat):Int)) 2):Nat):Int),(((Su.qb0 (Int.toNat a.2.1) (Int.toNat x1) 1):Nat):Int)))).2.1,(Su.qm (false,((((Su.qb0 (Int.toNat a.2.1) (Int.toNat (((Su.qaR (Int.toNat x1)):Nat):Int)) 2):Nat):Int),(((Su.qb0 (Int.toNat a.2.1) (Int.toNat x1) 1):Nat):Int)))).2.2)))
set_option linter.unusedSimpArgs false
def Jg (a:Fm):Spn:=bif okF a then qm (false,(qzA a.2.1 (qq2 (qq6 a)) 2,qzA a.2.1 (qq6 a) 1)) else (false,(18442240474082181120,9218868437227405312))
def Z6 (a:Fm):Option Spn:=bif qhl a.2.2.1 then some (Jg a) else none
theorem quD (a:Fm) (y:Spn) (hg:(d1 jw).good a) (h:Z6 a=some y):quC a=some y:=by
 obtain ⟨b,m,l,r⟩:=a
 obtain ⟨h1,h2⟩:=qj h
 have:=soi h2;subst this
 have h1:qhl l=true:=h1
 have ha:List.any [((b,(m,(l,r))):Fm)] (fun z0=>(z0.1||(!(Su.qaY z0)))) = !okF (b,(m,(l,r))):=by simp [okF]
 unfold quC Jg qc6
 simp only []
 rw [ha]
 cases okF (b,(m,(l,r))) with
 | false=>rfl
 | true =>
  rw [Bool.not_true,cond_false,cond_true,h1,cond_true];rfl
end
end Su
end
section
namespace Su
open Go Fly
set_option linter.unusedVariables false
noncomputable section
def jN {S R:Type} (K:Nat) (F:S→Option (S ⊕ R)) (s:S) (r:R):Prop:=∀ m,K≤m→itP m F s=some r
theorem jN.next {S R:Type} {K:Nat} {F:S→Option (S ⊕ R)} {s s':S} {r:R} (h:F s=some (.inl s')) (hn:jN K F s' r):jN (K+1) F s r:=fun m hm=>by
 obtain ⟨j,rfl⟩:∃ j,m=j+1:=⟨m-1,by omega⟩
 rw [qM,h]
 exact hn j (by omega)
theorem jN.stop {S R:Type} {K:Nat} {F:S→Option (S ⊕ R)} {s:S} {r:R} (h:F s=some (.inr r)):jN (K+1) F s r:=fun m hm=>by
 obtain ⟨j,rfl⟩:∃ j,m=j+1:=⟨m-1,by omega⟩
 rw [qM,h];rfl
theorem jN.up {S R:Type} {K K':Nat} {F:S→Option (S ⊕ R)} {s:S} {r:R} (h:jN K F s r) (hk:K≤K'):jN K' F s r:=fun m hm=>h m (by omega)
def Jo (n:Nat) (f:Nat→Bool):Bool:=(List.range n).all f
theorem Yb {n:Nat} {f:Nat→Bool}:Jo n f=true↔∀ i,i<n→f i=true:=by
 unfold Jo
 simp [List.all_eq_true,List.mem_range]
theorem qhn {S R:Type} {F:S→Option (S ⊕ R)} {mk:Nat→S} {n:Nat} {ok:Nat→Bool} {r0 r1:R}
 (h1:∀ i,i<n→ok i=true→F (mk i)=some (.inl (mk (i+1)))) (h2:∀ i,i<n→ok i=false→F (mk i)=some (.inr r1)) (h0:F (mk n)=some (.inr r0)) :
 ∀ (j i:Nat),i+j=n→jN (j+1) F (mk i) (bif (List.range' i j).all ok then r0 else r1)
 | 0,i,h=>by
  have:i=n:=by omega
  subst this
  exact jN.stop h0
 | j+1,i,h=>by
  rw [List.range'_succ,List.all_cons]
  cases hk:ok i with
  | true=>exact jN.next (h1 i (by omega) hk) (by simpa using qhn h1 h2 h0 j (i+1) (by omega))
  | false=>exact jN.stop (h2 i (by omega) hk)
theorem qb5 {S R:Type} {F:S→Option (S ⊕ R)} {mk:Nat→S} {n:Nat} {ok:Nat→Bool} {r0 r1:R}
 (h1:∀ i,i<n→ok i=true→F (mk i)=some (.inl (mk (i+1)))) (h2:∀ i,i<n→ok i=false→F (mk i)=some (.inr r1)) (h0:F (mk n)=some (.inr r0)) :
 jN (n+1) F (mk 0) (bif Jo n ok then r0 else r1):=by
 have:=qhn h1 h2 h0 n 0 (by omega)
 rwa [← List.range_eq_range'] at this
theorem ixl {α:Type} {l:List α} {i:Nat} (h:i<l.length):idx l (i:Int)=some l[i]:=by
 rw [je,List.getElem?_eq_getElem h]
theorem w1 {i n:Nat} (h:i<n) (hn:n≤maxLen):IntKind.i64.wrap ((i:Int)+1)=((i+1:Nat):Int):=by
 rw [qG] at hn
 rw [w64 (by omega) (by omega)];rfl
theorem ltN (i n:Nat):decide ((i:Int)<(n:Int))=decide (i<n):=by
 by_cases h:i<n
 · rw [decide_eq_true h,decide_eq_true (by omega)]
 · rw [decide_eq_false h,decide_eq_false (by omega)]
theorem qgn (n:Nat):Nat.beq n n=true:=by simp
end
end Su
end
section
namespace Su
open Go Fly
set_option linter.unusedVariables false
abbrev Iv:=Bool×(Int×Int)
def noI:Iv:=(true,(0,0))
def ivN (s:Iv):Iv :=
 bif s.1||(decide (s.2.2<s.2.1)||(decide (1099511627776≤s.2.1)||decide (s.2.2≤-1099511627776))) then noI else (false,(max s.2.1 (-1099511627776),min s.2.2 1099511627776))
def yF (lo hi:Int):Iv:=ivN (false,(lo,hi))
def Jh (s:Iv) (n:Int):Bool :=
 !(ivN s).1&&((decide ((ivN s).2.1 = -1099511627776)||decide ((ivN s).2.1≤n))&&(decide ((ivN s).2.2=1099511627776)||decide (n≤(ivN s).2.2)))
def Qs (a b:Iv):Bool:=(ivN a).1||(!(ivN b).1&&(decide ((ivN b).2.1≤(ivN a).2.1)&&decide ((ivN a).2.2≤(ivN b).2.2)))
def qgo (j s:Iv):Iv:=bif (ivN s).1 then j else bif j.1 then ivN s else (false,(min j.2.1 (ivN s).2.1,max j.2.2 (ivN s).2.2))
def qy (l:List Iv):Iv:=l.foldl qgo noI
def qd4 (a b:Iv):Iv:=bif (ivN a).1||(ivN b).1 then noI else yF (max (ivN a).2.1 (ivN b).2.1) (min (ivN a).2.2 (ivN b).2.2)
def quE (n:Int):Bool:=decide (1099511627776≤n)||decide (n≤-1099511627776)
def qja (n:Int):Int:=max (min n 1099511627776) (-1099511627776)
def qav (x y:Int):Int:=bif quE x then x else bif quE y then y else qja (x+y)
def qfR (lo hi:Int):Iv:=(false,(min (qja lo) 1099511627775,max (qja hi) (-1099511627775)))
def YQ (a:Iv):Iv:=bif (ivN a).1 then ivN a else yF (-(ivN a).2.2) (-(ivN a).2.1)
def yz (a b:Iv):Iv:=bif (ivN a).1||(ivN b).1 then noI else qfR (qav (ivN a).2.1 (ivN b).2.1) (qav (ivN a).2.2 (ivN b).2.2)
def qlw (a b:Iv):Iv:=yz a (YQ b)
abbrev Ckp:=Iv×Iv
def ckN (c:Ckp):Ckp:=bif (qy [c.1]).1||(qy [c.2]).1 then (noI,noI) else (qy [c.1],qy [c.2])
def yG (v k:Iv):Ckp:=ckN (qlw v k,yz v k)
def yA (c:Ckp):Ckp:=ckN (yz (ckN c).1 (false,(-1,-1)),yz (ckN c).2 (false,(1,1)))
def qap (a b:Ckp):Ckp:=ckN (qd4 (ckN a).1 (ckN b).1,qd4 (ckN a).2 (ckN b).2)
def yh (a b:Ckp):Ckp:=ckN (qy [(ckN a).1,(ckN b).1],qy [(ckN a).2,(ckN b).2])
def Jz (v:Iv) (c:Ckp) (k:Iv):Iv:=qd4 (qd4 v (yz (ckN c).1 k)) (qlw (ckN c).2 k)
def qb6 (a b:Ckp):Bool:=Qs (ckN a).1 (ckN b).1&&Qs (ckN a).2 (ckN b).2
def qlx (c:Ckp) (v k:Int):Bool:=!(decide (min v k < -2199023255552)||decide (2199023255552<max v k))&&(Jh (ckN c).1 (v-k)&&Jh (ckN c).2 (v+k))
theorem qho (s:Iv):ivN s=noI∨(s.1=false∧s.2.1≤s.2.2∧s.2.1<1099511627776∧-1099511627776<s.2.2∧ivN s=(false,(max s.2.1 (-1099511627776),min s.2.2 1099511627776))):=by
 unfold ivN
 cases h:(s.1||(decide (s.2.2<s.2.1)||(decide (1099511627776≤s.2.1)||decide (s.2.2≤-1099511627776)))) with
 | true=>exact .inl rfl
 | false =>
  simp only [Bool.or_eq_false_iff,decide_eq_false_iff_not] at h
  exact .inr ⟨h.1,by omega,by omega,by omega,rfl⟩
def quF (s:Iv):Prop:=s=noI∨(s.1=false∧s.2.1≤s.2.2∧-1099511627776≤s.2.1∧s.2.1<1099511627776∧-1099511627776<s.2.2∧s.2.2≤1099511627776)
theorem qaZ (s:Iv):quF (ivN s):=by
 rcases qho s with h | ⟨_,h1,h2,h3,h⟩
 · rw [h];exact .inl rfl
 · rw [h];refine .inr ⟨rfl,?_,?_,?_,?_,?_⟩ <;> simp only [] <;> omega
theorem Zu {s:Iv} (h:quF s):ivN s=s:=by
 obtain ⟨e,lo,hi⟩:=s
 rcases h with h | ⟨h0,h1,h2,h3,h4,h5⟩
 · rw [h];rfl
 · simp only [] at h0 h1 h2 h3 h4 h5
   subst h0
   unfold ivN
   rw [show (false||(decide (hi<lo)||(decide (1099511627776≤lo)||decide (hi≤-1099511627776))))=false by
    rw [decide_eq_false (by omega),decide_eq_false (by omega),decide_eq_false (by omega)];rfl]
   show (false,(max lo (-1099511627776),min hi 1099511627776))=(false,(lo,hi))
   rw [Int.max_eq_left h2,Int.min_eq_left h5]
theorem Ji (s:Iv):ivN (ivN s)=ivN s:=Zu (qaZ s)
theorem qd5 (a:Iv):qy [a]=ivN a:=by
 show qgo noI a=_
 unfold qgo
 rcases qho a with h | ⟨_,_,_,_,h⟩ <;> rw [h] <;> rfl
theorem quG (a b:Iv):qy [a,b]=qgo (ivN a) b:=by
 show qgo (qgo noI a) b=_
 have:=qd5 a
 rw [show qgo noI a=ivN a from this]
theorem qfS {s:Iv} (h:quF s) (h':s.1=false):s.2.1≤s.2.2∧-1099511627776≤s.2.1∧s.2.1<1099511627776∧-1099511627776<s.2.2∧s.2.2≤1099511627776:=by
 rcases h with h | h
 · rw [h] at h';cases h'
 · exact h.2
theorem qc7 {s:Iv} (h:quF s) (h':s.1=true):s=noI:=by
 rcases h with h | h
 · exact h
 · rw [h.1] at h';cases h'
theorem Z7 (a b:Iv):qy [a,b]=bif (ivN b).1 then ivN a else bif (ivN a).1 then ivN b else (false,(min (ivN a).2.1 (ivN b).2.1,max (ivN a).2.2 (ivN b).2.2)):=quG a b
theorem qa0 (a b:Iv):quF (qy [a,b]):=by
 rw [Z7]
 have ha:=qaZ a
 have hb:=qaZ b
 cases h2:(ivN b).1 with
 | true=>exact ha
 | false =>
  cases h1:(ivN a).1 with
  | true=>exact hb
  | false =>
   obtain ⟨a1,a2,a3,a4,a5⟩:=qfS ha h1
   obtain ⟨b1,b2,b3,b4,b5⟩:=qfS hb h2
   refine .inr ⟨rfl,?_,?_,?_,?_,?_⟩ <;> simp only [cond_false] <;> omega
theorem qb7 (a b:Iv):qy [a,b]=qy [b,a]:=by
 rw [Z7,Z7]
 cases h1:(ivN a).1 <;> cases h2:(ivN b).1
 · simp only [cond_false];rw [Int.min_comm,Int.max_comm]
 · rfl
 · rfl
 · simp only [cond_true];rw [qc7 (qaZ a) h1,qc7 (qaZ b) h2]
theorem qb8 (a:Iv):qy [a,a]=ivN a:=by
 rw [Z7]
 cases h1:(ivN a).1 with
 | true=>rfl
 | false =>
  simp only [cond_false]
  rw [Int.min_self,Int.max_self,← h1]
theorem QR (a b:Iv):(qy [a,b]).1=((ivN a).1&&(ivN b).1):=by
 rw [Z7]
 cases h1:(ivN a).1 <;> cases h2:(ivN b).1 <;> simp [h1,h2]
theorem quH (a b:Iv):Qs (ivN a) b=Qs a b:=by unfold Qs;rw [Ji]
theorem QS (a:Iv):Qs a a=true:=by
 unfold Qs
 cases (ivN a).1 with
 | true=>rfl
 | false=>simp
theorem qjb (a b:Iv):Qs a (qy [a,b])=true:=by
 unfold Qs
 rw [Zu (qa0 a b),Z7]
 cases h1:(ivN a).1 with
 | true=>rfl
 | false =>
  cases h2:(ivN b).1 with
  | true=>simp [h1]
  | false =>
   simp only [cond_false,Bool.false_or,Bool.not_false,Bool.true_and]
   rw [decide_eq_true (Int.min_le_left _ _),decide_eq_true (Int.le_max_left _ _)];rfl
theorem JA (c:Ckp):ckN c=bif (ivN c.1).1||(ivN c.2).1 then (noI,noI) else (ivN c.1,ivN c.2):=by
 unfold ckN;rw [qd5,qd5]
theorem qb9 (c:Ckp):ckN (ckN c)=ckN c:=by
 rw [JA c]
 cases h:((ivN c.1).1||(ivN c.2).1) with
 | true=>rfl
 | false =>
  rw [cond_false,JA]
  show (bif (ivN (ivN c.1)).1||(ivN (ivN c.2)).1 then _ else (ivN (ivN c.1),ivN (ivN c.2)))=_
  rw [Ji,Ji,h];rfl
theorem qhp (c:Ckp):ivN (ckN c).1=(ckN c).1:=by
 rw [JA]
 cases (ivN c.1).1||(ivN c.2).1 with
 | true=>rfl
 | false=>exact Ji _
theorem qhq (c:Ckp):ivN (ckN c).2=(ckN c).2:=by
 rw [JA]
 cases (ivN c.1).1||(ivN c.2).1 with
 | true=>rfl
 | false=>exact Ji _
theorem qoV (c:Ckp):(ckN c).1.1=(ckN c).2.1:=by
 rw [JA]
 cases h:((ivN c.1).1||(ivN c.2).1) with
 | true=>rfl
 | false =>
  rw [Bool.or_eq_false_iff] at h
  show (ivN c.1).1=(ivN c.2).1
  rw [h.1,h.2]
theorem qng {c:Ckp} (h:(ckN c).1.1=true):ckN c=(noI,noI):=by
 rw [JA] at h ⊢
 cases hb:((ivN c.1).1||(ivN c.2).1) with
 | true=>rfl
 | false =>
  rw [hb] at h
  rw [Bool.or_eq_false_iff] at hb
  have h:(ivN c.1).1=true:=h
  rw [hb.1] at h;cases h
theorem quI (a b:Ckp):yh a b=yh b a:=by unfold yh;rw [qb7,qb7 (ckN a).2]
theorem qCI (a b:Ckp):(yh a b).1.1=((ckN a).1.1&&(ckN b).1.1):=by
 unfold yh
 rw [JA]
 have e1:(qy [(ckN a).1,(ckN b).1]).1=((ckN a).1.1&&(ckN b).1.1):=by rw [QR,qhp,qhp]
 have e2:(qy [(ckN a).2,(ckN b).2]).1=((ckN a).1.1&&(ckN b).1.1):=by rw [QR,qhq,qhq,qoV,qoV]
 show (bif (ivN (qy [(ckN a).1,(ckN b).1])).1||(ivN (qy [(ckN a).2,(ckN b).2])).1 then ((noI,noI):Ckp) else (ivN (qy [(ckN a).1,(ckN b).1]),ivN (qy [(ckN a).2,(ckN b).2]))).1.1=_
 rw [Zu (qa0 _ _),Zu (qa0 _ _),e1,e2]
 cases h:((ckN a).1.1&&(ckN b).1.1) with
 | true=>rfl
 | false=>exact e1.trans h
theorem qoW (a b:Ckp) (h:((ckN a).1.1&&(ckN b).1.1)=false):ckN (yh a b)=(qy [(ckN a).1,(ckN b).1],qy [(ckN a).2,(ckN b).2]):=by
 unfold yh
 rw [qb9,JA]
 have e1:(qy [(ckN a).1,(ckN b).1]).1=false:=by rw [QR,qhp,qhp];exact h
 have e2:(qy [(ckN a).2,(ckN b).2]).1=false:=by rw [QR,qhq,qhq,← qoV,← qoV];exact h
 rw [Zu (qa0 _ _),Zu (qa0 _ _)]
 show (bif (qy [(ckN a).1,(ckN b).1]).1||(qy [(ckN a).2,(ckN b).2]).1 then _ else _)=_
 rw [e1,e2];rfl
theorem qhr (a:Ckp):qb6 a a=true:=by unfold qb6;rw [QS,QS];rfl
theorem qE6 (a b:Ckp):qb6 a (yh a b)=true:=by
 unfold qb6
 cases h:((ckN a).1.1&&(ckN b).1.1) with
 | true =>
  rw [Bool.and_eq_true] at h
  rw [qng h.1];rfl
 | false =>
  rw [qoW a b h,qjb,qjb];rfl
theorem quJ (a:Ckp):ckN (yh a a)=ckN a:=by
 cases h:(ckN a).1.1 with
 | true =>
  have h2:(yh a a).1.1=true:=by rw [qCI,h];rfl
  have h3:ckN (yh a a)=yh a a:=by unfold yh;rw [qb9]
  rw [qng (by rw [h3];exact h2),qng h]
 | false =>
  rw [qoW a a (by rw [h];rfl),qb8,qb8,qhp,qhq]
end Su
end
section
namespace Su
open Go Fly
set_option linter.unusedVariables false
noncomputable section
def quK  (s:(Bool×(Int×Int))):Option (Bool×(Int×Int)) :=
 (bif s.1 then
 some (true,((0:Int),(0:Int)))
 else
  (bif (decide ((s.2.2<s.2.1))) then
  some (true,((0:Int),(0:Int)))
 else
  (bif (decide ((1099511627776≤s.2.1))) then
  some (true,((0:Int),(0:Int)))
 else
  (bif (decide ((s.2.2≤(-1099511627776)))) then
  some (true,((0:Int),(0:Int)))
 else
  some (false,((max s.2.1 (-1099511627776)),(min s.2.2 1099511627776)))))))
def qoX (s:Iv):Option Iv:=some (ivN s)
theorem quL (s y:Iv) (hg:(d1 cIn).good s) (h:qoX s=some y):quK s=some y:=by
 obtain ⟨e,lo,hi⟩:=s
 have:=soi h;subst this
 unfold quK ivN
 simp only []
 cases e with
 | true=>rfl
 | false =>
  cases decide (hi<lo) with
  | true=>rfl
  | false =>
   cases decide (1099511627776≤lo) with
   | true=>rfl
   | false=>cases decide (hi≤-1099511627776) <;> rfl
end
end Su
end
section
namespace Su
open Go Fly
set_option linter.unusedVariables false
noncomputable section
def qCJ  (lo:Int) (hi:Int):Option (Bool×(Int×Int)) :=
 some ((Su.ivN (false,(lo,hi))).1,((Su.ivN (false,(lo,hi))).2.1,(Su.ivN (false,(lo,hi))).2.2))
def qE7  (s:(Bool×(Int×Int))) (n:Int):Option Bool :=
 (bif (!(Su.ivN (s.1,(s.2.1,s.2.2))).1) then
 (bif (decide (((Su.ivN (s.1,(s.2.1,s.2.2))).2.1=(-1099511627776)))) then
 (bif (decide (((Su.ivN (s.1,(s.2.1,s.2.2))).2.2=1099511627776))) then
 some true
 else
  some (decide ((n≤(Su.ivN (s.1,(s.2.1,s.2.2))).2.2))))
 else
  (bif (decide (((Su.ivN (s.1,(s.2.1,s.2.2))).2.1≤n))) then
  (bif (decide (((Su.ivN (s.1,(s.2.1,s.2.2))).2.2=1099511627776))) then
  some true
 else
  some (decide ((n≤(Su.ivN (s.1,(s.2.1,s.2.2))).2.2))))
 else
  some false))
 else
  some false)
def qE8  (a:(Bool×(Int×Int))) (b:(Bool×(Int×Int))):Option Bool :=
 (bif (Su.ivN (a.1,(a.2.1,a.2.2))).1 then
 some true
 else
  (bif (!(Su.ivN (b.1,(b.2.1,b.2.2))).1) then
  (bif (decide (((Su.ivN (b.1,(b.2.1,b.2.2))).2.1≤(Su.ivN (a.1,(a.2.1,a.2.2))).2.1))) then
  some (decide (((Su.ivN (a.1,(a.2.1,a.2.2))).2.2≤(Su.ivN (b.1,(b.2.1,b.2.2))).2.2)))
 else
  some false)
 else
  some false))
def qca:((List (Bool×(Int×Int)))×(Int×(Int×(Bool×(Int×(Int×(Bool×(Int×(Int×Unit)))))))))→Option (((List (Bool×(Int×Int)))×(Int×(Int×(Bool×(Int×(Int×(Bool×(Int×(Int×Unit))))))))) ⊕ ((List (Bool×(Int×Int)))×(Int×(Int×(Bool×(Int×(Int×(Bool×(Int×(Int×Unit)))))))))):=fun p0=>(bif (decide ((p0.2.2.1<p0.2.1))) then
 ((Su.idx p0.1 p0.2.2.1)).bind fun x1 =>
 (bif (Su.ivN (x1.1,(x1.2.1,x1.2.2))).1 then
 some (.inl (p0.1,(p0.2.1,((Go.IntKind.wrap .i64 (p0.2.2.1+1)),(p0.2.2.2.1,(p0.2.2.2.2.1,(p0.2.2.2.2.2.1,(p0.2.2.2.2.2.2.1,(p0.2.2.2.2.2.2.2.1,(p0.2.2.2.2.2.2.2.2.1,()))))))))))
 else
  (bif p0.2.2.2.2.2.2.1 then
  some (.inl (p0.1,(p0.2.1,((Go.IntKind.wrap .i64 (p0.2.2.1+1)),(p0.2.2.2.1,(p0.2.2.2.2.1,(p0.2.2.2.2.2.1,((Su.ivN (x1.1,(x1.2.1,x1.2.2))).1,((Su.ivN (x1.1,(x1.2.1,x1.2.2))).2.1,((Su.ivN (x1.1,(x1.2.1,x1.2.2))).2.2,()))))))))))
 else
  some (.inl (p0.1,(p0.2.1,((Go.IntKind.wrap .i64 (p0.2.2.1+1)),(p0.2.2.2.1,(p0.2.2.2.2.1,(p0.2.2.2.2.2.1,(false,((min p0.2.2.2.2.2.2.2.1 (Su.ivN (x1.1,(x1.2.1,x1.2.2))).2.1),((max p0.2.2.2.2.2.2.2.2.1 (Su.ivN (x1.1,(x1.2.1,x1.2.2))).2.2),()))))))))))))
 else
  some (.inr (p0.1,(p0.2.1,(p0.2.2.1,(p0.2.2.2.1,(p0.2.2.2.2.1,(p0.2.2.2.2.2.1,(p0.2.2.2.2.2.2.1,(p0.2.2.2.2.2.2.2.1,(p0.2.2.2.2.2.2.2.2.1,())))))))))))
def quM  (fu:Nat) (l:(List (Bool×(Int×Int)))):Option (Bool×(Int×Int)) :=
 (itP fu (qca) (l,((((List.length l):Nat):Int),((0:Int),(false,((0:Int),((0:Int),(true,((0:Int),((0:Int),())))))))))).bind fun x2 =>
 some (x2.2.2.2.2.2.2.1,(x2.2.2.2.2.2.2.2.1,x2.2.2.2.2.2.2.2.2.1))
def qE9  (a:(Bool×(Int×Int))):Option (Bool×(Int×Int)) :=
 (bif (Su.ivN (a.1,(a.2.1,a.2.2))).1 then
 some ((Su.ivN (a.1,(a.2.1,a.2.2))).1,((Su.ivN (a.1,(a.2.1,a.2.2))).2.1,(Su.ivN (a.1,(a.2.1,a.2.2))).2.2))
 else
  some ((Su.ivN (false,((Go.IntKind.wrap .i64 (0-(Su.ivN (a.1,(a.2.1,a.2.2))).2.2)),(Go.IntKind.wrap .i64 (0-(Su.ivN (a.1,(a.2.1,a.2.2))).2.1))))).1,((Su.ivN (false,((Go.IntKind.wrap .i64 (0-(Su.ivN (a.1,(a.2.1,a.2.2))).2.2)),(Go.IntKind.wrap .i64 (0-(Su.ivN (a.1,(a.2.1,a.2.2))).2.1))))).2.1,(Su.ivN (false,((Go.IntKind.wrap .i64 (0-(Su.ivN (a.1,(a.2.1,a.2.2))).2.2)),(Go.IntKind.wrap .i64 (0-(Su.ivN (a.1,(a.2.1,a.2.2))).2.1))))).2.2)))
def quN  (a:(Bool×(Int×Int))) (b:(Bool×(Int×Int))):Option (Bool×(Int×Int)) :=
 (bif (Su.ivN (a.1,(a.2.1,a.2.2))).1 then
 some (true,((0:Int),(0:Int)))
 else
  (bif (Su.ivN (b.1,(b.2.1,b.2.2))).1 then
  some (true,((0:Int),(0:Int)))
 else
  some ((Su.ivN (false,((max (Su.ivN (a.1,(a.2.1,a.2.2))).2.1 (Su.ivN (b.1,(b.2.1,b.2.2))).2.1),(min (Su.ivN (a.1,(a.2.1,a.2.2))).2.2 (Su.ivN (b.1,(b.2.1,b.2.2))).2.2)))).1,((Su.ivN (false,((max (Su.ivN (a.1,(a.2.1,a.2.2))).2.1 (Su.ivN (b.1,(b.2.1,b.2.2))).2.1),(min (Su.ivN (a.1,(a.2.1,a.2.2))).2.2 (Su.ivN (b.1,(b.2.1,b.2.2))).2.2)))).2.1,(Su.ivN (false,((max (Su.ivN (a.1,(a.2.1,a.2.2))).2.1 (Su.ivN (b.1,(b.2.1,b.2.2))).2.1),(min (Su.ivN (a.1,(a.2.1,a.2.2))).2.2 (Su.ivN (b.1,(b.2.1,b.2.2))).2.2)))).2.2))))
def qFa  (x:Int) (y:Int):Option Int :=
 (bif (decide ((1099511627776≤x))) then
 some x
 else
  (bif (decide ((x≤(-1099511627776)))) then
  some x
 else
  (bif (decide ((1099511627776≤y))) then
  some y
 else
  (bif (decide ((y≤(-1099511627776)))) then
  some y
 else
  some (max (min (Go.IntKind.wrap .i64 (x+y)) 1099511627776) (-1099511627776))))))
def qCK  (lo:Int) (hi:Int):Option (Bool×(Int×Int)) :=
 some (false,((min (max (min lo 1099511627776) (-1099511627776)) 1099511627775),(max (max (min hi 1099511627776) (-1099511627776)) (-1099511627775))))
def qoY (p:Int×Int):Option Iv:=some (yF p.1 p.2)
theorem quO (p:Int×Int) (y:Iv) (hg:(dc (cI .i64) (d1 (cI .i64))).good p) (h:qoY p=some y):qCJ p.1 p.2=some y:=by
 have:=soi h;subst this;rfl
def quP (p:Iv×Int):Option Bool:=some (Jh p.1 p.2)
theorem qzE (p:Iv×Int) (y:Bool) (hg:(dc cIn (d1 (cI .i64))).good p) (h:quP p=some y):qE7 p.1 p.2=some y:=by
 obtain ⟨⟨e,lo,hi⟩,n⟩:=p
 have:=soi h;subst this
 unfold qE7 Jh
 simp only []
 generalize ivN (e,(lo,hi))=t
 cases t.1 with
 | true=>rfl
 | false =>
  cases decide (t.2.1 = -1099511627776) <;> cases decide (t.2.1≤n) <;> cases decide (t.2.2=1099511627776) <;> rfl
def quQ (p:Iv×Iv):Option Bool:=some (Qs p.1 p.2)
theorem qzF (p:Iv×Iv) (y:Bool) (hg:(dc cIn (d1 cIn)).good p) (h:quQ p=some y):qE8 p.1 p.2=some y:=by
 obtain ⟨⟨e,lo,hi⟩,⟨e',lo',hi'⟩⟩:=p
 have:=soi h;subst this
 unfold qE8 Qs
 simp only []
 generalize ivN (e,(lo,hi))=t
 generalize ivN (e',(lo',hi'))=t'
 cases t.1 with
 | true=>rfl
 | false =>
  cases t'.1 with
  | true=>rfl
  | false=>cases decide (t'.2.1≤t.2.1) <;> rfl
abbrev IjS:=List Iv×(Int×(Int×(Bool×(Int×(Int×(Bool×(Int×(Int×Unit))))))))
def qzG (l:List Iv) (i:Int) (j:Iv):IjS:=(l,(((l.length:Nat):Int),(i,(false,(0,(0,(j.1,(j.2.1,(j.2.2,())))))))))
theorem qoZ (l:List Iv) (hl:l.length≤maxLen):∀ (r A:List Iv) (j:Iv),A++r=l→jN (r.length+1) qca (qzG l A.length j) (qzG l l.length (r.foldl qgo j))
 | [],A,j,h=>by
  rw [List.append_nil] at h;subst h
  refine jN.stop ?_
  unfold qzG
  simp only [qca,ltN,decide_eq_false (Nat.lt_irrefl _),cond_false];rfl
 | x::r,A,j,h=>by
  have hi:A.length<l.length:=by rw [← h];simp
  have hg:idx l (A.length:Int)=some x:=by
   rw [je,← h,List.getElem?_append_right (by omega),Nat.sub_self];rfl
  have ih:=qoZ l hl r (A++[x]) (qgo j x) (by rw [← h];simp)
  refine jN.next ?_ ih
  unfold qzG
  simp only [qca,ltN,decide_eq_true hi,cond_true,hg,Option.bind_some,w1 hi hl]
  rw [show (A++[x]).length=A.length+1 by simp]
  unfold qgo
  obtain ⟨x1,x2,x3⟩:=x
  obtain ⟨j1,j2,j3⟩:=j
  simp only []
  generalize ivN (x1,(x2,x3))=t
  obtain ⟨t1,t2,t3⟩:=t
  cases t1 with
  | true=>rfl
  | false=>cases j1 <;> rfl
def qo0 (l:List Iv):Option Iv:=some (qy l)
theorem quR (l:List Iv) (y:Iv) (hg:(d1 (cL rIn)).good l) (h:qo0 l=some y):∃ n,quM n l=some y:=by
 have:=soi h;subst this
 refine ⟨l.length+1,?_⟩
 unfold quM
 have:=qoZ l hg.2 l [] noI rfl
 exact obB (this _ (Nat.le_refl _)) rfl
theorem qzH (s:Iv) : -1099511627776≤(ivN s).2.1∧(ivN s).2.1≤1099511627776∧-1099511627776≤(ivN s).2.2∧(ivN s).2.2≤1099511627776:=by
 rcases qaZ s with h | ⟨_,h1,h2,h3,h4,h5⟩
 · rw [h];exact ⟨by decide,by decide,by decide,by decide⟩
 · omega
def quS (a:Iv):Option Iv:=some (YQ a)
theorem qzI (a y:Iv) (hg:(d1 cIn).good a) (h:quS a=some y):qE9 a=some y:=by
 obtain ⟨e,lo,hi⟩:=a
 have:=soi h;subst this
 obtain ⟨h1,h2,h3,h4⟩:=qzH (e,(lo,hi))
 unfold qE9 YQ yF
 simp only []
 generalize ivN (e,(lo,hi))=t at *
 obtain ⟨t1,t2,t3⟩:=t
 simp only [] at h1 h2 h3 h4 ⊢
 cases t1 with
 | true=>rfl
 | false=>rw [w64 (by omega) (by omega),w64 (by omega) (by omega),Int.zero_sub,Int.zero_sub];rfl
def qo1 (p:Iv×Iv):Option Iv:=some (qd4 p.1 p.2)
theorem quT (p:Iv×Iv) (y:Iv) (hg:(dc cIn (d1 cIn)).good p) (h:qo1 p=some y):quN p.1 p.2=some y:=by
 obtain ⟨⟨e,lo,hi⟩,⟨e',lo',hi'⟩⟩:=p
 have:=soi h;subst this
 unfold quN qd4 yF
 simp only []
 generalize ivN (e,(lo,hi))=t
 generalize ivN (e',(lo',hi'))=t'
 cases t.1 with
 | true=>rfl
 | false=>cases t'.1 <;> rfl
def quU (p:Int×Int):Option Int:=some (qav p.1 p.2)
theorem qzJ (p:Int×Int) (y:Int) (hg:(dc (cI .i64) (d1 (cI .i64))).good p) (h:quU p=some y):qFa p.1 p.2=some y:=by
 obtain ⟨x,z⟩:=p
 have:=soi h;subst this
 unfold qFa qav quE qja
 simp only []
 by_cases h1:1099511627776≤x
 · rw [decide_eq_true h1];rfl
 · by_cases h2:x≤-1099511627776
   · rw [decide_eq_false h1,decide_eq_true h2];rfl
   · by_cases h3:1099511627776≤z
     · rw [decide_eq_false h1,decide_eq_false h2,decide_eq_true h3];rfl
     · by_cases h4:z≤-1099511627776
       · rw [decide_eq_false h1,decide_eq_false h2,decide_eq_false h3,decide_eq_true h4];rfl
       · rw [decide_eq_false h1,decide_eq_false h2,decide_eq_false h3,decide_eq_false h4,w64 (by omega) (by omega)];rfl
def qo2 (p:Int×Int):Option Iv:=some (qfR p.1 p.2)
theorem quV (p:Int×Int) (y:Iv) (hg:(dc (cI .i64) (d1 (cI .i64))).good p) (h:qo2 p=some y):qCK p.1 p.2=some y:=by
 have:=soi h;subst this;rfl
end
end Su
end
section
namespace Su
open Go Fly
set_option linter.unusedVariables false
noncomputable section
def qFb  (a:(Bool×(Int×Int))) (b:(Bool×(Int×Int))):Option (Bool×(Int×Int)) :=
 (bif (Su.ivN (a.1,(a.2.1,a.2.2))).1 then
 some (true,((0:Int),(0:Int)))
 else
  (bif (Su.ivN (b.1,(b.2.1,b.2.2))).1 then
  some (true,((0:Int),(0:Int)))
 else
  some ((Su.qfR (Su.qav (Su.ivN (a.1,(a.2.1,a.2.2))).2.1 (Su.ivN (b.1,(b.2.1,b.2.2))).2.1) (Su.qav (Su.ivN (a.1,(a.2.1,a.2.2))).2.2 (Su.ivN (b.1,(b.2.1,b.2.2))).2.2)).1,((Su.qfR (Su.qav (Su.ivN (a.1,(a.2.1,a.2.2))).2.1 (Su.ivN (b.1,(b.2.1,b.2.2))).2.1) (Su.qav (Su.ivN (a.1,(a.2.1,a.2.2))).2.2 (Su.ivN (b.1,(b.2.1,b.2.2))).2.2)).2.1,(Su.qfR (Su.qav (Su.ivN (a.1,(a.2.1,a.2.2))).2.1 (Su.ivN (b.1,(b.2.1,b.2.2))).2.1) (Su.qav (Su.ivN (a.1,(a.2.1,a.2.2))).2.2 (Su.ivN (b.1,(b.2.1,b.2.2))).2.2)).2.2))))
def quW (p:Iv×Iv):Option Iv:=some (yz p.1 p.2)
theorem qzK (p:Iv×Iv) (y:Iv) (hg:(dc cIn (d1 cIn)).good p) (h:quW p=some y):qFb p.1 p.2=some y:=by
 obtain ⟨⟨e,lo,hi⟩,⟨e',lo',hi'⟩⟩:=p
 have:=soi h;subst this
 unfold qFb yz
 simp only []
 generalize ivN (e,(lo,hi))=t
 generalize ivN (e',(lo',hi'))=t'
 cases t.1 with
 | true=>rfl
 | false=>cases t'.1 <;> rfl
end
end Su
end
section
namespace Su
open Go Fly
def qzL (a:Ck):Ckp:=((a.1,(a.2.1,a.2.2.1)),(a.2.2.2.1,(a.2.2.2.2.1,a.2.2.2.2.2)))
def frCk (c:Ckp):Ck:=(c.1.1,(c.1.2.1,(c.1.2.2,(c.2.1,(c.2.2.1,c.2.2.2)))))
noncomputable def jE:Cod Ckp:=cA (dm dCk qzL frCk (fun _=>rfl) (fun _=>rfl)) (fun _=>rfl)
end Su
namespace Su
open Go Fly
noncomputable abbrev cB2:Cod (Bool×Bool):=cA (dc cB (d1 cB))
end Su
end
section
namespace Su
open Go Fly
set_option linter.unusedVariables false
noncomputable section
def iSub  (a:(Bool×(Int×Int))) (b:(Bool×(Int×Int))):Option (Bool×(Int×Int)) :=
 some ((Su.yz (a.1,(a.2.1,a.2.2)) ((Su.YQ (b.1,(b.2.1,b.2.2))).1,((Su.YQ (b.1,(b.2.1,b.2.2))).2.1,(Su.YQ (b.1,(b.2.1,b.2.2))).2.2))).1,((Su.yz (a.1,(a.2.1,a.2.2)) ((Su.YQ (b.1,(b.2.1,b.2.2))).1,((Su.YQ (b.1,(b.2.1,b.2.2))).2.1,(Su.YQ (b.1,(b.2.1,b.2.2))).2.2))).2.1,(Su.yz (a.1,(a.2.1,a.2.2)) ((Su.YQ (b.1,(b.2.1,b.2.2))).1,((Su.YQ (b.1,(b.2.1,b.2.2))).2.1,(Su.YQ (b.1,(b.2.1,b.2.2))).2.2))).2.2))
def iPt  (n:Int):Option (Bool×(Int×Int)) :=
 some ((Su.yF n n).1,((Su.yF n n).2.1,(Su.yF n n).2.2))
def quX  (c:((Bool×(Int×Int))×(Bool×(Int×Int)))):Option ((Bool×(Int×Int))×(Bool×(Int×Int))) :=
 (bif (Su.qy [(c.1.1,(c.1.2.1,c.1.2.2))]).1 then
 some (Su.qzL (true,((0:Int),((0:Int),(true,((0:Int),(0:Int)))))))
 else
  (bif (Su.qy [(c.2.1,(c.2.2.1,c.2.2.2))]).1 then
  some (Su.qzL (true,((0:Int),((0:Int),(true,((0:Int),(0:Int)))))))
 else
  some (Su.qzL ((Su.qy [(c.1.1,(c.1.2.1,c.1.2.2))]).1,((Su.qy [(c.1.1,(c.1.2.1,c.1.2.2))]).2.1,((Su.qy [(c.1.1,(c.1.2.1,c.1.2.2))]).2.2,((Su.qy [(c.2.1,(c.2.2.1,c.2.2.2))]).1,((Su.qy [(c.2.1,(c.2.2.1,c.2.2.2))]).2.1,(Su.qy [(c.2.1,(c.2.2.1,c.2.2.2))]).2.2))))))))
def quY (p:Iv×Iv):Option Iv:=some (qlw p.1 p.2)
theorem qzM (p:Iv×Iv) (y:Iv) (hg:(dc cIn (d1 cIn)).good p) (h:quY p=some y):iSub p.1 p.2=some y:=by
 have:=soi h;subst this;rfl
def qCL (n:Int):Option Iv:=some (yF n n)
theorem qFc (n:Int) (y:Iv) (hg:(d1 (cI .i64)).good n) (h:qCL n=some y):iPt n=some y:=by
 have:=soi h;subst this;rfl
def qo3 (c:Ckp):Option Ckp:=some (ckN c)
theorem quZ (c y:Ckp) (hg:(d1 jE).good c) (h:qo3 c=some y):quX c=some y:=by
 obtain ⟨⟨a,b,d⟩,⟨a',b',d'⟩⟩:=c
 have:=soi h;subst this
 unfold quX ckN
 simp only []
 generalize qy [(a,(b,d))]=t
 generalize qy [(a',(b',d'))]=t'
 obtain ⟨t1,t2,t3⟩:=t
 obtain ⟨t4,t5,t6⟩:=t'
 cases t1 with
 | true=>rfl
 | false=>cases t4 <;> rfl
end
end Su
end
section
namespace Su
open Go Fly
set_option linter.unusedVariables false
noncomputable section
def kOf  (v:(Bool×(Int×Int))) (k:(Bool×(Int×Int))):Option ((Bool×(Int×Int))×(Bool×(Int×Int))) :=
 some (Su.ckN ((Su.qlw v k),(Su.yz v k)))
def qCM  (c:((Bool×(Int×Int))×(Bool×(Int×Int)))):Option ((Bool×(Int×Int))×(Bool×(Int×Int))) :=
 some (Su.ckN ((Su.yz (Su.ckN c).1 (false,((-1),(-1)))),(Su.yz (Su.ckN c).2 (false,((1:Int),(1:Int))))))
def kRed  (v:(Bool×(Int×Int))) (c:((Bool×(Int×Int))×(Bool×(Int×Int)))) (k:(Bool×(Int×Int))):Option (Bool×(Int×Int)) :=
 some (Su.qd4 (Su.qd4 v (Su.yz (Su.ckN c).1 k)) (Su.qlw (Su.ckN c).2 k))
def kMt  (a:((Bool×(Int×Int))×(Bool×(Int×Int)))) (b:((Bool×(Int×Int))×(Bool×(Int×Int)))):Option ((Bool×(Int×Int))×(Bool×(Int×Int))) :=
 some (Su.ckN ((Su.qd4 (Su.ckN a).1 (Su.ckN b).1),(Su.qd4 (Su.ckN a).2 (Su.ckN b).2)))
def kJn  (a:((Bool×(Int×Int))×(Bool×(Int×Int)))) (b:((Bool×(Int×Int))×(Bool×(Int×Int)))):Option ((Bool×(Int×Int))×(Bool×(Int×Int))) :=
 some (Su.ckN ((Su.qy [(Su.ckN a).1,(Su.ckN b).1]),(Su.qy [(Su.ckN a).2,(Su.ckN b).2])))
def kIn  (a:((Bool×(Int×Int))×(Bool×(Int×Int)))) (b:((Bool×(Int×Int))×(Bool×(Int×Int)))):Option Bool :=
 (bif (Su.Qs (Su.ckN a).1 (Su.ckN b).1) then
 some (Su.Qs (Su.ckN a).2 (Su.ckN b).2)
 else
  some false)
def qFd  (c:((Bool×(Int×Int))×(Bool×(Int×Int)))) (v:Int) (k:Int):Option Bool :=
 (bif (decide (((min v k)<(-2199023255552)))) then
 some false
 else
  (bif (decide ((2199023255552<(max v k)))) then
  some false
 else
  (bif (Su.Jh (Su.ckN c).1 (Go.IntKind.wrap .i64 (v-k))) then
  some (Su.Jh (Su.ckN c).2 (Go.IntKind.wrap .i64 (v+k)))
 else
  some false)))
def qCN (p:Iv×Iv):Option Ckp:=some (yG p.1 p.2)
theorem qFe (p:Iv×Iv) (y:Ckp) (hg:(dc cIn (d1 cIn)).good p) (h:qCN p=some y):kOf p.1 p.2=some y:=by
 have:=soi h;subst this;rfl
def qo4 (c:Ckp):Option Ckp:=some (yA c)
theorem qu0 (c y:Ckp) (hg:(d1 jE).good c) (h:qo4 c=some y):qCM c=some y:=by
 have:=soi h;subst this;rfl
def qu1 (p:Iv×(Ckp×Iv)):Option Iv:=some (Jz p.1 p.2.1 p.2.2)
theorem qzN (p:Iv×(Ckp×Iv)) (y:Iv) (hg:(dc cIn (dc jE (d1 cIn))).good p) (h:qu1 p=some y):kRed p.1 p.2.1 p.2.2=some y:=by
 have:=soi h;subst this;rfl
def qCO (p:Ckp×Ckp):Option Ckp:=some (qap p.1 p.2)
theorem qFf (p:Ckp×Ckp) (y:Ckp) (hg:(dc jE (d1 jE)).good p) (h:qCO p=some y):kMt p.1 p.2=some y:=by
 have:=soi h;subst this;rfl
def qCP (p:Ckp×Ckp):Option Ckp:=some (yh p.1 p.2)
theorem qFg (p:Ckp×Ckp) (y:Ckp) (hg:(dc jE (d1 jE)).good p) (h:qCP p=some y):kJn p.1 p.2=some y:=by
 have:=soi h;subst this;rfl
def qCQ (p:Ckp×Ckp):Option Bool:=some (qb6 p.1 p.2)
theorem qFh (p:Ckp×Ckp) (y:Bool) (hg:(dc jE (d1 jE)).good p) (h:qCQ p=some y):kIn p.1 p.2=some y:=by
 have:=soi h;subst this
 unfold kIn qb6
 cases Qs (ckN p.1).1 (ckN p.2).1 <;> rfl
def qu2 (p:Ckp×(Int×Int)):Option Bool:=some (qlx p.1 p.2.1 p.2.2)
theorem qzO (p:Ckp×(Int×Int)) (y:Bool) (hg:(dc jE (dc (cI .i64) (d1 (cI .i64)))).good p) (h:qu2 p=some y):qFd p.1 p.2.1 p.2.2=some y:=by
 obtain ⟨c,v,k⟩:=p
 have:=soi h;subst this
 unfold qFd qlx
 simp only []
 by_cases h1:min v k < -2199023255552
 · rw [decide_eq_true h1];rfl
 · by_cases h2:2199023255552<max v k
   · rw [decide_eq_false h1,decide_eq_true h2];rfl
   · rw [decide_eq_false h1,decide_eq_false h2,w64 (by omega) (by omega),w64 (by omega) (by omega)]
     cases Jh (ckN c).1 (v-k) <;> rfl
end
end Su
end
section
namespace Su
open Go Fly
set_option linter.unusedVariables false
def qcb (f:Int):Bool:=qU (bK f.toNat)
def ky (f:Int):Int:=yW f.toNat
def mnI (a b:Int):Int:=((qiQ a.toNat b.toNat:Nat):Int)
def mxI (a b:Int):Int:=((qfA a.toNat b.toNat:Nat):Int)
def Fw (f:Int):Prop:=0≤f∧f<18446744073709551616
def Zv (lo hi:Int):Spn:=qm (false,(lo,hi))
def qjc (j s:Spn):Spn:=bif (qm s).1 then j else bif j.1 then qm s else Zv (mnI j.2.1 (qm s).2.1) (mxI j.2.2 (qm s).2.2)
def QB (l:List Spn):Spn:=l.foldl qjc Zt
def Jp (a b:Spn):Spn:=bif (qm a).1||(qm b).1 then Zt else Zv (mxI (qm a).2.1 (qm b).2.1) (mnI (qm a).2.2 (qm b).2.2)
def Yc (a b:Spn):Bool:=(qm a).1||(!(qm b).1&&(leF (qm b).2.1 (qm a).2.1&&leF (qm a).2.2 (qm b).2.2))
def qly (s:Spn) (f:Int):Bool:=!decide (qF (bK f.toNat)=3)&&(!(Zv f f).1&&Yc (Zv f f) s)
theorem Qd {a b:Int}:leF a b=true↔qcb a=false∧qcb b=false∧ky a≤ky b:=by
 unfold leF qcb ky qgl qkX qyN
 cases qU (bK a.toNat) <;> cases qU (bK b.toNat) <;> simp
 by_cases h1:yW a.toNat<yW b.toNat
 · rw [decide_eq_true h1];simp;omega
 · rw [decide_eq_false h1]
   by_cases h2:yW b.toNat<yW a.toNat
   · rw [decide_eq_true h2];simp;omega
   · rw [decide_eq_false h2];simp;omega
theorem qcc {a b:Nat}:yL a b=true↔qU (bK a)=false∧qU (bK b)=false∧yW a<yW b:=by
 unfold yL qgl qkX qyN
 cases qU (bK a) <;> cases qU (bK b) <;> simp
 by_cases h1:yW a<yW b
 · rw [decide_eq_true h1];simp;omega
 · rw [decide_eq_false h1]
   by_cases h2:yW b<yW a
   · rw [decide_eq_true h2];simp;omega
   · rw [decide_eq_false h2];simp;omega
theorem qjd (f:Int):(ky f).natAbs=bK f.toNat:=by
 unfold ky yW
 cases bS f.toNat <;> simp
theorem qc8 {a b:Int} (ha:Fw a) (hb:Fw b) (za:a≠9223372036854775808) (zb:b≠9223372036854775808) (h:ky a=ky b):a=b:=by
 have h1:=qjd a
 have h2:=qjd b
 rw [h,h2] at h1
 obtain ⟨a0,a1⟩:=ha
 obtain ⟨b0,b1⟩:=hb
 unfold ky yW at h
 have sa:bS a.toNat=decide (9223372036854775808≤a.toNat):=by
  cases hs:bS a.toNat with
  | true=>rw [decide_eq_true (qaS.1 hs)]
  | false=>rw [decide_eq_false (by have:=qfy.1 hs;omega)]
 have sb:bS b.toNat=decide (9223372036854775808≤b.toNat):=by
  cases hs:bS b.toNat with
  | true=>rw [decide_eq_true (qaS.1 hs)]
  | false=>rw [decide_eq_false (by have:=qfy.1 hs;omega)]
 rw [sa,sb] at h
 unfold bK at h h1
 by_cases p:9223372036854775808≤a.toNat <;> by_cases q:9223372036854775808≤b.toNat
 · rw [decide_eq_true p,decide_eq_true q] at h;simp only [cond_true] at h;omega
 · rw [decide_eq_true p,decide_eq_false q] at h;simp only [cond_true,cond_false] at h;omega
 · rw [decide_eq_false p,decide_eq_true q] at h;simp only [cond_true,cond_false] at h;omega
 · rw [decide_eq_false p,decide_eq_false q] at h;simp only [cond_false] at h;omega
theorem qlz {a b:Int} (ha:Fw a) (hb:Fw b) (na:qcb a=false) (nb:qcb b=false):mnI a b=if ky b<ky a then b else a:=by
 unfold mnI qiQ
 unfold qcb at na nb
 rw [na,nb]
 simp only [Bool.or_self,cond_false]
 by_cases h:ky b<ky a
 · rw [if_pos h,qcc.2 ⟨nb,na,h⟩,cond_true];exact Int.toNat_of_nonneg hb.1
 · rw [if_neg h,show yL b.toNat a.toNat=false by
    cases hl:yL b.toNat a.toNat with
    | false=>rfl
    | true=>exact absurd (qcc.1 hl).2.2 h,cond_false]
   exact Int.toNat_of_nonneg ha.1
theorem qhs {a b:Int} (ha:Fw a) (hb:Fw b) (na:qcb a=false) (nb:qcb b=false):mxI a b=if ky a<ky b then b else a:=by
 unfold mxI qfA
 unfold qcb at na nb
 rw [na,nb]
 simp only [Bool.or_self,cond_false]
 by_cases h:ky a<ky b
 · rw [if_pos h,qcc.2 ⟨na,nb,h⟩,cond_true];exact Int.toNat_of_nonneg hb.1
 · rw [if_neg h,show yL a.toNat b.toNat=false by
    cases hl:yL a.toNat b.toNat with
    | false=>rfl
    | true=>exact absurd (qcc.1 hl).2.2 h,cond_false]
   exact Int.toNat_of_nonneg ha.1
structure Nz (f:Int):Prop where
 w:Fw f
 n:qcb f=false
 z:f≠9223372036854775808
theorem qu3 {f:Int} (h:Fw f) (hn:qcb f=false):Nz (nzI f)∧ky (nzI f)=ky f:=by
 unfold nzI zI
 cases hz:Nat.beq (bK f.toNat) 0 with
 | true =>
  rw [cond_true]
  have h0:=Nat.eq_of_beq_eq_true hz
  refine ⟨⟨⟨by decide,by decide⟩,by decide,by decide⟩,?_⟩
  have:=qjd f
  have e:ky 0=0:=by decide
  rw [e];omega
 | false =>
  rw [cond_false]
  refine ⟨⟨h,hn,fun e=>?_⟩,rfl⟩
  subst e
  revert hz;decide
def qfT (s:Spn):Prop:=s=Zt∨(s.1=false∧Nz s.2.1∧Nz s.2.2∧ky s.2.1≤ky s.2.2∧s.2.1≠9218868437227405312∧s.2.2≠18442240474082181120)
def SpW (s:Spn):Prop:=Fw s.2.1∧Fw s.2.2
theorem qo5 {f:Int} (h:Nz f):nzI f=f:=by
 obtain ⟨h1,h2⟩:=qu3 h.w h.n
 exact qc8 h1.w h.w h1.z h.z h2
theorem qo6 {f:Int} (h:Fw f) (hn:qcb f=false) (c:Int) (hc:c=9218868437227405312∨c=18442240474082181120) (hf:f≠c):nzI f≠c:=by
 unfold nzI
 cases zI f with
 | true=>rw [cond_true];omega
 | false=>rw [cond_false];exact hf
theorem qdY {s:Spn} (hw:SpW s):qm s=Zt∨(s.1=false∧qcb s.2.1=false∧qcb s.2.2=false∧ky s.2.1≤ky s.2.2∧s.2.1≠9218868437227405312∧s.2.2≠18442240474082181120∧qm s=(false,(nzI s.2.1,nzI s.2.2))):=by
 unfold qm
 cases h:(s.1||(!leF s.2.1 s.2.2||(decide (s.2.1=9218868437227405312)||decide (s.2.2=18442240474082181120)))) with
 | true=>exact .inl rfl
 | false =>
  simp only [Bool.or_eq_false_iff,Bool.not_eq_false',decide_eq_false_iff_not] at h
  obtain ⟨h0,h1,h2,h3⟩:=h
  obtain ⟨a,b,c⟩:=Qd.1 h1
  exact .inr ⟨h0,a,b,c,h2,h3,by rw [h0];rfl⟩
theorem qY {s:Spn} (hw:SpW s):qfT (qm s):=by
 rcases qdY hw with h | ⟨_,h1,h2,h3,h4,h5,h⟩
 · rw [h];exact .inl rfl
 · rw [h]
   obtain ⟨a1,a2⟩:=qu3 hw.1 h1
   obtain ⟨b1,b2⟩:=qu3 hw.2 h2
   exact .inr ⟨rfl,a1,b1,by simp only [];rw [a2,b2];exact h3,qo6 hw.1 h1 _ (.inl rfl) h4,qo6 hw.2 h2 _ (.inr rfl) h5⟩
theorem qfT.w {s:Spn} (h:qfT s):SpW s:=by
 rcases h with h | ⟨_,h1,h2,_⟩
 · rw [h];exact ⟨⟨by decide,by decide⟩,⟨by decide,by decide⟩⟩
 · exact ⟨h1.w,h2.w⟩
theorem Qm {s:Spn} (h:qfT s):qm s=s:=by
 obtain ⟨e,lo,hi⟩:=s
 rcases h with h | ⟨h0,h1,h2,h3,h4,h5⟩
 · rw [h];rfl
 · simp only [] at h0 h1 h2 h3 h4 h5
   subst h0
   unfold qm
   simp only []
   rw [Qd.2 ⟨h1.n,h2.n,h3⟩,decide_eq_false h4,decide_eq_false h5,qo5 h1,qo5 h2];rfl
theorem qht {s:Spn} (h:qfT s) (h':s.1=true):s=Zt:=by
 rcases h with h | h
 · exact h
 · rw [h.1] at h';cases h'
theorem jV {s:Spn} (h:qfT s) (h':s.1=false):Nz s.2.1∧Nz s.2.2∧ky s.2.1≤ky s.2.2∧s.2.1≠9218868437227405312∧s.2.2≠18442240474082181120:=by
 rcases h with h | h
 · rw [h] at h';cases h'
 · exact h.2
theorem qFi {a:Spn} (ha:SpW a):QB [a]=qm a:=by
 show qjc Zt a=_
 unfold qjc
 rcases qdY ha with h | ⟨_,_,_,_,_,_,h⟩ <;> rw [h] <;> rfl
theorem jz {a b:Spn} (ha:SpW a):QB [a,b]=bif (qm b).1 then qm a else bif (qm a).1 then qm b else Zv (mnI (qm a).2.1 (qm b).2.1) (mxI (qm a).2.2 (qm b).2.2):=by
 show qjc (qjc Zt a) b=_
 rw [show qjc Zt a=qm a from qFi ha];rfl
theorem qc9 {a b:Spn} (ha:qfT a) (hb:qfT b) (ea:a.1=false) (eb:b.1=false):QB [a,b]=(false,(mnI a.2.1 b.2.1,mxI a.2.2 b.2.2))∧qfT (false,(mnI a.2.1 b.2.1,mxI a.2.2 b.2.2)):=by
 obtain ⟨a1,a2,a3,a4,a5⟩:=jV ha ea
 obtain ⟨b1,b2,b3,b4,b5⟩:=jV hb eb
 have hok:qfT (false,(mnI a.2.1 b.2.1,mxI a.2.2 b.2.2)):=by
  refine .inr ⟨rfl,?_⟩
  simp only []
  rw [qlz a1.w b1.w a1.n b1.n,qhs a2.w b2.w a2.n b2.n]
  by_cases h:ky b.2.1<ky a.2.1 <;> by_cases h':ky a.2.2<ky b.2.2
  · rw [if_pos h,if_pos h'];exact ⟨b1,b2,b3,b4,b5⟩
  · rw [if_pos h,if_neg h'];exact ⟨b1,a2,by omega,b4,a5⟩
  · rw [if_neg h,if_pos h'];exact ⟨a1,b2,by omega,a4,b5⟩
  · rw [if_neg h,if_neg h'];exact ⟨a1,a2,a3,a4,a5⟩
 refine ⟨?_,hok⟩
 rw [jz ha.w,Qm ha,Qm hb,ea,eb,cond_false,cond_false]
 exact Qm hok
theorem qzP {a b:Int} (ha:Nz a) (hb:Nz b):mnI a b=mnI b a:=by
 rw [qlz ha.w hb.w ha.n hb.n,qlz hb.w ha.w hb.n ha.n]
 by_cases h:ky b<ky a
 · rw [if_pos h,if_neg (by omega)]
 · by_cases h':ky a<ky b
   · rw [if_neg h,if_pos h']
   · rw [if_neg h,if_neg h'];exact qc8 ha.w hb.w ha.z hb.z (by omega)
theorem qzQ {a b:Int} (ha:Nz a) (hb:Nz b):mxI a b=mxI b a:=by
 rw [qhs ha.w hb.w ha.n hb.n,qhs hb.w ha.w hb.n ha.n]
 by_cases h:ky a<ky b
 · rw [if_pos h,if_neg (by omega)]
 · by_cases h':ky b<ky a
   · rw [if_neg h,if_pos h']
   · rw [if_neg h,if_neg h'];exact qc8 ha.w hb.w ha.z hb.z (by omega)
theorem Yd {a b:Spn} (ha:SpW a) (hb:SpW b):QB [a,b]=QB [qm a,qm b]:=by
 rw [jz ha,jz (qY ha).w,Qm (qY ha),Qm (qY hb)]
theorem qje {a b:Spn} (ha:SpW a) (hb:SpW b):qfT (QB [a,b]):=by
 have oa:=qY ha
 have ob:=qY hb
 cases eb:(qm b).1 with
 | true=>rw [jz ha,eb];exact oa
 | false =>
  cases ea:(qm a).1 with
  | true=>rw [jz ha,eb,ea];exact ob
  | false=>rw [Yd ha hb];obtain ⟨h1,h2⟩:=qc9 oa ob ea eb;rw [h1];exact h2
theorem qu4 {a b:Spn} (ha:SpW a) (hb:SpW b):QB [a,b]=QB [b,a]:=by
 have oa:=qY ha
 have ob:=qY hb
 cases ea:(qm a).1 <;> cases eb:(qm b).1
 · rw [Yd ha hb,Yd hb ha,(qc9 oa ob ea eb).1,(qc9 ob oa eb ea).1]
   obtain ⟨a1,a2,-⟩:=jV oa ea
   obtain ⟨b1,b2,-⟩:=jV ob eb
   rw [qzP a1 b1,qzQ a2 b2]
 · rw [jz ha,jz hb,ea,eb];rfl
 · rw [jz ha,jz hb,ea,eb];rfl
 · rw [jz ha,jz hb,ea,eb,cond_true,cond_true,qht oa ea,qht ob eb]
theorem qq7 {a b:Spn} (ha:SpW a) (hb:SpW b):(QB [a,b]).1=((qm a).1&&(qm b).1):=by
 have oa:=qY ha
 have ob:=qY hb
 cases ea:(qm a).1 <;> cases eb:(qm b).1
 · rw [Yd ha hb,(qc9 oa ob ea eb).1];rfl
 · rw [jz ha,eb];exact ea
 · rw [jz ha,ea,eb];exact eb
 · rw [jz ha,eb];exact ea
theorem qhu {a:Spn} (ha:SpW a):Yc a a=true:=by
 unfold Yc
 cases h:(qm a).1 with
 | true=>rfl
 | false =>
  obtain ⟨a1,a2,-⟩:=jV (qY ha) h
  rw [Qd.2 ⟨a1.n,a1.n,Int.le_refl _⟩,Qd.2 ⟨a2.n,a2.n,Int.le_refl _⟩];rfl
theorem qFj {a b:Spn} (ha:SpW a) (hb:SpW b):Yc a (QB [a,b])=true:=by
 unfold Yc
 rw [Qm (qje ha hb)]
 have oa:=qY ha
 have ob:=qY hb
 cases ea:(qm a).1 with
 | true=>rfl
 | false =>
  obtain ⟨a1,a2,-⟩:=jV oa ea
  cases eb:(qm b).1 with
  | true =>
   rw [jz ha,eb,cond_true,ea,Qd.2 ⟨a1.n,a1.n,Int.le_refl _⟩,Qd.2 ⟨a2.n,a2.n,Int.le_refl _⟩];rfl
  | false =>
   obtain ⟨b1,b2,-⟩:=jV ob eb
   rw [Yd ha hb,(qc9 oa ob ea eb).1]
   simp only [Bool.false_or,Bool.not_false,Bool.true_and]
   rw [qlz a1.w b1.w a1.n b1.n,qhs a2.w b2.w a2.n b2.n]
   rw [Bool.and_eq_true]
   constructor
   · by_cases h:ky (qm b).2.1<ky (qm a).2.1
     · rw [if_pos h];exact Qd.2 ⟨b1.n,a1.n,by omega⟩
     · rw [if_neg h];exact Qd.2 ⟨a1.n,a1.n,Int.le_refl _⟩
   · by_cases h:ky (qm a).2.2<ky (qm b).2.2
     · rw [if_pos h];exact Qd.2 ⟨a2.n,b2.n,by omega⟩
     · rw [if_neg h];exact Qd.2 ⟨a2.n,a2.n,Int.le_refl _⟩
theorem qu5 {a:Spn} (ha:SpW a):QB [a,a]=qm a:=by
 have oa:=qY ha
 cases ea:(qm a).1 with
 | true=>rw [jz ha,ea];rfl
 | false =>
  obtain ⟨a1,a2,-⟩:=jV oa ea
  rw [Yd ha ha,(qc9 oa oa ea ea).1,qlz a1.w a1.w a1.n a1.n,qhs a2.w a2.w a2.n a2.n,if_neg (by omega),if_neg (by omega),← ea]
end Su
end
